import Derived.Test.YtjbfcacmdahnhaaGreatRows
import Derived.Test.YtjbfcacmdahnhaaGreatProg
import Derived.WalkKit
import Derived.WalkSpells
import Derived.WalkLawsBesides
import Derived.Deep.QuietTactic
import Derived.BigQuiet
import Derived.Lib.Hide
import Derived.ProofKit
import Derived.Laws.CopyOwn
import Derived.Laws.StructEq
import Derived.ChangeKeysEq
import Derived.Orders
import Derived.Laws.Strings2
import Derived.Laws.IdiomStrings
import Derived.Lib.LaidTab
import Derived.Lib.LazyBuf
import Derived.Maps.Own
import Derived.DeepKeys4
import Derived.OpenShut
import Derived.ShutString
import Derived.WalkMore
import Derived.Deep.WholeRow
import Derived.BigFrame
import Derived.Shelf.Small.Bits
import Derived.Shelf.Small.Wraps
import Derived.Shelf.Strconv.Itoa0
import Derived.Shelf.Sort.Plain
import Derived.Shelf.Bits.Mul64
import Derived.Shelf.Slices.Turned
import Derived.Shelf.Slices.Equal
import Derived.Ground.Names2Prog
import Derived.Shelf.Slices.Clone
import Derived.Shelf.Slices.SearchI
import Derived.Shelf.Slices.In.SortNone
import Derived.Shelf.Slices.Empties2
import Derived.Lib.BitFns
import Derived.Lib.ItoaNum
import Derived.Deep.DeepCutAuto
import Derived.Deep.CutBlock
import Derived.Defers
import Derived.Laws.MakeOwn
import Derived.RangeFuncLeaves
import Derived.RangeFuncRecord
import Derived.TacticsIn
import Derived.Recover
import Derived.Lib.ParseIntBCases
set_option linter.unusedVariables false
set_option linter.unusedSimpArgs false
set_option linter.unusedSectionVars false
set_option maxRecDepth 100000
set_option maxHeartbeats 8000000
namespace Go.Proofs.YtjbfcacmdahnhaaGreat
section
open Go.RowKit
theorem quiet_eq {P:Program} {f:FuncId} {args:Array Value} {w:World} {n:Nat} {v:Value}
    (h:Calls P f args (w.drewN n) fun e w'=>e=.returned v∧w.drewN n=w') :
    Calls P f args (w.drewN n) fun e w'=>e=.returned v∧∃ n,w'=w.drewN n:=h.mono fun _ _ ⟨a,b⟩=>⟨a,n,b.symm⟩
theorem below_drewN {B:Nat} {a w:World} (h:Below B a w) (d:Nat):Below B a (w.drewN d):=⟨h.os,h.tape,h.output,h.size,h.block⟩
def Same (w w':World):Prop:=∃ d,w'=w.drewN d
theorem Same.refl (w:World):Same w w:=⟨0,rfl⟩
theorem Same.more {w w':World} (h:Same w w') (n:Nat):Same w (w'.drewN n):=by
  obtain ⟨d,rfl⟩:=h
  exact⟨_,World.drewN_drewN ..⟩
theorem Same.cell {w w':World} (h:Same w w') (a:Addr):w'.cell? a=w.cell? a:=by obtain ⟨d,rfl⟩:=h;rfl
theorem Same.below {w w':World} (h:Same w w') (B:Nat):Below B w w':=by
  obtain ⟨d,rfl⟩:=h
  exact below_drewN (Below.refl _ _) d
theorem Same.of {w:World} {d:Nat}:Same w (w.drewN d):=⟨d,rfl⟩
def SlR (w:World) (size:Nat) (v:Value) (n:Nat) (xs:List Value):Prop :=
  xs.length=n*size ∧
  (((∃ a cap,v=.slice a 0 cap)∧n=0) ∨
   ∃ b off cap,v=.slice (some ⟨b,off,none⟩) n cap∧b<w.heap.size∧n≤maxLen∧∀ j u,xs[j]? = some u→w.cell? ⟨b,off+j,none⟩=some u)
theorem SlR.nil (w:World) (size:Nat):SlR w size (.slice none 0 0) 0 []:=⟨by simp,.inl ⟨⟨_,_,rfl⟩,rfl⟩⟩
theorem SlR.len_le {w:World} {size:Nat} {v:Value} {n:Nat} {xs:List Value} (h:SlR w size v n xs):n≤maxLen:=by
  rcases h.2 with⟨_,h⟩|⟨b,off,cap,_,_,h,_⟩
  · omega
  · exact h
theorem SlR.openSome {w:World} {size:Nat} {v:Value} {n:Nat} {xs:List Value} (h:SlR w size v n xs) (hn:0<n) :
    ∃ b off cap,v=.slice (some ⟨b,off,none⟩) n cap∧b<w.heap.size∧∀ j u,xs[j]? = some u→w.cell? ⟨b,off+j,none⟩=some u:=by
  rcases h.2 with⟨_,h⟩|⟨b,off,cap,e,hb,_,hc⟩
  · omega
  · exact⟨b,off,cap,e,hb,hc⟩
theorem SlR.parts {w:World} {size:Nat} {v:Value} {n:Nat} {xs:List Value} (h:SlR w size v n xs) :
    ((∃ a cap,v=.slice a 0 cap)∧n=0∧xs=[])∨∃ b off cap,v=.slice (some ⟨b,off,none⟩) n cap∧b<w.heap.size∧n≤maxLen∧∀ j u,xs[j]? = some u→w.cell? ⟨b,off+j,none⟩=some u:=by
  rcases h.2 with⟨e,h0⟩|h'
  · refine .inl ⟨e,h0,List.eq_nil_of_length_eq_zero (by rw[h.1,h0];simp)⟩
  · exact .inr h'
theorem SlR.form {w:World} {size:Nat} {v:Value} {n:Nat} {xs:List Value} (h:SlR w size v n xs):∃ a cap,v=.slice a n cap:=by
  rcases h.2 with⟨⟨_,_,rfl⟩,rfl⟩|⟨b,off,cap,rfl,_⟩
  · exact⟨_,_,rfl⟩
  · exact⟨_,_,rfl⟩
theorem ownsRow_SlR {w:World} {base:Nat} {e:TypeId} {size:Nat} {v:Value} {n:Nat} {xs:List Value} (h:w.ownsRow base e size v n xs):SlR w size v n xs:=by
  refine⟨h.1,?_⟩
  rcases h.2 with⟨h0,h1⟩|⟨g,cap,cur,rfl,hb,hg,hn,hc,hs,ht⟩
  · exact .inl ⟨⟨_,_,h0⟩,h1⟩
  · refine .inr ⟨g,0,cap,rfl,(Array.getElem?_eq_some_iff.1 hg).1,by omega,fun j u hu=>?_⟩
    have h2:=World.ownsRow.cells h (g:=g) rfl j u hu
    have hadd:(⟨g,0,none⟩:Addr).add j=⟨g,0+j,none⟩:=by unfold Addr.add;split<;>simp_all
    rw[hadd] at h2;exact h2
theorem SlR.below {w w':World} {B size:Nat} {v:Value} {n:Nat} {xs:List Value} (h:SlR w size v n xs) (hb:Below B w w') (hB:∀ b,v.ownBlock=Option.some b→0<n→b<B):SlR w' size v n xs:=by
  refine⟨h.1,?_⟩
  rcases h.2 with h0|⟨b,off,cap,rfl,hlt,hn,hc⟩
  · exact .inl h0
  · by_cases h0:0<n
    · exact .inr ⟨b,off,cap,rfl,Nat.lt_of_lt_of_le hlt hb.size,hn,fun j u hu=>by rw[hb.cell (p:=⟨b,off+j,none⟩) (hB b rfl h0)];exact hc j u hu⟩
    · obtain rfl:n=0:=by omega
      exact .inl ⟨⟨_,_,rfl⟩,rfl⟩
theorem SlR.below_all {w w':World} {size:Nat} {v:Value} {n:Nat} {xs:List Value} (h:SlR w size v n xs) (hb:Below w.heap.size w w'):SlR w' size v n xs:=by
  refine h.below hb fun b e h0=>?_
  rcases h.2 with⟨_,rfl⟩|⟨b',off,cap,rfl,hlt,hn,hc⟩
  · omega
  · simp[Value.ownBlock] at e;omega
def ElemT (P:Program) (t e:TypeId) (z:Value) (size bytes:Nat):Prop :=
  P.underlying t=some (.slice e)∧(P.info? e).map (fun i=>(i.zero,i.size,i.bytes))=some (some z,size,bytes)∧z.cells.size=size∧0<size
theorem run_append_sl {P:Program} (w:World) {base:Nat} {t ty e:TypeId} {z:Value} {size bytes:Nat} (hT:ElemT P t e z size bytes)
    {v:Value} {n:Nat} {xs:List Value} (hown:w.ownsRow base e size v n xs) {x:Value} {m:Nat} {news:List Value} (hsrc:SlR w size x m news) (h1:∀ u∈news,u.oneCell'=true)
    (h63:n+m≤maxLen) (hbytes:(n+m)*bytes≤140737488355328) (hbase:base≤w.heap.size) :
    ∃ v' w',(Builtin.append_ #[t,t] ty #[v,x]).run P w=.ok v' w'∧w'.ownsRow base e size v' (n+m) (xs++news)∧w.grownBy w' v.ownBlock ∧
      (v'=.slice none 0 0↔v=.slice none 0 0∧m=0):=by
  obtain ⟨ht,hinfo,hzs,hsz⟩:=hT
  cases hi:P.info? e with
  | none=>rw[hi] at hinfo;simp at hinfo
  | some i =>
    rw[hi] at hinfo
    simp at hinfo
    obtain ⟨hz,hsize,hby⟩:=hinfo
    rcases hsrc.parts with⟨⟨ao,cap,rfl⟩,rfl,rfl⟩|⟨b,off,cap,rfl,_,_,hc⟩
    · cases ao with
      | none =>
        refine⟨v,w,?_,by simpa using hown,⟨rfl,rfl,rfl,Nat.le_refl _,fun _ _ _=>rfl⟩,by simp⟩
        rcases hown.2 with⟨rfl,rfl⟩|⟨g,cap,cur,rfl,_,_,hnc,_⟩
        · simp[Builtin.append_,run_underlying ht,sizeOf,typeInfo,hi,Builtin.lenOf,Builtin.firstCells]
        · simp[Builtin.append_,run_underlying ht,sizeOf,typeInfo,hi,Builtin.lenOf,Builtin.firstCells,hnc,storeCells]
      | some a=>exact run_append_own w base t ty e i z size bytes ht hi hz hsize hby hzs hsz v n xs hown a 0 cap [] (by simp) (by simp) (by simp) h63 hbytes hbase
    · exact run_append_own w base t ty e i z size bytes ht hi hz hsize hby hzs hsz v n xs hown ⟨b,off,none⟩ m cap news hsrc.1 (fun j u hu=>by
        have h2:=hc j u hu
        have hadd:(⟨b,off,none⟩:Addr).add j=⟨b,off+j,none⟩:=by unfold Addr.add;split<;>simp_all
        rw[hadd];exact h2) h1 h63 hbytes hbase
theorem wpList_append_sl {P:Program} (w:World) {ops:Array Oper} {rest:List Oper} {o:Oper} {a:Act} {Q:Exit→Act→World→Prop} (hgd:o.guard=none) (s x:Operand) (t:TypeId)
    (ho:o.op=.call {callee:=.builtin .append,args:=#[s,x],argTypes:=#[t,t]})
    {e:TypeId} {z:Value} {size bytes:Nat} (hT:ElemT P t e z size bytes) {base:Nat}
    {v:Value} {n:Nat} {xs:List Value} (hown:w.ownsRow base e size v n xs) (hs:a.eval s=v)
    {y:Value} {m:Nat} {news:List Value} (hsrc:SlR w size y m news) (hx:a.eval x=y) (h1:∀ u∈news,u.oneCell'=true)
    (h63:n+m≤maxLen) (hbytes:(n+m)*bytes≤140737488355328) (hbase:base≤w.heap.size)
    (h:∀ v' w',w'.ownsRow base e size v' (n+m) (xs++news)→w.grownBy w' v.ownBlock→(v'=.slice none 0 0↔v=.slice none 0 0∧m=0)→wpList P ops Q rest (a.put o.dst v') w'):wpList P ops Q (o::rest) a w :=
  wpList_plain hgd fun _ hK=>by
    obtain ⟨v',w',hr,h2,h3,h4⟩:=run_append_sl (P:=P) (ty:=o.type) w hT hown hsrc h1 h63 hbytes hbase
    unfold Oper.wp execOp
    simp only[ho,resolve,invoke,builtin,Sem.run_bind,Sem.run_pure,Result.andThen_ok,List.map_toArray,List.map_cons,List.map_nil,hs,hx,hr]
    exact hK _ _ (h v' w' h2 h3 h4)
def ints (zs:List Int):List Value:=zs.map (Value.int .i64)
theorem ints_one (zs:List Int):∀ u∈ints zs,u.oneCell'=true:=by
  intro u hu
  simp[ints] at hu
  obtain ⟨z,_,rfl⟩:=hu
  rfl
theorem ints_get {zs:List Int} {j:Nat} (h:j<zs.length):(ints zs)[j]? = some (.int .i64 zs[j]):=by simp[ints,h]
end
section
open Go.RowKit
def look:List (Nat × Value)→Nat→Option Value
 | [],_=>none
 | (s,v)::r,t=>cond (Nat.beq s t) (some v) (look r t)
theorem nbeq {a b:Nat} (h:a≠b):Nat.beq a b=false:=by
 cases h':Nat.beq a b
 ·rfl
 ·exact absurd (Nat.eq_of_beq_eq_true h') h
structure Fr (a:Act) (n:Nat) (l:List (Nat × Value)):Prop where
 ds:a.defers=[]
 size:a.tmps.size=n
 val:∀ t v,look l t=some v→t<n∧a.tmps.getD t undef=v
def evl (l:List (Nat × Value)):Operand→Option Value
 | .tmp t=>look l t
 | .const v=>some v
 | .global g=>some (.pointer (some ⟨g,0,none⟩))
 | .func f=>some (.func (.func f) #[] #[])
def evls (l:List (Nat × Value)):List Operand→Option (List Value)
 | []=>some []
 | x::r=>match evl l x,evls l r with
  | some v,some vs=>some (v::vs)
  | _,_=>none
theorem Fr.eval {a:Act} {n:Nat} {l:List (Nat × Value)} (F:Fr a n l) {x:Operand} {v:Value} (h:evl l x=some v):a.eval x=v:=by
 cases x with
 | tmp t=>exact(F.val t v h).2
 | const u=>exact Option.some.inj h
 | global g=>exact Option.some.inj h
 | func f=>exact Option.some.inj h
theorem Fr.evals {a:Act} {n:Nat} {l:List (Nat × Value)} (F:Fr a n l):∀ {xs:List Operand} {vs:List Value},evls l xs=some vs→xs.map a.eval=vs
 | [],vs,h=>by simp[evls] at h;simp[h]
 | x::r,vs,h=>by
  simp only[evls] at h
  split at h
  ·rename_i v us h1 h2
   obtain rfl:=Option.some.inj h
   simp[F.eval h1,F.evals h2]
  ·cases h
theorem Fr.put {a:Act} {n:Nat} {l:List (Nat × Value)} (F:Fr a n l) (d:Nat) (v:Value) (hd:Nat.ble (d+1) n=true):Fr (a.put (some d) v) n ((d,v)::l):=by
 have hd':d<n:=Nat.le_of_ble_eq_true hd
 refine⟨F.ds,by simp[Act.put,F.size],fun t u h=>?_⟩
 simp only[look] at h
 by_cases ht:d=t
 ·subst ht
  rw[show Nat.beq d d=true from Nat.beq_refl d] at h
  obtain rfl:=Option.some.inj h
  exact⟨hd',by simp[Act.put,F.size,hd']⟩
 ·rw[nbeq ht] at h
  obtain ⟨h1,h2⟩:=F.val t u h
  refine⟨h1,?_⟩
  rw[← h2]
  simp[Act.put,Array.getElem?_setIfInBounds,ht]
def putL (d:Option Nat) (v:Value) (l:List (Nat × Value)):List (Nat × Value):=match d with|some t=>(t,v)::l|none=>l
theorem Fr.keep {a:Act} {n:Nat} {l l':List (Nat × Value)} (F:Fr a n l) (h:∀ p∈l',look l p.1=some p.2):Fr a n l':=by
 refine⟨F.ds,F.size,fun t v ht=>F.val t v ?_⟩
 induction l' with
 | nil=>simp[look] at ht
 | cons p r ih =>
  obtain ⟨s,u⟩:=p
  simp only[look] at ht
  by_cases hs:s=t
  ·subst hs
   rw[show Nat.beq s s=true from Nat.beq_refl s] at ht
   obtain rfl:u=v:=Option.some.inj ht
   exact h (s,u) (by simp)
  ·rw[nbeq hs] at ht
   exact ih (fun p hp=>h p (by simp[hp])) ht
theorem keep_nil {l:List (Nat × Value)}:∀ p∈([]:List (Nat × Value)),look l p.1=some p.2:=by simp
theorem keep_cons {l r:List (Nat × Value)} {t:Nat} {v:Value} (h:look l t=some v) (hr:∀ p∈r,look l p.1=some p.2):∀ p∈(t,v)::r,look l p.1=some p.2:=by
 intro p hp
 rcases List.mem_cons.1 hp with rfl|hp
 ·exact h
 ·exact hr p hp
def initL:Nat→List Value→List (Nat × Value)
 | _,[]=>[]
 | k,v::r=>(k,v)::initL (k+1) r
theorem look_initL:∀ (vs:List Value) (k t:Nat) (v:Value),look (initL k vs) t=some v→k≤t∧t<k+vs.length∧vs[t - k]? = some v
 | [],k,t,v,h=>by simp[initL,look] at h
 | u::r,k,t,v,h=>by
  simp only[initL,look] at h
  by_cases hk:k=t
  ·subst hk
   rw[show Nat.beq k k=true from Nat.beq_refl k] at h
   obtain rfl:=Option.some.inj h
   simp
  ·rw[nbeq hk] at h
   obtain ⟨h1,h2,h3⟩:=look_initL r (k+1) t v h
   refine⟨by omega,by simp;omega,?_⟩
   rw[show t - k=(t - (k+1))+1 from by omega]
   simpa using h3
theorem Fr.init (vs:List Value) (k:Nat):Fr {tmps:=vs.toArray++Array.replicate k undef,defers:=[]} (vs.length+k) (initL 0 vs):=by
 refine⟨rfl,by simp,fun t v h=>?_⟩
 obtain ⟨_,h2,h3⟩:=look_initL vs 0 t v h
 simp only[Nat.sub_zero,Nat.zero_add] at h2 h3
 refine⟨by omega,?_⟩
 have h4:vs[t]=v:=by
  have:=List.getElem?_eq_getElem h2
  rw[h3] at this;exact(Option.some.inj this).symm
 rw[Array.getD_eq_getD_getElem?,Array.getElem?_append_left (by simpa using h2)]
 simp[h2,h4]
theorem sx_enter {P:Program} {f:FuncId} {fn:Func} {c:Code} {vs:List Value} {w:World} {R:Ending→World→Prop} (hf:P.funcs[f]? = some fn) (hb:fn.body=some c) {n k:Nat} (hn:fn.ntmps=n) (hle:Nat.ble vs.length n=true) (hk0:n - vs.length=k)
  (h:∀ a,Fr a n (initL 0 vs)→c.wp P (bodyPost P fn R) a w):Calls P f vs.toArray w R:=by
 have hk:vs.length+k=n:=by have:=Nat.le_of_ble_eq_true hle;omega
 subst hn
 refine calls_of_wp hf hb (h _ ?_)
 have:=Fr.init vs k
 rw[hk] at this
 rw[show fn.ntmps - vs.toArray.size=k by simp;omega]
 exact this
def Agree (s:List Nat) (w w':World):Prop:=w'.os=w.os∧w'.tape=w.tape∧w'.output=w.output∧∀ b∈s,w'.heap[b]? = w.heap[b]?
theorem Agree.refl (s:List Nat) (w:World):Agree s w w:=⟨rfl,rfl,rfl,fun _ _=>rfl⟩
theorem Agree.trans {s:List Nat} {a b c:World} (h:Agree s a b) (k:Agree s b c):Agree s a c:=⟨k.1.trans h.1,k.2.1.trans h.2.1,k.2.2.1.trans h.2.2.1,fun x hx=>(k.2.2.2 x hx).trans (h.2.2.2 x hx)⟩
theorem Agree.sub {s r:List Nat} {a b:World} (h:Agree s a b) (hr:∀ x∈r,x∈s):Agree r a b:=⟨h.1,h.2.1,h.2.2.1,fun x hx=>h.2.2.2 x (hr x hx)⟩
abbrev Asn:=List Nat→World→Prop
structure Ok (A:Asn) (s:List Nat) (w:World):Prop where
 lt:∀ b∈s,b<w.heap.size
 all:∀ w',Agree s w w'→A s w'
theorem Ok.now {A:Asn} {s:List Nat} {w:World} (h:Ok A s w):A s w:=h.all w (Agree.refl s w)
theorem Ok.agree {A:Asn} {s:List Nat} {w w':World} (h:Ok A s w) (hw:Agree s w w') (hsz:w.heap.size≤w'.heap.size):Ok A s w' :=
 ⟨fun b hb=>Nat.lt_of_lt_of_le (h.lt b hb) hsz,fun w'' hw''=>h.all w'' (hw.trans hw'')⟩
theorem Ok.imp {A B:Asn} {s:List Nat} {w:World} (h:Ok A s w) (hi:∀ w',A s w'→B s w'):Ok B s w:=⟨h.lt,fun w' hw=>hi w' (h.all w' hw)⟩
inductive Sat:List Asn→List Nat→World→Prop where
 | nil (w:World):Sat [] [] w
 | cons {A:Asn} {L:List Asn} {s r:List Nat} {w:World}:Ok A s w→Sat L r w→(∀ b∈s,b∉r)→Sat (A::L) (s++r) w
theorem Sat.agree {L:List Asn} {s:List Nat} {w w':World} (h:Sat L s w) (hw:Agree s w w') (hsz:w.heap.size≤w'.heap.size):Sat L s w':=by
 induction h with
 | nil=>exact .nil w'
 | cons h1 _ h3 ih=>exact .cons (h1.agree (hw.sub fun x hx=>by simp[hx]) hsz) (ih (hw.sub fun x hx=>by simp[hx]) hsz) h3
theorem Sat.lt {L:List Asn} {s:List Nat} {w:World} (h:Sat L s w):∀ b∈s,b<w.heap.size:=by
 induction h with
 | nil=>simp
 | cons h1 _ _ ih =>
  intro b hb
  rcases List.mem_append.1 hb with hb|hb
  ·exact h1.lt b hb
  ·exact ih b hb
def Mem (w:World) (L:List Asn):Prop:=∃ s,Sat L s w
structure Chg (s:List Nat) (w w':World):Prop where
 os:w'.os=w.os
 tape:w'.tape=w.tape
 output:w'.output=w.output
 size:w.heap.size≤w'.heap.size
 block:∀ k,k<w.heap.size→k∉s→w'.heap[k]? = w.heap[k]?
theorem Chg.agree {s r:List Nat} {w w':World} (h:Chg s w w') (hr:∀ b∈r,b<w.heap.size∧b∉s):Agree r w w':=⟨h.os,h.tape,h.output,fun b hb=>h.block b (hr b hb).1 (hr b hb).2⟩
theorem Mem.change {A:Asn} {L:List Asn} {w w':World} (M:Mem w (A::L)) {B:Asn} (h:∀ s,Ok A s w→Chg s w w'∧∃ s',Ok B s' w'∧∀ b∈s',b∈s∨w.heap.size≤b):Mem w' (B::L):=by
 obtain ⟨s,hs⟩:=M
 cases hs with
 | @cons _ _ s r _ h1 h2 h3 =>
  obtain ⟨hc,s',hB,hsub⟩:=h s h1
  refine⟨s'++r,.cons hB (h2.agree (hc.agree fun b hb=>⟨h2.lt b hb,fun hm=>h3 b hm hb⟩) hc.size) fun b hb hr=>?_⟩
  rcases hsub b hb with hb|hb
  ·exact h3 b hb hr
  ·have:=h2.lt b hr;omega
theorem Mem.new {L:List Asn} {w w':World} (M:Mem w L) {B:Asn} (hc:Chg [] w w') (h:∃ s',Ok B s' w'∧∀ b∈s',w.heap.size≤b):Mem w' (B::L):=by
 obtain ⟨r,hr⟩:=M
 obtain ⟨s',hB,hsub⟩:=h
 refine⟨s'++r,.cons hB (hr.agree (hc.agree fun b hb=>⟨hr.lt b hb,by simp⟩) hc.size) fun b hb hbr=>?_⟩
 have:=hr.lt b hbr
 have:=hsub b hb
 omega
theorem Mem.same {L:List Asn} {w w':World} (M:Mem w L) (hc:Chg [] w w'):Mem w' L:=by
 obtain ⟨r,hr⟩:=M
 exact⟨r,hr.agree (hc.agree fun b hb=>⟨hr.lt b hb,by simp⟩) hc.size⟩
theorem Mem.drew {L:List Asn} {w:World} (M:Mem w L) (n:Nat):Mem {w with drawn:=n} L:=M.same ⟨rfl,rfl,rfl,Nat.le_refl _,fun _ _ _=>rfl⟩
theorem Mem.nil (w:World):Mem w []:=⟨[],.nil w⟩
theorem Mem.drop {A:Asn} {L:List Asn} {w:World} (M:Mem w (A::L)):Mem w L:=by
 obtain ⟨s,hs⟩:=M
 cases hs with
 | cons _ h2 _=>exact⟨_,h2⟩
theorem Mem.imp {A B:Asn} {L:List Asn} {w:World} (M:Mem w (A::L)) (h:∀ s w',A s w'→B s w'):Mem w (B::L) :=
 M.change fun s hs=>⟨⟨rfl,rfl,rfl,Nat.le_refl _,fun _ _ _=>rfl⟩,s,hs.imp (h s),fun b hb=>.inl hb⟩
theorem Mem.head {A:Asn} {L:List Asn} {w:World} (M:Mem w (A::L)):∃ s,A s w∧∀ b∈s,b<w.heap.size:=by
 obtain ⟨s,hs⟩:=M
 cases hs with
 | cons h1 _ _=>exact⟨_,h1.now,h1.lt⟩
theorem Mem.swap {A B:Asn} {L:List Asn} {w:World} (M:Mem w (A::B::L)):Mem w (B::A::L):=by
 obtain ⟨s,hs⟩:=M
 cases hs with
 | @cons _ _ s1 r1 _ h1 h2 h3 =>
  cases h2 with
  | @cons _ _ s2 r2 _ k1 k2 k3 =>
   refine⟨_,.cons k1 (.cons h1 k2 fun b hb hr=>h3 b hb (by simp[hr])) fun b hb hm=>?_⟩
   rcases List.mem_append.1 hm with hm|hm
   ·exact h3 b hm (by simp[hb])
   ·exact k3 b hb hm
inductive Pull:List Asn→Asn→List Asn→Prop where
 | here {A:Asn} {L:List Asn}:Pull (A::L) A L
 | there {X A:Asn} {L L':List Asn}:Pull L A L'→Pull (X::L) A (X::L')
theorem Sat.pull {L L':List Asn} {A:Asn} (h:Pull L A L'):∀ {s:List Nat} {w:World},Sat L s w→∃ s',Sat (A::L') s' w∧(∀ b,b∈s'↔b∈s):=by
 induction h with
 | here=>exact fun hs=>⟨_,hs,fun _=>Iff.rfl⟩
 | there h ih =>
  intro s w hs
  cases hs with
  | cons h1 h2 h3 =>
   obtain ⟨s',k1,k2⟩:=ih h2
   cases k1 with
   | @cons _ _ sa ra _ m1 m2 m3 =>
    refine⟨_,.cons m1 (.cons h1 m2 fun b hb hr=>h3 b hb ((k2 b).1 (by simp[hr]))) fun b hb hm=>?_,fun b=>?_⟩
    ·rcases List.mem_append.1 hm with hm|hm
     ·exact h3 b hm ((k2 b).1 (by simp[hb]))
     ·exact m3 b hb hm
    ·have:=k2 b
     simp only[List.mem_append] at this ⊢
     constructor
     ·rintro(h|h|h)
      ·exact .inr (this.1 (.inl h))
      ·exact .inl h
      ·exact .inr (this.1 (.inr h))
     ·rintro(h|h)
      ·exact .inr (.inl h)
      ·rcases this.2 h with h|h
       ·exact .inl h
       ·exact .inr (.inr h)
theorem Sat.push {L L':List Asn} {A:Asn} (h:Pull L A L'):∀ {s:List Nat} {w:World},Sat (A::L') s w→∃ s',Sat L s' w∧(∀ b,b∈s'↔b∈s):=by
 induction h with
 | here=>exact fun hs=>⟨_,hs,fun _=>Iff.rfl⟩
 | there h ih =>
  intro s w hs
  cases hs with
  | cons h1 h2 h3 =>
   cases h2 with
   | @cons _ _ sx rx _ m1 m2 m3 =>
    obtain ⟨s',k1,k2⟩:=ih (Sat.cons h1 m2 fun b hb hr=>h3 b hb (by simp[hr]))
    refine⟨_,.cons m1 k1 fun b hb hm=>?_,fun b=>?_⟩
    ·rcases List.mem_append.1 ((k2 b).1 hm) with hm|hm
     ·exact h3 b hm (by simp[hb])
     ·exact m3 b hb hm
    ·have:=k2 b
     simp only[List.mem_append] at this ⊢
     constructor
     ·rintro(h|h)
      ·exact .inr (.inl h)
      ·rcases this.1 h with h|h
       ·exact .inl h
       ·exact .inr (.inr h)
     ·rintro(h|h|h)
      ·exact .inr (this.2 (.inl h))
      ·exact .inl h
      ·exact .inr (this.2 (.inr h))
theorem Mem.pull {L L':List Asn} {A:Asn} {w:World} (M:Mem w L) (h:Pull L A L'):Mem w (A::L'):=by
 obtain ⟨s,hs⟩:=M
 obtain ⟨s',h1,_⟩:=hs.pull h
 exact⟨s',h1⟩
theorem Mem.push {L L':List Asn} {A:Asn} {w:World} (M:Mem w (A::L')) (h:Pull L A L'):Mem w L:=by
 obtain ⟨s,hs⟩:=M
 obtain ⟨s',h1,_⟩:=hs.push h
 exact⟨s',h1⟩
inductive Rep:List Asn→Asn→Asn→List Asn→Prop where
 | here {A B:Asn} {L:List Asn}:Rep (A::L) A B (B::L)
 | there {X A B:Asn} {L L':List Asn}:Rep L A B L'→Rep (X::L) A B (X::L')
theorem Rep.both {L L2:List Asn} {A B:Asn} (h:Rep L A B L2):∃ L',Pull L A L'∧Pull L2 B L':=by
 induction h with
 | here=>exact⟨_,.here,.here⟩
 | there h ih=>obtain ⟨L',h1,h2⟩:=ih;exact⟨_,.there h1,.there h2⟩
theorem Mem.rep {L L2:List Asn} {A B:Asn} {w w':World} (M:Mem w L) (h:Rep L A B L2) (hc:∀ s,Ok A s w→Chg s w w'∧∃ s',Ok B s' w'∧∀ b∈s',b∈s∨w.heap.size≤b):Mem w' L2:=by
 obtain ⟨L',h1,h2⟩:=h.both
 exact((M.pull h1).change hc).push h2
def pt (b:Nat) (cs:List Value) (t:TypeId):Asn:=fun s w=>s=[b]∧w.heap[b]? = some (.cells cs.toArray t (0,0))
theorem Mem.pt {L L':List Asn} {b:Nat} {cs:List Value} {t:TypeId} {w:World} (M:Mem w L) (h:Pull L (pt b cs t) L'):w.heap[b]? = some (.cells cs.toArray t (0,0)):=by
 obtain ⟨s,hs,_⟩:=(M.pull h).head
 exact hs.2
theorem ok_pt {w:World} {b:Nat} {cs:List Value} {t:TypeId} (h:w.heap[b]? = some (.cells cs.toArray t (0,0))):Ok (pt b cs t) [b] w:=by
 refine⟨fun x hx=>?_,fun w' hw=>⟨rfl,?_⟩⟩
 ·obtain rfl:x=b:=by simpa using hx
  exact(Array.getElem?_eq_some_iff.1 h).1
 ·rw[hw.2.2.2 b (by simp)];exact h
theorem Mem.alloc {L:List Asn} {w:World} (M:Mem w L) (cs:List Value) (t:TypeId):Mem (w.alloc (.cells cs.toArray t)) (Go.Proofs.YtjbfcacmdahnhaaGreat.pt w.heap.size cs t::L) :=
 M.new ⟨rfl,rfl,rfl,by simp,fun k hk _=>(((Below.refl _ _).alloc (Nat.le_refl _) _).block k hk)⟩ ⟨[w.heap.size],ok_pt (heap_alloc_new w _),by simp⟩
theorem chg_setRow {w:World} {b:Nat} {cs:Array Value}:Chg [b] w (w.setRow b cs) :=
 ⟨rfl,rfl,rfl,by simp,fun k _ hk=>setRow_other w b k cs (by simpa using hk)⟩
theorem Mem.setRow {L L2:List Asn} {b:Nat} {cs cs':List Value} {t:TypeId} {w:World} (M:Mem w L) (h:Rep L (Go.Proofs.YtjbfcacmdahnhaaGreat.pt b cs t) (Go.Proofs.YtjbfcacmdahnhaaGreat.pt b cs' t) L2):Mem (w.setRow b cs'.toArray) L2 :=
 M.rep h fun s hs=>by
  obtain ⟨rfl,hb⟩:=hs.now
  exact⟨chg_setRow,[b],ok_pt (setRow_heap w b _ _ t _ hb),fun x hx=>.inl hx⟩
def Old (w0:World):Asn:=fun s w=>s=List.range w0.heap.size∧w.os=w0.os∧w.tape=w0.tape∧w.output=w0.output∧∀ b,b<w0.heap.size→w.heap[b]? = w0.heap[b]?
theorem Mem.old (w:World):Mem w [Old w]:=by
 refine⟨List.range w.heap.size++[],.cons ⟨by simp,fun w' h=>⟨rfl,h.1,h.2.1,h.2.2.1,fun b hb=>h.2.2.2 b (by simpa using hb)⟩⟩ (.nil w) (by simp)⟩
theorem Mem.below {w0 w:World} {L L':List Asn} (M:Mem w L) (h:Pull L (Old w0) L'):Below w0.heap.size w0 w:=by
 obtain ⟨s,⟨rfl,h1,h2,h3,h4⟩,h5⟩:=(M.pull h).head
 refine⟨h1,h2,h3,?_,h4⟩
 rcases Nat.lt_or_ge w.heap.size w0.heap.size with hlt|hge
 ·have:=h5 w.heap.size (by simpa using hlt);omega
 ·exact hge
theorem Mem.of_below {w w':World} {L:List Asn} (M:Mem w L) (h:Below w.heap.size w w'):Mem w' L:=M.same ⟨h.os,h.tape,h.output,h.size,fun k hk _=>h.block k hk⟩
class KT (t:TypeId) (r:outParam (Option Nat)):Prop where
 k:(Tryz.prog.underlying t).map (fun d=>(match d with|.struct _|.array _ _=>true|_=>false))=some r.isSome∧(Tryz.prog.info? t).map (·.size)=some (r.getD 1)
class ZT (t:TypeId) (zs:outParam (List Value)):Prop where
 k:(Tryz.prog.info? t).map (fun i=>i.zero.map Value.cells)=some (some zs.toArray)
class FO (t:TypeId) (f:Nat) (off:outParam Nat):Prop where
 k:(match Tryz.prog.underlying t with|some (.struct fs)=>(fs[f]?).map (fun f=>(f.offset,(match Tryz.prog.info? f.type with|some i=>Nat.ble 1 i.size|none=>false)))|_=>none)=some (off,true)
class ST (t:TypeId) (e:outParam TypeId) (z:outParam Value) (size bytes:outParam Nat):Prop where
 k:Tryz.prog.underlying t=some (.slice e)∧(Tryz.prog.info? e).map (fun i=>(i.zero,i.size,i.bytes))=some (some z,size,bytes)∧(z.cells.size == size && Nat.ble 1 size)=true
class AT (t:TypeId) (len:outParam Nat) (e:outParam TypeId) (size:outParam Nat):Prop where
 k:Tryz.prog.underlying t=some (.array len e)∧(Tryz.prog.info? e).map (fun i=>i.size)=some size
class FK (f:FuncId):Prop where
 k : (match Tryz.prog.funcs[f]? with | some fn => !(fn.name == "runtime.NumGoroutine") && fn.body.isSome | none => false) = true
theorem run_isAgg {t:TypeId} {r:Option Nat} [h:KT t r] (w:World):(isAgg t).run Tryz.prog w=.ok r.isSome w∧(sizeOf t).run Tryz.prog w=.ok (r.getD 1) w:=by
 obtain ⟨h1,h2⟩:=h.k
 constructor
 ·cases hu:Tryz.prog.underlying t with
  | none=>rw[hu] at h1;cases h1
  | some d =>
   rw[hu] at h1
   have h1:=Option.some.inj h1
   unfold isAgg
   rw[Sem.run_bind,run_underlying hu w]
   cases d<;>simp_all
 ·cases hi:Tryz.prog.info? t with
  | none=>rw[hi] at h2;cases h2
  | some i =>
   rw[hi] at h2
   have h2:=Option.some.inj h2
   simp[sizeOf,typeInfo,hi,h2]
theorem add0 (b i j:Nat):(⟨b,i,none⟩:Addr).add j=⟨b,i+j,none⟩:=by unfold Addr.add;split<;>simp_all
theorem run_loadVar_one {t:TypeId} [KT t none] {w:World} {b i:Nat} {v:Value} (h:w.cell? ⟨b,i,none⟩=some v):(loadVar t ⟨b,i,none⟩).run Tryz.prog w=.ok v w:=by
 simp[loadVar,Sem.run_bind,(run_isAgg (t:=t) w).1,load,Sem.run,h]
theorem run_loadVar_agg {t:TypeId} {k:Nat} [KT t (some k)] {w:World} {b i:Nat} {cs:List Value} (hl:cs.length=k) (h:∀ j u,cs[j]? = some u→w.cell? ⟨b,i+j,none⟩=some u):(loadVar t ⟨b,i,none⟩).run Tryz.prog w=.ok (.agg cs.toArray) w:=by
 subst hl
 have hl:=run_loadCells_list (P:=Tryz.prog) w ⟨b,i,none⟩ cs (fun j v hv=>by rw[add0];exact h j v hv)
 simp[loadVar,Sem.run_bind,(run_isAgg (t:=t) w).1,(run_isAgg (t:=t) w).2,hl]
theorem run_storeVar_one {t:TypeId} [KT t none] {w:World} {b i:Nat} {v u:Value} (h:w.cell? ⟨b,i,none⟩=some u) (hf:w.frozen? ⟨b,i,none⟩=false) (hv:v.oneCell'=true):(storeVar t ⟨b,i,none⟩ v).run Tryz.prog w=.ok () (w.setCell ⟨b,i,none⟩ v):=by
 have h1:v.cells = #[v]:=by cases v<;>simp_all [Value.oneCell',Value.cells]
 have h2:(⟨b,i,none⟩:Addr).add 0=⟨b,i,none⟩:=by rw[add0];rfl
 simp only[storeVar,Sem.run_bind,(run_isAgg (t:=t) w).2,Result.andThen_ok,h1]
 cases v<;>simp_all [storeCells,store,Sem.run,Value.oneCell']
inductive Sc where
 | int|bool|str
def scEq:Sc→Value→Value→Option Bool
 | .int,.int k x,.int k' y=>if k=k' then some (decide (x=y)) else none
 | .bool,.bool x,.bool y=>some (x == y)
 | .str,.string x,.string y=>some (x.toList == y.toList)
 | _,_,_=>none
def cellsEq:List Sc→List Value→List Value→Option Bool
 | [],[],[]=>some true
 | k::ks,x::xs,y::ys=>match scEq k x y,cellsEq ks xs ys with
  | some a,some b=>some (a && b)
  | _,_=>none
 | _,_,_=>none
def scOf (P:Program) (t:TypeId):Option Sc:=match P.underlying t with|some .bool=>some .bool|some (.int _)=>some .int|some .string=>some .str|_=>none
def flatFs (P:Program):List Field→List Sc→Nat→Bool
 | [],[],_=>true
 | f :: fs, k :: ks, o => f.name != "_" && Nat.beq f.offset o && (match scOf P f.type, k with | some .int, .int | some .bool, .bool | some .str, .str => true | _, _ => false) && flatFs P fs ks (o + 1)
 | _,_,_=>false
theorem scEq_run {P:Program} {t:TypeId} {k:Sc} {x y:Value} {r:Bool} (hk:(match scOf P t,k with|some .int,.int|some .bool,.bool|some .str,.str=>true|_,_=>false)=true) (h:scEq k x y=some r) (d:Nat) (w:World) :
  P.plainKey t=true∧(Op.equalIn (d+1) t x y).run P w=.ok r w:=by
 unfold scOf at hk
 cases hu:P.underlying t with
 | none=>rw[hu] at hk;simp at hk
 | some u =>
  rw[hu] at hk
  cases u<;>simp at hk
  all_goals
   cases k<;>simp at hk
   cases x<;>cases y<;>simp[scEq] at h
  case int.int.int.int k' k1 x1 k2 y1 =>
   obtain ⟨rfl,rfl⟩:=h
   refine⟨by simp[Program.plainKey,hu],?_⟩
   rw[run_equalIn_int w d t k1 k' x1 y1 hu];rfl
  case bool.bool.bool.bool x1 y1 =>
   subst h
   exact⟨by simp[Program.plainKey,hu],run_equalIn_bool' w d t x1 y1 hu⟩
  case string.str.string.string x1 y1 =>
   subst h
   exact⟨by simp[Program.plainKey,hu],run_equalIn_string w d t x1 y1 hu⟩
theorem eqFields_flat {P:Program} (d:Nat) (w:World) (xs ys:List Value):∀ (fs:List Field) (ks:List Sc) (o:Nat) (r:Bool),flatFs P fs ks o=true→cellsEq ks (xs.drop o) (ys.drop o)=some r→(Op.eqFields (d+1) xs.toArray ys.toArray fs).run P w=.ok r w
 | [],[],o,r,_,h=>by
  cases hx:xs.drop o<;>cases hy:ys.drop o<;>rw[hx,hy] at h<;>simp[cellsEq] at h
  subst h
  simp[Op.eqFields]
 | f::fs,k::ks,o,r,hf,h=>by
  simp only[flatFs,Bool.and_eq_true] at hf
  obtain ⟨⟨⟨h1,h2⟩,h3⟩,h4⟩:=hf
  cases hx:xs.drop o with
  | nil=>rw[hx] at h;cases hy:ys.drop o<;>rw[hy] at h<;>simp[cellsEq] at h
  | cons x xs' =>
   cases hy:ys.drop o with
   | nil=>rw[hx,hy] at h;simp[cellsEq] at h
   | cons y ys' =>
    rw[hx,hy] at h
    simp only[cellsEq] at h
    split at h
    ·rename_i p q hp hq
     obtain rfl:=Option.some.inj h
     have ho:f.offset=o:=Nat.eq_of_beq_eq_true h2
     obtain ⟨hk,he⟩:=scEq_run h3 hp d w
     have hx1:xs.toArray[f.offset]? = some x:=by
      have:xs[o]? = some x:=by have:=congrArg (fun l=>l[0]?) hx;simpa using this
      rw[ho];simpa using this
     have hy1:ys.toArray[f.offset]? = some y:=by
      have:ys[o]? = some y:=by have:=congrArg (fun l=>l[0]?) hy;simpa using this
      rw[ho];simpa using this
     have hx2:xs.drop (o+1)=xs':=by rw[← List.drop_drop,hx];rfl
     have hy2:ys.drop (o+1)=ys':=by rw[← List.drop_drop,hy];rfl
     have ih:=eqFields_flat d w xs ys fs ks (o+1) q h4 (by rw[hx2,hy2];exact hq)
     have hn : f.name ≠ "_" := by simpa using h1
     simp only[Op.eqFields,if_pos hn,Sem.run_bind,run_part_plain w hk hx1,run_part_plain w hk hy1,Result.andThen_ok,he]
     cases p<;>simp[ih]
    ·cases h
 | [],_::_,_,_,hf,_=>by simp[flatFs] at hf
 | _::_,[],_,_,hf,_=>by simp[flatFs] at hf
theorem eqItems_flat {P:Program} (d:Nat) (w:World) {e:TypeId} {k:Sc} (hk:(match scOf P e,k with|some .int,.int|some .bool,.bool|some .str,.str=>true|_,_=>false)=true) (xs ys:List Value):∀ (m o:Nat) (r:Bool),cellsEq (List.replicate m k) (xs.drop o) (ys.drop o)=some r →
  (Op.eqItems (d+1) e 1 xs.toArray ys.toArray (List.range' o m)).run P w=.ok r w
 | 0,o,r,h=>by
  cases hx:xs.drop o<;>cases hy:ys.drop o<;>rw[hx,hy] at h<;>simp[cellsEq] at h
  subst h
  simp[Op.eqItems]
 | m+1,o,r,h=>by
  rw[List.replicate_succ] at h
  cases hx:xs.drop o with
  | nil=>rw[hx] at h;cases hy:ys.drop o<;>rw[hy] at h<;>simp[cellsEq] at h
  | cons x xs' =>
   cases hy:ys.drop o with
   | nil=>rw[hx,hy] at h;simp[cellsEq] at h
   | cons y ys' =>
    rw[hx,hy] at h
    simp only[cellsEq] at h
    split at h
    ·rename_i p q hp hq
     obtain rfl:=Option.some.inj h
     obtain ⟨hk',he⟩:=scEq_run hk hp d w
     have hx1:xs.toArray[o*1]? = some x:=by
      have:xs[o]? = some x:=by have:=congrArg (fun l=>l[0]?) hx;simpa using this
      simpa using this
     have hy1:ys.toArray[o*1]? = some y:=by
      have:ys[o]? = some y:=by have:=congrArg (fun l=>l[0]?) hy;simpa using this
      simpa using this
     have hx2:xs.drop (o+1)=xs':=by rw[← List.drop_drop,hx];rfl
     have hy2:ys.drop (o+1)=ys':=by rw[← List.drop_drop,hy];rfl
     have ih:=eqItems_flat d w hk xs ys m (o+1) q (by rw[hx2,hy2];exact hq)
     rw[List.range'_succ]
     simp only[Op.eqItems,Sem.run_bind,run_part_plain w hk' hx1,run_part_plain w hk' hy1,Result.andThen_ok,he]
     cases p<;>simp[ih]
    ·cases h
def flatT (P:Program) (t:TypeId) (ks:List Sc):Bool :=
 match P.underlying t with
 | some (.struct fs)=>flatFs P fs.toList ks 0 && !P.stoodInHeld t
 | some (.array n e)=>(match ks with
  | k::_=>(match scOf P e,k with|some .int,.int|some .bool,.bool|some .str,.str=>true|_,_=>false) && Nat.beq ks.length n && ks.all (fun k'=>match k,k' with|.int,.int|.bool,.bool|.str,.str=>true|_,_=>false) && Nat.beq (P.cellsOf e) 1 && (P.info? e).isSome
  | []=>false)
 | _=>false
theorem cells_one {P:Program} {e:TypeId} (h:Nat.beq (P.cellsOf e) 1=true):P.cellsOf e=1:=Nat.eq_of_beq_eq_true h
class EQ (t:TypeId) (ks:outParam (List Sc)):Prop where
 k:flatT Tryz.prog t ks=true∧Tryz.prog.eqGuardType Tryz.prog.depth t=false
theorem run_eq_flat {t:TypeId} {ks:List Sc} [he:EQ t ks] {xs ys:List Value} {r:Bool} (h:cellsEq ks xs ys=some r) (w:World):(Op.equalIn 10000 t (.agg xs.toArray) (.agg ys.toArray)).run Tryz.prog w=.ok r w:=by
 have hf:=he.k.1
 unfold flatT at hf
 cases hu:Tryz.prog.underlying t with
 | none=>rw[hu] at hf;cases hf
 | some u =>
  rw[hu] at hf
  cases u with
  | struct fs =>
   simp only[Bool.and_eq_true,Bool.not_eq_true'] at hf
   have hfo:Tryz.prog.fieldsOf t=fs:=by simp[Program.fieldsOf,hu]
   rw[run_equalIn_struct w 9999 t _ _ (by rw[hfo];exact hu) hf.2,hfo]
   exact eqFields_flat 9998 w xs ys fs.toList ks 0 r hf.1 (by simpa using h)
  | array n e =>
   cases ks with
   | nil=>simp at hf
   | cons k ks =>
    simp only[Bool.and_eq_true] at hf
    obtain ⟨⟨⟨⟨h1,h2⟩,h3⟩,h4⟩,h5⟩:=hf
    have hn:(k::ks).length=n:=Nat.eq_of_beq_eq_true h2
    have hrep:k::ks=List.replicate n k:=by
     rw[← hn]
     refine List.eq_replicate_iff.2 ⟨rfl,fun b hb=>?_⟩
     have:=List.all_eq_true.1 h3 b hb
     cases k<;>cases b<;>simp_all
    obtain ⟨i,hi⟩:=Option.isSome_iff_exists.1 h5
    rw[run_equalIn_array w 9999 _ _ hu hi,cells_one h4,List.range_eq_range']
    exact eqItems_flat 9998 w h1 xs ys n 0 r (by rw[← hrep];simpa using h)
  | _=>simp at hf
theorem scEq_refl {k:Sc} {x:Value} {r:Bool} (h:scEq k x x=some r):r=true:=by
 cases k<;>cases x<;>simp[scEq] at h<;>simp_all
theorem cellsEq_refl:∀ {ks:List Sc} {xs:List Value} {r:Bool},cellsEq ks xs xs=some r→r=true
 | [],[],r,h=>by simp[cellsEq] at h;simp_all
 | k::ks,x::xs,r,h=>by
  simp only[cellsEq] at h
  split at h
  ·rename_i a b h1 h2
   obtain rfl:=Option.some.inj h
   rw[scEq_refl h1,cellsEq_refl h2];rfl
  ·cases h
 | [],_::_,_,h=>by simp[cellsEq] at h
 | _::_,[],_,h=>by simp[cellsEq] at h
end
section
theorem zkt {t:TypeId} {r:Option Nat} (h1:(Tryz.prog.underlying t).map (fun d=>(match d with|.struct _|.array _ _=>true|_=>false))=some r.isSome:=by kernel_rfl) (h2:(Tryz.prog.info? t).map (·.size)=some (r.getD 1):=by kernel_rfl):KT t r:=⟨⟨h1,h2⟩⟩
theorem zzt {t:TypeId} {zs:List Value} (h:(Tryz.prog.info? t).map (fun i=>i.zero.map Value.cells)=some (some zs.toArray):=by kernel_rfl):ZT t zs:=⟨h⟩
theorem zfo {t:TypeId} {f o:Nat} (h:(match Tryz.prog.underlying t with|some (.struct fs)=>(fs[f]?).map (fun f=>(f.offset,(match Tryz.prog.info? f.type with|some i=>Nat.ble 1 i.size|none=>false)))|_=>none)=some (o,true):=by kernel_rfl):FO t f o:=⟨h⟩
theorem zfk {f:FuncId} (h:(match Tryz.prog.funcs[f]? with | some fn => !(fn.name == "runtime.NumGoroutine") && fn.body.isSome | none => false) = true:=by kernel_rfl):FK f:=⟨h⟩
instance:KT 3 none:=zkt
instance:KT 4 none:=zkt
instance:ZT 4 [.bool false]:=zzt
instance:KT 5 none:=zkt
instance:KT 22 none:=zkt
instance:ZT 22 [.int .u64 0]:=zzt
instance:KT 24 (some 20):=zkt
instance:ZT 24 [.int .i64 0,.int .i64 0,.int .u64 0,.int .u64 0,.int .u64 0,.int .u64 0,.int .u64 0,.int .u64 0,.int .u64 0,.int .u64 0,.int .i64 0,.int .i64 0,.int .i64 0,.int .i64 0,.int .i64 0,.int .i64 0,.int .i64 0,.int .i64 0,.int .u64 0,.int .u64 0]:=zzt
instance:FO 24 0 0:=zfo
instance:FO 24 1 1:=zfo
instance:FO 24 2 2:=zfo
instance:FO 24 3 3:=zfo
instance:FO 24 4 4:=zfo
instance:FO 24 5 5:=zfo
instance:FO 24 6 6:=zfo
instance:FO 24 7 7:=zfo
instance:FO 24 8 8:=zfo
instance:FO 24 9 9:=zfo
instance:FO 24 10 10:=zfo
instance:FO 24 11 11:=zfo
instance:FO 24 12 12:=zfo
instance:FO 24 13 13:=zfo
instance:FO 24 14 14:=zfo
instance:FO 24 15 15:=zfo
instance:FO 24 16 16:=zfo
instance:FO 24 17 17:=zfo
instance:FO 24 18 18:=zfo
instance:FO 24 19 19:=zfo
instance:KT 25 none:=zkt
instance:ZT 25 [.slice none 0 0]:=zzt
instance:ST 25 42 (.agg #[.int .i64 0,.int .i64 0,.int .i64 0,.int .u64 0]) 4 32:=⟨⟨by kernel_rfl,by kernel_rfl,by kernel_rfl⟩⟩
instance:KT 28 none:=zkt
instance:KT 29 none:=zkt
instance:KT 31 (some 2):=zkt
instance:ZT 31 [.pointer none,.pointer none]:=zzt
instance:FO 31 0 0:=zfo
instance:FO 31 1 1:=zfo
instance:KT 35 none:=zkt
instance:ZT 35 [.int .i64 0]:=zzt
instance:KT 36 none:=zkt
instance:ST 36 75 (.agg #[.int .i64 0,.int .i64 0,.int .i64 0]) 3 24:=⟨⟨by kernel_rfl,by kernel_rfl,by kernel_rfl⟩⟩
instance:KT 37 none:=zkt
instance:ZT 37 [.slice none 0 0]:=zzt
instance:ST 37 57 (.agg #[.int .i64 0,.int .u64 0,.bool false]) 3 24:=⟨⟨by kernel_rfl,by kernel_rfl,by kernel_rfl⟩⟩
instance:KT 39 (some 9):=zkt
instance:ZT 39 [.int .i64 0,.int .i64 0,.int .i64 0,.int .i64 0,.int .i64 0,.int .i64 0,.slice none 0 0,.slice none 0 0,.int .i64 0]:=zzt
instance:FO 39 0 0:=zfo
instance:FO 39 1 1:=zfo
instance:FO 39 2 2:=zfo
instance:FO 39 3 3:=zfo
instance:FO 39 4 4:=zfo
instance:FO 39 5 5:=zfo
instance:FO 39 6 6:=zfo
instance:FO 39 7 7:=zfo
instance:FO 39 8 8:=zfo
instance:KT 42 (some 4):=zkt
instance:ZT 42 [.int .i64 0,.int .i64 0,.int .i64 0,.int .u64 0]:=zzt
instance:EQ 42 [.int,.int,.int,.int]:=⟨⟨by kernel_rfl,by kernel_rfl⟩⟩
instance:FO 42 0 0:=zfo
instance:FO 42 1 1:=zfo
instance:FO 42 2 2:=zfo
instance:FO 42 3 3:=zfo
instance:KT 43 none:=zkt
instance:ZT 43 [.slice none 0 0]:=zzt
instance:ST 43 62 (.agg #[.int .u64 0,.int .i64 0,.bool false,.int .i64 0,.int .i64 0,.int .i64 0,.int .i64 0]) 7 56:=⟨⟨by kernel_rfl,by kernel_rfl,by kernel_rfl⟩⟩
instance:KT 44 none:=zkt
instance:ZT 44 [.slice none 0 0]:=zzt
instance:ST 44 3 (.int .i64 0) 1 8:=⟨⟨by kernel_rfl,by kernel_rfl,by kernel_rfl⟩⟩
instance:KT 45 none:=zkt
instance:ST 45 77 (.agg #[.int .i64 0,.int .i64 0]) 2 16:=⟨⟨by kernel_rfl,by kernel_rfl,by kernel_rfl⟩⟩
instance:KT 46 none:=zkt
instance:ST 46 79 (.agg #[.int .i64 0,.int .u64 0]) 2 16:=⟨⟨by kernel_rfl,by kernel_rfl,by kernel_rfl⟩⟩
instance:KT 48 (some 15):=zkt
instance:ZT 48 [.int .i64 0,.int .i64 0,.slice none 0 0,.int .u64 0,.int .u64 0,.int .u64 0,.int .u64 0,.slice none 0 0,.slice none 0 0,.slice none 0 0,.slice none 0 0,.slice none 0 0,.int .i64 0,.int .u64 0,.int .i64 0]:=zzt
instance:FO 48 0 0:=zfo
instance:FO 48 1 1:=zfo
instance:FO 48 2 2:=zfo
instance:FO 48 3 3:=zfo
instance:FO 48 4 4:=zfo
instance:FO 48 5 5:=zfo
instance:FO 48 6 6:=zfo
instance:FO 48 7 7:=zfo
instance:FO 48 8 8:=zfo
instance:FO 48 9 9:=zfo
instance:FO 48 10 10:=zfo
instance:FO 48 11 11:=zfo
instance:FO 48 12 12:=zfo
instance:FO 48 13 13:=zfo
instance:FO 48 14 14:=zfo
instance:ZT 51 [.int .i64 0,.int .i64 0,.int .i64 0,.int .i64 0,.int .i64 0,.int .i64 0,.int .u64 0]:=zzt
instance:FO 51 0 0:=zfo
instance:FO 51 1 1:=zfo
instance:FO 51 2 2:=zfo
instance:FO 51 3 3:=zfo
instance:FO 51 4 4:=zfo
instance:FO 51 5 5:=zfo
instance:FO 51 6 6:=zfo
instance:KT 57 (some 3):=zkt
instance:ZT 57 [.int .i64 0,.int .u64 0,.bool false]:=zzt
instance:EQ 57 [.int,.int,.bool]:=⟨⟨by kernel_rfl,by kernel_rfl⟩⟩
instance:FO 57 0 0:=zfo
instance:FO 57 1 1:=zfo
instance:FO 57 2 2:=zfo
instance:KT 62 (some 7):=zkt
instance:ZT 62 [.int .u64 0,.int .i64 0,.bool false,.int .i64 0,.int .i64 0,.int .i64 0,.int .i64 0]:=zzt
instance:EQ 62 [.int,.int,.bool,.int,.int,.int,.int]:=⟨⟨by kernel_rfl,by kernel_rfl⟩⟩
instance:FO 62 0 0:=zfo
instance:FO 62 1 1:=zfo
instance:FO 62 2 2:=zfo
instance:FO 62 3 3:=zfo
instance:FO 62 4 4:=zfo
instance:FO 62 5 5:=zfo
instance:FO 62 6 6:=zfo
instance:KT 68 none:=zkt
instance:ZT 68 [.slice none 0 0]:=zzt
instance:ST 68 39 (.agg #[.int .i64 0,.int .i64 0,.int .i64 0,.int .i64 0,.int .i64 0,.int .i64 0,.slice none 0 0,.slice none 0 0,.int .i64 0]) 9 104:=⟨⟨by kernel_rfl,by kernel_rfl,by kernel_rfl⟩⟩
instance:KT 75 (some 3):=zkt
instance:ZT 75 [.int .i64 0,.int .i64 0,.int .i64 0]:=zzt
instance:EQ 75 [.int,.int,.int]:=⟨⟨by kernel_rfl,by kernel_rfl⟩⟩
instance:FO 75 0 0:=zfo
instance:FO 75 2 2:=zfo
instance:KT 77 (some 2):=zkt
instance:ZT 77 [.int .i64 0,.int .i64 0]:=zzt
instance:EQ 77 [.int,.int]:=⟨⟨by kernel_rfl,by kernel_rfl⟩⟩
instance:AT 77 2 3 1:=⟨⟨by kernel_rfl,by kernel_rfl⟩⟩
instance:KT 79 (some 2):=zkt
instance:ZT 79 [.int .i64 0,.int .u64 0]:=zzt
instance:EQ 79 [.int,.int]:=⟨⟨by kernel_rfl,by kernel_rfl⟩⟩
instance:FO 79 0 0:=zfo
instance:FO 79 1 1:=zfo
instance:KT 80 none:=zkt
instance:KT 81 none:=zkt
instance:KT 82 none:=zkt
instance:ST 82 149 (.agg #[.int .i64 0,.int .u64 0]) 2 16:=⟨⟨by kernel_rfl,by kernel_rfl,by kernel_rfl⟩⟩
instance:KT 83 none:=zkt
instance:ZT 85 [.int .i64 0,.int .i64 0,.int .u64 0,.int .u64 0,.int .u64 0,.int .u64 0,.int .u64 0,.int .u64 0,.int .u64 0,.int .u64 0,.int .i64 0,.int .i64 0,.int .i64 0,.int .i64 0,.int .i64 0,.int .i64 0,.int .i64 0,.int .i64 0,.int .u64 0,.int .u64 0,.int .i64 0,.int .i64 0,.slice none 0 0,.pointer none,.slice none 0 0,.pointer none,.slice none 0 0,.slice none 0 0,.int .i64 0,.pointer none]:=zzt
instance:FO 85 0 0:=zfo
instance:FO 85 1 20:=zfo
instance:FO 85 2 21:=zfo
instance:FO 85 3 22:=zfo
instance:FO 85 4 23:=zfo
instance:FO 85 5 24:=zfo
instance:FO 85 6 25:=zfo
instance:FO 85 7 26:=zfo
instance:FO 85 8 27:=zfo
instance:FO 85 9 28:=zfo
instance:FO 85 10 29:=zfo
instance:KT 97 none:=zkt
instance:ST 97 5 (.int .u8 0) 1 1:=⟨⟨by kernel_rfl,by kernel_rfl,by kernel_rfl⟩⟩
instance:KT 102 (some 16):=zkt
instance:ZT 102 [.slice none 0 0,.int .i64 0,.int .i64 0,.slice none 0 0,.int .u64 0,.int .u64 0,.int .u64 0,.int .u64 0,.slice none 0 0,.slice none 0 0,.slice none 0 0,.slice none 0 0,.slice none 0 0,.int .i64 0,.int .u64 0,.int .i64 0]:=zzt
instance:FO 102 0 0:=zfo
instance:FO 102 1 1:=zfo
instance:KT 108 (some 3):=zkt
instance:ZT 108 [.int .u64 0,.int .u64 0,.int .u64 0]:=zzt
instance:FO 108 0 0:=zfo
instance:FO 108 1 1:=zfo
instance:FO 108 2 2:=zfo
instance:KT 109 none:=zkt
instance:KT 111 (some 1):=zkt
instance:ZT 111 [.pointer none]:=zzt
instance:FO 111 0 0:=zfo
instance:KT 112 none:=zkt
instance:KT 113 none:=zkt
instance:KT 114 none:=zkt
instance:KT 115 none:=zkt
instance:KT 116 none:=zkt
instance:KT 117 none:=zkt
instance:KT 118 none:=zkt
instance:KT 119 none:=zkt
instance:KT 120 none:=zkt
instance:ZT 122 [.pointer none,.int .i64 0,.int .i64 0,.int .u64 0,.int .u64 0,.int .u64 0,.int .u64 0,.int .u64 0,.int .u64 0,.int .u64 0,.int .u64 0,.int .i64 0,.int .i64 0,.int .i64 0,.int .i64 0,.int .i64 0,.int .i64 0,.int .i64 0,.int .i64 0,.int .u64 0,.int .u64 0,.pointer none,.pointer none,.pointer none,.slice none 0 0,.pointer none,.pointer none,.pointer none,.pointer none,.pointer none,.pointer none]:=zzt
instance:FO 122 0 0:=zfo
instance:FO 122 1 1:=zfo
instance:FO 122 2 21:=zfo
instance:FO 122 3 22:=zfo
instance:FO 122 4 23:=zfo
instance:FO 122 5 24:=zfo
instance:FO 122 6 25:=zfo
instance:FO 122 7 26:=zfo
instance:FO 122 8 27:=zfo
instance:FO 122 9 28:=zfo
instance:FO 122 10 29:=zfo
instance:FO 122 11 30:=zfo
instance:KT 130 none:=zkt
instance:ZT 132 [.map none,.slice none 0 0]:=zzt
instance:FO 132 0 0:=zfo
instance:FO 132 1 1:=zfo
instance:ZT 134 [.map none,.slice none 0 0,.int .i64 0,.int .i64 0,.slice none 0 0]:=zzt
instance:FO 134 0 0:=zfo
instance:FO 134 1 2:=zfo
instance:FO 134 2 3:=zfo
instance:FO 134 3 4:=zfo
instance:ZT 136 [.int .i64 0,.int .i64 0,.int .i64 0,.int .i64 0,.int .i64 0,.int .i64 0,.int .u64 0,.bool false,.slice none 0 0,.bool false,.bool false,.bool false]:=zzt
instance:FO 136 0 0:=zfo
instance:FO 136 1 7:=zfo
instance:FO 136 2 8:=zfo
instance:FO 136 3 9:=zfo
instance:FO 136 4 10:=zfo
instance:FO 136 5 11:=zfo
instance:ZT 143 [.int .u64 0,.int .u64 0,.int .u64 0,.int .u64 0]:=zzt
instance:FO 143 0 0:=zfo
instance:FO 143 1 1:=zfo
instance:FO 143 2 2:=zfo
instance:FO 143 3 3:=zfo
instance:ZT 145 [.slice none 0 0,.slice none 0 0,.int .i64 0]:=zzt
instance:FO 145 0 0:=zfo
instance:FO 145 1 1:=zfo
instance:FO 145 2 2:=zfo
instance:ZT 147 [.int .u64 0,.int .u64 0,.int .u64 0,.int .u64 0,.int .u64 0]:=zzt
instance:FO 147 0 0:=zfo
instance:FO 147 1 1:=zfo
instance:FO 147 2 2:=zfo
instance:FO 147 3 3:=zfo
instance:FO 147 4 4:=zfo
instance:KT 149 (some 2):=zkt
instance:ZT 149 [.int .i64 0,.int .u64 0]:=zzt
instance:FO 149 0 0:=zfo
instance:FO 149 1 1:=zfo
instance:KT 156 none:=zkt
instance:KT 172 (some 3):=zkt
instance:ZT 172 [.int .i64 0,.int .i64 0,.int .i64 0]:=zzt
instance:FO 172 0 0:=zfo
instance:FO 172 1 1:=zfo
instance:FO 172 2 2:=zfo
instance:FO 192 0 0:=zfo
instance:ZT 194 [.int .u64 0,.int .u64 0,.int .u64 0,.int .u64 0]:=zzt
instance:FO 194 0 0:=zfo
instance:FO 194 1 3:=zfo
instance:FO 196 0 0:=zfo
instance:ZT 198 [.int .i64 0,.int .i64 0]:=zzt
instance:FO 198 0 0:=zfo
instance:FO 198 1 1:=zfo
instance:KT 201 none:=zkt
instance:ZT 203 [.int .i64 0,.slice none 0 0,.int .u64 0,.int .u64 0,.map none]:=zzt
instance:FO 203 0 0:=zfo
instance:FO 203 1 1:=zfo
instance:FO 203 2 2:=zfo
instance:FO 203 3 3:=zfo
instance:FO 203 4 4:=zfo
instance:ZT 211 [.int .i64 0]:=zzt
instance:FO 211 0 0:=zfo
instance:FO 213 0 0:=zfo
instance:FO 213 1 1:=zfo
instance:FO 213 2 2:=zfo
instance:FO 215 0 0:=zfo
instance:ZT 217 [.int .u64 0,.int .u64 0,.int .u64 0,.int .u64 0]:=zzt
instance:FO 217 0 0:=zfo
instance:FO 217 1 3:=zfo
instance:KT 218 none:=zkt
instance:ST 218 321 (.slice none 0 0) 1 24:=⟨⟨by kernel_rfl,by kernel_rfl,by kernel_rfl⟩⟩
instance:ZT 220 [.slice none 0 0,.int .i64 0]:=zzt
instance:FO 220 0 0:=zfo
instance:FO 220 1 1:=zfo
instance:AT 222 2 118 1:=⟨⟨by kernel_rfl,by kernel_rfl⟩⟩
instance:FO 224 0 0:=zfo
instance:ZT 226 [.pointer none,.pointer none]:=zzt
instance:FO 226 0 0:=zfo
instance:ZT 228 [.slice none 0 0,.int .i64 0,.int .i64 0,.int .i64 0]:=zzt
instance:FO 228 0 0:=zfo
instance:FO 228 1 1:=zfo
instance:FO 228 2 2:=zfo
instance:FO 228 3 3:=zfo
instance:ZT 230 [.slice none 0 0,.int .i64 0,.int .i64 0,.int .i64 0]:=zzt
instance:FO 230 0 0:=zfo
instance:FO 230 1 1:=zfo
instance:FO 230 2 2:=zfo
instance:FO 230 3 3:=zfo
instance:ZT 232 [.slice none 0 0,.int .i64 0,.int .i64 0,.int .i64 0]:=zzt
instance:FO 232 0 0:=zfo
instance:FO 232 1 1:=zfo
instance:FO 232 2 2:=zfo
instance:FO 232 3 3:=zfo
instance:ST 268 4 (.bool false) 1 1:=⟨⟨by kernel_rfl,by kernel_rfl,by kernel_rfl⟩⟩
instance:KT 286 (some 1):=zkt
instance:ZT 286 [.nilFunc]:=zzt
instance:FO 286 0 0:=zfo
instance:KT 287 (some 20):=zkt
instance:ZT 287 [.nilFunc,.nilFunc,.nilFunc,.nilFunc,.nilFunc,.nilFunc,.nilFunc,.nilFunc,.nilFunc,.nilFunc,.nilFunc,.nilFunc,.nilFunc,.nilFunc,.nilFunc,.nilFunc,.nilFunc,.nilFunc,.nilFunc,.nilFunc]:=zzt
instance:AT 287 20 286 1:=⟨⟨by kernel_rfl,by kernel_rfl⟩⟩
instance:KT 292 none:=zkt
instance:ST 292 22 (.int .u64 0) 1 8:=⟨⟨by kernel_rfl,by kernel_rfl,by kernel_rfl⟩⟩
instance:KT 311 none:=zkt
instance:KT 321 none:=zkt
instance:ST 321 323 (.agg #[.int .i64 0,.int .i64 0]) 2 16:=⟨⟨by kernel_rfl,by kernel_rfl,by kernel_rfl⟩⟩
instance:KT 323 (some 2):=zkt
instance:ZT 323 [.int .i64 0,.int .i64 0]:=zzt
instance:FO 323 0 0:=zfo
instance:FO 323 1 1:=zfo
instance:ST 332 335 (.agg #[.int .i64 0,.int .i64 0,.int .i64 0]) 3 24:=⟨⟨by kernel_rfl,by kernel_rfl,by kernel_rfl⟩⟩
instance:ZT 335 [.int .i64 0,.int .i64 0,.int .i64 0]:=zzt
instance:FO 335 0 0:=zfo
instance:FO 335 1 1:=zfo
instance:FO 335 2 2:=zfo
instance:ST 350 356 (.agg #[.int .i64 0,.nilFunc,.nilFunc]) 3 24:=⟨⟨by kernel_rfl,by kernel_rfl,by kernel_rfl⟩⟩
instance:KT 353 none:=zkt
instance:KT 354 none:=zkt
instance:KT 356 (some 3):=zkt
instance:ZT 356 [.int .i64 0,.nilFunc,.nilFunc]:=zzt
instance:FO 356 0 0:=zfo
instance:FO 356 1 1:=zfo
instance:FO 356 2 2:=zfo
instance:ZT 373 [.bool false,.bool false]:=zzt
instance:AT 373 2 4 1:=⟨⟨by kernel_rfl,by kernel_rfl⟩⟩
instance:ST 385 311 (.nilFunc) 1 8:=⟨⟨by kernel_rfl,by kernel_rfl,by kernel_rfl⟩⟩
instance:ST 386 390 (.agg #[.nilFunc,.int .i64 0]) 2 16:=⟨⟨by kernel_rfl,by kernel_rfl,by kernel_rfl⟩⟩
instance:KT 388 none:=zkt
instance:KT 390 (some 2):=zkt
instance:ZT 390 [.nilFunc,.int .i64 0]:=zzt
instance:FO 390 0 0:=zfo
instance:FO 390 1 1:=zfo
instance:FK 8:=zfk
instance:FK 9:=zfk
instance:FK 10:=zfk
instance:FK 12:=zfk
instance:FK 13:=zfk
instance:FK 20:=zfk
instance:FK 21:=zfk
instance:FK 22:=zfk
instance:FK 23:=zfk
instance:FK 24:=zfk
instance:FK 26:=zfk
instance:FK 27:=zfk
instance:FK 34:=zfk
instance:FK 35:=zfk
instance:FK 36:=zfk
instance:FK 37:=zfk
instance:FK 38:=zfk
instance:FK 39:=zfk
instance:FK 40:=zfk
instance:FK 41:=zfk
instance:FK 42:=zfk
instance:FK 43:=zfk
instance:FK 44:=zfk
instance:FK 45:=zfk
instance:FK 46:=zfk
instance:FK 47:=zfk
instance:FK 48:=zfk
instance:FK 49:=zfk
instance:FK 50:=zfk
instance:FK 51:=zfk
instance:FK 52:=zfk
instance:FK 54:=zfk
instance:FK 58:=zfk
instance:FK 59:=zfk
instance:FK 60:=zfk
instance:FK 61:=zfk
instance:FK 62:=zfk
instance:FK 63:=zfk
instance:FK 64:=zfk
instance:FK 65:=zfk
instance:FK 66:=zfk
instance:FK 67:=zfk
instance:FK 68:=zfk
instance:FK 69:=zfk
instance:FK 70:=zfk
instance:FK 71:=zfk
instance:FK 72:=zfk
instance:FK 73:=zfk
instance:FK 74:=zfk
instance:FK 75:=zfk
instance:FK 76:=zfk
instance:FK 78:=zfk
instance:FK 79:=zfk
instance:FK 80:=zfk
instance:FK 81:=zfk
instance:FK 82:=zfk
instance:FK 83:=zfk
instance:FK 84:=zfk
instance:FK 85:=zfk
instance:FK 86:=zfk
instance:FK 87:=zfk
instance:FK 88:=zfk
instance:FK 89:=zfk
instance:FK 90:=zfk
instance:FK 91:=zfk
instance:FK 92:=zfk
instance:FK 93:=zfk
instance:FK 98:=zfk
instance:FK 99:=zfk
instance:FK 100:=zfk
instance:FK 101:=zfk
instance:FK 102:=zfk
instance:FK 103:=zfk
instance:FK 104:=zfk
instance:FK 105:=zfk
instance:FK 106:=zfk
instance:FK 107:=zfk
instance:FK 108:=zfk
instance:FK 109:=zfk
instance:FK 110:=zfk
instance:FK 111:=zfk
instance:FK 112:=zfk
instance:FK 113:=zfk
instance:FK 114:=zfk
instance:FK 115:=zfk
instance:FK 116:=zfk
instance:FK 117:=zfk
instance:FK 119:=zfk
instance:FK 120:=zfk
instance:FK 121:=zfk
instance:FK 122:=zfk
instance:FK 123:=zfk
instance:FK 124:=zfk
instance:FK 125:=zfk
instance:FK 126:=zfk
instance:FK 127:=zfk
instance:FK 128:=zfk
instance:FK 129:=zfk
instance:FK 130:=zfk
instance:FK 131:=zfk
instance:FK 132:=zfk
instance:FK 133:=zfk
instance:FK 134:=zfk
instance:FK 135:=zfk
instance:FK 136:=zfk
instance:FK 137:=zfk
instance:FK 138:=zfk
instance:FK 139:=zfk
instance:FK 140:=zfk
instance:FK 141:=zfk
instance:FK 142:=zfk
instance:FK 143:=zfk
instance:FK 144:=zfk
instance:FK 145:=zfk
instance:FK 146:=zfk
instance:FK 147:=zfk
instance:FK 148:=zfk
instance:FK 149:=zfk
instance:FK 150:=zfk
instance:FK 151:=zfk
instance:FK 152:=zfk
instance:FK 153:=zfk
instance:FK 154:=zfk
instance:FK 155:=zfk
instance:FK 156:=zfk
instance:FK 157:=zfk
instance:FK 160:=zfk
instance:FK 161:=zfk
instance:FK 162:=zfk
instance:FK 163:=zfk
instance:FK 164:=zfk
instance:FK 165:=zfk
instance:FK 166:=zfk
instance:FK 167:=zfk
instance:FK 168:=zfk
instance:FK 169:=zfk
instance:FK 170:=zfk
instance:FK 171:=zfk
instance:FK 172:=zfk
instance:FK 173:=zfk
instance:FK 174:=zfk
instance:FK 175:=zfk
instance:FK 176:=zfk
instance:FK 177:=zfk
instance:FK 178:=zfk
instance:FK 179:=zfk
instance:FK 180:=zfk
instance:FK 181:=zfk
instance:FK 182:=zfk
instance:FK 183:=zfk
instance:FK 184:=zfk
instance:FK 185:=zfk
instance:FK 186:=zfk
instance:FK 187:=zfk
instance:FK 188:=zfk
instance:FK 189:=zfk
instance:FK 190:=zfk
instance:FK 191:=zfk
instance:FK 192:=zfk
instance:FK 193:=zfk
instance:FK 194:=zfk
instance:FK 195:=zfk
instance:FK 196:=zfk
instance:FK 197:=zfk
instance:FK 198:=zfk
instance:FK 199:=zfk
instance:FK 200:=zfk
instance:FK 201:=zfk
instance:FK 202:=zfk
instance:FK 203:=zfk
instance:FK 204:=zfk
instance:FK 205:=zfk
instance:FK 206:=zfk
instance:FK 207:=zfk
instance:FK 208:=zfk
instance:FK 209:=zfk
instance:FK 210:=zfk
instance:FK 211:=zfk
instance:FK 212:=zfk
instance:FK 213:=zfk
instance:FK 214:=zfk
instance:FK 215:=zfk
instance:FK 216:=zfk
instance:FK 217:=zfk
instance:FK 218:=zfk
instance:FK 219:=zfk
instance:FK 220:=zfk
instance:FK 221:=zfk
instance:FK 222:=zfk
instance:FK 223:=zfk
instance:FK 224:=zfk
instance:FK 236:=zfk
instance:FK 237:=zfk
instance:FK 240:=zfk
instance:FK 241:=zfk
instance:FK 242:=zfk
instance:FK 243:=zfk
instance:FK 244:=zfk
instance:FK 245:=zfk
instance:FK 246:=zfk
instance:FK 247:=zfk
instance:FK 248:=zfk
instance:FK 249:=zfk
instance:FK 250:=zfk
instance:FK 251:=zfk
instance:FK 252:=zfk
instance:FK 253:=zfk
instance:FK 254:=zfk
instance:FK 255:=zfk
instance:FK 256:=zfk
instance:FK 257:=zfk
instance:FK 258:=zfk
instance:FK 259:=zfk
instance:FK 260:=zfk
instance:FK 261:=zfk
instance:FK 262:=zfk
instance:FK 263:=zfk
instance:FK 264:=zfk
instance:FK 265:=zfk
instance:FK 266:=zfk
instance:FK 267:=zfk
instance:FK 268:=zfk
instance:FK 269:=zfk
instance:FK 270:=zfk
instance:FK 271:=zfk
instance:FK 272:=zfk
instance:FK 273:=zfk
instance:FK 274:=zfk
instance:FK 275:=zfk
instance:FK 276:=zfk
instance:FK 277:=zfk
instance:FK 278:=zfk
instance:FK 279:=zfk
instance:FK 280:=zfk
instance:FK 281:=zfk
instance:FK 282:=zfk
instance:FK 283:=zfk
instance:FK 284:=zfk
instance:FK 285:=zfk
instance:FK 286:=zfk
instance:FK 287:=zfk
instance:FK 288:=zfk
instance:FK 289:=zfk
instance:FK 290:=zfk
instance:FK 291:=zfk
instance:FK 292:=zfk
instance:FK 293:=zfk
instance:FK 294:=zfk
instance:FK 295:=zfk
instance:FK 296:=zfk
instance:FK 297:=zfk
instance:FK 298:=zfk
instance:FK 299:=zfk
instance:FK 300:=zfk
instance:FK 307:=zfk
instance:FK 308:=zfk
instance:FK 309:=zfk
instance:FK 310:=zfk
instance:FK 311:=zfk
instance:FK 313:=zfk
instance:FK 314:=zfk
instance:FK 315:=zfk
instance:FK 316:=zfk
instance:FK 317:=zfk
instance:FK 318:=zfk
instance:FK 319:=zfk
instance:FK 320:=zfk
instance:FK 321:=zfk
instance:FK 322:=zfk
instance:FK 323:=zfk
instance:FK 324:=zfk
instance:FK 325:=zfk
instance:FK 326:=zfk
instance:FK 327:=zfk
instance:FK 328:=zfk
instance:FK 329:=zfk
instance:FK 332:=zfk
instance:FK 333:=zfk
instance:FK 334:=zfk
instance:FK 335:=zfk
instance:FK 336:=zfk
instance:FK 337:=zfk
instance:FK 340:=zfk
instance:FK 341:=zfk
instance:FK 342:=zfk
instance:FK 343:=zfk
instance:FK 344:=zfk
instance:FK 345:=zfk
instance:FK 346:=zfk
instance:FK 347:=zfk
instance:FK 348:=zfk
instance:FK 349:=zfk
instance:FK 350:=zfk
instance:FK 351:=zfk
instance:FK 352:=zfk
instance:FK 353:=zfk
instance:FK 354:=zfk
instance:FK 356:=zfk
instance:FK 357:=zfk
instance:FK 358:=zfk
end
section
open Go.RowKit
section
variable {ops:Array Oper} {Q:Exit→Act→World→Prop} {rest:List Oper} {o:Oper} {a:Act} {w:World} {n:Nat} {l:List (Nat × Value)} {L:List Asn}
def Wanted (o:Oper) (ops:Array Oper) (l:List (Nat × Value)):Option Bool :=
 match o.guard with
 | none=>some true
 | some (j,want)=>match ((ops[j]?).bind (·.dst)).bind (look l) with
  | some (.bool b)=>some (b == want)
  | some _=>some false
  | none=>none
theorem Fr.wanted {x:Bool} (F:Fr a n l) (h:Wanted o ops l=some x):Region.wanted o (yielded ops a.tmps)=x:=by
 unfold Wanted at h
 unfold Region.wanted
 cases hg:o.guard with
 | none=>rw[hg] at h;exact Option.some.inj h
 | some p =>
  obtain ⟨j,want⟩:=p
  rw[hg] at h
  simp only at h ⊢
  unfold yielded
  cases hj:(ops[j]?).bind (·.dst) with
  | none=>rw[hj] at h;simp at h
  | some d =>
   rw[hj] at h
   simp only[Option.bind_some] at h ⊢
   cases hl:look l d with
   | none=>rw[hl] at h;simp at h
   | some u =>
    rw[hl] at h
    obtain ⟨h1,h2⟩:=F.val d u hl
    have h3:a.tmps[d]? = some u:=by
     have hs:d<a.tmps.size:=by rw[F.size];exact h1
     have:a.tmps.getD d undef=a.tmps[d]:=by simp[Array.getD,hs]
     rw[Array.getElem?_eq_getElem hs,← this,h2]
    rw[h3]
    cases u<;>simp_all
theorem sx_val (F:Fr a n l) (hw:Wanted o ops l=some true) {d:Nat} (hd:o.dst=some d) (hn:Nat.ble (d+1) n=true) {v:Value} {w':World} (hr:(execOp a.eval o).run Tryz.prog w=.ok (.value v) w')
  (h:∀ a',Fr a' n ((d,v)::l)→wpList Tryz.prog ops Q rest a' w'):wpList Tryz.prog ops Q (o::rest) a w:=by
 unfold wpList
 rw[if_pos (F.wanted hw)]
 refine .inl ?_
 unfold Oper.wp
 rw[hr]
 unfold Oper.upon
 rw[hd]
 exact h _ (F.put d v hn)
theorem sx_skip (F:Fr a n l) (hw:Wanted o ops l=some false) {d:Nat} (hd:o.dst=some d) (hn:Nat.ble (d+1) n=true)
  (h:∀ a',Fr a' n ((d,undef)::l)→wpList Tryz.prog ops Q rest a' w):wpList Tryz.prog ops Q (o::rest) a w:=by
 unfold wpList
 rw[if_neg (by rw[F.wanted hw];simp),hd]
 exact h _ (F.put d undef hn)
theorem sx_skip0 (F:Fr a n l) (hw:Wanted o ops l=some false) (hd:o.dst=none)
  (h:wpList Tryz.prog ops Q rest a w):wpList Tryz.prog ops Q (o::rest) a w:=by
 unfold wpList
 rw[if_neg (by rw[F.wanted hw];simp),hd]
 exact h
theorem sx_nil (h:Q .normal a w):wpList Tryz.prog ops Q [] a w:=h
def pureBin (b:BinOp) (u v:Value):Option Value :=
 match u,v with
 | .int k x,.int k' y=>if k=k' then
   match b with
   | .eql=>some (.bool (decide (x=y)))
   | .neq=>some (.bool (decide (x≠y)))
   | .lss=>some (.bool (decide (x<y)))
   | .leq=>some (.bool (decide (x≤y)))
   | .gtr=>some (.bool (decide (y<x)))
   | .geq=>some (.bool (decide (y≤x)))
   | _=>none
  else none
 | .string x,.string y =>
  match b with
  | .eql=>some (.bool (x.toList == y.toList))
  | .neq=>some (.bool (!(x.toList == y.toList)))
  | _=>none
 | _,_=>none
def pureOp (op:Op) (l:List (Nat × Value)):Option Value :=
 match op with
 | .move x=>evl l x
 | .assign x=>evl l x
 | .binOp b _ x y _=>match evl l x,evl l y with|some u,some v=>pureBin b u v|_,_=>none
 | .unOp .not _ x=>match evl l x with|some (.bool b)=>some (.bool (!b))|_=>none
 | .nilCheck x=>match evl l x with|some (.pointer (some p))=>some (.pointer (some p))|some (.func (.func f) u v)=>some (.func (.func f) u v)|_=>none
 | .makeFunc f u v=>match evls l u.toList,evls l v.toList with|some us,some vs=>some (.func f us.toArray vs.toArray)|_,_=>none
 | .pick c x y=>match evl l c with|some (.bool true)=>evl l x|some (.bool false)=>evl l y|_=>none
 | _=>none
theorem pureBin_run (b:BinOp) (t:TypeId) (x y:Operand) {u v r:Value} (h:pureBin b u v=some r) (w:World):(do eqGuard b t x y u v;binOp b t u v:Sem Value).run Tryz.prog w=.ok r w:=by
 unfold pureBin at h
 split at h
 ·split at h
  ·rename_i k x y k' x' y' hk
   subst hk
   cases b<;>simp only[reduceCtorEq] at h<;>(obtain rfl:=Option.some.inj h)<;>simp[eqGuard,binOp,Op.intCmp]<;>rfl
  ·cases h
 ·cases b<;>simp only[reduceCtorEq] at h<;>(obtain rfl:=Option.some.inj h)<;>simp[eqGuard,binOp,Op.stringOp]
 ·cases h
theorem pure_run (F:Fr a n l) {v:Value} (h:pureOp o.op l=some v):(execOp a.eval o).run Tryz.prog w=.ok (.value v) w:=by
 unfold pureOp at h
 unfold execOp
 split at h
 ·rename_i x e;rw[e];simp[F.eval h]
 ·rename_i x e;rw[e];simp[F.eval h]
 ·rename_i b t x y ty e
  rw[e]
  split at h
  ·rename_i u v h1 h2
   simp only[F.eval h1,F.eval h2]
   have:=pureBin_run b t x y h w
   rw[Sem.run_bind,this];rfl
  ·cases h
 ·rename_i t x e
  rw[e]
  split at h
  ·rename_i b h1
   obtain rfl:=Option.some.inj h
   simp[F.eval h1,Op.unary]
  ·cases h
 ·rename_i x e
  rw[e]
  split at h
  ·rename_i p h1
   obtain rfl:=Option.some.inj h
   simp[F.eval h1]
  ·rename_i p u v h1
   obtain rfl:=Option.some.inj h
   simp[F.eval h1]
  ·cases h
 ·rename_i f u v e
  rw[e]
  split at h
  ·rename_i us vs h1 h2
   obtain rfl:=Option.some.inj h
   have e1:u.map a.eval=us.toArray:=by have:=F.evals h1;apply Array.toList_inj.1;simpa using this
   have e2:v.map a.eval=vs.toArray:=by have:=F.evals h2;apply Array.toList_inj.1;simpa using this
   simp[Instr.makeFunc,e1,e2]
  ·cases h
 ·rename_i c x y e
  rw[e]
  split at h
  ·rename_i h1
   simp[F.eval h1,F.eval h,asBool]
  ·rename_i h1
   simp[F.eval h1,F.eval h,asBool]
  ·cases h
 ·cases h
theorem bin_run (F:Fr a n l) {b:BinOp} {t ty:TypeId} {x y:Operand} (ho:o.op=.binOp b t x y ty) {k:IntKind} {m p:Int} (hx:evl l x=some (.int k m)) (hy:evl l y=some (.int k p)) {r:Value}
  (h:(binOp b t (.int k m) (.int k p)).run Tryz.prog w=.ok r w):(execOp a.eval o).run Tryz.prog w=.ok (.value r) w:=by
 unfold execOp
 rw[ho]
 have h1:(eqGuard b t x y (.int k m) (.int k p)).run Tryz.prog w=.ok () w:=by unfold eqGuard;cases b<;>simp[Sem.run_pure]
 simp only[F.eval hx,F.eval hy,Sem.run_bind,h1,Result.andThen_ok,h]
 rfl
theorem u64_in {x:Int} (h1:0≤x) (h2:x≤18446744073709551615):IntKind.u64.wrap x=x:=by
 have:=Int.emod_eq_of_lt h1 (show x<18446744073709551616 by omega)
 first|simpa[IntKind.wrap,IntKind.signed,IntKind.bits] using this|(unfold IntKind.wrap;simp[IntKind.signed,IntKind.bits];omega)
theorem eq_run (F:Fr a n l) {t ty:TypeId} {x y:Operand} {neg:Bool} (ho:o.op=.binOp (if neg then .neq else .eql) t x y ty) {xs ys:List Value} (hx:evl l x=some (.agg xs.toArray)) (hy:evl l y=some (.agg ys.toArray)) {ks:List Sc} [he:EQ t ks] {r:Bool} (hr:cellsEq ks xs ys=some r) :
  (execOp a.eval o).run Tryz.prog w=.ok (.value (.bool (neg ^^ r))) w:=by
 unfold execOp
 rw[ho]
 cases neg
 ·simp only[Bool.false_eq_true,if_false,F.eval hx,F.eval hy,Sem.run_bind,run_eqGuard_agg w .eql t x y _ _ he.k.2,Result.andThen_ok,run_eql_struct w t,run_eq_flat hr]
  simp
 ·simp only[if_true,F.eval hx,F.eval hy,Sem.run_bind,run_eqGuard_agg w .neq t x y _ _ he.k.2,Result.andThen_ok,run_neq_struct w t,run_eq_flat hr]
  simp
def guardOf (o:Oper) (ops:Array Oper) (l:List (Nat × Value)):Option Value:=match o.guard with|some (j,_)=>((ops[j]?).bind (·.dst)).bind (look l)|none=>none
theorem sx_guardb (F:Fr a n l) {b:Bool} (hg:guardOf o ops l=some (.bool b)) (h1:b=true→wpList Tryz.prog ops Q (o::rest) a w) (h2:b=false→wpList Tryz.prog ops Q (o::rest) a w):wpList Tryz.prog ops Q (o::rest) a w:=by
 cases b
 ·exact h2 rfl
 ·exact h1 rfl
theorem cell_pt {L':List Asn} {b i:Nat} {cs:List Value} {t':TypeId} {v:Value} (M:Mem w L) (hp:Pull L (pt b cs t') L') (hv:cs[i]? = some v):w.cell? ⟨b,i,none⟩=some v:=by
 have:=M.pt hp
 simp[World.cell?,this,hv]
theorem free_pt {L':List Asn} {b i:Nat} {cs:List Value} {t':TypeId} (M:Mem w L) (hp:Pull L (pt b cs t') L'):w.frozen? ⟨b,i,none⟩=false:=by
 have:=M.pt hp
 simp[World.frozen?,this]
theorem load_run1 (F:Fr a n l) (M:Mem w L) {t:TypeId} {x:Operand} (ho:o.op=.load t x) {b i:Nat} (hx:evl l x=some (.pointer (some ⟨b,i,none⟩))) (hkt:KT t none) {L':List Asn} {cs:List Value} {t':TypeId} (hp:Pull L (pt b cs t') L')
  {v:Value} (hv:cs[i]? = some v):(execOp a.eval o).run Tryz.prog w=.ok (.value v) w:=by
 unfold execOp
 rw[ho]
 simp[F.eval hx,Instr.loadAt,Instr.sureAddr,run_loadVar_one (cell_pt M hp hv)]
theorem load_runA (F:Fr a n l) (M:Mem w L) {t:TypeId} {x:Operand} (ho:o.op=.load t x) {b:Nat} (hx:evl l x=some (.pointer (some ⟨b,0,none⟩))) {k:Nat} (hkt:KT t (some k)) {L':List Asn} {cs:List Value} {t':TypeId} (hp:Pull L (pt b cs t') L')
  (hk:cs.length=k):(execOp a.eval o).run Tryz.prog w=.ok (.value (.agg cs.toArray)) w:=by
 unfold execOp
 rw[ho]
 simp[F.eval hx,Instr.loadAt,Instr.sureAddr,run_loadVar_agg hk (fun j u hu=>by rw[Nat.zero_add];exact cell_pt M hp hu)]
theorem load_runS (F:Fr a n l) (M:Mem w L) {t:TypeId} {x:Operand} (ho:o.op=.load t x) {b i:Nat} (hx:evl l x=some (.pointer (some ⟨b,i,none⟩))) {k:Nat} (hkt:KT t (some k)) {L':List Asn} {cs:List Value} {t':TypeId} (hp:Pull L (pt b cs t') L')
  {ds:List Value} (hd:(cs.drop i).take k=ds) (hk:ds.length=k):(execOp a.eval o).run Tryz.prog w=.ok (.value (.agg ds.toArray)) w:=by
 unfold execOp
 rw[ho]
 simp only[F.eval hx,Instr.loadAt,Instr.sureAddr,Sem.run_bind,Sem.run_pure,Result.andThen_ok]
 rw[run_loadVar_agg hk (fun j u hu=>cell_pt M hp (by
  rw[← hd] at hu
  rw[List.getElem?_take] at hu
  split at hu
  ·rwa [List.getElem?_drop] at hu
  ·cases hu))]
 rfl
theorem setCell_row {b i:Nat} {cs:List Value} {t:TypeId} {v:Value} (h:w.heap[b]? = some (.cells cs.toArray t (0,0))):w.setCell ⟨b,i,none⟩ v=w.setRow b (cs.set i v).toArray:=by
 rw[setCell_eq_setRow w b i _ t (0,0) v h];simp
theorem all_one {cs:List Value} (h:cs.all (·.oneCell')=true):∀ v∈cs,v.oneCell'=true:=fun v hv=>List.all_eq_true.1 h v hv
theorem run_callFunc (f:FuncId) [hf:FK f] (vs:Array Value) (w:World):(callFunc f vs).run Tryz.prog w=.ok (.enter f vs) w:=by
 have h:=hf.k
 unfold callFunc
 cases hq:Tryz.prog.funcs[f]? with
 | none=>rw[hq] at h;cases h
 | some fn =>
  rw[hq] at h
  simp only[Bool.and_eq_true,Bool.not_eq_true'] at h
  obtain ⟨h1,h2⟩:=h
  have h3:fn.body.isNone=false:=by cases hb:fn.body<;>simp_all
  simp only[Sem.run_bind,program,Sem.run,Result.andThen_ok,hq,h1,h3,Bool.false_eq_true,if_false]
  rfl
theorem sx_region {id:Nat} {os:List Oper} (h:wpList Tryz.prog os.toArray Q os a w):(Code.region id os.toArray false).wp Tryz.prog Q a w:=wp_region_lit h
section
variable {c:Operand} {x y:Code}
theorem sx_cond_t (F:Fr a n l) (hc:evl l c=some (.bool true)) (h:x.wp Tryz.prog Q a w):(Code.cond c x y).wp Tryz.prog Q a w:=wp_cond_true (F.eval hc) h
theorem sx_cond_f (F:Fr a n l) (hc:evl l c=some (.bool false)) (h:y.wp Tryz.prog Q a w):(Code.cond c x y).wp Tryz.prog Q a w:=wp_cond_false (F.eval hc) h
theorem sx_cond_b (F:Fr a n l) {b:Bool} (hc:evl l c=some (.bool b)) (h1:b=true→x.wp Tryz.prog Q a w) (h2:b=false→y.wp Tryz.prog Q a w):(Code.cond c x y).wp Tryz.prog Q a w:=wp_cond_split (F.eval hc) h1 h2
end
inductive Res (L:List Asn) (l:List (Nat × Value)):ResultVar→Value→Prop where
 | tmp {t:Tmp} {v:Value}:look l t=some v→Res L l (.tmp t) v
 | one {t:Tmp} {ty:TypeId} {b i:Nat} {L':List Asn} {cs:List Value} {t':TypeId} {v:Value}:look l t=some (.pointer (some ⟨b,i,none⟩))→KT ty none→Pull L (pt b cs t') L'→cs[i]? = some v→Res L l (.cell t ty) v
 | agg {t:Tmp} {ty:TypeId} {b k:Nat} {L':List Asn} {cs:List Value} {t':TypeId}:look l t=some (.pointer (some ⟨b,0,none⟩))→KT ty (some k)→Pull L (pt b cs t') L'→cs.length=k→Res L l (.cell t ty) (.agg cs.toArray)
inductive Ress (L:List Asn) (l:List (Nat × Value)):List ResultVar→List Value→Prop where
 | nil:Ress L l [] []
 | cons {r:ResultVar} {v:Value} {rs:List ResultVar} {vs:List Value}:Res L l r v→Ress L l rs vs→Ress L l (r::rs) (v::vs)
theorem run_mapM_list {α β:Type} (f:α→Sem β) (P:Program) (w:World):∀ (xs:List α) (ys:List β),xs.length=ys.length→(∀ (i:Nat) (x:α) (y:β),xs[i]? = some x→ys[i]? = some y→(f x).run P w=.ok y w)→(xs.mapM f).run P w=.ok ys w
 | [],[],_,_=>by simp
 | x::xs,y::ys,h,hf=>by
  have h1:=hf 0 x y rfl rfl
  have h2:=run_mapM_list f P w xs ys (by simpa using h) fun i x y hx hy=>hf (i+1) x y (by simpa using hx) (by simpa using hy)
  simp[List.mapM_cons,h1,h2]
 | [],_::_,h,_=>by simp at h
 | _::_,[],h,_=>by simp at h
def tupOf:List Value→Value
 | [v]=>v
 | vs=>.tuple vs.toArray
def res1 (tmps:Array Value) (r:ResultVar):Sem Value :=
 match r with
 | .tmp t=>pure (tmps.getD t undef)
 | .cell p t=>do loadVar t (← asAddr (tmps.getD p undef))
theorem Ress.run {fn:Func} {rs:List ResultVar} {vs:List Value} (F:Fr a n l) (M:Mem w L) (h:Ress L l rs vs) (hf:fn.results=rs.toArray):(results fn a.tmps).run Tryz.prog w=.ok (tupOf vs) w:=by
 have hlen:rs.length=vs.length:=by
  clear hf;induction h with
  | nil=>rfl
  | cons _ _ ih=>simp[ih]
 have hev:∀ (i:Nat) (r:ResultVar) (v:Value),rs[i]? = some r→vs[i]? = some v→(res1 a.tmps r).run Tryz.prog w=.ok v w:=by
  clear hf hlen
  induction h with
  | nil=>intro i r v h;simp at h
  | cons h1 _ ih =>
   intro i r v hr hv
   cases i with
   | succ i=>exact ih i r v (by simpa using hr) (by simpa using hv)
   | zero =>
    simp at hr hv
    subst hr;subst hv
    cases h1 with
    | tmp h=>simp only[res1,(F.val _ _ h).2,Sem.run_pure]
    | one h hk hp hc=>simp only[res1,(F.val _ _ h).2,asAddr,Sem.run_bind,Sem.run_pure,Result.andThen_ok,run_loadVar_one (cell_pt M hp hc)]
    | agg h hk hp hc=>simp only[res1,(F.val _ _ h).2,asAddr,Sem.run_bind,Sem.run_pure,Result.andThen_ok,run_loadVar_agg hc (fun j u hu=>by rw[Nat.zero_add];exact cell_pt M hp hu)]
 have hm:=run_mapM_list (res1 a.tmps) Tryz.prog w rs vs hlen hev
 have e:results fn a.tmps=(do let vs ← rs.toArray.mapM (res1 a.tmps);pure (if h:vs.size=1 then vs[0] else .tuple vs)):=by
  unfold results;rw[hf];rfl
 rw[e,List.mapM_toArray,Sem.run_bind]
 have hm2:(List.toArray <$> List.mapM (res1 a.tmps) rs).run Tryz.prog w=.ok vs.toArray w:=by
  rw[Sem.run_map,hm];rfl
 rw[hm2]
 simp only[Result.andThen_ok]
 match vs with
 | []=>simp[tupOf]
 | [v]=>simp[tupOf]
 | v::u::r=>simp[tupOf]
theorem sx_end {fn:Func} {R:Ending→World→Prop} {rs:List ResultVar} {vs:List Value} (F:Fr a n l) (M:Mem w L) (hf:fn.results=rs.toArray) (hr:Ress L l rs vs) {v:Value} (hv:tupOf vs=v) (hR:R (.returned v) w):bodyPost Tryz.prog fn R .normal a w :=
 bodyPost_end (by rw[hr.run F M hf,hv]) F.ds hR
theorem sx_ret {fn:Func} {R:Ending→World→Prop} {rs:List ResultVar} {vs:List Value} (F:Fr a n l) (M:Mem w L) (hf:fn.results=rs.toArray) (hr:Ress L l rs vs) {v:Value} (hv:tupOf vs=v) (hR:R (.returned v) w):bodyPost Tryz.prog fn R .ret a w :=
 bodyPost_ret (by rw[hr.run F M hf,hv]) F.ds hR
end
end
end Go.Proofs.YtjbfcacmdahnhaaGreat
