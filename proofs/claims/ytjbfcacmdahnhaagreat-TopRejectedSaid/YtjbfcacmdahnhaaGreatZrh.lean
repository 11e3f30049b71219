import Derived.Test.YtjbfcacmdahnhaaGreatZrg
set_option linter.unusedVariables false
set_option linter.unusedSimpArgs false
set_option linter.unusedSectionVars false
set_option maxRecDepth 100000
set_option maxHeartbeats 8000000
namespace Go.Proofs.YtjbfcacmdahnhaaGreat
section
open Go.RowKit Go.Maps
theorem laidOutP:laidOutB Tryz.prog=true:=by kernel_rfl
theorem stepKeyed:Keyed Tryz.prog 411:=Keyed.of_law (deep_law_laid laidOutP (m:=3) (by decide) (of_decide_eq_true (by kernel_rfl)) (by kernel_rfl) (by kernel_rfl))
def stepV (a b:Int):Value:=.agg #[.int .i64 a,.int .i64 b]
theorem stepKey (a b:Int) (ha:(Lit.int .i64 a).wf=true) (hb:(Lit.int .i64 b).wf=true):∃ l,keyOf Tryz.prog 411 (stepV a b)=some l:=by
 have h1:Program.keyType Tryz.prog 411=true:=by kernel_rfl
 have h2:(stepV a b).formed Tryz.prog 411=true:=by kernel_rfl
 have h3:Tryz.prog.keyLits (Tryz.prog.types.size+1) 411 (stepV a b).cells.toList=some [.int .i64 a,.int .i64 b]:=by
  have c1:Tryz.prog.cellsOf 411=2:=by kernel_rfl
  have c2:Tryz.prog.cellsOf 3=1:=by kernel_rfl
  have fuel:∃ n,Tryz.prog.types.size+1=n+2:=⟨Tryz.prog.types.size - 1,by have:Tryz.prog.types.size≠0:=(by decide +kernel:Tryz.prog.types.size≠0);omega⟩
  obtain ⟨n,hn⟩:=fuel
  rw[hn]
  simp[Program.keyLits,Tryz.underlying411,Tryz.underlying3,stepV,Value.cells,c1,c2,ha,hb,List.mapM_cons]
 refine⟨.string (keyBytes [.int .i64 a,.int .i64 b]),?_⟩
 unfold keyOf
 rw[Tryz.underlying411]
 simp only[h1,h2,h3,Bool.and_self,if_true,Option.map_some]
theorem wf_small (n:Int) (h0:0≤n) (h1:n≤100):(Lit.int .i64 n).wf=true:=WalkArith.wf_i64 (by omega)
theorem run_build_step (A:Act) (o:Oper) (a b:Int) (ho:o.op=.build 411 #[(0,.const (.int .i64 a)),(1,.const (.int .i64 b))]) (w':World):(execOp A.eval o).run Tryz.prog w'=.ok (.value (stepV a b)) w':=by
 have hb:Tryz.prog.built 411 [(0,.int .i64 a),(1,.int .i64 b)]=some #[.int .i64 a,.int .i64 b]:=by kernel_rfl
 unfold execOp
 simp only[ho]
 simp[Act.eval,run_build w' _ _ _ hb,stepV]
def stepMap:List (Value × Value):=[(stepV 1 1,.int .i64 2),(stepV 2 2,.int .i64 3),(stepV 3 3,.int .i64 4),(stepV 4 4,.int .i64 5),(stepV 5 5,.int .i64 6),(stepV 2 6,.int .i64 7),(stepV 2 7,.int .i64 3),(stepV 3 7,.int .i64 3),(stepV 4 7,.int .i64 4),(stepV 5 7,.int .i64 4)]
def stepKs:List Lk:=.make::(stepMap.flatMap fun p=>[.val,.ins p.1 p.2])++[.val,.val]
set_option maxHeartbeats 1000000 in
theorem table_any (w:World) :
  Calls Tryz.prog 312 #[] w fun e w'=>e=.returned (.map (some w.heap.size))∧Below w.heap.size w w'∧MapIs Tryz.prog 411 w' w.heap.size stepMap:=by
 go_enter Tryz.func312,Tryz.ntmps312
 go_wp2_with fail
 refine wp_region_map Tryz.underlying408 stepKeyed 1 0 stepKs #[.map (some w.heap.size),.map (some w.heap.size),stepV 1 1,stepV 2 2,stepV 3 3,stepV 4 4,stepV 5 5,stepV 2 6,stepV 2 7,stepV 3 7,stepV 4 7,stepV 5 7,.map (some w.heap.size)] (by kernel_rfl) (by kernel_rfl) (by kernel_rfl) rfl ?_ rfl ?_ ?_ (by decide) ?_
 ·exact rest_of [(0,.map (some w.heap.size)),(1,.map (some w.heap.size)),(2,stepV 1 1),(3,stepV 2 2),(4,stepV 3 3),(5,stepV 4 4),(6,stepV 5 5),(7,stepV 2 6),(8,stepV 2 7),(9,stepV 3 7),(10,stepV 4 7),(11,stepV 5 7),(12,.map (some w.heap.size))] (by kernel_rfl) [0,1,2,3,4,5,6,7,8,9,10,11,12] rfl (by kernel_rfl)
 ·have val:∀ {o:Oper} {v:Value} {d:Tmp} {A:Act} {i:Nat},o.guard=none→o.dst=some d→v=A.tmps.getD d undef→(∀ w',(execOp A.eval o).run Tryz.prog w'=.ok (.value v) w')→i≠0→LitOp Tryz.prog A 1 408 411 0 o .val∧(Lk.val=.make↔i=0) :=
   fun h1 h2 h3 h4 h5=>⟨⟨h1,_,fun d hd=>(by rw[h2] at hd;cases hd;exact h3),h4⟩,by simp[h5]⟩
  have ins:∀ {o:Oper} {k v:Value} {kx vx:Operand} {A:Act} {i:Nat},o.op=.insert 408 (.tmp 1) kx vx→o.dst=none→o.guard=none→A.eval kx=k→A.eval vx=v→(o.after.toList.any fun e=>Region.binds .any e && e.on == 0)=true→(∃ l,keyOf Tryz.prog 411 k=some l)→i≠0 →
    LitOp Tryz.prog A 1 408 411 0 o (.ins k v)∧(Lk.ins k v=.make↔i=0):=fun h1 h2 h3 h4 h5 h6 h7 h8=>⟨⟨_,_,h1,h2,h3,h4,h5,h6,h7⟩,by simp[h8]⟩
  refine⟨⟨⟨rfl,rfl,rfl⟩,by simp⟩,?_⟩
  iterate 10 refine⟨val rfl rfl rfl (run_build_step _ _ _ _ rfl) (by omega),⟨ins rfl rfl rfl rfl rfl (by kernel_rfl) (stepKey _ _ (wf_small _ (by omega) (by omega)) (wf_small _ (by omega) (by omega))) (by omega),?_⟩⟩
  exact⟨val rfl rfl rfl (fun w'=>rfl) (by omega),⟨val rfl rfl rfl (fun w'=>rfl) (by omega),trivial⟩⟩
 ·show(stepMap.map (·.1)).Nodup
  simp[stepMap,stepV]
 ·intro w' hb hs hM
  go_wp2
  go_ret
  exact⟨rfl,hb,hM⟩
def nextF (s e:Int):Int :=
 if e=7 then (if s=2∨s=3 then 3 else if s=4∨s=5 then 4 else 0)
 else if e=6∧s=2 then 7
 else if 1≤e∧e≤5∧s=e then s+1 else 0
theorem step_in {s e:Int} (h:nextF s e≠0):(stepV s e,.int .i64 (nextF s e))∈stepMap:=by
 unfold nextF at *
 by_cases h7:e=7
 ·subst h7
  rw[if_pos rfl] at *
  by_cases h1:s=2∨s=3
  ·rw[if_pos h1];rcases h1 with rfl|rfl<;>simp[stepMap]
  ·rw[if_neg h1] at *
   by_cases h2:s=4∨s=5
   ·rw[if_pos h2];rcases h2 with rfl|rfl<;>simp[stepMap]
   ·rw[if_neg h2] at h;exact absurd rfl h
 ·rw[if_neg h7] at *
  by_cases h6:e=6∧s=2
  ·rw[if_pos h6];obtain ⟨rfl,rfl⟩:=h6;simp[stepMap]
  ·rw[if_neg h6] at *
   by_cases h5:1≤e∧e≤5∧s=e
   ·rw[if_pos h5]
    obtain ⟨h1,h2,rfl⟩:=h5
    have:s=1∨s=2∨s=3∨s=4∨s=5:=by omega
    rcases this with rfl|rfl|rfl|rfl|rfl<;>simp[stepMap]
   ·rw[if_neg h5] at h;exact absurd rfl h
theorem step_out {s e:Int} (h:nextF s e=0):∀ p∈stepMap,p.1≠stepV s e:=by
 intro p hp hk
 have hcase:(s=1∧e=1)∨(s=2∧e=2)∨(s=3∧e=3)∨(s=4∧e=4)∨(s=5∧e=5)∨(s=2∧e=6)∨(s=2∧e=7)∨(s=3∧e=7)∨(s=4∧e=7)∨(s=5∧e=7):=by
  simp only[stepMap,List.mem_cons,List.not_mem_nil,or_false] at hp
  rcases hp with rfl|rfl|rfl|rfl|rfl|rfl|rfl|rfl|rfl|rfl<;>simp[stepV] at hk<;>omega
 rcases hcase with⟨rfl,rfl⟩|⟨rfl,rfl⟩|⟨rfl,rfl⟩|⟨rfl,rfl⟩|⟨rfl,rfl⟩|⟨rfl,rfl⟩|⟨rfl,rfl⟩|⟨rfl,rfl⟩|⟨rfl,rfl⟩|⟨rfl,rfl⟩<;>simp[nextF] at h
set_option maxHeartbeats 1000000 in
theorem next_status (s e:Int) (hs:(Lit.int .i64 s).wf=true) (he:(Lit.int .i64 e).wf=true) (w:World) :
  Calls Tryz.prog 263 #[.int .i64 s,.int .i64 e] w fun r w'=>r=.returned (.tuple #[.int .i64 (nextF s e),.bool (nextF s e != 0)])∧Below w.heap.size w w':=by
 obtain ⟨l,hl⟩:=stepKey s e hs he
 have HLK:Hid (∀ w1 b,MapIs Tryz.prog 411 w1 b stepMap→(Instr.lookup 408 (.map (some b)) (.agg #[.int .i64 s,.int .i64 e]) true).run Tryz.prog w1=.ok (.tuple #[.int .i64 (nextF s e),.bool (nextF s e != 0)]) w1):=fun w1 b hM=>by
  by_cases h:nextF s e=0
  ·have:=run_lookup_miss (z:=.int .i64 0) Tryz.underlying408 stepKeyed hl hM (step_out h) (by kernel_rfl) true
   rw[h];exact this
  ·have:=run_lookup_hit Tryz.underlying408 stepKeyed hl hM (step_in h) true
   rw[show(nextF s e != 0)=true by simpa using h];exact this
 generalize nextF s e=x at *
 clear hl hs he
 go_enter Tryz.func263,Tryz.ntmps263
 go_wp2_with fail
 refine(table_any _).mono ?_
 rintro r w1 ⟨rfl,hb,hM⟩
 have hlk:=HLK.out w1 _ hM
 go_wp2_with fail
 go_ret2
 exact⟨rfl,hb⟩
end
section
open Go.RowKit
structure Val where
 bal:Int
 st:Int
 sl:Bool
 rq:Int
 ex:Int
 wd:Int
 dl:Int
def Val.zero:Val:=⟨0,0,false,0,0,0,0⟩
def Val.wf (v:Val):Prop:=(0≤v.bal∧v.bal≤18446744073709551615)∧(Lit.int .i64 v.st).wf=true∧(Lit.int .i64 v.rq).wf=true∧(Lit.int .i64 v.ex).wf=true∧(Lit.int .i64 v.wd).wf=true∧(Lit.int .i64 v.dl).wf=true
structure Cfg where
 capacity:Int
 queueSize:Int
 minDeposit:Int
 maxDeposit:Int
 supplyCap:Int
 minBalance:Int
 maxBalance:Int
 minChurn:Int
 quotient:Int
 forcedCap:Int
 unbonding:Int
 slashDelay:Int
 ringLen:Int
 epochLen:Int
 visits:Int
 payments:Int
 partials:Int
 merges:Int
 penNum:Int
 penDen:Int
def Cfg.ints (c:Cfg):List Int:=[c.capacity,c.queueSize,c.unbonding,c.slashDelay,c.ringLen,c.epochLen,c.visits,c.payments,c.partials,c.merges]
def Cfg.amounts (c:Cfg):List Int:=[c.minDeposit,c.maxDeposit,c.supplyCap,c.minBalance,c.maxBalance,c.minChurn,c.quotient,c.forcedCap,c.penNum,c.penDen]
def Cfg.wf (c:Cfg):Prop:=(∀ x∈c.ints,(Lit.int .i64 x).wf=true)∧∀ x∈c.amounts,0≤x∧x≤18446744073709551615
end
end Go.Proofs.YtjbfcacmdahnhaaGreat
section
namespace Go.Proofs
open Go.Shelf
def Tryz.lays134_ren:Go.Shelf.Ren:=⟨fun|134=>355|129=>235|n=>n,fun|53=>22|3=>3|4=>4|46=>273|5=>5|9=>9|n=>n,fun|n=>n⟩
theorem Tryz.lays134:Go.Proofs.Lays.n134 Tryz.prog Tryz.lays134_ren:={
 mixed:=by kernel_rfl
 f129:=Tryz.func235.trans (congrArg some (by kernel_rfl))
 f134:=Tryz.func355.trans (congrArg some (by kernel_rfl))
 t3:=Tryz.underlying3
 a3:=Tryz.isAgg3
 z3:=Tryz.sizeOf3
 v3:=Tryz.zeroValue3
 t4:=Tryz.underlying4
 a4:=Tryz.isAgg4
 z4:=Tryz.sizeOf4
 v4:=Tryz.zeroValue4
 t5:=Tryz.underlying5
 a5:=Tryz.isAgg5
 z5:=Tryz.sizeOf5
 v5:=Tryz.zeroValue5
 t9:=Tryz.underlying9
 a9:=Tryz.isAgg9
 z9:=Tryz.sizeOf9
 v9:=Tryz.zeroValue9
 t46:=Tryz.underlying273
 a46:=Tryz.isAgg273
 z46:=Tryz.sizeOf273
 v46:=Tryz.zeroValue273
 t53:=Tryz.underlying22
 a53:=Tryz.isAgg22
 z53:=Tryz.sizeOf22
 v53:=Tryz.zeroValue22}
theorem Tryz.bits_LeadingZeros64 (x:Int) (w:World) (h0:0≤x) (h1:x≤18446744073709551615) :
  Calls Tryz.prog 355 #[.int .u64 x] w fun e w'=>e=.returned (.int .i64 (64 - (Lib.bitLen x.toNat:Int)))∧w'=w:=Any.bits_LeadingZeros64 Tryz.lays134 x w h0 h1
def Tryz.lays264_ren:Go.Shelf.Ren:=⟨fun|264=>239|n=>n,fun|53=>22|46=>273|n=>n,fun|n=>n⟩
theorem Tryz.lays264:Go.Proofs.Lays.n264 Tryz.prog Tryz.lays264_ren:={
 mixed:=by kernel_rfl
 f264:=Tryz.func239.trans (congrArg some (by kernel_rfl))
 t46:=Tryz.underlying273
 a46:=Tryz.isAgg273
 z46:=Tryz.sizeOf273
 v46:=Tryz.zeroValue273
 t53:=Tryz.underlying22
 a53:=Tryz.isAgg22
 z53:=Tryz.sizeOf22
 v53:=Tryz.zeroValue22}
open Go.RowKit Go.Lib in
theorem Tryz.bits_Mul64 (x y:Nat) (hx:x<18446744073709551616) (hy:y<18446744073709551616) (w:World) :
  Calls Tryz.prog 239 #[.int .u64 x,.int .u64 y] w fun e w'=>e=.returned (.tuple #[.int .u64 ((x*y / 18446744073709551616:Nat):Int),.int .u64 ((x*y % 18446744073709551616:Nat):Int)])∧w'=w:=Any.bits_Mul64 Tryz.lays264 x y hx hy w
def Tryz.lays212_ren:Go.Shelf.Ren:=⟨fun|212=>163|263=>238|264=>239|n=>n,fun|46=>273|51=>346|146=>357|53=>22|148=>359|n=>n,fun|n=>n⟩
theorem Tryz.lays212:Go.Proofs.Lays.n212 Tryz.prog Tryz.lays212_ren:={
 mixed:=by kernel_rfl
 f212:=Tryz.func163.trans (congrArg some (by kernel_rfl))
 f263:=Tryz.func238.trans (congrArg some (by kernel_rfl))
 f264:=Tryz.func239.trans (congrArg some (by kernel_rfl))
 t46:=Tryz.underlying273
 a46:=Tryz.isAgg273
 z46:=Tryz.sizeOf273
 v46:=Tryz.zeroValue273
 t51:=Tryz.underlying346
 a51:=Tryz.isAgg346
 z51:=Tryz.sizeOf346
 v51:=Tryz.zeroValue346
 t53:=Tryz.underlying22
 a53:=Tryz.isAgg22
 z53:=Tryz.sizeOf22
 v53:=Tryz.zeroValue22
 t146:=Tryz.underlying357
 a146:=Tryz.isAgg357
 z146:=Tryz.sizeOf357
 v146:=Tryz.zeroValue357
 t148:=Tryz.underlying359
 a148:=Tryz.isAgg359
 z148:=Tryz.sizeOf359
 v148:=Tryz.zeroValue359}
open Go.RowKit Go.Lib in
theorem Tryz.bits_Mul (x y:Nat) (hx:x<18446744073709551616) (hy:y<18446744073709551616) (w:World) :
  Calls Tryz.prog 163 #[.int .u64 x,.int .u64 y] w fun e w'=>e=.returned (.tuple #[.int .u64 ((x*y / 18446744073709551616:Nat):Int),.int .u64 ((x*y % 18446744073709551616:Nat):Int)])∧w'=w:=Any.bits_Mul Tryz.lays212 x y hx hy w
end Go.Proofs
end
namespace Go.Proofs.YtjbfcacmdahnhaaGreat
end Go.Proofs.YtjbfcacmdahnhaaGreat
section
namespace Go.Proofs.YtjbfcacmdahnhaaGreat.DM
theorem split_y {y yn1 yn0 q u r un1:Nat} (hy:y=yn1*4294967296+yn0) (hq:q*yn1+r=u) :
  q*y=(q*yn1)*4294967296+q*yn0∧u*4294967296+un1=(q*yn1)*4294967296+r*4294967296+un1:=by
 constructor
 ·rw[hy,Nat.mul_add,Nat.mul_assoc]
 ·rw[← hq,Nat.add_mul]
def Inv (y yn1 u un1 q r:Nat):Prop:=q*yn1+r=u∧(u*4294967296+un1) / y≤q∧q≤4294967297∧r<4294967296
theorem quot_lt {y u un1:Nat} (hu:u<y) (h1:un1<4294967296):(u*4294967296+un1) / y<4294967296:=by
 rw[Nat.div_lt_iff_lt_mul (by omega)]
 have:(u+1)*4294967296≤y*4294967296:=Nat.mul_le_mul_right _ (by omega)
 rw[Nat.mul_comm 4294967296 y]
 omega
theorem leG {a b c y:Nat} (h:b*c≤y):a*b*c≤a*y:=by rw[Nat.mul_assoc];exact Nat.mul_le_mul_left a h
theorem inv_start {y yn1 yn0 u un1:Nat} (hy:y=yn1*4294967296+yn0) (h0:yn0<4294967296) (hn:2147483648≤yn1) (hn':yn1<4294967296) (hu:u<y) (h1:un1<4294967296):Inv y yn1 u un1 (u / yn1) (u % yn1):=by
 have e:u / yn1*yn1+u % yn1=u:=by rw[Nat.mul_comm];exact Nat.div_add_mod u yn1
 have hr:u % yn1<yn1:=Nat.mod_lt _ (by omega)
 have h5:yn1*4294967296≤y:=by rw[hy];exact Nat.le_add_right _ _
 refine⟨e,?_,?_,by omega⟩
 ·have hlt:(u*4294967296+un1) / y<u / yn1+1:=by
   rw[Nat.div_lt_iff_lt_mul (by omega)]
   have h2:u<(u / yn1+1)*yn1:=by rw[Nat.add_mul];omega
   have h3:(u+1)*4294967296≤(u / yn1+1)*yn1*4294967296:=Nat.mul_le_mul_right _ (by omega:u+1≤(u / yn1+1)*yn1)
   have h4:(u / yn1+1)*yn1*4294967296≤(u / yn1+1)*y:=leG h5
   omega
  omega
 ·have:u / yn1<4294967298:=by
   rw[Nat.div_lt_iff_lt_mul (by omega)]
   omega
  omega
theorem test_iff {y yn1 yn0 u un1 q r:Nat} (hy:y=yn1*4294967296+yn0) (hq:q*yn1+r=u):(4294967296*r+un1<q*yn0)↔u*4294967296+un1<q*y:=by
 obtain ⟨h1,h2⟩:=split_y (un1:=un1) hy hq
 rw[h1,h2]
 omega
theorem over {y yn1 yn0 u un1 q r:Nat} (hy:y=yn1*4294967296+yn0) (hu:u<y) (h1:un1<4294967296) (hI:Inv y yn1 u un1 q r) (ht:4294967296≤q∨4294967296*r+un1<q*yn0) :
  1≤q∧(q - 1)*yn1+(r+yn1)=u∧(u*4294967296+un1) / y≤q - 1:=by
 obtain ⟨e,hle,hq,hr⟩:=hI
 have hlt:(u*4294967296+un1) / y<q:=by
  rcases ht with ht|ht
  ·exact Nat.lt_of_lt_of_le (quot_lt hu h1) ht
  ·rw[test_iff hy e] at ht
   rw[Nat.div_lt_iff_lt_mul (by omega)]
   exact ht
 have hq1:1≤q:=Nat.lt_of_le_of_lt (Nat.zero_le _) hlt
 refine⟨hq1,?_,Nat.le_sub_one_of_lt hlt⟩
 rw[Nat.sub_mul,Nat.one_mul]
 have:yn1≤q*yn1:=Nat.le_mul_of_pos_left _ hq1
 omega
theorem inv_next {y yn1 yn0 u un1 q r:Nat} (hy:y=yn1*4294967296+yn0) (hu:u<y) (h1:un1<4294967296) (hI:Inv y yn1 u un1 q r) (ht:4294967296≤q∨4294967296*r+un1<q*yn0) (hr:r+yn1<4294967296) :
  Inv y yn1 u un1 (q - 1) (r+yn1):=by
 obtain ⟨h2,h3,h4⟩:=over hy hu h1 hI ht
 exact⟨h3,h4,by have:=hI.2.2.1;omega,hr⟩
theorem at_end {y yn1 yn0 u un1 q r:Nat} (hy:y=yn1*4294967296+yn0) (hy0:0<y) (e:q*yn1+r=u) (hle:(u*4294967296+un1) / y≤q) (ht:¬4294967296*r+un1<q*yn0) :
  q=(u*4294967296+un1) / y:=by
 rw[test_iff hy e] at ht
 have:q≤(u*4294967296+un1) / y:=by rw[Nat.le_div_iff_mul_le hy0];omega
 omega
theorem at_break {y yn1 yn0 u un1 q r:Nat} (hy:y=yn1*4294967296+yn0) (h0:yn0<4294967296) (hu:u<y) (h1:un1<4294967296) (hI:Inv y yn1 u un1 q r) (ht:4294967296≤q∨4294967296*r+un1<q*yn0) (hr:4294967296≤r+yn1) :
  q - 1=(u*4294967296+un1) / y:=by
 obtain ⟨h2,h3,h4⟩:=over hy hu h1 hI ht
 refine at_end hy (by omega) h3 h4 ?_
 have hq:q - 1≤4294967296:=by have:=hI.2.2.1;omega
 have:(q - 1)*yn0≤4294967296*4294967295:=Nat.mul_le_mul hq (by omega)
 omega
theorem rest_eq {y u un1:Nat}:u*4294967296+un1 - (u*4294967296+un1) / y*y=(u*4294967296+un1) % y:=by
 have h:=Nat.div_add_mod (u*4294967296+un1) y
 have e:y*((u*4294967296+un1) / y)=(u*4294967296+un1) / y*y:=Nat.mul_comm _ _
 omega
theorem rest_le {y u un1:Nat}:(u*4294967296+un1) / y*y≤u*4294967296+un1:=Nat.div_mul_le_self _ _
theorem two_stepsG {B V y un0:Nat} (hy:0<y):(V*B+un0) / y=V / y*B+(V % y*B+un0) / y:=by
 have h:=Nat.div_add_mod V y
 have e:V*B+un0=y*(V / y*B)+(V % y*B+un0):=by
  rw[← Nat.mul_assoc,← Nat.add_assoc,← Nat.add_mul,h]
 rw[e,Nat.mul_add_div hy]
theorem two_steps {y u un1 un0:Nat} (hy:0<y) :
  ((u*4294967296+un1)*4294967296+un0) / y=(u*4294967296+un1) / y*4294967296+((u*4294967296+un1) % y*4294967296+un0) / y:=two_stepsG hy
theorem shiftedG {A hi lo d p q:Nat} (e1:q*p=A) (hp:0<p) (hq:0<q) (hlo:lo<A) (hd:hi<d) :
  (hi*p+lo / q)*A+lo*p % A=(hi*A+lo)*p∧hi*p+lo / q<d*p∧lo / q<p:=by
 have e2:lo*p / A=lo / q:=by rw[← e1,Nat.mul_div_mul_right _ _ hp]
 have e3:=Nat.div_add_mod (lo*p) A
 rw[e2,Nat.mul_comm] at e3
 have e4:lo / q<p:=by
  rw[Nat.div_lt_iff_lt_mul hq,Nat.mul_comm,e1];exact hlo
 refine⟨?_,?_,e4⟩
 ·rw[Nat.add_mul (hi*A) lo,Nat.add_mul (hi*p)]
  have:hi*p*A=hi*A*p:=Nat.mul_right_comm _ _ _
  omega
 ·have:(hi+1)*p≤d*p:=Nat.mul_le_mul_right _ hd
  rw[Nat.add_mul] at this
  omega
theorem shifted {hi lo d s:Nat} (hlo:lo<18446744073709551616) (hs:s≤63) (hd:hi<d) :
  (hi*2 ^ s+lo / 2 ^ (64 - s))*18446744073709551616+lo*2 ^ s % 18446744073709551616=(hi*18446744073709551616+lo)*2 ^ s∧hi*2 ^ s+lo / 2 ^ (64 - s)<d*2 ^ s∧lo / 2 ^ (64 - s)<2 ^ s :=
 shiftedG (by rw[← Nat.pow_add,show 64 - s+s=64 by omega]) (Nat.two_pow_pos s) (Nat.two_pow_pos _) hlo hd
theorem or_add {a b s:Nat} (hb:b<2 ^ s):(a*2 ^ s) ||| b=a*2 ^ s+b:=by
 rw[Nat.mul_comm,Nat.two_pow_add_eq_or_of_lt hb]
theorem norm_of {d:Nat} (h0:0<d) (h1:d<18446744073709551616):Lib.bitLen d≤64∧1≤Lib.bitLen d∧9223372036854775808≤d*2 ^ (64 - Lib.bitLen d)∧d*2 ^ (64 - Lib.bitLen d)<18446744073709551616:=by
 have hle:Lib.bitLen d≤64:=by
  have:=Lib.bitLenAux_bounds 64 d h1 (by omega)
  unfold Lib.bitLen
  by_cases h:Lib.bitLenAux 64 d≤64
  ·exact h
  ·exfalso
   have h2:2 ^ 64≤2 ^ (Lib.bitLenAux 64 d - 1):=Nat.pow_le_pow_right (by decide) (by omega)
   omega
 obtain ⟨h2,h3,h4⟩:=Lib.bitLenAux_bounds 64 d h1 (by omega)
 have e1:(2:Nat) ^ Lib.bitLen d*2 ^ (64 - Lib.bitLen d)=18446744073709551616:=by rw[← Nat.pow_add,show Lib.bitLen d+(64 - Lib.bitLen d)=64 by omega]
 have e2:(2:Nat) ^ (Lib.bitLen d - 1)*2 ^ (64 - Lib.bitLen d)=9223372036854775808:=by
  rw[← Nat.pow_add,show Lib.bitLen d - 1+(64 - Lib.bitLen d)=63 by unfold Lib.bitLen at *;omega]
 refine⟨hle,h2,?_,?_⟩
 ·rw[← e2];exact Nat.mul_le_mul_right _ h3
 ·rw[← e1];exact Nat.mul_lt_mul_of_pos_right h4 (Nat.two_pow_pos _)
theorem parts (U L:Nat):(U*4294967296+L / 4294967296)*4294967296+L % 4294967296=U*18446744073709551616+L:=by omega
structure Set (y yn1 yn0 u un1:Int):Prop where
 hy:y=yn1*4294967296+yn0
 n0:0≤yn0
 n0':yn0≤4294967295
 n1:2147483648≤yn1
 n1':yn1≤4294967295
 u0:0≤u
 uy:u<y
 v0:0≤un1
 v1:un1≤4294967295
def InvI (y yn1 u un1 q r:Int):Prop:=0≤q∧0≤r∧Inv y.toNat yn1.toNat u.toNat un1.toNat q.toNat r.toNat
theorem InvI.bd {y yn1 u un1 q r:Int} (h:InvI y yn1 u un1 q r):0≤q∧q≤4294967297∧0≤r∧r≤4294967295:=by
 obtain ⟨a,b,c⟩:=h
 have h1:=c.2.2.1
 have h2:=c.2.2.2
 exact⟨a,by omega,b,by omega⟩
section
variable {y yn1 yn0 u un1 q r:Int}
theorem Set.nat (h:Set y yn1 yn0 u un1):y.toNat=yn1.toNat*4294967296+yn0.toNat∧yn0.toNat<4294967296∧u.toNat<y.toNat∧un1.toNat<4294967296∧0<y.toNat:=by
 obtain ⟨h1,h2,h3,h4,h5,h6,h7,h8,h9⟩:=h
 refine⟨?_,?_,?_,?_,?_⟩<;>omega
theorem test_nat (h:Set y yn1 yn0 u un1) (hq:0≤q) (hr:0≤r):(4294967296*r+un1<q*yn0)↔4294967296*r.toNat+un1.toNat<q.toNat*yn0.toNat:=by
 have e:((q.toNat*yn0.toNat:Nat):Int)=q*yn0:=by
  rw[Int.natCast_mul,Int.toNat_of_nonneg hq,Int.toNat_of_nonneg h.n0]
 have:=h.v0
 omega
theorem start_I (h:Set y yn1 yn0 u un1):InvI y yn1 u un1 (u / yn1) (u % yn1):=by
 have h1:=h.nat
 have h4:=h.n1
 have h5:=h.n1'
 have hu:=h.u0
 refine⟨Int.ediv_nonneg hu (by omega),Int.emod_nonneg _ (by omega),?_⟩
 have:=inv_start h1.1 h1.2.1 (by omega:2147483648≤yn1.toNat) (by omega) h1.2.2.1 h1.2.2.2.1
 have e1:(u / yn1).toNat=u.toNat / yn1.toNat:=by
  have:u / yn1=((u.toNat / yn1.toNat:Nat):Int):=by rw[Int.natCast_ediv,Int.toNat_of_nonneg hu,Int.toNat_of_nonneg (by omega)]
  rw[this,Int.toNat_natCast]
 have e2:(u % yn1).toNat=u.toNat % yn1.toNat:=by
  have:u % yn1=((u.toNat % yn1.toNat:Nat):Int):=by rw[Int.natCast_emod,Int.toNat_of_nonneg hu,Int.toNat_of_nonneg (by omega)]
  rw[this,Int.toNat_natCast]
 rw[e1,e2]
 exact this
theorem over_I (h:Set y yn1 yn0 u un1) (hI:InvI y yn1 u un1 q r) (ht:4294967296≤q∨4294967296*r+un1<q*yn0):1≤q:=by
 have h1:=h.nat
 have ht':4294967296≤q.toNat∨4294967296*r.toNat+un1.toNat<q.toNat*yn0.toNat:=by
  rcases ht with ht|ht
  ·left;omega
  ·right;exact(test_nat h hI.1 hI.2.1).1 ht
 have:=(over h1.1 h1.2.2.1 h1.2.2.2.1 hI.2.2 ht').1
 omega
theorem next_I (h:Set y yn1 yn0 u un1) (hI:InvI y yn1 u un1 q r) (ht:4294967296≤q∨4294967296*r+un1<q*yn0) (hr:r+yn1≤4294967295):InvI y yn1 u un1 (q - 1) (r+yn1):=by
 have h1:=h.nat
 have hq:=over_I h hI ht
 have h4:=h.n1
 have ht':4294967296≤q.toNat∨4294967296*r.toNat+un1.toNat<q.toNat*yn0.toNat:=by
  rcases ht with ht|ht
  ·left;omega
  ·right;exact(test_nat h hI.1 hI.2.1).1 ht
 have hr0:=hI.2.1
 have h2:=inv_next h1.1 h1.2.2.1 h1.2.2.2.1 hI.2.2 ht' (by omega)
 refine⟨by omega,by omega,?_⟩
 rw[show(q - 1).toNat=q.toNat - 1 by omega,show(r+yn1).toNat=r.toNat+yn1.toNat by omega]
 exact h2
theorem quot_nat (h:Set y yn1 yn0 u un1):(u*4294967296+un1) / y=(((u.toNat*4294967296+un1.toNat) / y.toNat:Nat):Int):=by
 have h1:=h.u0
 have h2:=h.v0
 have h3:=h.uy
 rw[Int.natCast_ediv,Int.natCast_add,Int.natCast_mul,Int.toNat_of_nonneg h1,Int.toNat_of_nonneg h2,Int.toNat_of_nonneg (by omega)]
 rfl
theorem break_I (h:Set y yn1 yn0 u un1) (hI:InvI y yn1 u un1 q r) (ht:4294967296≤q∨4294967296*r+un1<q*yn0) (hr:4294967296≤r+yn1):q - 1=(u*4294967296+un1) / y:=by
 have h1:=h.nat
 have hq:=over_I h hI ht
 have h4:=h.n1
 have ht':4294967296≤q.toNat∨4294967296*r.toNat+un1.toNat<q.toNat*yn0.toNat:=by
  rcases ht with ht|ht
  ·left;omega
  ·right;exact(test_nat h hI.1 hI.2.1).1 ht
 have h2:=at_break h1.1 h1.2.1 h1.2.2.1 h1.2.2.2.1 hI.2.2 ht' (by omega)
 rw[quot_nat h,← h2]
 omega
theorem end_I (h:Set y yn1 yn0 u un1) (hI:InvI y yn1 u un1 q r) (ht:¬4294967296*r+un1<q*yn0):q=(u*4294967296+un1) / y:=by
 have h1:=h.nat
 have ht':=fun k=>ht ((test_nat h hI.1 hI.2.1).2 k)
 have h2:=at_end h1.1 h1.2.2.2.2 hI.2.2.1 hI.2.2.2.1 ht'
 rw[quot_nat h,← h2]
 have:=hI.1
 omega
end
end Go.Proofs.YtjbfcacmdahnhaaGreat.DM
end
namespace Go.Proofs.YtjbfcacmdahnhaaGreat
section
open Go.RowKit
theorem mul64 (x y:Nat) (hx:x<18446744073709551616) (hy:y<18446744073709551616) (w:World) :
  Calls Tryz.prog 239 #[.int .u64 x,.int .u64 y] w fun e w'=>e=.returned (.tuple #[.int .u64 ((x*y / 18446744073709551616:Nat):Int),.int .u64 ((x*y % 18446744073709551616:Nat):Int)])∧w=w' :=
 (Tryz.bits_Mul64 x y hx hy w).mono fun _ _ ⟨a,b⟩=>⟨a,b.symm⟩
theorem lz64 (x:Nat) (h1:x<18446744073709551616) (w:World) :
  Calls Tryz.prog 355 #[.int .u64 x] w fun e w'=>e=.returned (.int .i64 (64 - (Lib.bitLen x:Int)))∧w=w' :=
 (Tryz.bits_LeadingZeros64 x w (by omega) (by omega)).mono fun _ _ ⟨a,b⟩=>⟨by rw[a];rfl,b.symm⟩
theorem lz64s (x s:Nat) (h1:x<18446744073709551616) (w:World) (hs:Hid (s=64 - Lib.bitLen x)) :
  Calls Tryz.prog 355 #[.int .u64 x] w fun e w'=>e=.returned (.int .i64 (s:Int))∧w=w' :=
 (lz64 x h1 w).mono fun _ _ ⟨a,b⟩=>⟨by
  rw[a,hs.out]
  congr 2
  by_cases h:x=0
  ·subst h;rfl
  ·have:=DM.norm_of (by omega) h1;omega,b⟩
theorem u64_id {n:Int} (h0:0≤n) (h1:n<18446744073709551616):IntKind.u64.wrap n=n:=by
 simp only[IntKind.wrap,IntKind.bits,IntKind.signed];simp;omega
set_option maxHeartbeats 1000000 in
theorem div64_small (lo y:Nat) (hl:lo<18446744073709551616) (h0:0<y) (h1:y<18446744073709551616) (w:World) :
  Calls Tryz.prog 331 #[.int .u64 0,.int .u64 lo,.int .u64 y] w fun e w'=>(∃ r:Int,e=.returned (.tuple #[.int .u64 ((lo / y:Nat):Int),.int .u64 r]))∧Same w w':=by
 have hb1:((y:Int) == 0)=false:=by rw[beq_eq_false_iff_ne];omega
 have hq:IntKind.u64.wrap ((lo:Int) / y)=(lo:Int) / y:=u64_id (Int.ediv_nonneg (by omega) (by omega)) (by
  have:lo / y≤lo:=Nat.div_le_self _ _
  have:((lo / y:Nat):Int)≤lo:=by omega
  rw[Int.natCast_ediv] at this;omega)
 go_enter Tryz.func331,Tryz.ntmps331
 go_wp2_with fail
 go_quiet (fail)
 go_wp2
 go_ret2
 exact⟨⟨_,rfl⟩,Same.of⟩
set_option maxRecDepth 100000 in
set_option maxHeartbeats 4000000 in
theorem div64_big (hi lo y Y U L yn1 yn0 un1 un0 Q0 R0 Q R Q1 R1 Q2 F:Int) (s:Nat) (w:World)
  (hh:1≤hi) (h0:hi<y) (h1:y≤18446744073709551615) (l0:0≤lo) (hl:lo≤18446744073709551615) (L0:0≤L) (iL:L≤18446744073709551615)
  (HZ:Hid (∀ w:World,Calls Tryz.prog 355 #[.int .u64 y] w fun e w'=>e=.returned (.int .i64 (s:Int))∧w=w')) (hs63:s≤63) (hY:IntKind.u64.wrap (y*2 ^ s)=Y) (Y0:1≤Y) (iY1:Y≤18446744073709551615)
  (hyn1:Y / 4294967296=yn1) (hyn0:bits .and .u64 Y 4294967295=yn0) (iy1l:2147483648≤yn1) (iy1:yn1≤4294967295) (h0n:0≤yn0) (iy0:yn0≤4294967295)
  (hU:bits .or .u64 (IntKind.u64.wrap (hi*2 ^ s)) (lo / 2 ^ (64 - s))=U) (U0:0≤U) (hUY:U<Y)
  (hL:IntKind.u64.wrap (lo*2 ^ s)=L)
  (hun1:L / 4294967296=un1) (hun0:bits .and .u64 L 4294967295=un0) (u10:0≤un1) (iu1:un1≤4294967295) (u00:0≤un0) (iu0:un0≤4294967295)
  (HS1:Hid (DM.Set Y yn1 yn0 U un1)) (hQ0:U / yn1=Q0) (hQR:Q0*yn1=U - R0) (Q00:0≤Q0) (iQ0:Q0≤4294967297) (R00:0≤R0) (hR0:R0≤U) (HI0:Hid (DM.InvI Y yn1 U un1 Q0 R0)) (HQ:Hid ((U*4294967296+un1) / Y=Q))
  (R0':0≤R) (hRY:R<Y) (hRe:IntKind.u64.wrap (IntKind.u64.wrap (IntKind.u64.wrap (U*4294967296)+un1) - IntKind.u64.wrap (Q*Y))=R)
  (HS2:Hid (DM.Set Y yn1 yn0 R un0)) (hQ1:R / yn1=Q1) (hQR1:Q1*yn1=R - R1) (Q10:0≤Q1) (iQ1:Q1≤4294967297) (R10:0≤R1) (hR1:R1≤R) (HI1:Hid (DM.InvI Y yn1 R un0 Q1 R1)) (HQ2:Hid ((R*4294967296+un0) / Y=Q2))
  (Qn:0≤Q) (iQ:Q≤4294967295) (Q2n:0≤Q2) (iQ2:Q2≤4294967295) (HF:Hid (F=Q*4294967296+Q2)) :
  Calls Tryz.prog 331 #[.int .u64 hi,.int .u64 lo,.int .u64 y] w fun e w'=>(∃ r:Int,e=.returned (.tuple #[.int .u64 F,.int .u64 r]))∧Same w w':=by
 have hb1:(y == 0)=false:=by rw[beq_eq_false_iff_ne];omega
 have hb2:(hi == 0)=false:=by rw[beq_eq_false_iff_ne];omega
 have hb3:decide (y≤hi)=false:=by simp;omega
 have hmin:min s 64=s:=by omega
 have hmin2:min (64 - s) 64=64 - s:=by omega
 go_enter Tryz.func331,Tryz.ntmps331
 go_upto_block 0 with(go_at_call 355;refine(HZ.out _).mono ?_;rintro e w' ⟨rfl,rfl⟩)
 have HQ0:=Lib.hid hQ0
 clear hY hyn1 hyn0 hU hL hun1 hun0 hQ0 hQR hmin hmin2
 go_cut [15,16] (fun a _ wx=>a=.int .u64 Q∧wx=w)
 case first =>
  go_wp2_with fail
  go_loop [15,16] (fun a b=>∃ q r:Int,a=.int .u64 q∧b=.int .u64 r∧Hid (DM.InvI Y yn1 U un1 q r)) (fun a _=>(intOf a).toNat)
  case atStart=>exact⟨Q0,R0,by first|rfl|rw[HQ0.out],by first|go_num|(congr 1;omega),HI0⟩
  case round =>
   obtain ⟨q,r,rfl,rfl,HI⟩:=hrel
   obtain ⟨q0,iqu,r0,iru⟩:=HI.out.bd
   have hp0:0≤q*yn0:=Int.mul_nonneg q0 h0n
   by_cases hq:4294967296≤q
   ·by_cases hr:4294967296≤r+yn1
    ·have hQ:q - 1=Q:=(DM.break_I HS1.out HI.out (.inl hq) hr).trans HQ.out
     go_wp2_with fail
     go_meet
     exact⟨by first|rfl|rw[hQ],rfl⟩
    ·have ir:r+yn1≤4294967295:=by omega
     have HN:=Lib.hid (DM.next_I HS1.out HI.out (.inl hq) ir)
     clear hr
     go_wp2_with fail
     go_round
     case rel=>exact⟨q - 1,r+yn1,by go_num,by go_num,HN.out⟩
     case measure=>simp[intOf];omega
   ·have iq:q≤4294967295:=by omega
    clear hq
    have hp1:q*yn0≤18446744073709551615:=by
     have:q*yn0≤4294967295*4294967295:=Int.mul_le_mul iq iy0 h0n (by omega)
     omega
    by_cases hti:4294967296*r+un1<q*yn0
    ·have hq1:=DM.over_I HS1.out HI.out (.inr hti)
     by_cases hr:4294967296≤r+yn1
     ·have hQ:q - 1=Q:=(DM.break_I HS1.out HI.out (.inr hti) hr).trans HQ.out
      go_wp2_with fail
      go_meet
      exact⟨by first|rfl|rw[hQ],rfl⟩
     ·have ir:r+yn1≤4294967295:=by omega
      have HN:=Lib.hid (DM.next_I HS1.out HI.out (.inr hti) ir)
      clear hr
      go_wp2_with fail
      go_round
      case rel=>exact⟨q - 1,r+yn1,by go_num,by go_num,HN.out⟩
      case measure=>simp[intOf];omega
    ·have HQQ:Hid (q=Q):=(DM.end_I HS1.out HI.out hti).trans HQ.out
     go_wp2_with fail
     go_meet
     exact⟨by rw[HQQ.out],rfl⟩
 case rest =>
  obtain ⟨rfl,rfl⟩:=hcut
  go_upto_block 2 with(fail)
  have HQ1:=Lib.hid hQ1
  clear hRe hQ1 hQR1
  go_cut [18,16] (fun a _ wx=>a=.int .u64 Q2∧wx=wc)
  case first =>
   go_wp2_with fail
   go_loop [18,16] (fun a b=>∃ q r:Int,a=.int .u64 q∧b=.int .u64 r∧Hid (DM.InvI Y yn1 R un0 q r)) (fun a _=>(intOf a).toNat)
   case atStart=>exact⟨Q1,R1,by first|rfl|rw[HQ1.out],by first|go_num|(congr 1;omega),HI1⟩
   case round =>
    obtain ⟨q,r,rfl,rfl,HI⟩:=hrel
    obtain ⟨q0,iqu,r0,iru⟩:=HI.out.bd
    have hp0:0≤q*yn0:=Int.mul_nonneg q0 h0n
    by_cases hq:4294967296≤q
    ·by_cases hr:4294967296≤r+yn1
     ·have hQ:q - 1=Q2:=(DM.break_I HS2.out HI.out (.inl hq) hr).trans HQ2.out
      go_wp2_with fail
      go_meet
      exact⟨by first|rfl|rw[hQ],rfl⟩
     ·have ir:r+yn1≤4294967295:=by omega
      have HN:=Lib.hid (DM.next_I HS2.out HI.out (.inl hq) ir)
      clear hr
      go_wp2_with fail
      go_round
      case rel=>exact⟨q - 1,r+yn1,by go_num,by go_num,HN.out⟩
      case measure=>simp[intOf];omega
    ·have iq:q≤4294967295:=by omega
     clear hq
     have hp1:q*yn0≤18446744073709551615:=by
      have:q*yn0≤4294967295*4294967295:=Int.mul_le_mul iq iy0 h0n (by omega)
      omega
     by_cases hti:4294967296*r+un0<q*yn0
     ·have hq1:=DM.over_I HS2.out HI.out (.inr hti)
      by_cases hr:4294967296≤r+yn1
      ·have hQ:q - 1=Q2:=(DM.break_I HS2.out HI.out (.inr hti) hr).trans HQ2.out
       go_wp2_with fail
       go_meet
       exact⟨by first|rfl|rw[hQ],rfl⟩
      ·have ir:r+yn1≤4294967295:=by omega
       have HN:=Lib.hid (DM.next_I HS2.out HI.out (.inr hti) ir)
       clear hr
       go_wp2_with fail
       go_round
       case rel=>exact⟨q - 1,r+yn1,by go_num,by go_num,HN.out⟩
       case measure=>simp[intOf];omega
     ·have HQQ:Hid (q=Q2):=(DM.end_I HS2.out HI.out hti).trans HQ2.out
      go_wp2_with fail
      go_meet
      exact⟨by rw[HQQ.out],rfl⟩
  case rest =>
   obtain ⟨rfl,rfl⟩:=hcut
   go_wp2
   go_ret2
   exact⟨⟨_,by rw[HF.out];rfl⟩,Same.refl _⟩
theorem _root_.Int.emod_le_self_nat (a b:Nat):(a:Int) % (b:Int)≤a:=by
 have:=Nat.mod_le a b
 have e:((a % b:Nat):Int)=(a:Int) % (b:Int):=by simp
 omega
theorem mulpow (a s:Nat):(a:Int)*2 ^ s=((a*2 ^ s:Nat):Int):=by simp
theorem divpow (a s:Nat):(a:Int) / 2 ^ s=((a / 2 ^ s:Nat):Int):=by simp
theorem u64_mod (a:Nat):IntKind.u64.wrap (a:Int)=((a % 18446744073709551616:Nat):Int):=by
 simp only[IntKind.wrap,IntKind.bits,IntKind.signed];simp
theorem rem_wrap {U un1 Q Y R:Int} (h:U*4294967296+un1 - Q*Y=R) (h0:0≤R) (h1:R≤18446744073709551615) :
  IntKind.u64.wrap (IntKind.u64.wrap (IntKind.u64.wrap (U*4294967296)+un1) - IntKind.u64.wrap (Q*Y))=R:=by
 generalize Q*Y=P at *
 simp only[IntKind.wrap,IntKind.bits,IntKind.signed];simp;omega
theorem div64_mid (hi lo y s Y U L Q R Q2:Nat) (hz:1≤hi) (h0:hi<y) (hl:lo<18446744073709551616) (h1:y<18446744073709551616) (n3:9223372036854775808≤Y) (n4:Y<18446744073709551616) (hs63:s≤63)
  (HZ:Hid (∀ w:World,Calls Tryz.prog 355 #[.int .u64 y] w fun e w'=>e=.returned (.int .i64 (s:Int))∧w=w')) (hY:y*2 ^ s=Y)
  (hor:bits .or .u64 (IntKind.u64.wrap ((hi:Int)*2 ^ s)) ((lo:Int) / 2 ^ (64 - s))=(U:Int)) (s2:U<Y) (hL:IntKind.u64.wrap ((lo:Int)*2 ^ s)=(L:Int)) (hLlt:L<18446744073709551616)
  (hS1:DM.Set (Y:Int) ((Y / 4294967296:Nat):Int) ((Y % 4294967296:Nat):Int) (U:Int) ((L / 4294967296:Nat):Int)) (hq1:Q<4294967296) (hlt:R<Y)
  (hRe:IntKind.u64.wrap (IntKind.u64.wrap (IntKind.u64.wrap ((U:Int)*4294967296)+((L / 4294967296:Nat):Int)) - IntKind.u64.wrap ((Q:Int)*(Y:Int)))=(R:Int))
  (hQe:((U:Int)*4294967296+((L / 4294967296:Nat):Int)) / (Y:Int)=(Q:Int)) (hQ2:Q2=(R*4294967296+L % 4294967296) / Y) (w:World) :
  Calls Tryz.prog 331 #[.int .u64 hi,.int .u64 lo,.int .u64 y] w fun e w'=>(∃ r:Int,e=.returned (.tuple #[.int .u64 ((Q*4294967296+Q2:Nat):Int),.int .u64 r]))∧Same w w':=by
 have hS2:DM.Set (Y:Int) ((Y / 4294967296:Nat):Int) ((Y % 4294967296:Nat):Int) (R:Int) ((L % 4294967296:Nat):Int):=by constructor<;>omega
 have hq2:=DM.quot_lt (y:=Y) (u:=R) (un1:=L % 4294967296) hlt (Nat.mod_lt _ (by decide))
 rw[← hQ2] at hq2
 have hI1:=DM.start_I hS1
 have hI2:=DM.start_I hS2
 have b1:=hI1.bd
 have b2:=hI2.bd
 have m1:=Int.mul_ediv_add_emod (U:Int) ((Y / 4294967296:Nat):Int)
 have m2:=Int.mul_ediv_add_emod (R:Int) ((Y / 4294967296:Nat):Int)
 refine div64_big hi lo y Y U L ((Y / 4294967296:Nat):Int) ((Y % 4294967296:Nat):Int) ((L / 4294967296:Nat):Int) ((L % 4294967296:Nat):Int)
  ((U:Int) / ((Y / 4294967296:Nat):Int)) ((U:Int) % ((Y / 4294967296:Nat):Int)) Q R ((R:Int) / ((Y / 4294967296:Nat):Int)) ((R:Int) % ((Y / 4294967296:Nat):Int)) (Q2:Int)
  ((Q*4294967296+Q2:Nat):Int) s w (by omega) (by omega) (by omega) (by omega) (by omega) (by omega) (by omega) HZ hs63 ?_ (by omega) (by omega)
  (by simp) ?_ (by omega) (by omega) (by omega) (by omega) hor (by omega) (by omega) hL (by simp) ?_ (by omega) (by omega) (by omega) (by omega) hS1 rfl ?_ b1.1 b1.2.1 b1.2.2.1 ?_ hI1 ?_
  (by omega) (by omega) hRe hS2 rfl ?_ b2.1 b2.2.1 b2.2.2.1 ?_ hI2 ?_ (by omega) (by omega) (by omega) (by omega) ?_
 ·rw[mulpow,hY,u64_id (by omega) (by omega)]
 ·rw[show(4294967295:Int)=((2 ^ 32 - 1:Nat):Int) from rfl,bits_and_u64_nat _ _ (by omega) (by decide),Nat.and_two_pow_sub_one_eq_mod]
 ·rw[show(4294967295:Int)=((2 ^ 32 - 1:Nat):Int) from rfl,bits_and_u64_nat _ _ (by omega) (by decide),Nat.and_two_pow_sub_one_eq_mod]
 ·rw[Int.mul_comm];omega
 ·have:=Int.emod_le_self_nat U (Y / 4294967296);omega
 ·exact hQe
 ·rw[Int.mul_comm];omega
 ·have:=Int.emod_le_self_nat R (Y / 4294967296);omega
 ·show _=_;rw[hQ2];simp
 ·show _=_;omega
theorem div64_any (hi lo y:Nat) (h0:hi<y) (hl:lo<18446744073709551616) (h1:y<18446744073709551616) (w:World) :
  Calls Tryz.prog 331 #[.int .u64 hi,.int .u64 lo,.int .u64 y] w fun e w'=>(∃ r:Int,e=.returned (.tuple #[.int .u64 (((hi*18446744073709551616+lo) / y:Nat):Int),.int .u64 r]))∧Same w w':=by
 by_cases hz:hi=0
 ·subst hz
  simpa using div64_small lo y hl h0 h1 w
 ·obtain ⟨n1,n2,n3,n4⟩:=DM.norm_of (by omega:0<y) h1
  have hs63:64 - Lib.bitLen y≤63:=by omega
  have HZ:Hid (∀ w:World,Calls Tryz.prog 355 #[.int .u64 y] w fun e w'=>e=.returned (.int .i64 ((64 - Lib.bitLen y:Nat):Int))∧w=w'):=fun w=>lz64s y _ h1 w rfl
  generalize 64 - Lib.bitLen y=s at *
  obtain ⟨s1,s2,s3⟩:=DM.shifted hl hs63 h0
  have hor:bits .or .u64 (IntKind.u64.wrap ((hi:Int)*2 ^ s)) ((lo:Int) / 2 ^ (64 - s))=((hi*2 ^ s+lo / 2 ^ (64 - s):Nat):Int):=by
   have t1:hi*2 ^ s<18446744073709551616:=Nat.lt_of_le_of_lt (Nat.le_add_right _ _) (Nat.lt_trans s2 n4)
   have t2:lo / 2 ^ (64 - s)<18446744073709551616:=Nat.lt_of_le_of_lt (Nat.div_le_self _ _) hl
   rw[mulpow,divpow,u64_id (Int.natCast_nonneg _) (Int.ofNat_lt.2 t1),bits_or_u64_nat _ _ t1 t2,DM.or_add s3]
  generalize hY:y*2 ^ s=Y at *
  generalize hU:hi*2 ^ s+lo / 2 ^ (64 - s)=U at *
  have hL:IntKind.u64.wrap ((lo:Int)*2 ^ s)=((lo*2 ^ s % 18446744073709551616:Nat):Int):=by rw[mulpow,u64_mod]
  have hLlt:lo*2 ^ s % 18446744073709551616<18446744073709551616:=Nat.mod_lt _ (by decide)
  generalize lo*2 ^ s % 18446744073709551616=L at *
  have hS1:DM.Set (Y:Int) ((Y / 4294967296:Nat):Int) ((Y % 4294967296:Nat):Int) (U:Int) ((L / 4294967296:Nat):Int):=by constructor<;>omega
  have hq1:=DM.quot_lt (y:=Y) (u:=U) (un1:=L / 4294967296) s2 (by omega)
  have hQe:((U:Int)*4294967296+((L / 4294967296:Nat):Int)) / (Y:Int)=(((U*4294967296+L / 4294967296) / Y:Nat):Int):=by simp
  have hlt:(U*4294967296+L / 4294967296) % Y<Y:=Nat.mod_lt _ (by omega)
  have hR:=DM.rest_eq (y:=Y) (u:=U) (un1:=L / 4294967296)
  have hRle:=DM.rest_le (y:=Y) (u:=U) (un1:=L / 4294967296)
  have h2:=DM.two_steps (y:=Y) (u:=U) (un1:=L / 4294967296) (un0:=L % 4294967296) (by omega)
  have hX:(U*4294967296+L / 4294967296)*4294967296+L % 4294967296=(hi*18446744073709551616+lo)*2 ^ s:=(DM.parts U L).trans s1
  rw[hX,← hY,Nat.mul_div_mul_right _ _ (Nat.two_pow_pos s),hY] at h2
  rw[h2]
  have hRe:=rem_wrap (U:=U) (un1:=((L / 4294967296:Nat):Int)) (Q:=(((U*4294967296+L / 4294967296) / Y:Nat):Int)) (Y:=Y) (R:=(((U*4294967296+L / 4294967296) % Y:Nat):Int)) (by
   have e:(((U*4294967296+L / 4294967296) / Y*Y:Nat):Int)=(((U*4294967296+L / 4294967296) / Y:Nat):Int)*(Y:Int):=Int.natCast_mul _ _
   rw[← e,← hR];omega) (by omega) (by omega)
  exact div64_mid hi lo y s Y U L _ _ _ (by omega) h0 hl h1 n3 n4 hs63 HZ hY hor s2 hL hLlt hS1 hq1 hlt hRe hQe rfl w
end
section
open Go.RowKit
def mulB (a b d:Int):Bool:=decide (a*b<d*18446744073709551616)
def mulF (a b d:Int):Int:=if a*b<d*18446744073709551616 then a*b / d else 0
set_option maxHeartbeats 1000000 in
theorem product_any (a b:Int) (w:World) (ha0:0≤a) (ha:a≤18446744073709551615) (hb0:0≤b) (hb:b≤18446744073709551615) :
  Calls Tryz.prog 330 #[.int .u64 a,.int .u64 b] w fun e w'=>e=.returned (.agg #[.int .u64 (a*b / 18446744073709551616),.int .u64 (a*b % 18446744073709551616)])∧Below w.heap.size w w':=by
 have HM:Hid (∀ w,Calls Tryz.prog 239 #[.int .u64 a,.int .u64 b] w fun e w'=>e=.returned (.tuple #[.int .u64 (a*b / 18446744073709551616),.int .u64 (a*b % 18446744073709551616)])∧w=w'):=fun w=>by
  obtain ⟨x,rfl⟩:=Int.eq_ofNat_of_zero_le ha0
  obtain ⟨y,rfl⟩:=Int.eq_ofNat_of_zero_le hb0
  have:=mul64 x y (by omega) (by omega) w
  simpa using this
 generalize a*b / 18446744073709551616=hi at *
 generalize a*b % 18446744073709551616=lo at *
 go_enter Tryz.func330,Tryz.ntmps330
 go_wp2_with (go_at_call 239;refine(HM.out _).mono ?_;rintro e w' ⟨rfl,rfl⟩)
 refine bodyPost_ret (v:=.agg #[.int .u64 hi,.int .u64 lo]) (by simp[results,Tryz.results330,go_sem]) rfl ⟨rfl,?_⟩
 exact(Below.refl _ _).alloc (Nat.le_refl _) _
set_option maxHeartbeats 1000000 in
theorem mulDiv_no (a b d:Int) (w:World) (ha0:0≤a) (ha:a≤18446744073709551615) (hb0:0≤b) (hb:b≤18446744073709551615) (hd:d≤a*b / 18446744073709551616) :
  Calls Tryz.prog 284 #[.int .u64 a,.int .u64 b,.int .u64 d] w fun e w'=>e=.returned (.tuple #[.int .u64 0,.bool false])∧Below w.heap.size w w':=by
 have HP:=Lib.hid (fun w=>product_any a b w ha0 ha hb0 hb)
 generalize a*b / 18446744073709551616=hi at *
 generalize a*b % 18446744073709551616=lo at *
 go_enter Tryz.func284,Tryz.ntmps284
 go_wp2_with (go_at_call 330;refine(HP.out _).mono ?_;rintro e w1 ⟨rfl,hb1⟩)
 go_ret2
 exact⟨rfl,by refine Below.alloc hb1 hb1.size _⟩
set_option maxHeartbeats 1000000 in
theorem mulDiv_yes (a b d q:Int) (w:World) (ha0:0≤a) (ha:a≤18446744073709551615) (hb0:0≤b) (hb:b≤18446744073709551615) (hd:a*b / 18446744073709551616<d)
  (HD:Hid (∀ w,Calls Tryz.prog 331 #[.int .u64 (a*b / 18446744073709551616),.int .u64 (a*b % 18446744073709551616),.int .u64 d] w fun e w'=>(∃ r:Int,e=.returned (.tuple #[.int .u64 q,.int .u64 r]))∧Same w w')) :
  Calls Tryz.prog 284 #[.int .u64 a,.int .u64 b,.int .u64 d] w fun e w'=>e=.returned (.tuple #[.int .u64 q,.bool true])∧Below w.heap.size w w':=by
 have HP:=Lib.hid (fun w=>product_any a b w ha0 ha hb0 hb)
 generalize a*b / 18446744073709551616=hi at *
 generalize a*b % 18446744073709551616=lo at *
 go_enter Tryz.func284,Tryz.ntmps284
 go_wp2_with (first
  | (go_at_call 330;refine(HP.out _).mono ?_;rintro e w1 ⟨rfl,hb1⟩)
  | (go_at_call 331;refine(HD.out _).mono ?_;rintro e w2 ⟨⟨r,rfl⟩,hs⟩))
 go_ret2
 exact⟨rfl,(Below.alloc hb1 hb1.size _).trans (hs.below _)⟩
theorem mulDiv_any (a b d:Int) (w:World) (ha0:0≤a) (ha:a≤18446744073709551615) (hb0:0≤b) (hb:b≤18446744073709551615) (hd0:0≤d) (hd:d≤18446744073709551615) :
  Calls Tryz.prog 284 #[.int .u64 a,.int .u64 b,.int .u64 d] w fun e w'=>e=.returned (.tuple #[.int .u64 (mulF a b d),.bool (mulB a b d)])∧Below w.heap.size w w':=by
 unfold mulF mulB
 obtain ⟨x,rfl⟩:=Int.eq_ofNat_of_zero_le ha0
 obtain ⟨y,rfl⟩:=Int.eq_ofNat_of_zero_le hb0
 obtain ⟨z,rfl⟩:=Int.eq_ofNat_of_zero_le hd0
 have e:(x:Int)*(y:Int)=((x*y:Nat):Int):=(Int.natCast_mul _ _).symm
 by_cases h:(x:Int)*(y:Int)<(z:Int)*18446744073709551616
 ·rw[if_pos h,decide_eq_true h]
  refine mulDiv_yes _ _ _ _ w ha0 ha hb0 hb (by omega) ?_
  show ∀ w,_
  intro w
  have h2:=div64_any (x*y / 18446744073709551616) (x*y % 18446744073709551616) z (by omega) (Nat.mod_lt _ (by decide)) (by omega) w
  rw[show x*y / 18446744073709551616*18446744073709551616+x*y % 18446744073709551616=x*y by omega] at h2
  simpa using h2
 ·rw[if_neg h,decide_eq_false h]
  exact mulDiv_no _ _ _ w ha0 ha hb0 hb (by omega)
end
section
open Go.RowKit
def penF (b n d:Int):Int:=if d<n then 0 else mulF b n d
def slaS (s:Int):Int:=if s=2∨s=3 then 3 else 4
def accR (v:Val) (e:Int):Int × Val × Int:=if v.st=2 then (0,{v with rq:=e,st:=3},0) else (8,Val.zero,0)
def slaR (v:Val) (e d pn pd:Int):Int × Val × Int:=if v.sl=true then (9,Val.zero,0) else if v.st=2∨v.st=3∨v.st=4∨v.st=5 then
  (0,⟨v.bal - penF v.bal pn pd,slaS v.st,true,if v.st=2 then e else v.rq,v.ex,max v.wd (e+d),-1⟩,penF v.bal pn pd) else (8,Val.zero,0)
theorem accR_eq (v:Val) {e:Int} (h0:0≤e) (h2:e≤1099511627776):accR v e=if v.st=2 then (0,{v with rq:=e,st:=3},0) else (8,Val.zero,0):=rfl
theorem slaR_eq (v:Val) {e d pn pd:Int} (h0:0≤e) (h1:0≤d) (h2:e+d≤1099511627776):slaR v e d pn pd=if v.sl=true then (9,Val.zero,0) else if v.st=2∨v.st=3∨v.st=4∨v.st=5 then
  (0,⟨v.bal - penF v.bal pn pd,slaS v.st,true,if v.st=2 then e else v.rq,v.ex,max v.wd (e+d),-1⟩,penF v.bal pn pd) else (8,Val.zero,0):=rfl
end
section
open Go.RowKit
instance:DecidableEq Val:=fun a b=>decidable_of_iff (a.bal=b.bal∧a.st=b.st∧a.sl=b.sl∧a.rq=b.rq∧a.ex=b.ex∧a.wd=b.wd∧a.dl=b.dl) (by cases a;cases b;simp)
def valL (v:Val):List Value:=[.int .u64 v.bal,.int .i64 v.st,.bool v.sl,.int .i64 v.rq,.int .i64 v.ex,.int .i64 v.wd,.int .i64 v.dl]
abbrev valV (v:Val):Value:=.agg (valL v).toArray
instance:EL valL 7:=⟨fun _=>rfl,fun x u h=>by simp[valL] at h;rcases h with rfl|rfl|rfl|rfl|rfl|rfl|rfl<;>rfl⟩
instance:EQF valL [.int,.int,.bool,.int,.int,.int,.int]:=⟨fun x y=>by
 obtain ⟨a,b,c,d,e,f,g⟩:=x;obtain ⟨a',b',c',d',e',f',g'⟩:=y
 simp only[valL,cellsEq,scEq,if_true,Bool.and_true,Val.mk.injEq,Option.some.injEq]
 rw[Bool.eq_iff_iff];simp⟩
def cfgL (c:Cfg):List Value:=[.int .i64 c.capacity,.int .i64 c.queueSize,.int .u64 c.minDeposit,.int .u64 c.maxDeposit,.int .u64 c.supplyCap,.int .u64 c.minBalance,.int .u64 c.maxBalance,.int .u64 c.minChurn,.int .u64 c.quotient,.int .u64 c.forcedCap,
 .int .i64 c.unbonding,.int .i64 c.slashDelay,.int .i64 c.ringLen,.int .i64 c.epochLen,.int .i64 c.visits,.int .i64 c.payments,.int .i64 c.partials,.int .i64 c.merges,.int .u64 c.penNum,.int .u64 c.penDen]
abbrev cfgV (c:Cfg):Value:=.agg (cfgL c).toArray
end
section
open Go.RowKit
def bt (n lo hi:Int):Bool:=decide (lo≤n) && decide (n≤hi)
def Cfg.deflt:Cfg:=⟨16,8,16,64,1024,8,128,32,4,64,2,5,4,4,6,4,2,2,1,4⟩
def fieldB (c:Cfg):Nat→Bool
 | 1=>bt c.capacity 1 4096
 | 2=>bt c.queueSize 1 4096
 | 3=>decide (1≤c.minDeposit)
 | 4=>decide (c.minDeposit≤c.maxDeposit)
 | 5=>decide (c.maxDeposit≤c.supplyCap) && decide (c.supplyCap≤1152921504606846976)
 | 6=>decide (1≤c.minBalance) && decide (c.minBalance≤c.minDeposit)
 | 7=>decide (c.maxDeposit≤c.maxBalance) && decide (c.maxBalance≤c.supplyCap)
 | 8=>decide (1≤c.minChurn) && decide (c.minChurn≤1152921504606846976)
 | 9=>decide (1≤c.quotient)
 | 10=>decide (c.forcedCap≤1152921504606846976)
 | 11=>bt c.unbonding 1 1048576
 | 12=>decide (c.unbonding<c.slashDelay) && decide (c.slashDelay≤1048576)
 | 13=>bt c.ringLen 1 4096
 | 14=>bt c.epochLen 1 4096
 | 15=>bt c.visits 1 4096
 | 16=>bt c.payments 1 4096
 | 17=>decide (0≤c.partials) && decide (c.partials<c.visits) && decide (c.partials<c.payments)
 | 18=>bt c.merges 0 4096
 | 19=>decide (c.penNum≤c.penDen)
 | 20=>decide (1≤c.penDen) && decide (c.penDen≤4294967296)
 | _=>true
def checkGo (c:Cfg):Nat→Nat→Nat
 | 0,_=>0
 | n+1,i=>if fieldB c i then checkGo c n (i+1) else i
def checkF (c:Cfg):Nat:=checkGo c 20 1
theorem checkF_zero {c:Cfg} (h:checkF c=0):∀ i,1≤i→i≤20→fieldB c i=true:=by
 have key:∀ n i,checkGo c n i=0→1≤i→∀ j,i≤j→j<i+n→fieldB c j=true:=by
  intro n
  induction n with
  | zero=>intro i _ _ j h1 h2;omega
  | succ n ih =>
   intro i hi h0 j h1 h2
   rw[checkGo] at hi
   by_cases hf:fieldB c i=true
   ·rw[if_pos hf] at hi
    by_cases hj:j=i
    ·rw[hj];exact hf
    ·exact ih (i+1) hi (by omega) j (by omega) (by omega)
   ·rw[if_neg hf] at hi;omega
 intro i h1 h2
 exact key 20 1 h (by omega) i h1 (by omega)
instance fnBt [IL 1]:FN 160 Tryz.f160 zk160:=⟨Tryz.func160,inferInstance⟩
variable (c:Cfg) (R:List Asn)
theorem right_spec (i:Int) (hi:1≤i∧i≤20):Spec 98 [cfgV c,.int .i64 i] R fun u L'=>u=.bool (fieldB c i.toNat)∧L'=R:=by
 have il:IL 1:=⟨trivial⟩
 rcases (by omega:i=1∨i=2∨i=3∨i=4∨i=5∨i=6∨i=7∨i=8∨i=9∨i=10∨i=11∨i=12∨i=13∨i=14∨i=15∨i=16∨i=17∨i=18∨i=19∨i=20) with rfl|rfl|rfl|rfl|rfl|rfl|rfl|rfl|rfl|rfl|rfl|rfl|rfl|rfl|rfl|rfl|rfl|rfl|rfl|rfl
 all_goals((intro G w M;refine sx_enter Tryz.func98 (n:=166) rfl rfl rfl rfl ?_;intro a F;(try simp only[zc,zn] at M));((try refine zI zk98 F M ?_;clear F M a;try clear w);(repeat'(first|refine zA ?_;repeat intro nb|refine zB ?_ ?_<;>intro hc<;>try exact no hc|refine zH ?_ ?_<;>(intro hg;rw[hg];try exact no hg)));all_goals try refine zO fun a w F M=>?_);(all_goals refine zE F M ?_);(all_goals exact⟨_,_,rfl,⟨by first|rfl|(simp_all [fieldB,bt,tupOf];done)|(simp_all [fieldB,bt,tupOf];omega),rfl⟩,M.perms permsA⟩))
theorem rcheck_spec:Spec 34 [cfgV c] R fun u L'=>u=.int .i64 (checkF c)∧L'=R:=by
 have hr:=fun (k:Nat) (h:k<20) R=>right_spec c R ((k:Int)+1) (by omega)
 generalize hR:checkF c=r
 refine zGz zk34 Tryz.func34 ?_;intro G;(repeat'(first|refine zA ?_;repeat intro nb|refine zB ?_ ?_<;>intro hc<;>try exact no hc|refine zH ?_ ?_<;>(intro hg;rw[hg];try exact no hg)));all_goals try refine zO fun a w F M=>?_
 refine svLoop F M (0:Nat) (fun k=>[(3,.int .i64 ((k:Int)+1))]) (fun _=>[]) (fun k=>k≤20∧checkGo c (20 - k) (k+1)=r) (fun k=>20 - k) [] ⟨by omega,hR⟩ ?_
 (rintro k ⟨q1,q2⟩ a w F M;(try simp only[zc,zn] at F M q1 q2 ⊢))
 by_cases hk:k<20
 ·have hk2:20 - k=(20 - (k+1))+1:=by omega
  have hs:=fun R=>hr k hk R
  rw[show((k:Int)+1).toNat=k+1 by omega] at hs
  rw[hk2,checkGo] at q2
  cases hb:fieldB c (k+1) with
  | true =>
   rw[hb] at q2 hs
   (try refine zI zk34 F M ?_;clear F M a;try clear w);(repeat'(first|refine zA ?_;repeat intro nb|refine zC ?_;refine kpW (k:=98) (hs _) ?_|refine zB ?_ ?_<;>intro hc<;>try exact no hc|refine zH ?_ ?_<;>(intro hg;rw[hg];try exact no hg)));all_goals try refine zO fun a w F M=>?_
   exact sv_again F M (k+1) kpA permsA ⟨by omega,by simpa using q2⟩ (by omega)
  | false =>
   rw[hb] at q2 hs
   (try refine zI zk34 F M ?_;clear F M a;try clear w);(repeat'(first|refine zA ?_;repeat intro nb|refine zC ?_;refine kpW (k:=98) (hs _) ?_|refine zB ?_ ?_<;>intro hc<;>try exact no hc|refine zH ?_ ?_<;>(intro hg;rw[hg];try exact no hg)));all_goals try refine zO fun a w F M=>?_
   (all_goals(refine zE F M ?_;exact⟨_,_,rfl,⟨by rw[← q2];simp[tupOf],rfl⟩,M.perms permsA⟩))
 ·obtain rfl:k=20:=by omega
  (try refine zI zk34 F M ?_;clear F M a;try clear w);(repeat'(first|refine zA ?_;repeat intro nb|refine zB ?_ ?_<;>intro hc<;>try exact no hc|refine zH ?_ ?_<;>(intro hg;rw[hg];try exact no hg)));all_goals try refine zO fun a w F M=>?_
  (all_goals(refine zE F M ?_;exact⟨_,_,rfl,⟨by rw[← q2];rfl,rfl⟩,M.perms permsA⟩))
theorem default_spec:Spec 35 [] R fun u L'=>u=cfgV Cfg.deflt∧L'=R:=by
 refine zGz zk35 Tryz.func35 ?_;intro G;(repeat'(first|refine zA ?_;repeat intro nb|refine zB ?_ ?_<;>intro hc<;>try exact no hc|refine zH ?_ ?_<;>(intro hg;rw[hg];try exact no hg)));all_goals exact zXz
end
section
open Go.RowKit
structure Asg where
 ix:Int
 cl:Int
 ep:Int
deriving DecidableEq
def asgL (x:Asg):List Value:=[.int .i64 x.ix,.int .i64 x.cl,.int .i64 x.ep]
structure Pm where
 ix:Int
 am:Int
 fl:Bool
deriving DecidableEq
def pmL (x:Pm):List Value:=[.int .i64 x.ix,.int .u64 x.am,.bool x.fl]
instance:EL asgL 3:=⟨fun _=>rfl,fun x u h=>by simp[asgL] at h;rcases h with rfl|rfl|rfl<;>rfl⟩
instance:EL pmL 3:=⟨fun _=>rfl,fun x u h=>by simp[pmL] at h;rcases h with rfl|rfl|rfl<;>rfl⟩
instance:EQF asgL [.int,.int,.int]:=⟨fun x y=>by
 obtain ⟨a,b,c⟩:=x;obtain ⟨d,e,f⟩:=y
 simp only[asgL,cellsEq,scEq,if_true,Bool.and_true,Asg.mk.injEq,Option.some.injEq]
 rw[Bool.eq_iff_iff];simp⟩
instance:EQF pmL [.int,.int,.bool]:=⟨fun x y=>by
 obtain ⟨a,b,c⟩:=x;obtain ⟨d,e,f⟩:=y
 simp only[pmL,cellsEq,scEq,if_true,Bool.and_true,Pm.mk.injEq,Option.some.injEq]
 rw[Bool.eq_iff_iff];simp⟩
structure Rc where
 k:Int
 c:Int
 ix:Int
 bk:Int
 ep:Int
 dl:Int
 vi:Int
 asg:List Asg
 pms:List Pm
deriving DecidableEq
def rcL (r:Rc) (s p:SlH):List Value:=[.int .i64 r.k,.int .i64 r.c,.int .i64 r.ix,.int .i64 r.bk,.int .i64 r.ep,.int .i64 r.dl,sl s,sl p,.int .i64 r.vi]
abbrev rcV (r:Rc) (s p:SlH):Value:=.agg (rcL r s p).toArray
theorem rc_eq (a b:Rc):decide (a=b)=(decide (a.asg=b.asg) && decide (a.pms=b.pms) && (decide (a.k=b.k) && (decide (a.c=b.c) && (decide (a.ix=b.ix) && (decide (a.bk=b.bk) && (decide (a.ep=b.ep) && (decide (a.dl=b.dl) && decide (a.vi=b.vi)))))))):=by
 rw[Bool.eq_iff_iff]
 cases a;cases b
 simp
 constructor
 ·rintro⟨rfl,rfl,rfl,rfl,rfl,rfl,rfl,rfl,rfl⟩;simp
 ·rintro⟨⟨rfl,rfl⟩,rfl,rfl,rfl,rfl,rfl,rfl,rfl⟩;simp
structure RcG (L:List Asn) (x:Rc) (s p:SlH):Prop where
 a:GS L 3 (sl s) x.asg.length (x.asg.flatMap asgL)
 p:GS L 3 (sl p) x.pms.length (x.pms.flatMap pmL)
structure Opn where
 k:Int
 ix:Int
 tg:Int
 am:Int
deriving DecidableEq
def opL (o:Opn):List Value:=[.int .i64 o.k,.int .i64 o.ix,.int .i64 o.tg,.int .u64 o.am]
instance:EL opL 4:=⟨fun _=>rfl,fun x u h=>by simp[opL] at h;rcases h with rfl|rfl|rfl|rfl<;>rfl⟩
abbrev nilH:SlH:=⟨none,0,0⟩
structure Rc.wf (x:Rc):Prop where
 k:I64 x.k
 c:I64 x.c
 ix:I64 x.ix
 bk:I64 x.bk
 ep:I64 x.ep
 dl:I64 x.dl
 vi:I64 x.vi
 asg:∀ y∈x.asg,I64 y.ix∧I64 y.cl∧I64 y.ep
 pms:∀ y∈x.pms,I64 y.ix∧U64 y.am
structure RcS where
 r:Rc
 s:SlH
 p:SlH
def rsL (x:RcS):List Value:=rcL x.r x.s x.p
instance:EL rsL 9:=⟨fun _=>rfl,fun x u h=>by simp[rsL,rcL] at h;rcases h with rfl|rfl|rfl|rfl|rfl|rfl|rfl|rfl|rfl<;>rfl⟩
theorem op_of_sh {w:World} {l:List Value} (h:HasSh w (.agg [.int .i64,.int .i64,.int .i64,.int .u64]) l):∃ x:Opn,l=opL x∧(I64 x.k∧I64 x.ix∧I64 x.tg∧U64 x.am):=by
 obtain ⟨c1,r1,rfl,h1,h⟩:=shb_cons h
 obtain ⟨c2,r2,rfl,h2,h⟩:=shb_cons h
 obtain ⟨c3,r3,rfl,h3,h⟩:=shb_cons h
 obtain ⟨c4,r4,rfl,h4,h⟩:=shb_cons h
 have:=shb_nil h;subst this
 obtain ⟨a,rfl,ha⟩:=shb_int h1
 obtain ⟨b,rfl,hb⟩:=shb_int h2
 obtain ⟨c,rfl,hc⟩:=shb_int h3
 obtain ⟨d,rfl,hd⟩:=shb_int h4
 exact⟨⟨a,b,c,d⟩,rfl,i64_wf ha,i64_wf hb,i64_wf hc,u64_wf hd⟩
end
section
open Go.RowKit
def satGo:Int→List Int→Int × Bool
 | n,[]=>(n,false)
 | n,x::r=>if 18446744073709551615<n+x then (18446744073709551615,true) else satGo (n+x) r
theorem wrap_lt {n x:Int} (h:U64 n) (hx:U64 x):(IntKind.u64.wrap (n+x)<n)↔18446744073709551615<n+x:=by
 rw[IntKind.wrap_u64]
 have:=h.1;have:=h.2;have:=hx.1;have:=hx.2
 omega
theorem saturate_reads (v:Value) (zs:List Int) (hz:∀ z∈zs,U64 z) {L:List Asn} (hg:GS L 1 v zs.length (zs.flatMap u64L)) :
  Reads 277 [v] (.tuple [.int .u64 (satGo 0 zs).1,.bool (satGo 0 zs).2].toArray) L:=by
 (intro K hK w M;refine sx_enter Tryz.func277 (n:=23) rfl rfl rfl rfl ?_;intro a F)
 replace hg:=hg.imp hK
 have hlen:=hg.len_le M
 generalize hR:satGo 0 zs=R
 (try refine zI zk277 F M ?_;clear F M a;try clear w);(repeat'(first|refine zA ?_;repeat intro b|refine zB ?_ ?_<;>intro hc<;>try exact no hc|refine zH ?_ ?_<;>(intro hg;rw[hg];try exact no hg)));all_goals try refine zO fun a w F M=>?_
 refine sv_loop (σ:=Nat × Int) (fun s=>[(4,.int .u64 s.2),(7,v),(8,.int .i64 zs.length),(9,.int .i64 s.1)]) (fun _=>K) (fun s=>s.1≤zs.length∧U64 s.2∧R=satGo s.2 (zs.drop s.1)) (fun s=>zs.length - s.1) F M (0,0) kpA permsA ⟨by omega,⟨by omega,by omega⟩,by simp[hR]⟩ ?_
 rintro⟨k,x⟩ ⟨h1,h2,h3⟩ a w F M
 simp only at h1 h2 h3 F ⊢
 by_cases hlt:k<zs.length
 ·obtain ⟨y,hy⟩:∃ y,zs[k]? = some y:=⟨zs[k],by simp[hlt]⟩
  have hyr:=hz y (List.mem_of_getElem? hy)
  have hd:=drop_cons hy
  by_cases hov:18446744073709551615<x+y
  ·have hw:=(wrap_lt h2 hyr).2 hov
   (try refine zI zk277 F M ?_;clear F M a;try clear w);(repeat'(first|refine zA ?_;repeat intro b|refine zB ?_ ?_<;>intro hc<;>try exact no hc|refine zH ?_ ?_<;>(intro hg;rw[hg];try exact no hg)));all_goals try refine zO fun a w F M=>?_
   (all_goals((first|(refine svEnd F M ?_)|(refine svRet F M ?_));refine⟨?_,M.perms permsA⟩))
   rw[h3,hd,satGo,if_pos hov];rfl
  ·have hw:¬(IntKind.u64.wrap (x+y)<x):=fun h=>hov ((wrap_lt h2 hyr).1 h)
   have:=h2.1;have:=hyr.1
   (try refine zI zk277 F M ?_;clear F M a;try clear w);(repeat'(first|refine zA ?_;repeat intro b|refine zB ?_ ?_<;>intro hc<;>try exact no hc|refine zH ?_ ?_<;>(intro hg;rw[hg];try exact no hg)));all_goals try refine zO fun a w F M=>?_
   (refine sv_again F M (k+1,x+y) kpA permsA ?_ ?_)
   ·exact⟨by omega,⟨by omega,by omega⟩,by rw[h3,hd,satGo,if_neg hov]⟩
   ·simp only[];omega
 ·(try refine zI zk277 F M ?_;clear F M a;try clear w);(repeat'(first|refine zA ?_;repeat intro b|refine zB ?_ ?_<;>intro hc<;>try exact no hc|refine zH ?_ ?_<;>(intro hg;rw[hg];try exact no hg)));all_goals try refine zO fun a w F M=>?_
  (all_goals((first|(refine svEnd F M ?_)|(refine svRet F M ?_));refine⟨?_,M.perms permsA⟩))
  have hk:k=zs.length:=by omega
  rw[h3,hk,List.drop_length,satGo];rfl
def addR (zs:List Int):Int × Bool:=if (satGo 0 zs).2 then (0,false) else ((satGo 0 zs).1,true)
theorem gadd_reads (v:Value) (zs:List Int) (hz:∀ z∈zs,U64 z) {L:List Asn} (hg:GS L 1 v zs.length (zs.flatMap u64L)) :
  Reads 185 [v] (.tuple [.int .u64 (addR zs).1,.bool (addR zs).2].toArray) L:=by
 (intro K hK w M;refine sx_enter Tryz.func185 (n:=13) rfl rfl rfl rfl ?_;intro a F)
 replace hg:=hg.imp hK
 have HS:=Lib.hid (saturate_reads v zs hz hg)
 unfold addR
 generalize satGo 0 zs=R at *
 (try refine zI zk185 F M ?_;clear F M a;try clear w);(repeat'(first|refine zA ?_;repeat intro b|refine zC ?_;refine acCall (k:=277) ?_;refine Spec.of_reads HS.out rfl ?_|refine zB ?_ ?_<;>intro hc<;>try exact no hc|refine zH ?_ ?_<;>(intro hg;rw[hg];try exact no hg)));all_goals try refine zO fun a w F M=>?_
 (all_goals((first|(refine svEnd F M ?_)|(refine svRet F M ?_));refine⟨?_,M.perms permsA⟩))
 all_goals simp_all [tupOf]
theorem rmax_reads {L:List Asn}:Reads 289 [] (.int .u64 18446744073709551615) L:=by
 (intro K hK w M;refine sx_enter Tryz.func289 (n:=1) rfl rfl rfl rfl ?_;intro a F)
 (try refine zI zk289 F M ?_;clear F M a;try clear w);(repeat'(first|refine zA ?_;repeat intro b|refine zC ?_;refine acCall (k:=277) ?_;refine Spec.of_reads HS.out rfl ?_|refine zB ?_ ?_<;>intro hc<;>try exact no hc|refine zH ?_ ?_<;>(intro hg;rw[hg];try exact no hg)));all_goals try refine zO fun a w F M=>?_
 (all_goals((first|(refine svEnd F M ?_)|(refine svRet F M ?_));refine⟨?_,M.perms permsA⟩))
 all_goals rfl
def raddGo:Int→List Int→Int × Bool
 | n,[]=>(n,true)
 | n,x::r=>if 18446744073709551615 - n<x then (0,false) else raddGo (n+x) r
theorem raddGo_eq:∀ (l:List Int) (n:Int),raddGo n l=if (satGo n l).2 then (0,false) else ((satGo n l).1,true)
 | [],n=>by simp[raddGo,satGo]
 | x::r,n=>by
  rw[raddGo,satGo]
  by_cases h:18446744073709551615<n+x
  ·rw[if_pos h,if_pos (by omega)];rfl
  ·rw[if_neg h,if_neg (by omega),raddGo_eq r]
theorem radd_reads (v:Value) (zs:List Int) (hz:∀ z∈zs,U64 z) {L:List Asn} (hg:GS L 1 v zs.length (zs.flatMap u64L)) :
  Reads 207 [v] (.tuple [.int .u64 (addR zs).1,.bool (addR zs).2].toArray) L:=by
 (intro K hK w M;refine sx_enter Tryz.func207 (n:=27) rfl rfl rfl rfl ?_;intro a F)
 replace hg:=hg.imp hK
 have hlen:=hg.len_le M
 have hR:addR zs=raddGo 0 zs:=(raddGo_eq zs 0).symm
 generalize addR zs=R at *
 (try refine zI zk207 F M ?_;clear F M a;try clear w);(repeat'(first|refine zA ?_;repeat intro b|refine zC ?_;refine acCall (k:=289) ?_;refine Spec.of_reads rmax_reads rfl ?_|refine zB ?_ ?_<;>intro hc<;>try exact no hc|refine zH ?_ ?_<;>(intro hg;rw[hg];try exact no hg)));all_goals try refine zO fun a w F M=>?_
 refine sv_loop (σ:=Nat × Int) (fun s=>[(4,.int .u64 s.2),(0,v),(5,.int .i64 s.1)]) (fun _=>K) (fun s=>s.1≤zs.length∧U64 s.2∧R=raddGo s.2 (zs.drop s.1)) (fun s=>zs.length - s.1) F M (0,0) kpA permsA ⟨by omega,⟨by omega,by omega⟩,by simp[hR]⟩ ?_
 rintro⟨k,x⟩ ⟨h1,h2,h3⟩ a w F M
 simp only at h1 h2 h3 F ⊢
 have h21:=h2.1;have h22:=h2.2
 by_cases hlt:k<zs.length
 ·obtain ⟨y,hy⟩:∃ y,zs[k]? = some y:=⟨zs[k],by simp[hlt]⟩
  have hyr:=hz y (List.mem_of_getElem? hy)
  have hy1:=hyr.1;have hy2:=hyr.2
  have hd:=drop_cons hy
  by_cases hov:18446744073709551615 - x<y
  ·(try refine zI zk207 F M ?_;clear F M a;try clear w);(repeat'(first|refine zA ?_;repeat intro b|refine zC ?_;refine acCall (k:=289) ?_;refine Spec.of_reads rmax_reads rfl ?_|refine zB ?_ ?_<;>intro hc<;>try exact no hc|refine zH ?_ ?_<;>(intro hg;rw[hg];try exact no hg)));all_goals try refine zO fun a w F M=>?_
   (all_goals((first|(refine svEnd F M ?_)|(refine svRet F M ?_));refine⟨?_,M.perms permsA⟩))
   rw[h3,hd,raddGo,if_pos hov];rfl
  ·(try refine zI zk207 F M ?_;clear F M a;try clear w);(repeat'(first|refine zA ?_;repeat intro b|refine zC ?_;refine acCall (k:=289) ?_;refine Spec.of_reads rmax_reads rfl ?_|refine zB ?_ ?_<;>intro hc<;>try exact no hc|refine zH ?_ ?_<;>(intro hg;rw[hg];try exact no hg)));all_goals try refine zO fun a w F M=>?_
   (refine sv_again F M (k+1,x+y) kpA permsA ?_ ?_)
   ·exact⟨by omega,⟨by omega,by omega⟩,by rw[h3,hd,raddGo,if_neg hov]⟩
   ·simp only[];omega
 ·(try refine zI zk207 F M ?_;clear F M a;try clear w);(repeat'(first|refine zA ?_;repeat intro b|refine zC ?_;refine acCall (k:=289) ?_;refine Spec.of_reads rmax_reads rfl ?_|refine zB ?_ ?_<;>intro hc<;>try exact no hc|refine zH ?_ ?_<;>(intro hg;rw[hg];try exact no hg)));all_goals try refine zO fun a w F M=>?_
  (all_goals((first|(refine svEnd F M ?_)|(refine svRet F M ?_));refine⟨?_,M.perms permsA⟩))
  have hk:k=zs.length:=by omega
  rw[h3,hk,List.drop_length,raddGo];rfl
end
section
open Go.RowKit
structure St where
 bk:Nat
 V:List Val
 dep:Int
 pd:Int
 bu:Int
 pe:List Nat
 fo:List Nat
 vo:List Nat
 me:List (Nat × Nat)
 pa:List (Nat × Int)
 at':Nat
 ca:Int
 lv:List Nat
 bo:List (Int × Nat)
def St.ini:St:=⟨0,[],0,0,0,[],[],[],[],[],0,0,[],[]⟩
def epo (c:Cfg) (s:St):Int:=(s.bk:Int) / c.epochLen
def Val.live (v:Val):Bool:=decide (v.st=2) || decide (v.st=3)
def bals (V:List Val):List Int:=V.map (·.bal)
def actv (V:List Val):Int:=(bals (V.filter Val.live)).sum
def wAt (W:List Int) (i:Nat):Int:=W.getD i 0
def newV (x:Int):Val:=⟨x,1,false,-1,-1,-1,-1⟩
structure Rs where
 c:Int
 ix:Int
 dl:Int
 s:St
def no' (s:St) (e:Int):Rs:=⟨e,-1,-1,s⟩
def ceilD (a d:Int):Int:=(a+d - 1) / d
def swpB (c:Cfg):Int:=(c.capacity - 1) / (min (c.visits - c.partials) (c.payments - c.partials)) / c.epochLen
def payD (c:Cfg) (ep ahead bal:Int):Option Int :=
 if 18446744073709551615<ahead+bal+c.forcedCap then none
 else if 1099511627776<ceilD (ahead+bal+c.forcedCap) c.minChurn then none
 else
  let t:=ep+max (ceilD (ahead+bal+c.forcedCap) c.minChurn) 1+1+c.unbonding+swpB c
  if 1099511627776<t then none else some t
def opDep (c:Cfg) (s:St) (x:Int):Rs :=
 if x<c.minDeposit∨c.maxDeposit<x then no' s 3
 else if c.capacity≤s.V.length then no' s 5
 else if c.queueSize≤s.pe.length then no' s 6
 else if c.supplyCap<x+(s.dep - s.pd - s.bu) then no' s 4
 else if 18446744073709551615<s.dep+x then no' s 10
 else ⟨0,s.V.length,-1,{s with V:=s.V++[newV x],pe:=s.pe++[s.V.length],dep:=s.dep+x}⟩
def aheadW (s:St) (cl:Int):Int:=((if cl=0 then s.fo else s.fo++s.vo).map (wAt (bals s.V))).sum
def opLeave (c:Cfg) (s:St) (cl ix:Int):Rs :=
 if ix<0 then no' s 7 else
 match s.V[ix.toNat]? with
 | none=>no' s 7
 | some v =>
  if (accR v (epo c s)).1≠0 then no' s (accR v (epo c s)).1
  else if c.queueSize≤(if cl=0 then s.fo else s.vo).length then no' s 6
  else match payD c (epo c s) (aheadW s cl) v.bal with
   | none=>no' s 10
   | some t =>
    let V':=s.V.set ix.toNat {(accR v (epo c s)).2.1 with dl:=t}
    ⟨0,ix,t,if cl=0 then {s with V:=V',fo:=s.fo++[ix.toNat]} else {s with V:=V',vo:=s.vo++[ix.toNat]}⟩
def opSlash (c:Cfg) (s:St) (ix:Int):Rs :=
 if ix<0 then no' s 7 else
 match s.V[ix.toNat]? with
 | none=>no' s 7
 | some v =>
  let r:=slaR v (epo c s) c.slashDelay c.penNum c.penDen
  if r.1≠0 then no' s r.1
  else if v.st=2∧c.queueSize≤s.fo.length then no' s 6
  else
   ⟨0,ix,-1,{s with V:=s.V.set ix.toNat r.2.1,bu:=s.bu+r.2.2,fo:=if v.st=2 then s.fo++[ix.toNat] else s.fo,bo:=if v.st=5 then s.bo++[(r.2.1.wd,ix.toNat)] else s.bo}⟩
def merC (c:Cfg) (a b:Val):Int :=
 if a.st≠2∨b.st≠2 then 8
 else if a.sl=true∨b.sl=true then 9
 else if c.maxBalance<a.bal+b.bal∨18446744073709551615<a.bal+b.bal then 3
 else 0
def merR (c:Cfg) (V:List Val) (i j:Int):Int :=
 if i<0∨j<0 then 7 else
 match V[i.toNat]?,V[j.toNat]? with
 | some a,some b=>if i=j then 12 else merC c a b
 | _,_=>7
def opMerge (c:Cfg) (s:St) (i j:Int):Rs :=
 if merR c s.V i j≠0 then no' s (merR c s.V i j)
 else if c.queueSize≤s.me.length then no' s 6
 else ⟨0,i,-1,{s with me:=s.me++[(i.toNat,j.toNat)]}⟩
def parC (V:List Val) (i x:Int):Int :=
 if i<0 then 7 else
 match V[i.toNat]? with
 | none=>7
 | some v=>if x=0 then 3 else if v.st≠2 then 8 else 0
def opPart (c:Cfg) (s:St) (i x:Int):Rs :=
 if parC s.V i x≠0 then no' s (parC s.V i x)
 else if c.queueSize≤s.pa.length then no' s 6
 else ⟨0,i,-1,{s with pa:=s.pa++[(i.toNat,x)]}⟩
def leaveV (e:Int) (v:Val):Val:=if v.st=3∧v.ex=e then {v with st:=4} else v
def ripeV (e:Int) (v:Val):Val:=if v.st=4∧v.wd≤e then {v with st:=5} else v
def churn (c:Cfg) (V:List Val):Int:=max c.minChurn (actv V / c.quotient)
def takeW (W:List Int):Int→List Nat→Nat × Int
 | x,[]=>(0,x)
 | x,i::r=>if wAt W i≤x then ((takeW W (x - wAt W i) r).1+1,(takeW W (x - wAt W i) r).2) else (0,x)
def granted (ca ch:Int):Int:=ca+min ch (18446744073709551615 - ca)
def setAsg (c:Cfg) (e:Int) (v:Val):Val:={v with ex:=e,wd:=max v.wd (e+c.unbonding)}
def mods (f:Val→Val) (V:List Val) (l:List Nat):List Val:=l.foldl (fun V i=>V.modify i f) V
def actGo (W:List Int) (lim:Int):Int→List Nat→Nat
 | _,[]=>0
 | s,i::r=>if lim<s+wAt W i∨18446744073709551615<s+wAt W i then 0 else actGo W lim (s+wAt W i) r+1
def actN (W:List Int) (lim:Int):List Nat→Nat
 | []=>0
 | i::r=>actGo W lim (wAt W i) r+1
def actV (v:Val):Val:={v with st:=2}
def merV (c:Cfg) (V:List Val) (p:Nat × Nat):List Val :=
 if merR c V p.1 p.2=0 then (V.modify p.1 fun a=>{a with bal:=0,st:=7}).modify p.2 fun b=>{b with bal:=b.bal+(V.getD p.1 Val.zero).bal} else V
def asgs (e:Int) (fo vo:List Nat) (k:Nat):List Asg:=(fo.take k).map (fun i=>⟨i,0,e⟩)++(vo.take (k - fo.length)).map (fun i=>⟨i,1,e⟩)
structure Bd where
 ag:List Asg
 s:St
def boundM (c:Cfg) (s:St):Bd :=
 let e:=epo c s
 let V1:=s.V.map (leaveV e)
 let V2:=V1.map (ripeV e)
 let ch:=churn c V2
 let t:=takeW (bals V2) (granted s.ca ch) (s.fo++s.vo)
 let ix:=(s.fo++s.vo).take t.1
 let V3:=mods (setAsg c (e+1)) V2 ix
 let n:=actN (bals V3) ch s.pe
 let V4:=mods actV V3 (s.pe.take n)
 let V5:=(s.me.take c.merges.toNat).foldl (merV c) V4
 let due:=(s.bo.filter fun x=>decide (x.1=e)).map (·.2)
 ⟨asgs (e+1) s.fo s.vo t.1,{s with
  V:=V5,fo:=s.fo.drop t.1,vo:=s.vo.drop (t.1 - s.fo.length),ca:=if t.1=(s.fo++s.vo).length then 0 else t.2,
  pe:=s.pe.drop n,me:=s.me.drop c.merges.toNat,lv:=ix,
  bo:=(s.bo.filter fun x=>decide (x.1≠e))++((due.filter fun i=>decide (e<(V1.getD i Val.zero).wd)).map fun i=>((V1.getD i Val.zero).wd,i))++ix.map fun i=>((V3.getD i Val.zero).wd,i)}⟩
def availV (c:Cfg) (v:Val):Int:=if v.st≠2∨v.sl=true∨v.bal≤c.minBalance then 0 else v.bal - c.minBalance
def parV (c:Cfg) (Z:List Val × List Pm) (r:Nat × Int):List Val × List Pm :=
 match Z.1[r.1]? with
 | none=>Z
 | some v =>
  let x:=min r.2 (availV c v)
  (Z.1.set r.1 {v with bal:=v.bal - x},if 0<x then Z.2++[⟨r.1,x,false⟩] else Z.2)
def sweepGo (V:List Val) (pays:Nat):Nat→Nat→List Nat→List Nat × Nat × Nat
 | 0,at',l=>(l,0,at')
 | k+1,at',l =>
  if l.length=pays then (l,0,at')
  else
   let i:=at' % V.length
   let r:=sweepGo V pays k ((i+1) % V.length) (if (V.getD i Val.zero).st=5 then l++[i] else l)
   (r.1,r.2.1+1,r.2.2)
def payV (v:Val):Val:={v with bal:=0,st:=6}
structure Py where
 pm:List Pm
 vi:Nat
 s:St
def payM (c:Cfg) (s:St):Py :=
 let q:=s.pa.take c.partials.toNat
 let Z:=q.foldl (parV c) (s.V,[])
 let r:=sweepGo Z.1 (c.payments.toNat - Z.2.length) (min (c.visits.toNat - q.length) Z.1.length) s.at' []
 let pm:=Z.2++r.1.map fun (i:Nat)=>(⟨i,(Z.1.getD i Val.zero).bal,true⟩:Pm)
 ⟨pm,q.length+r.2.1,{s with V:=mods payV Z.1 r.1,pa:=s.pa.drop c.partials.toNat,at':=r.2.2,pd:=s.pd+(pm.map (·.am)).sum}⟩
def tickM (c:Cfg) (s:St):Rc × St :=
 let s1:={s with bk:=s.bk+1}
 let b:=if ((s.bk+1:Nat):Int) % c.epochLen=0 then boundM c s1 else ⟨[],s1⟩
 let p:=payM c b.s
 (⟨7,0,-1,s.bk+1,epo c s1,-1,p.vi,b.ag,p.pm⟩,p.s)
def opM (c:Cfg) (s:St) (o:Opn):Rs :=
 if o.k=1 then opDep c s o.am
 else if o.k=2 then opLeave c s 1 o.ix
 else if o.k=3 then opLeave c s 0 o.ix
 else if o.k=4 then opSlash c s o.ix
 else if o.k=5 then opMerge c s o.ix o.tg
 else if o.k=6 then opPart c s o.ix o.am
 else no' s 11
def stepM (c:Cfg) (s:St) (o:Opn):Rc × St :=
 if o.k=7 then tickM c s
 else (⟨o.k,(opM c s o).c,(opM c s o).ix,s.bk,epo c s,(opM c s o).dl,0,[],[]⟩,(opM c s o).s)
def runM (c:Cfg):St→List Opn→List Rc × St
 | s,[]=>([],s)
 | s,o::r=>((stepM c s o).1::(runM c (stepM c s o).2 r).1,(runM c (stepM c s o).2 r).2)
end
end Go.Proofs.YtjbfcacmdahnhaaGreat
