import Derived.Test.YtopbohbkhljjgaaGreatZmg
set_option linter.unusedVariables false
set_option linter.unusedSimpArgs false
set_option linter.unusedSectionVars false
set_option maxRecDepth 100000
set_option maxHeartbeats 8000000
namespace Go.Proofs.YtopbohbkhljjgaaGreat
section
open Go.RowKit
def laterGo:Int→List Int→Int × Bool
 | s,[]=>(s,true)
 | s,n::t=>if n<0∨n>1099511627776 - s then (0,false) else laterGo (s+n) t
def laterF (a:Int) (l:List Int):Int:=(laterGo 0 (a::l)).1
def laterB (a:Int) (l:List Int):Bool:=(laterGo 0 (a::l)).2
theorem elemInt:ElemT Tryz.prog 24 3 (.int .i64 0) 1 8:=⟨Tryz.underlying24,by kernel_rfl,rfl,by decide⟩
theorem drop_get {zs:List Int} {k:Nat} (h:k<zs.length):zs.drop k=zs[k]::zs.drop (k+1):=List.drop_eq_getElem_cons h
theorem ret_ib {k:IntKind} {x y:Int} {p q:Bool} (h:x=y) (h':p=q):Ending.returned (.tuple #[.int k x,.bool p])=.returned (.tuple #[.int k y,.bool q]):=by rw[h,h']
theorem pair1 {α β:Type} {p:α × β} {a b:α} {c d:β} (h:p=(a,c)) (k:p=(b,d)):a=b:=by rw[h] at k;exact(Prod.mk.inj k).1
theorem pair2 {α β:Type} {p:α × β} {a b:α} {c d:β} (h:p=(a,c)) (k:p=(b,d)):c=d:=by rw[h] at k;exact(Prod.mk.inj k).2
set_option maxHeartbeats 1000000 in
theorem later_any (a:Int) (v:Value) (by':List Int) (w:World) (hv:SlR w 1 v by'.length (ints by')) (hl:by'.length≤1000000) (ha:-9223372036854775808≤a∧a≤9223372036854775807) (hr:∀ z∈by',-9223372036854775808≤z∧z≤9223372036854775807) :
  Calls Tryz.prog 286 #[.int .i64 a,v] w fun e w'=>e=.returned (.tuple #[.int .i64 (laterF a by'),.bool (laterB a by')])∧Below w.heap.size w w':=by
 have o0:(w.alloc (.cells #[.int .i64 a] 3)).ownsRow w.heap.size 3 1 (.slice (some ⟨w.heap.size,0,none⟩) 1 1) 1 [.int .i64 a]:=World.ownsRow_lit w #[.int .i64 a] 1 (Nat.le_refl _) (by decide) rfl
 have s0:=hv.below_all ((Below.refl w.heap.size w).alloc (Nat.le_refl _) (.cells #[.int .i64 a] 3))
 have c1:1+by'.length≤maxLen:=by unfold maxLen;omega
 have c2:(1+by'.length)*8≤140737488355328:=by omega
 have c3:w.heap.size≤(w.alloc (.cells #[.int .i64 a] 3)).heap.size:=by simp
 go_enter Tryz.func286,Tryz.ntmps286
 go_wp2_with (at_builtin;go_must (refine wpList_append_sl _ rfl _ _ _ rfl elemInt o0 rfl s0 rfl (ints_one by') c1 c2 c3 ?_);intro v1 w1 hown hgr _;have hs:=ownsRow_SlR hown;obtain ⟨b,off,cap,rfl,hb,hc⟩:=hs.openSome (by omega);clear o0 s0)
 have hcell:∀ j (h:j<(a::by').length),w1.cell? ⟨b,off+j,none⟩=some (.int .i64 (a::by')[j]):=fun j h=>hc j _ (by rw[show [Value.int .i64 a]++ints by'=ints (a::by') from rfl];exact ints_get h)
 have hbel:Below w.heap.size w w1:=((Below.refl _ _).alloc (Nat.le_refl _) _).grown hgr (by simp) (by simp[Value.ownBlock])
 have hfin:laterGo 0 (a::by')=(laterF a by',laterB a by'):=rfl
 have hlen:(a::by').length=1+by'.length:=by simp;omega
 have hrng:∀ z∈a::by',-9223372036854775808≤z∧z≤9223372036854775807:=by
  intro z hz
  rcases List.mem_cons.1 hz with rfl|hz
  ·exact ha
  ·exact hr z hz
 have HF:=Lib.hid hfin
 have HL:=Lib.hid hlen
 have HR:=Lib.hid hrng
 clear hc hgr hs hown hfin hlen hrng hr hv
 generalize a::by'=zs at *
 go_loop [6,8,14] (fun s _ i=>∃ (k:Nat) (x:Int),k≤zs.length∧0≤x∧x≤1099511627776∧i=.int .i64 k∧s=.int .i64 x∧laterGo 0 zs=laterGo x (zs.drop k)) (fun _ _ i=>(zs.length - (intOf i).toNat))
 case atStart=>exact⟨0,0,by omega,by omega,by omega,rfl,rfl,rfl⟩
 case round =>
  obtain ⟨k,x,hk,hx0,hx1,rfl,rfl,hinv⟩:=hrel
  by_cases hlt:k<zs.length
  ·have hcl:=hcell k hlt
   have hz:=HR.out zs[k] (List.getElem_mem hlt)
   rw[drop_get hlt,laterGo] at hinv
   have hlt':k<1+by'.length:=by rw[← HL.out];exact hlt
   clear hcell
   generalize zs[k]=z at *
   by_cases h1:z<0
   ·rw[if_pos (.inl h1)] at hinv
    have HI:=Lib.hid hinv
    clear hinv
    go_wp2
    go_ret2
    exact⟨ret_ib (pair1 HI.out HF.out) (pair2 HI.out HF.out),hbel⟩
   ·by_cases h2:1099511627776 - x<z
    ·rw[if_pos (.inr h2)] at hinv
     have HI:=Lib.hid hinv
     clear hinv
     go_wp2
     go_ret2
     exact⟨ret_ib (pair1 HI.out HF.out) (pair2 HI.out HF.out),hbel⟩
    ·rw[if_neg (by omega)] at hinv
     have HI:=Lib.hid hinv
     clear hinv
     go_wp2
     go_round
     case rel=>exact⟨k+1,x+z,by omega,by omega,by omega,by go_num,rfl,HI.out⟩
     case measure=>simp[intOf];omega
  ·have hge:1+by'.length≤k:=by rw[← HL.out];omega
   rw[List.drop_of_length_le (by omega),laterGo] at hinv
   have HI:=Lib.hid hinv
   clear hinv hcell
   go_wp2
   go_ret2
   exact⟨ret_ib (pair1 HI.out HF.out) (pair2 HI.out HF.out),hbel⟩
def laterR (a:Int) (l:List Int):Int × Bool:=if a<0∨1099511627776<a then (0,false) else laterGo a l
theorem laterR_eq (a:Int) (l:List Int):laterR a l=laterGo 0 (a::l):=by
 unfold laterR
 rw[laterGo]
 by_cases h:a<0∨1099511627776<a
 ·rw[if_pos h,if_pos (by omega)]
 ·rw[if_neg h,if_neg (by omega),Int.zero_add]
def maxGo:Int→List Int→Int
 | x,[]=>x
 | x,n::t=>maxGo (if x<n then n else x) t
def maxF:List Int→Int
 | []=>-1
 | n::t=>maxGo n t
set_option maxHeartbeats 1000000 in
theorem slicesMax_any (z:Int) (zs:List Int) (v:Value) (w:World) (hv:SlR w 1 v (z::zs).length (ints (z::zs))) (hl:(z::zs).length≤1000000) :
  Calls Tryz.prog 325 #[v] w fun e w'=>e=.returned (.int .i64 (maxF (z::zs)))∧w=w':=by
 obtain ⟨b,off,cap,rfl,hb,hc⟩:=hv.openSome (by simp)
 have hcell:∀ j (h:j<(z::zs).length),w.cell? ⟨b,off+j,none⟩=some (.int .i64 (z::zs)[j]):=fun j h=>hc j _ (ints_get h)
 have h0:w.cell? ⟨b,off,none⟩=some (.int .i64 z):=hcell 0 (by simp)
 have hfin:maxF (z::zs)=maxGo z ((z::zs).drop 1):=rfl
 have hpos:1≤(z::zs).length:=by simp
 have HF:=Lib.hid hfin
 clear hc hv hfin
 generalize z::zs=l at *
 generalize maxF l=r at *
 go_enter Tryz.func325,Tryz.ntmps325
 go_wp2
 go_loop [3,4] (fun m i=>∃ (k:Nat) (x:Int),1≤k∧k≤l.length∧i=.int .i64 k∧m=.int .i64 x∧r=maxGo x (l.drop k)) (fun _ i=>(l.length - (intOf i).toNat))
 case atStart=>exact⟨1,z,by omega,by omega,rfl,rfl,HF.out⟩
 case round =>
  obtain ⟨k,x,hk1,hk,rfl,rfl,hinv⟩:=hrel
  by_cases hlt:k<l.length
  ·have hcl:=hcell k hlt
   rw[drop_get hlt,maxGo] at hinv
   have HI:=Lib.hid hinv
   clear hcell hinv
   generalize l[k]=n at *
   go_wp2
   go_round
   case rel =>
    have HE:r=maxGo (max x n) (List.drop (k+1) l):=by
     rw[show max x n=(if x<n then n else x) by rw[Int.max_def];split<;>split<;>omega]
     exact HI.out
    first
    | exact⟨k+1,_,by omega,by omega,by go_num,rfl,HI.out⟩
    | exact⟨k+1,_,by omega,by omega,by go_num,rfl,HE⟩
   case measure=>simp[intOf];omega
  ·rw[List.drop_of_length_le (by omega),maxGo] at hinv
   have HI:=Lib.hid hinv
   clear hinv hcell
   go_wp2
   go_ret
   exact⟨by rw[HI.out];rfl,rfl⟩
set_option maxHeartbeats 1000000 in
theorem max_any (zs:List Int) (v:Value) (w:World) (hv:SlR w 1 v zs.length (ints zs)) (hl:zs.length≤1000000) :
  Calls Tryz.prog 293 #[v] w fun e w'=>e=.returned (.int .i64 (maxF zs))∧w=w':=by
 cases zs with
 | nil =>
  obtain ⟨⟨_,_,rfl⟩,_,_⟩|⟨b,off,cap,rfl,hb,_,hc⟩:=hv.parts
  all_goals
   go_enter Tryz.func293,Tryz.ntmps293
   go_wp2
   go_ret
   exact⟨rfl,rfl⟩
 | cons z zs =>
  have hc:=fun w' hw=>slicesMax_any z zs v w' hw hl
  obtain ⟨b,off,cap,rfl,hb,_⟩:=hv.openSome (by simp)
  have hpos:1≤(z::zs).length:=by simp
  generalize z::zs=l at *
  generalize maxF l=r at *
  go_enter Tryz.func293,Tryz.ntmps293
  go_wp2_with (go_at_call 325;refine(hc _ hv).mono ?_;rintro e w' ⟨rfl,rfl⟩)
  go_ret
  exact⟨rfl,rfl⟩
end
section
open Go.RowKit
set_option maxHeartbeats 400000 in
theorem rMaxEpoch_any (w:World):Calls Tryz.prog 295 #[] w fun e w'=>e=.returned (.int .i64 1099511627776)∧w=w':=by
 go_enter Tryz.func295,Tryz.ntmps295
 go_wp2
 go_ret
 exact⟨rfl,rfl⟩
set_option maxHeartbeats 1000000 in
theorem rLater_any (a:Int) (v:Value) (zs:List Int) (w:World) (hv:SlR w 1 v zs.length (ints zs)) (hl:zs.length≤1000000) (hr:∀ z∈zs,-9223372036854775808≤z∧z≤9223372036854775807) :
  Calls Tryz.prog 236 #[.int .i64 a,v] w fun e w'=>e=.returned (.tuple #[.int .i64 (laterF a zs),.bool (laterB a zs)])∧Same w w':=by
 have hfin:laterR a zs=(laterF a zs,laterB a zs):=laterR_eq a zs
 have HF:=Lib.hid hfin
 clear hfin
 by_cases ha:a<0
 ·have HI:Hid (laterR a zs=(0,false)):=by unfold laterR;rw[if_pos (.inl ha)];rfl
  go_enter Tryz.func236,Tryz.ntmps236
  go_wp2
  go_ret2
  exact⟨ret_ib (pair1 HI.out HF.out) (pair2 HI.out HF.out),Same.refl _⟩
 ·by_cases hb:1099511627776<a
  ·have HI:Hid (laterR a zs=(0,false)):=by unfold laterR;rw[if_pos (.inr hb)];rfl
   go_enter Tryz.func236,Tryz.ntmps236
   go_wp2
   go_ret2
   exact⟨ret_ib (pair1 HI.out HF.out) (pair2 HI.out HF.out),Same.refl _⟩
  ·have h0:laterR a zs=laterGo a zs:=by unfold laterR;rw[if_neg (by omega)]
   have HR:=Lib.hid hr
   rw[h0] at HF
   clear h0 hr
   have hcell:∀ j (h:j<zs.length),∃ b off cap,v=.slice (some ⟨b,off,none⟩) zs.length cap∧w.cell? ⟨b,off+j,none⟩=some (.int .i64 zs[j]):=fun j h=>by
    obtain ⟨b,off,cap,e,_,hc⟩:=hv.openSome (by omega)
    exact⟨b,off,cap,e,hc j _ (ints_get h)⟩
   obtain ⟨⟨_,_,rfl⟩,hn,hx⟩|⟨b,off,cap,rfl,_,_,hc⟩:=hv.parts
   ·have:zs=[]:=List.eq_nil_of_length_eq_zero hn
    subst this
    have HI:Hid (laterGo a []=(a,true)):=rfl
    go_enter Tryz.func236,Tryz.ntmps236
    go_wp2
    refine wp_loop_rounds 1 ?_
    rw[rounds_succ]
    go_wp2
    go_ret2
    exact⟨ret_ib (pair1 HI.out HF.out) (pair2 HI.out HF.out),Same.refl _⟩
   ·have hcell:∀ j (h:j<zs.length),w.cell? ⟨b,off+j,none⟩=some (.int .i64 zs[j]):=fun j h=>hc j _ (ints_get h)
    clear hc hv
    go_enter Tryz.func236,Tryz.ntmps236
    go_wp2
    go_loopw [0,6] (fun s i wr=>∃ (k:Nat) (x:Int),k≤zs.length∧0≤x∧x≤1099511627776∧i=.int .i64 k∧s=.int .i64 x∧Same w wr∧laterGo a zs=laterGo x (zs.drop k)) (fun _ i _=>(zs.length - (intOf i).toNat))
    case atStart=>exact⟨0,a,by omega,by omega,by omega,rfl,rfl,Same.refl w,rfl⟩
    case round =>
     obtain ⟨k,x,hk,hx0,hx1,rfl,rfl,hS,hinv⟩:=hrel
     by_cases hlt:k<zs.length
     ·have hcl:=(hS.cell _).trans (hcell k hlt)
      have hz:=HR.out zs[k] (List.getElem_mem hlt)
      rw[drop_get hlt,laterGo] at hinv
      clear hcell
      generalize zs[k]=z at *
      by_cases h1:z<0
      ·rw[if_pos (.inl h1)] at hinv
       have HI:=Lib.hid hinv
       clear hinv
       go_wp2_with fail
       go_quiet ((go_at_call 295;exact quiet_eq (rMaxEpoch_any _)))
       go_wp2
       go_ret2
       exact⟨ret_ib (pair1 HI.out HF.out) (pair2 HI.out HF.out),hS.more _⟩
      ·have hd1:decide (z<0)=false:=by simpa using h1
       by_cases h2:1099511627776 - x<z
       ·rw[if_pos (.inr h2)] at hinv
        have HI:=Lib.hid hinv
        clear hinv
        go_wp2_with fail
        go_quiet ((go_at_call 295;exact quiet_eq (rMaxEpoch_any _)))
        go_wp2
        go_ret2
        exact⟨ret_ib (pair1 HI.out HF.out) (pair2 HI.out HF.out),hS.more _⟩
       ·rw[if_neg (by omega)] at hinv
        have HI:=Lib.hid hinv
        clear hinv
        go_wp2_with fail
        go_quiet ((go_at_call 295;exact quiet_eq (rMaxEpoch_any _)))
        go_wp2
        go_roundw
        case rel=>exact⟨k+1,x+z,by omega,by omega,by omega,by go_num,rfl,hS.more _,HI.out⟩
        case measure=>simp[intOf];omega
     ·rw[List.drop_of_length_le (by omega),laterGo] at hinv
      have HI:=Lib.hid hinv
      clear hinv hcell
      go_wp2
      go_ret2
      exact⟨ret_ib (pair1 HI.out HF.out) (pair2 HI.out HF.out),hS⟩
end
end Go.Proofs.YtopbohbkhljjgaaGreat
section
namespace Go.Proofs
open Go.Shelf
def Tryz.lays134_ren:Go.Shelf.Ren:=⟨fun|134=>342|129=>345|n=>n,fun|53=>23|3=>3|4=>4|46=>376|5=>5|9=>9|n=>n,fun|n=>n⟩
theorem Tryz.lays134:Go.Proofs.Lays.n134 Tryz.prog Tryz.lays134_ren:={
 mixed:=by kernel_rfl
 f129:=Tryz.func345.trans (congrArg some (by kernel_rfl))
 f134:=Tryz.func342.trans (congrArg some (by kernel_rfl))
 t3:=Tryz.underlying3
 a3:=Tryz.isAgg3
 z3:=Tryz.sizeOf3
 v3:=Tryz.zeroValue3
 t4:=Tryz.underlying4
 a4:=Tryz.isAgg4
 z4:=Tryz.sizeOf4
 v4:=Tryz.zeroValue4
 t5:=Tryz.underlying5
 a5:=Tryz.isAgg5
 z5:=Tryz.sizeOf5
 v5:=Tryz.zeroValue5
 t9:=Tryz.underlying9
 a9:=Tryz.isAgg9
 z9:=Tryz.sizeOf9
 v9:=Tryz.zeroValue9
 t46:=Tryz.underlying376
 a46:=Tryz.isAgg376
 z46:=Tryz.sizeOf376
 v46:=Tryz.zeroValue376
 t53:=Tryz.underlying23
 a53:=Tryz.isAgg23
 z53:=Tryz.sizeOf23
 v53:=Tryz.zeroValue23}
theorem Tryz.bits_LeadingZeros64 (x:Int) (w:World) (h0:0≤x) (h1:x≤18446744073709551615) :
  Calls Tryz.prog 342 #[.int .u64 x] w fun e w'=>e=.returned (.int .i64 (64 - (Lib.bitLen x.toNat:Int)))∧w'=w:=Any.bits_LeadingZeros64 Tryz.lays134 x w h0 h1
def Tryz.lays264_ren:Go.Shelf.Ren:=⟨fun|264=>341|n=>n,fun|53=>23|46=>376|n=>n,fun|n=>n⟩
theorem Tryz.lays264:Go.Proofs.Lays.n264 Tryz.prog Tryz.lays264_ren:={
 mixed:=by kernel_rfl
 f264:=Tryz.func341.trans (congrArg some (by kernel_rfl))
 t46:=Tryz.underlying376
 a46:=Tryz.isAgg376
 z46:=Tryz.sizeOf376
 v46:=Tryz.zeroValue376
 t53:=Tryz.underlying23
 a53:=Tryz.isAgg23
 z53:=Tryz.sizeOf23
 v53:=Tryz.zeroValue23}
open Go.RowKit Go.Lib in
theorem Tryz.bits_Mul64 (x y:Nat) (hx:x<18446744073709551616) (hy:y<18446744073709551616) (w:World) :
  Calls Tryz.prog 341 #[.int .u64 x,.int .u64 y] w fun e w'=>e=.returned (.tuple #[.int .u64 ((x*y / 18446744073709551616:Nat):Int),.int .u64 ((x*y % 18446744073709551616:Nat):Int)])∧w'=w:=Any.bits_Mul64 Tryz.lays264 x y hx hy w
end Go.Proofs
end
namespace Go.Proofs.YtopbohbkhljjgaaGreat
end Go.Proofs.YtopbohbkhljjgaaGreat
section
namespace Go.Proofs.YtopbohbkhljjgaaGreat.DM
theorem split_y {y yn1 yn0 q u r un1:Nat} (hy:y=yn1*4294967296+yn0) (hq:q*yn1+r=u) :
  q*y=(q*yn1)*4294967296+q*yn0∧u*4294967296+un1=(q*yn1)*4294967296+r*4294967296+un1:=by
 constructor
 ·rw[hy,Nat.mul_add,Nat.mul_assoc]
 ·rw[← hq,Nat.add_mul]
def Inv (y yn1 u un1 q r:Nat):Prop:=q*yn1+r=u∧(u*4294967296+un1) / y≤q∧q≤4294967297∧r<4294967296
theorem quot_lt {y u un1:Nat} (hu:u<y) (h1:un1<4294967296):(u*4294967296+un1) / y<4294967296:=by
 rw[Nat.div_lt_iff_lt_mul (by omega)]
 have:(u+1)*4294967296≤y*4294967296:=Nat.mul_le_mul_right _ (by omega)
 rw[Nat.mul_comm 4294967296 y]
 omega
theorem leG {a b c y:Nat} (h:b*c≤y):a*b*c≤a*y:=by rw[Nat.mul_assoc];exact Nat.mul_le_mul_left a h
theorem inv_start {y yn1 yn0 u un1:Nat} (hy:y=yn1*4294967296+yn0) (h0:yn0<4294967296) (hn:2147483648≤yn1) (hn':yn1<4294967296) (hu:u<y) (h1:un1<4294967296):Inv y yn1 u un1 (u / yn1) (u % yn1):=by
 have e:u / yn1*yn1+u % yn1=u:=by rw[Nat.mul_comm];exact Nat.div_add_mod u yn1
 have hr:u % yn1<yn1:=Nat.mod_lt _ (by omega)
 have h5:yn1*4294967296≤y:=by rw[hy];exact Nat.le_add_right _ _
 refine⟨e,?_,?_,by omega⟩
 ·have hlt:(u*4294967296+un1) / y<u / yn1+1:=by
   rw[Nat.div_lt_iff_lt_mul (by omega)]
   have h2:u<(u / yn1+1)*yn1:=by rw[Nat.add_mul];omega
   have h3:(u+1)*4294967296≤(u / yn1+1)*yn1*4294967296:=Nat.mul_le_mul_right _ (by omega:u+1≤(u / yn1+1)*yn1)
   have h4:(u / yn1+1)*yn1*4294967296≤(u / yn1+1)*y:=leG h5
   omega
  omega
 ·have:u / yn1<4294967298:=by
   rw[Nat.div_lt_iff_lt_mul (by omega)]
   omega
  omega
theorem test_iff {y yn1 yn0 u un1 q r:Nat} (hy:y=yn1*4294967296+yn0) (hq:q*yn1+r=u):(4294967296*r+un1<q*yn0)↔u*4294967296+un1<q*y:=by
 obtain ⟨h1,h2⟩:=split_y (un1:=un1) hy hq
 rw[h1,h2]
 omega
theorem over {y yn1 yn0 u un1 q r:Nat} (hy:y=yn1*4294967296+yn0) (hu:u<y) (h1:un1<4294967296) (hI:Inv y yn1 u un1 q r) (ht:4294967296≤q∨4294967296*r+un1<q*yn0) :
  1≤q∧(q - 1)*yn1+(r+yn1)=u∧(u*4294967296+un1) / y≤q - 1:=by
 obtain ⟨e,hle,hq,hr⟩:=hI
 have hlt:(u*4294967296+un1) / y<q:=by
  rcases ht with ht|ht
  ·exact Nat.lt_of_lt_of_le (quot_lt hu h1) ht
  ·rw[test_iff hy e] at ht
   rw[Nat.div_lt_iff_lt_mul (by omega)]
   exact ht
 have hq1:1≤q:=Nat.lt_of_le_of_lt (Nat.zero_le _) hlt
 refine⟨hq1,?_,Nat.le_sub_one_of_lt hlt⟩
 rw[Nat.sub_mul,Nat.one_mul]
 have:yn1≤q*yn1:=Nat.le_mul_of_pos_left _ hq1
 omega
theorem inv_next {y yn1 yn0 u un1 q r:Nat} (hy:y=yn1*4294967296+yn0) (hu:u<y) (h1:un1<4294967296) (hI:Inv y yn1 u un1 q r) (ht:4294967296≤q∨4294967296*r+un1<q*yn0) (hr:r+yn1<4294967296) :
  Inv y yn1 u un1 (q - 1) (r+yn1):=by
 obtain ⟨h2,h3,h4⟩:=over hy hu h1 hI ht
 exact⟨h3,h4,by have:=hI.2.2.1;omega,hr⟩
theorem at_end {y yn1 yn0 u un1 q r:Nat} (hy:y=yn1*4294967296+yn0) (hy0:0<y) (e:q*yn1+r=u) (hle:(u*4294967296+un1) / y≤q) (ht:¬4294967296*r+un1<q*yn0) :
  q=(u*4294967296+un1) / y:=by
 rw[test_iff hy e] at ht
 have:q≤(u*4294967296+un1) / y:=by rw[Nat.le_div_iff_mul_le hy0];omega
 omega
theorem at_break {y yn1 yn0 u un1 q r:Nat} (hy:y=yn1*4294967296+yn0) (h0:yn0<4294967296) (hu:u<y) (h1:un1<4294967296) (hI:Inv y yn1 u un1 q r) (ht:4294967296≤q∨4294967296*r+un1<q*yn0) (hr:4294967296≤r+yn1) :
  q - 1=(u*4294967296+un1) / y:=by
 obtain ⟨h2,h3,h4⟩:=over hy hu h1 hI ht
 refine at_end hy (by omega) h3 h4 ?_
 have hq:q - 1≤4294967296:=by have:=hI.2.2.1;omega
 have:(q - 1)*yn0≤4294967296*4294967295:=Nat.mul_le_mul hq (by omega)
 omega
theorem rest_eq {y u un1:Nat}:u*4294967296+un1 - (u*4294967296+un1) / y*y=(u*4294967296+un1) % y:=by
 have h:=Nat.div_add_mod (u*4294967296+un1) y
 have e:y*((u*4294967296+un1) / y)=(u*4294967296+un1) / y*y:=Nat.mul_comm _ _
 omega
theorem rest_le {y u un1:Nat}:(u*4294967296+un1) / y*y≤u*4294967296+un1:=Nat.div_mul_le_self _ _
theorem two_stepsG {B V y un0:Nat} (hy:0<y):(V*B+un0) / y=V / y*B+(V % y*B+un0) / y:=by
 have h:=Nat.div_add_mod V y
 have e:V*B+un0=y*(V / y*B)+(V % y*B+un0):=by
  rw[← Nat.mul_assoc,← Nat.add_assoc,← Nat.add_mul,h]
 rw[e,Nat.mul_add_div hy]
theorem two_steps {y u un1 un0:Nat} (hy:0<y) :
  ((u*4294967296+un1)*4294967296+un0) / y=(u*4294967296+un1) / y*4294967296+((u*4294967296+un1) % y*4294967296+un0) / y:=two_stepsG hy
theorem shiftedG {A hi lo d p q:Nat} (e1:q*p=A) (hp:0<p) (hq:0<q) (hlo:lo<A) (hd:hi<d) :
  (hi*p+lo / q)*A+lo*p % A=(hi*A+lo)*p∧hi*p+lo / q<d*p∧lo / q<p:=by
 have e2:lo*p / A=lo / q:=by rw[← e1,Nat.mul_div_mul_right _ _ hp]
 have e3:=Nat.div_add_mod (lo*p) A
 rw[e2,Nat.mul_comm] at e3
 have e4:lo / q<p:=by
  rw[Nat.div_lt_iff_lt_mul hq,Nat.mul_comm,e1];exact hlo
 refine⟨?_,?_,e4⟩
 ·rw[Nat.add_mul (hi*A) lo,Nat.add_mul (hi*p)]
  have:hi*p*A=hi*A*p:=Nat.mul_right_comm _ _ _
  omega
 ·have:(hi+1)*p≤d*p:=Nat.mul_le_mul_right _ hd
  rw[Nat.add_mul] at this
  omega
theorem shifted {hi lo d s:Nat} (hlo:lo<18446744073709551616) (hs:s≤63) (hd:hi<d) :
  (hi*2 ^ s+lo / 2 ^ (64 - s))*18446744073709551616+lo*2 ^ s % 18446744073709551616=(hi*18446744073709551616+lo)*2 ^ s∧hi*2 ^ s+lo / 2 ^ (64 - s)<d*2 ^ s∧lo / 2 ^ (64 - s)<2 ^ s :=
 shiftedG (by rw[← Nat.pow_add,show 64 - s+s=64 by omega]) (Nat.two_pow_pos s) (Nat.two_pow_pos _) hlo hd
theorem or_add {a b s:Nat} (hb:b<2 ^ s):(a*2 ^ s) ||| b=a*2 ^ s+b:=by
 rw[Nat.mul_comm,Nat.two_pow_add_eq_or_of_lt hb]
theorem norm_of {d:Nat} (h0:0<d) (h1:d<18446744073709551616):Lib.bitLen d≤64∧1≤Lib.bitLen d∧9223372036854775808≤d*2 ^ (64 - Lib.bitLen d)∧d*2 ^ (64 - Lib.bitLen d)<18446744073709551616:=by
 have hle:Lib.bitLen d≤64:=by
  have:=Lib.bitLenAux_bounds 64 d h1 (by omega)
  unfold Lib.bitLen
  by_cases h:Lib.bitLenAux 64 d≤64
  ·exact h
  ·exfalso
   have h2:2 ^ 64≤2 ^ (Lib.bitLenAux 64 d - 1):=Nat.pow_le_pow_right (by decide) (by omega)
   omega
 obtain ⟨h2,h3,h4⟩:=Lib.bitLenAux_bounds 64 d h1 (by omega)
 have e1:(2:Nat) ^ Lib.bitLen d*2 ^ (64 - Lib.bitLen d)=18446744073709551616:=by rw[← Nat.pow_add,show Lib.bitLen d+(64 - Lib.bitLen d)=64 by omega]
 have e2:(2:Nat) ^ (Lib.bitLen d - 1)*2 ^ (64 - Lib.bitLen d)=9223372036854775808:=by
  rw[← Nat.pow_add,show Lib.bitLen d - 1+(64 - Lib.bitLen d)=63 by unfold Lib.bitLen at *;omega]
 refine⟨hle,h2,?_,?_⟩
 ·rw[← e2];exact Nat.mul_le_mul_right _ h3
 ·rw[← e1];exact Nat.mul_lt_mul_of_pos_right h4 (Nat.two_pow_pos _)
theorem parts (U L:Nat):(U*4294967296+L / 4294967296)*4294967296+L % 4294967296=U*18446744073709551616+L:=by omega
structure Set (y yn1 yn0 u un1:Int):Prop where
 hy:y=yn1*4294967296+yn0
 n0:0≤yn0
 n0':yn0≤4294967295
 n1:2147483648≤yn1
 n1':yn1≤4294967295
 u0:0≤u
 uy:u<y
 v0:0≤un1
 v1:un1≤4294967295
def InvI (y yn1 u un1 q r:Int):Prop:=0≤q∧0≤r∧Inv y.toNat yn1.toNat u.toNat un1.toNat q.toNat r.toNat
theorem InvI.bd {y yn1 u un1 q r:Int} (h:InvI y yn1 u un1 q r):0≤q∧q≤4294967297∧0≤r∧r≤4294967295:=by
 obtain ⟨a,b,c⟩:=h
 have h1:=c.2.2.1
 have h2:=c.2.2.2
 exact⟨a,by omega,b,by omega⟩
section
variable {y yn1 yn0 u un1 q r:Int}
theorem Set.nat (h:Set y yn1 yn0 u un1):y.toNat=yn1.toNat*4294967296+yn0.toNat∧yn0.toNat<4294967296∧u.toNat<y.toNat∧un1.toNat<4294967296∧0<y.toNat:=by
 obtain ⟨h1,h2,h3,h4,h5,h6,h7,h8,h9⟩:=h
 refine⟨?_,?_,?_,?_,?_⟩<;>omega
theorem test_nat (h:Set y yn1 yn0 u un1) (hq:0≤q) (hr:0≤r):(4294967296*r+un1<q*yn0)↔4294967296*r.toNat+un1.toNat<q.toNat*yn0.toNat:=by
 have e:((q.toNat*yn0.toNat:Nat):Int)=q*yn0:=by
  rw[Int.natCast_mul,Int.toNat_of_nonneg hq,Int.toNat_of_nonneg h.n0]
 have:=h.v0
 omega
theorem start_I (h:Set y yn1 yn0 u un1):InvI y yn1 u un1 (u / yn1) (u % yn1):=by
 have h1:=h.nat
 have h4:=h.n1
 have h5:=h.n1'
 have hu:=h.u0
 refine⟨Int.ediv_nonneg hu (by omega),Int.emod_nonneg _ (by omega),?_⟩
 have:=inv_start h1.1 h1.2.1 (by omega:2147483648≤yn1.toNat) (by omega) h1.2.2.1 h1.2.2.2.1
 have e1:(u / yn1).toNat=u.toNat / yn1.toNat:=by
  have:u / yn1=((u.toNat / yn1.toNat:Nat):Int):=by rw[Int.natCast_ediv,Int.toNat_of_nonneg hu,Int.toNat_of_nonneg (by omega)]
  rw[this,Int.toNat_natCast]
 have e2:(u % yn1).toNat=u.toNat % yn1.toNat:=by
  have:u % yn1=((u.toNat % yn1.toNat:Nat):Int):=by rw[Int.natCast_emod,Int.toNat_of_nonneg hu,Int.toNat_of_nonneg (by omega)]
  rw[this,Int.toNat_natCast]
 rw[e1,e2]
 exact this
theorem over_I (h:Set y yn1 yn0 u un1) (hI:InvI y yn1 u un1 q r) (ht:4294967296≤q∨4294967296*r+un1<q*yn0):1≤q:=by
 have h1:=h.nat
 have ht':4294967296≤q.toNat∨4294967296*r.toNat+un1.toNat<q.toNat*yn0.toNat:=by
  rcases ht with ht|ht
  ·left;omega
  ·right;exact(test_nat h hI.1 hI.2.1).1 ht
 have:=(over h1.1 h1.2.2.1 h1.2.2.2.1 hI.2.2 ht').1
 omega
theorem next_I (h:Set y yn1 yn0 u un1) (hI:InvI y yn1 u un1 q r) (ht:4294967296≤q∨4294967296*r+un1<q*yn0) (hr:r+yn1≤4294967295):InvI y yn1 u un1 (q - 1) (r+yn1):=by
 have h1:=h.nat
 have hq:=over_I h hI ht
 have h4:=h.n1
 have ht':4294967296≤q.toNat∨4294967296*r.toNat+un1.toNat<q.toNat*yn0.toNat:=by
  rcases ht with ht|ht
  ·left;omega
  ·right;exact(test_nat h hI.1 hI.2.1).1 ht
 have hr0:=hI.2.1
 have h2:=inv_next h1.1 h1.2.2.1 h1.2.2.2.1 hI.2.2 ht' (by omega)
 refine⟨by omega,by omega,?_⟩
 rw[show(q - 1).toNat=q.toNat - 1 by omega,show(r+yn1).toNat=r.toNat+yn1.toNat by omega]
 exact h2
theorem quot_nat (h:Set y yn1 yn0 u un1):(u*4294967296+un1) / y=(((u.toNat*4294967296+un1.toNat) / y.toNat:Nat):Int):=by
 have h1:=h.u0
 have h2:=h.v0
 have h3:=h.uy
 rw[Int.natCast_ediv,Int.natCast_add,Int.natCast_mul,Int.toNat_of_nonneg h1,Int.toNat_of_nonneg h2,Int.toNat_of_nonneg (by omega)]
 rfl
theorem break_I (h:Set y yn1 yn0 u un1) (hI:InvI y yn1 u un1 q r) (ht:4294967296≤q∨4294967296*r+un1<q*yn0) (hr:4294967296≤r+yn1):q - 1=(u*4294967296+un1) / y:=by
 have h1:=h.nat
 have hq:=over_I h hI ht
 have h4:=h.n1
 have ht':4294967296≤q.toNat∨4294967296*r.toNat+un1.toNat<q.toNat*yn0.toNat:=by
  rcases ht with ht|ht
  ·left;omega
  ·right;exact(test_nat h hI.1 hI.2.1).1 ht
 have h2:=at_break h1.1 h1.2.1 h1.2.2.1 h1.2.2.2.1 hI.2.2 ht' (by omega)
 rw[quot_nat h,← h2]
 omega
theorem end_I (h:Set y yn1 yn0 u un1) (hI:InvI y yn1 u un1 q r) (ht:¬4294967296*r+un1<q*yn0):q=(u*4294967296+un1) / y:=by
 have h1:=h.nat
 have ht':=fun k=>ht ((test_nat h hI.1 hI.2.1).2 k)
 have h2:=at_end h1.1 h1.2.2.2.2 hI.2.2.1 hI.2.2.2.1 ht'
 rw[quot_nat h,← h2]
 have:=hI.1
 omega
end
end Go.Proofs.YtopbohbkhljjgaaGreat.DM
end
namespace Go.Proofs.YtopbohbkhljjgaaGreat
section
open Go.RowKit
theorem mul64 (x y:Nat) (hx:x<18446744073709551616) (hy:y<18446744073709551616) (w:World) :
  Calls Tryz.prog 341 #[.int .u64 x,.int .u64 y] w fun e w'=>e=.returned (.tuple #[.int .u64 ((x*y / 18446744073709551616:Nat):Int),.int .u64 ((x*y % 18446744073709551616:Nat):Int)])∧w=w' :=
 (Tryz.bits_Mul64 x y hx hy w).mono fun _ _ ⟨a,b⟩=>⟨a,b.symm⟩
theorem lz64 (x:Nat) (h1:x<18446744073709551616) (w:World) :
  Calls Tryz.prog 342 #[.int .u64 x] w fun e w'=>e=.returned (.int .i64 (64 - (Lib.bitLen x:Int)))∧w=w' :=
 (Tryz.bits_LeadingZeros64 x w (by omega) (by omega)).mono fun _ _ ⟨a,b⟩=>⟨by rw[a];rfl,b.symm⟩
theorem lz64s (x s:Nat) (h1:x<18446744073709551616) (w:World) (hs:Hid (s=64 - Lib.bitLen x)) :
  Calls Tryz.prog 342 #[.int .u64 x] w fun e w'=>e=.returned (.int .i64 (s:Int))∧w=w' :=
 (lz64 x h1 w).mono fun _ _ ⟨a,b⟩=>⟨by
  rw[a,hs.out]
  congr 2
  by_cases h:x=0
  ·subst h;rfl
  ·have:=DM.norm_of (by omega) h1;omega,b⟩
theorem u64_id {n:Int} (h0:0≤n) (h1:n<18446744073709551616):IntKind.u64.wrap n=n:=by
 simp only[IntKind.wrap,IntKind.bits,IntKind.signed];simp;omega
set_option maxHeartbeats 1000000 in
theorem div64_small (lo y:Nat) (hl:lo<18446744073709551616) (h0:0<y) (h1:y<18446744073709551616) (w:World) :
  Calls Tryz.prog 324 #[.int .u64 0,.int .u64 lo,.int .u64 y] w fun e w'=>(∃ r:Int,e=.returned (.tuple #[.int .u64 ((lo / y:Nat):Int),.int .u64 r]))∧Same w w':=by
 have hb1:((y:Int) == 0)=false:=by rw[beq_eq_false_iff_ne];omega
 have hq:IntKind.u64.wrap ((lo:Int) / y)=(lo:Int) / y:=u64_id (Int.ediv_nonneg (by omega) (by omega)) (by
  have:lo / y≤lo:=Nat.div_le_self _ _
  have:((lo / y:Nat):Int)≤lo:=by omega
  rw[Int.natCast_ediv] at this;omega)
 go_enter Tryz.func324,Tryz.ntmps324
 go_wp2_with fail
 go_quiet (fail)
 go_wp2
 go_ret2
 exact⟨⟨_,rfl⟩,Same.of⟩
set_option maxRecDepth 100000 in
set_option maxHeartbeats 4000000 in
theorem div64_big (hi lo y Y U L yn1 yn0 un1 un0 Q0 R0 Q R Q1 R1 Q2 F:Int) (s:Nat) (w:World)
  (hh:1≤hi) (h0:hi<y) (h1:y≤18446744073709551615) (l0:0≤lo) (hl:lo≤18446744073709551615) (L0:0≤L) (iL:L≤18446744073709551615)
  (HZ:Hid (∀ w:World,Calls Tryz.prog 342 #[.int .u64 y] w fun e w'=>e=.returned (.int .i64 (s:Int))∧w=w')) (hs63:s≤63) (hY:IntKind.u64.wrap (y*2 ^ s)=Y) (Y0:1≤Y) (iY1:Y≤18446744073709551615)
  (hyn1:Y / 4294967296=yn1) (hyn0:bits .and .u64 Y 4294967295=yn0) (iy1l:2147483648≤yn1) (iy1:yn1≤4294967295) (h0n:0≤yn0) (iy0:yn0≤4294967295)
  (hU:bits .or .u64 (IntKind.u64.wrap (hi*2 ^ s)) (lo / 2 ^ (64 - s))=U) (U0:0≤U) (hUY:U<Y)
  (hL:IntKind.u64.wrap (lo*2 ^ s)=L)
  (hun1:L / 4294967296=un1) (hun0:bits .and .u64 L 4294967295=un0) (u10:0≤un1) (iu1:un1≤4294967295) (u00:0≤un0) (iu0:un0≤4294967295)
  (HS1:Hid (DM.Set Y yn1 yn0 U un1)) (hQ0:U / yn1=Q0) (hQR:Q0*yn1=U - R0) (Q00:0≤Q0) (iQ0:Q0≤4294967297) (R00:0≤R0) (hR0:R0≤U) (HI0:Hid (DM.InvI Y yn1 U un1 Q0 R0)) (HQ:Hid ((U*4294967296+un1) / Y=Q))
  (R0':0≤R) (hRY:R<Y) (hRe:IntKind.u64.wrap (IntKind.u64.wrap (IntKind.u64.wrap (U*4294967296)+un1) - IntKind.u64.wrap (Q*Y))=R)
  (HS2:Hid (DM.Set Y yn1 yn0 R un0)) (hQ1:R / yn1=Q1) (hQR1:Q1*yn1=R - R1) (Q10:0≤Q1) (iQ1:Q1≤4294967297) (R10:0≤R1) (hR1:R1≤R) (HI1:Hid (DM.InvI Y yn1 R un0 Q1 R1)) (HQ2:Hid ((R*4294967296+un0) / Y=Q2))
  (Qn:0≤Q) (iQ:Q≤4294967295) (Q2n:0≤Q2) (iQ2:Q2≤4294967295) (HF:Hid (F=Q*4294967296+Q2)) :
  Calls Tryz.prog 324 #[.int .u64 hi,.int .u64 lo,.int .u64 y] w fun e w'=>(∃ r:Int,e=.returned (.tuple #[.int .u64 F,.int .u64 r]))∧Same w w':=by
 have hb1:(y == 0)=false:=by rw[beq_eq_false_iff_ne];omega
 have hb2:(hi == 0)=false:=by rw[beq_eq_false_iff_ne];omega
 have hb3:decide (y≤hi)=false:=by simp;omega
 have hmin:min s 64=s:=by omega
 have hmin2:min (64 - s) 64=64 - s:=by omega
 go_enter Tryz.func324,Tryz.ntmps324
 go_upto_block 0 with(go_at_call 342;refine(HZ.out _).mono ?_;rintro e w' ⟨rfl,rfl⟩)
 have HQ0:=Lib.hid hQ0
 clear hY hyn1 hyn0 hU hL hun1 hun0 hQ0 hQR hmin hmin2
 go_cut [15,16] (fun a _ wx=>a=.int .u64 Q∧wx=w)
 case first =>
  go_wp2_with fail
  go_loop [15,16] (fun a b=>∃ q r:Int,a=.int .u64 q∧b=.int .u64 r∧Hid (DM.InvI Y yn1 U un1 q r)) (fun a _=>(intOf a).toNat)
  case atStart=>exact⟨Q0,R0,by first|rfl|rw[HQ0.out],by first|go_num|(congr 1;omega),HI0⟩
  case round =>
   obtain ⟨q,r,rfl,rfl,HI⟩:=hrel
   obtain ⟨q0,iqu,r0,iru⟩:=HI.out.bd
   have hp0:0≤q*yn0:=Int.mul_nonneg q0 h0n
   by_cases hq:4294967296≤q
   ·by_cases hr:4294967296≤r+yn1
    ·have hQ:q - 1=Q:=(DM.break_I HS1.out HI.out (.inl hq) hr).trans HQ.out
     go_wp2_with fail
     go_meet
     exact⟨by first|rfl|rw[hQ],rfl⟩
    ·have ir:r+yn1≤4294967295:=by omega
     have HN:=Lib.hid (DM.next_I HS1.out HI.out (.inl hq) ir)
     clear hr
     go_wp2_with fail
     go_round
     case rel=>exact⟨q - 1,r+yn1,by go_num,by go_num,HN.out⟩
     case measure=>simp[intOf];omega
   ·have iq:q≤4294967295:=by omega
    clear hq
    have hp1:q*yn0≤18446744073709551615:=by
     have:q*yn0≤4294967295*4294967295:=Int.mul_le_mul iq iy0 h0n (by omega)
     omega
    by_cases hti:4294967296*r+un1<q*yn0
    ·have hq1:=DM.over_I HS1.out HI.out (.inr hti)
     by_cases hr:4294967296≤r+yn1
     ·have hQ:q - 1=Q:=(DM.break_I HS1.out HI.out (.inr hti) hr).trans HQ.out
      go_wp2_with fail
      go_meet
      exact⟨by first|rfl|rw[hQ],rfl⟩
     ·have ir:r+yn1≤4294967295:=by omega
      have HN:=Lib.hid (DM.next_I HS1.out HI.out (.inr hti) ir)
      clear hr
      go_wp2_with fail
      go_round
      case rel=>exact⟨q - 1,r+yn1,by go_num,by go_num,HN.out⟩
      case measure=>simp[intOf];omega
    ·have HQQ:Hid (q=Q):=(DM.end_I HS1.out HI.out hti).trans HQ.out
     go_wp2_with fail
     go_meet
     exact⟨by rw[HQQ.out],rfl⟩
 case rest =>
  obtain ⟨rfl,rfl⟩:=hcut
  go_upto_block 2 with(fail)
  have HQ1:=Lib.hid hQ1
  clear hRe hQ1 hQR1
  go_cut [18,16] (fun a _ wx=>a=.int .u64 Q2∧wx=wc)
  case first =>
   go_wp2_with fail
   go_loop [18,16] (fun a b=>∃ q r:Int,a=.int .u64 q∧b=.int .u64 r∧Hid (DM.InvI Y yn1 R un0 q r)) (fun a _=>(intOf a).toNat)
   case atStart=>exact⟨Q1,R1,by first|rfl|rw[HQ1.out],by first|go_num|(congr 1;omega),HI1⟩
   case round =>
    obtain ⟨q,r,rfl,rfl,HI⟩:=hrel
    obtain ⟨q0,iqu,r0,iru⟩:=HI.out.bd
    have hp0:0≤q*yn0:=Int.mul_nonneg q0 h0n
    by_cases hq:4294967296≤q
    ·by_cases hr:4294967296≤r+yn1
     ·have hQ:q - 1=Q2:=(DM.break_I HS2.out HI.out (.inl hq) hr).trans HQ2.out
      go_wp2_with fail
      go_meet
      exact⟨by first|rfl|rw[hQ],rfl⟩
     ·have ir:r+yn1≤4294967295:=by omega
      have HN:=Lib.hid (DM.next_I HS2.out HI.out (.inl hq) ir)
      clear hr
      go_wp2_with fail
      go_round
      case rel=>exact⟨q - 1,r+yn1,by go_num,by go_num,HN.out⟩
      case measure=>simp[intOf];omega
    ·have iq:q≤4294967295:=by omega
     clear hq
     have hp1:q*yn0≤18446744073709551615:=by
      have:q*yn0≤4294967295*4294967295:=Int.mul_le_mul iq iy0 h0n (by omega)
      omega
     by_cases hti:4294967296*r+un0<q*yn0
     ·have hq1:=DM.over_I HS2.out HI.out (.inr hti)
      by_cases hr:4294967296≤r+yn1
      ·have hQ:q - 1=Q2:=(DM.break_I HS2.out HI.out (.inr hti) hr).trans HQ2.out
       go_wp2_with fail
       go_meet
       exact⟨by first|rfl|rw[hQ],rfl⟩
      ·have ir:r+yn1≤4294967295:=by omega
       have HN:=Lib.hid (DM.next_I HS2.out HI.out (.inr hti) ir)
       clear hr
       go_wp2_with fail
       go_round
       case rel=>exact⟨q - 1,r+yn1,by go_num,by go_num,HN.out⟩
       case measure=>simp[intOf];omega
     ·have HQQ:Hid (q=Q2):=(DM.end_I HS2.out HI.out hti).trans HQ2.out
      go_wp2_with fail
      go_meet
      exact⟨by rw[HQQ.out],rfl⟩
  case rest =>
   obtain ⟨rfl,rfl⟩:=hcut
   go_wp2
   go_ret2
   exact⟨⟨_,by rw[HF.out];rfl⟩,Same.refl _⟩
theorem _root_.Int.emod_le_self_nat (a b:Nat):(a:Int) % (b:Int)≤a:=by
 have:=Nat.mod_le a b
 have e:((a % b:Nat):Int)=(a:Int) % (b:Int):=by simp
 omega
theorem mulpow (a s:Nat):(a:Int)*2 ^ s=((a*2 ^ s:Nat):Int):=by simp
theorem divpow (a s:Nat):(a:Int) / 2 ^ s=((a / 2 ^ s:Nat):Int):=by simp
theorem u64_mod (a:Nat):IntKind.u64.wrap (a:Int)=((a % 18446744073709551616:Nat):Int):=by
 simp only[IntKind.wrap,IntKind.bits,IntKind.signed];simp
theorem rem_wrap {U un1 Q Y R:Int} (h:U*4294967296+un1 - Q*Y=R) (h0:0≤R) (h1:R≤18446744073709551615) :
  IntKind.u64.wrap (IntKind.u64.wrap (IntKind.u64.wrap (U*4294967296)+un1) - IntKind.u64.wrap (Q*Y))=R:=by
 generalize Q*Y=P at *
 simp only[IntKind.wrap,IntKind.bits,IntKind.signed];simp;omega
theorem div64_mid (hi lo y s Y U L Q R Q2:Nat) (hz:1≤hi) (h0:hi<y) (hl:lo<18446744073709551616) (h1:y<18446744073709551616) (n3:9223372036854775808≤Y) (n4:Y<18446744073709551616) (hs63:s≤63)
  (HZ:Hid (∀ w:World,Calls Tryz.prog 342 #[.int .u64 y] w fun e w'=>e=.returned (.int .i64 (s:Int))∧w=w')) (hY:y*2 ^ s=Y)
  (hor:bits .or .u64 (IntKind.u64.wrap ((hi:Int)*2 ^ s)) ((lo:Int) / 2 ^ (64 - s))=(U:Int)) (s2:U<Y) (hL:IntKind.u64.wrap ((lo:Int)*2 ^ s)=(L:Int)) (hLlt:L<18446744073709551616)
  (hS1:DM.Set (Y:Int) ((Y / 4294967296:Nat):Int) ((Y % 4294967296:Nat):Int) (U:Int) ((L / 4294967296:Nat):Int)) (hq1:Q<4294967296) (hlt:R<Y)
  (hRe:IntKind.u64.wrap (IntKind.u64.wrap (IntKind.u64.wrap ((U:Int)*4294967296)+((L / 4294967296:Nat):Int)) - IntKind.u64.wrap ((Q:Int)*(Y:Int)))=(R:Int))
  (hQe:((U:Int)*4294967296+((L / 4294967296:Nat):Int)) / (Y:Int)=(Q:Int)) (hQ2:Q2=(R*4294967296+L % 4294967296) / Y) (w:World) :
  Calls Tryz.prog 324 #[.int .u64 hi,.int .u64 lo,.int .u64 y] w fun e w'=>(∃ r:Int,e=.returned (.tuple #[.int .u64 ((Q*4294967296+Q2:Nat):Int),.int .u64 r]))∧Same w w':=by
 have hS2:DM.Set (Y:Int) ((Y / 4294967296:Nat):Int) ((Y % 4294967296:Nat):Int) (R:Int) ((L % 4294967296:Nat):Int):=by constructor<;>omega
 have hq2:=DM.quot_lt (y:=Y) (u:=R) (un1:=L % 4294967296) hlt (Nat.mod_lt _ (by decide))
 rw[← hQ2] at hq2
 have hI1:=DM.start_I hS1
 have hI2:=DM.start_I hS2
 have b1:=hI1.bd
 have b2:=hI2.bd
 have m1:=Int.mul_ediv_add_emod (U:Int) ((Y / 4294967296:Nat):Int)
 have m2:=Int.mul_ediv_add_emod (R:Int) ((Y / 4294967296:Nat):Int)
 refine div64_big hi lo y Y U L ((Y / 4294967296:Nat):Int) ((Y % 4294967296:Nat):Int) ((L / 4294967296:Nat):Int) ((L % 4294967296:Nat):Int)
  ((U:Int) / ((Y / 4294967296:Nat):Int)) ((U:Int) % ((Y / 4294967296:Nat):Int)) Q R ((R:Int) / ((Y / 4294967296:Nat):Int)) ((R:Int) % ((Y / 4294967296:Nat):Int)) (Q2:Int)
  ((Q*4294967296+Q2:Nat):Int) s w (by omega) (by omega) (by omega) (by omega) (by omega) (by omega) (by omega) HZ hs63 ?_ (by omega) (by omega)
  (by simp) ?_ (by omega) (by omega) (by omega) (by omega) hor (by omega) (by omega) hL (by simp) ?_ (by omega) (by omega) (by omega) (by omega) hS1 rfl ?_ b1.1 b1.2.1 b1.2.2.1 ?_ hI1 ?_
  (by omega) (by omega) hRe hS2 rfl ?_ b2.1 b2.2.1 b2.2.2.1 ?_ hI2 ?_ (by omega) (by omega) (by omega) (by omega) ?_
 ·rw[mulpow,hY,u64_id (by omega) (by omega)]
 ·rw[show(4294967295:Int)=((2 ^ 32 - 1:Nat):Int) from rfl,bits_and_u64_nat _ _ (by omega) (by decide),Nat.and_two_pow_sub_one_eq_mod]
 ·rw[show(4294967295:Int)=((2 ^ 32 - 1:Nat):Int) from rfl,bits_and_u64_nat _ _ (by omega) (by decide),Nat.and_two_pow_sub_one_eq_mod]
 ·rw[Int.mul_comm];omega
 ·have:=Int.emod_le_self_nat U (Y / 4294967296);omega
 ·exact hQe
 ·rw[Int.mul_comm];omega
 ·have:=Int.emod_le_self_nat R (Y / 4294967296);omega
 ·show _=_;rw[hQ2];simp
 ·show _=_;omega
theorem div64_any (hi lo y:Nat) (h0:hi<y) (hl:lo<18446744073709551616) (h1:y<18446744073709551616) (w:World) :
  Calls Tryz.prog 324 #[.int .u64 hi,.int .u64 lo,.int .u64 y] w fun e w'=>(∃ r:Int,e=.returned (.tuple #[.int .u64 (((hi*18446744073709551616+lo) / y:Nat):Int),.int .u64 r]))∧Same w w':=by
 by_cases hz:hi=0
 ·subst hz
  simpa using div64_small lo y hl h0 h1 w
 ·obtain ⟨n1,n2,n3,n4⟩:=DM.norm_of (by omega:0<y) h1
  have hs63:64 - Lib.bitLen y≤63:=by omega
  have HZ:Hid (∀ w:World,Calls Tryz.prog 342 #[.int .u64 y] w fun e w'=>e=.returned (.int .i64 ((64 - Lib.bitLen y:Nat):Int))∧w=w'):=fun w=>lz64s y _ h1 w rfl
  generalize 64 - Lib.bitLen y=s at *
  obtain ⟨s1,s2,s3⟩:=DM.shifted hl hs63 h0
  have hor:bits .or .u64 (IntKind.u64.wrap ((hi:Int)*2 ^ s)) ((lo:Int) / 2 ^ (64 - s))=((hi*2 ^ s+lo / 2 ^ (64 - s):Nat):Int):=by
   have t1:hi*2 ^ s<18446744073709551616:=Nat.lt_of_le_of_lt (Nat.le_add_right _ _) (Nat.lt_trans s2 n4)
   have t2:lo / 2 ^ (64 - s)<18446744073709551616:=Nat.lt_of_le_of_lt (Nat.div_le_self _ _) hl
   rw[mulpow,divpow,u64_id (Int.natCast_nonneg _) (Int.ofNat_lt.2 t1),bits_or_u64_nat _ _ t1 t2,DM.or_add s3]
  generalize hY:y*2 ^ s=Y at *
  generalize hU:hi*2 ^ s+lo / 2 ^ (64 - s)=U at *
  have hL:IntKind.u64.wrap ((lo:Int)*2 ^ s)=((lo*2 ^ s % 18446744073709551616:Nat):Int):=by rw[mulpow,u64_mod]
  have hLlt:lo*2 ^ s % 18446744073709551616<18446744073709551616:=Nat.mod_lt _ (by decide)
  generalize lo*2 ^ s % 18446744073709551616=L at *
  have hS1:DM.Set (Y:Int) ((Y / 4294967296:Nat):Int) ((Y % 4294967296:Nat):Int) (U:Int) ((L / 4294967296:Nat):Int):=by constructor<;>omega
  have hq1:=DM.quot_lt (y:=Y) (u:=U) (un1:=L / 4294967296) s2 (by omega)
  have hQe:((U:Int)*4294967296+((L / 4294967296:Nat):Int)) / (Y:Int)=(((U*4294967296+L / 4294967296) / Y:Nat):Int):=by simp
  have hlt:(U*4294967296+L / 4294967296) % Y<Y:=Nat.mod_lt _ (by omega)
  have hR:=DM.rest_eq (y:=Y) (u:=U) (un1:=L / 4294967296)
  have hRle:=DM.rest_le (y:=Y) (u:=U) (un1:=L / 4294967296)
  have h2:=DM.two_steps (y:=Y) (u:=U) (un1:=L / 4294967296) (un0:=L % 4294967296) (by omega)
  have hX:(U*4294967296+L / 4294967296)*4294967296+L % 4294967296=(hi*18446744073709551616+lo)*2 ^ s:=(DM.parts U L).trans s1
  rw[hX,← hY,Nat.mul_div_mul_right _ _ (Nat.two_pow_pos s),hY] at h2
  rw[h2]
  have hRe:=rem_wrap (U:=U) (un1:=((L / 4294967296:Nat):Int)) (Q:=(((U*4294967296+L / 4294967296) / Y:Nat):Int)) (Y:=Y) (R:=(((U*4294967296+L / 4294967296) % Y:Nat):Int)) (by
   have e:(((U*4294967296+L / 4294967296) / Y*Y:Nat):Int)=(((U*4294967296+L / 4294967296) / Y:Nat):Int)*(Y:Int):=Int.natCast_mul _ _
   rw[← e,← hR];omega) (by omega) (by omega)
  exact div64_mid hi lo y s Y U L _ _ _ (by omega) h0 hl h1 n3 n4 hs63 HZ hY hor s2 hL hLlt hS1 hq1 hlt hRe hQe rfl w
end
section
open Go.RowKit
def mulB (a b d:Int):Bool:=decide (a*b<d*18446744073709551616)
def mulF (a b d:Int):Int:=if a*b<d*18446744073709551616 then a*b / d else 0
set_option maxHeartbeats 1000000 in
theorem product_any (a b:Int) (w:World) (ha0:0≤a) (ha:a≤18446744073709551615) (hb0:0≤b) (hb:b≤18446744073709551615) :
  Calls Tryz.prog 323 #[.int .u64 a,.int .u64 b] w fun e w'=>e=.returned (.agg #[.int .u64 (a*b / 18446744073709551616),.int .u64 (a*b % 18446744073709551616)])∧Below w.heap.size w w':=by
 have HM:Hid (∀ w,Calls Tryz.prog 341 #[.int .u64 a,.int .u64 b] w fun e w'=>e=.returned (.tuple #[.int .u64 (a*b / 18446744073709551616),.int .u64 (a*b % 18446744073709551616)])∧w=w'):=fun w=>by
  obtain ⟨x,rfl⟩:=Int.eq_ofNat_of_zero_le ha0
  obtain ⟨y,rfl⟩:=Int.eq_ofNat_of_zero_le hb0
  have:=mul64 x y (by omega) (by omega) w
  simpa using this
 generalize a*b / 18446744073709551616=hi at *
 generalize a*b % 18446744073709551616=lo at *
 go_enter Tryz.func323,Tryz.ntmps323
 go_wp2_with (go_at_call 341;refine(HM.out _).mono ?_;rintro e w' ⟨rfl,rfl⟩)
 refine bodyPost_ret (v:=.agg #[.int .u64 hi,.int .u64 lo]) (by simp[results,Tryz.results323,go_sem]) rfl ⟨rfl,?_⟩
 exact(Below.refl _ _).alloc (Nat.le_refl _) _
set_option maxHeartbeats 1000000 in
theorem mulDiv_no (a b d:Int) (w:World) (ha0:0≤a) (ha:a≤18446744073709551615) (hb0:0≤b) (hb:b≤18446744073709551615) (hd:d≤a*b / 18446744073709551616) :
  Calls Tryz.prog 290 #[.int .u64 a,.int .u64 b,.int .u64 d] w fun e w'=>e=.returned (.tuple #[.int .u64 0,.bool false])∧Below w.heap.size w w':=by
 have HP:=Lib.hid (fun w=>product_any a b w ha0 ha hb0 hb)
 generalize a*b / 18446744073709551616=hi at *
 generalize a*b % 18446744073709551616=lo at *
 go_enter Tryz.func290,Tryz.ntmps290
 go_wp2_with (go_at_call 323;refine(HP.out _).mono ?_;rintro e w1 ⟨rfl,hb1⟩)
 go_ret2
 exact⟨rfl,by refine Below.alloc hb1 hb1.size _⟩
set_option maxHeartbeats 1000000 in
theorem mulDiv_yes (a b d q:Int) (w:World) (ha0:0≤a) (ha:a≤18446744073709551615) (hb0:0≤b) (hb:b≤18446744073709551615) (hd:a*b / 18446744073709551616<d)
  (HD:Hid (∀ w,Calls Tryz.prog 324 #[.int .u64 (a*b / 18446744073709551616),.int .u64 (a*b % 18446744073709551616),.int .u64 d] w fun e w'=>(∃ r:Int,e=.returned (.tuple #[.int .u64 q,.int .u64 r]))∧Same w w')) :
  Calls Tryz.prog 290 #[.int .u64 a,.int .u64 b,.int .u64 d] w fun e w'=>e=.returned (.tuple #[.int .u64 q,.bool true])∧Below w.heap.size w w':=by
 have HP:=Lib.hid (fun w=>product_any a b w ha0 ha hb0 hb)
 generalize a*b / 18446744073709551616=hi at *
 generalize a*b % 18446744073709551616=lo at *
 go_enter Tryz.func290,Tryz.ntmps290
 go_wp2_with (first
  | (go_at_call 323;refine(HP.out _).mono ?_;rintro e w1 ⟨rfl,hb1⟩)
  | (go_at_call 324;refine(HD.out _).mono ?_;rintro e w2 ⟨⟨r,rfl⟩,hs⟩))
 go_ret2
 exact⟨rfl,(Below.alloc hb1 hb1.size _).trans (hs.below _)⟩
theorem mulDiv_any (a b d:Int) (w:World) (ha0:0≤a) (ha:a≤18446744073709551615) (hb0:0≤b) (hb:b≤18446744073709551615) (hd0:0≤d) (hd:d≤18446744073709551615) :
  Calls Tryz.prog 290 #[.int .u64 a,.int .u64 b,.int .u64 d] w fun e w'=>e=.returned (.tuple #[.int .u64 (mulF a b d),.bool (mulB a b d)])∧Below w.heap.size w w':=by
 unfold mulF mulB
 obtain ⟨x,rfl⟩:=Int.eq_ofNat_of_zero_le ha0
 obtain ⟨y,rfl⟩:=Int.eq_ofNat_of_zero_le hb0
 obtain ⟨z,rfl⟩:=Int.eq_ofNat_of_zero_le hd0
 have e:(x:Int)*(y:Int)=((x*y:Nat):Int):=(Int.natCast_mul _ _).symm
 by_cases h:(x:Int)*(y:Int)<(z:Int)*18446744073709551616
 ·rw[if_pos h,decide_eq_true h]
  refine mulDiv_yes _ _ _ _ w ha0 ha hb0 hb (by omega) ?_
  show ∀ w,_
  intro w
  have h2:=div64_any (x*y / 18446744073709551616) (x*y % 18446744073709551616) z (by omega) (Nat.mod_lt _ (by decide)) (by omega) w
  rw[show x*y / 18446744073709551616*18446744073709551616+x*y % 18446744073709551616=x*y by omega] at h2
  simpa using h2
 ·rw[if_neg h,decide_eq_false h]
  exact mulDiv_no _ _ _ w ha0 ha hb0 hb (by omega)
end
section
open Go.RowKit
set_option maxHeartbeats 400000 in
theorem rMax1_any (w:World):Calls Tryz.prog 167 #[] w fun e w'=>e=.returned (.int .u64 18446744073709551615)∧w=w':=by
  go_enter Tryz.func167,Tryz.ntmps167
  go_wp2
  go_ret
  exact⟨rfl,rfl⟩
set_option maxHeartbeats 1000000 in
theorem rAdd_lo (q r x d:Int) (w:World) (r0:0≤r) (x0:0≤x) (xd:x≤d) (d1:d≤18446744073709551615) (h:r<d - x) :
    Calls Tryz.prog 331 #[.int .u64 q,.int .u64 r,.int .u64 x,.int .u64 d] w fun e w'=>e=.returned (.tuple #[.int .u64 q,.int .u64 (r+x),.bool true])∧w=w':=by
  go_enter Tryz.func331,Tryz.ntmps331
  go_wp2_with (go_at_call 167;refine(rMax1_any _).mono ?_;rintro e w' ⟨rfl,rfl⟩)
  go_ret3
  exact⟨rfl,rfl⟩
set_option maxHeartbeats 1000000 in
theorem rAdd_hi (q r x d:Int) (w:World) (q0:0≤q) (q1:q≤18446744073709551614) (r0:0≤r) (rd:r≤d) (x0:0≤x) (xd:x≤d) (d1:d≤18446744073709551615) (h:¬r<d - x) :
    Calls Tryz.prog 331 #[.int .u64 q,.int .u64 r,.int .u64 x,.int .u64 d] w fun e w'=>e=.returned (.tuple #[.int .u64 (q+1),.int .u64 (r - (d - x)),.bool true])∧w=w':=by
  have hb:(q == 18446744073709551615)=false:=by rw[beq_eq_false_iff_ne];omega
  go_enter Tryz.func331,Tryz.ntmps331
  go_wp2_with (go_at_call 167;refine(rMax1_any _).mono ?_;rintro e w' ⟨rfl,rfl⟩)
  go_ret3
  exact⟨rfl,rfl⟩
set_option maxHeartbeats 1000000 in
theorem rAdd_over (r x d:Int) (w:World) (r0:0≤r) (x0:0≤x) (xd:x≤d) (d1:d≤18446744073709551615) (h:¬r<d - x) :
    Calls Tryz.prog 331 #[.int .u64 18446744073709551615,.int .u64 r,.int .u64 x,.int .u64 d] w fun e w'=>e=.returned (.tuple #[.int .u64 0,.int .u64 0,.bool false])∧w=w':=by
  go_enter Tryz.func331,Tryz.ntmps331
  go_wp2_with (go_at_call 167;refine(rMax1_any _).mono ?_;rintro e w' ⟨rfl,rfl⟩)
  go_ret3
  exact⟨rfl,rfl⟩
theorem rAdd_any (q r x d:Int) (q0:0≤q) (q1:q≤18446744073709551615) (r0:0≤r) (rd:r<d) (x0:0≤x) (xd:x<d) (d1:d≤18446744073709551615) :
    (∃ q' r',(∀ w,Calls Tryz.prog 331 #[.int .u64 q,.int .u64 r,.int .u64 x,.int .u64 d] w fun e w'=>e=.returned (.tuple #[.int .u64 q',.int .u64 r',.bool true])∧w=w') ∧
      q'*d+r'=q*d+r+x∧0≤q'∧q'≤18446744073709551615∧0≤r'∧r'<d) ∨
    ((∀ w,Calls Tryz.prog 331 #[.int .u64 q,.int .u64 r,.int .u64 x,.int .u64 d] w fun e w'=>e=.returned (.tuple #[.int .u64 0,.int .u64 0,.bool false])∧w=w') ∧
      q=18446744073709551615∧d≤r+x):=by
  by_cases h:r<d - x
  · exact .inl ⟨q,r+x,fun w=>rAdd_lo q r x d w r0 x0 (by omega) d1 h,by omega,q0,q1,by omega,by omega⟩
  · by_cases hq:q=18446744073709551615
    · subst hq
      exact .inr ⟨fun w=>rAdd_over r x d w r0 x0 (by omega) d1 h,rfl,by omega⟩
    · refine .inl ⟨q+1,r - (d - x),fun w=>rAdd_hi q r x d w q0 (by omega) r0 (by omega) x0 (by omega) d1 h,?_,by omega,by omega,by omega,by omega⟩
      rw[Int.add_mul];omega
theorem up_le {a b d p B:Int} (ha:0≤a) (hp:0≤p) (hB:B*p≤b) {n:Int} (h:n*d≤a*B):n*p*d≤a*b:=by
  have h1:a*(B*p)≤a*b:=Int.mul_le_mul_of_nonneg_left hB ha
  have h2:n*d*p≤a*B*p:=Int.mul_le_mul_of_nonneg_right h hp
  rw[Int.mul_right_comm n p d]
  exact Int.le_trans h2 (by rw[Int.mul_assoc];exact h1)
theorem pow_split (b:Int) (k:Nat):b / 2 ^ k=2*(b / 2 ^ (k+1))+b / 2 ^ k % 2∧(b / 2 ^ k % 2=0∨b / 2 ^ k % 2=1):=by
  have e:b / 2 ^ (k+1)=b / 2 ^ k / 2:=by rw[Int.pow_succ,Int.ediv_ediv_of_nonneg (Int.le_of_lt (Int.pow_pos (by decide)))]
  rw[e];omega
theorem pow_le (b:Int) (k:Nat):b / 2 ^ k*2 ^ k≤b:=Int.ediv_mul_le _ (Int.ne_of_gt (Int.pow_pos (by decide)))
theorem big_of {a b d n:Int} {k:Nat} (ha:0≤a) (hd:0≤d) (hn:18446744073709551616≤n*2 ^ k) (h:n*d≤a*(b / 2 ^ k)):d*18446744073709551616≤a*b:=by
  have h1:=up_le (p:=2 ^ k) ha (Int.le_of_lt (Int.pow_pos (by decide))) (pow_le b k) h
  have h2:=Int.mul_le_mul_of_nonneg_right hn hd
  rw[Int.mul_comm d]
  exact Int.le_trans h2 h1
theorem and_one (x:Int) (h0:0≤x) (h1:x≤18446744073709551615):bits .and .u64 x 1=x % 2:=by
  obtain ⟨n,rfl⟩:=Int.eq_ofNat_of_zero_le h0
  rw[show(1:Int)=((1:Nat):Int) from rfl,bits_and_u64_nat _ _ (by omega) (by decide),Nat.and_one_is_mod]
  simp
theorem shr_le {b:Int} (h0:0≤b) (k:Nat):0≤b / 2 ^ k∧b / 2 ^ k≤b:=by
  refine⟨Int.ediv_nonneg h0 (Int.le_of_lt (Int.pow_pos (by decide))),?_⟩
  have h1:=pow_le b k
  have h2:0≤b / 2 ^ k:=Int.ediv_nonneg h0 (Int.le_of_lt (Int.pow_pos (by decide)))
  have h3:(1:Int)≤2 ^ k:=Int.pow_pos (by decide)
  have h4:=Int.mul_le_mul_of_nonneg_left h3 h2
  omega
theorem pow_one_le (k:Nat):(1:Int)≤2 ^ k:=Int.pow_pos (by decide)
set_option maxRecDepth 100000 in
set_option maxHeartbeats 1000000 in
theorem rMulDiv_any (a b d:Int) (w:World) (ha0:0≤a) (ha:a≤18446744073709551615) (hb0:0≤b) (hb:b≤18446744073709551615) (hd0:0≤d) (hd:d≤18446744073709551615) :
    Calls Tryz.prog 299 #[.int .u64 a,.int .u64 b,.int .u64 d] w fun e w'=>e=.returned (.tuple #[.int .u64 (mulF a b d),.bool (mulB a b d)])∧w=w':=by
  have hF:∀ (x:Int) (t:Bool),mulF a b d=x→mulB a b d=t→(Ending.returned (.tuple #[.int .u64 x,.bool t])=.returned (.tuple #[.int .u64 (mulF a b d),.bool (mulB a b d)])):=fun x t h1 h2=>by rw[h1,h2]
  have hno:d*18446744073709551616≤a*b→mulF a b d=0∧mulB a b d=false:=fun h=>by
    unfold mulF mulB
    exact⟨if_neg (by omega),decide_eq_false (by omega)⟩
  by_cases hz:d=0
  · subst hz
    have h1:=hno (by have:=Int.mul_nonneg ha0 hb0;omega)
    have H1:=Lib.hid h1
    have HF:=Lib.hid (hF 0 false)
    clear h1 hno hF
    go_enter Tryz.func299,Tryz.ntmps299
    go_wp2
    go_ret2
    exact⟨HF.out H1.out.1 H1.out.2,rfl⟩
  · have d1:1≤d:=by omega
    have hbz:(d == 0)=false:=by rw[beq_eq_false_iff_ne];omega
    have HNO:=Lib.hid hno
    have HFF:=Lib.hid hF
    clear hz hno hF
    go_enter Tryz.func299,Tryz.ntmps299
    go_wp2
    go_loop [8,9,10,11,12] (fun q r i _ _=>∃ (q' r':Int) (k:Nat),q=.int .u64 q'∧r=.int .u64 r'∧i=.int .i64 ((k:Int) - 1)∧k≤64∧0≤q'∧q'≤18446744073709551615∧0≤r'∧r'<d∧Hid (q'*d+r'=a*(b / 2 ^ k))) (fun _ _ i _ _=>(intOf i+1).toNat)
    case atStart =>
      refine⟨0,0,64,rfl,rfl,rfl,by omega,by omega,by omega,by omega,by omega,?_⟩
      show _=_
      rw[Int.ediv_eq_zero_of_lt hb0 (by omega)];simp
    case round =>
      obtain ⟨q,r,k,rfl,rfl,rfl,hk,q0,q1,r0,rd,HI⟩:=hrel
      cases k with
      | zero =>
        have e1:q*d+r=a*b:=by have:=HI.out;simpa using this
        have h2:mulF a b d=q∧mulB a b d=true:=by
          unfold mulF mulB
          have e2:a*b / d=q:=by rw[← e1,Int.add_comm,Int.add_mul_ediv_right _ _ (by omega),Int.ediv_eq_zero_of_lt r0 rd];omega
          have h3:a*b<d*18446744073709551616:=by
            have:q*d≤18446744073709551615*d:=Int.mul_le_mul_of_nonneg_right q1 (by omega)
            omega
          exact⟨by rw[if_pos h3,e2],decide_eq_true h3⟩
        have H2:=Lib.hid h2
        clear h2 e1 HI
        go_wp2
        go_ret2
        exact⟨HFF.out _ _ H2.out.1 H2.out.2,rfl⟩
      | succ k =>
        have hk1:k≤63:=by omega
        by_cases c1:9223372036854775807<q
        · have h1 := HNO.out (big_of (k := k + 1) (n := q) ha0 hd0 (by rw [Int.pow_succ]; have := pow_one_le k; have h2 : q * (2 ^ k * 2) = (q * 2) * 2 ^ k := by rw [Int.mul_comm (2 ^ k) 2, Int.mul_assoc]
                                                                       rw[h2];have h3:=Int.mul_le_mul (show 18446744073709551616≤q*2 by omega) this (by omega) (by omega);omega) (by have:=HI.out;omega))
          have H1:=Lib.hid h1
          clear h1 HI
          go_wp2_with (go_at_call 167;refine(rMax1_any _).mono ?_;rintro e w' ⟨rfl,rfl⟩)
          go_ret2
          exact⟨HFF.out _ _ H1.out.1 H1.out.2,rfl⟩
        · rcases rAdd_any (2*q) r r d (by omega) (by omega) r0 rd r0 rd hd with⟨qa,ra,hc1,he1,qa0,qa1,ra0,rad⟩|⟨_,hbad,_⟩
          · have HC1:=Lib.hid hc1
            have HE1:=Lib.hid he1
            have c1':q≤9223372036854775807:=by omega
            obtain ⟨hsplit,hbit⟩:=pow_split b k
            have hIa:qa*d+ra=a*(2*(b / 2 ^ (k+1))):=by
              have h1:=HI.out
              rw[Int.mul_left_comm,← h1,he1,Int.mul_assoc];omega
            have hb2:=shr_le hb0 k
            have hand:=and_one (b / 2 ^ k) hb2.1 (by omega)
            have hmin:min k 64=k:=by omega
            have ek:(((k+1:Nat):Int) - 1)=(k:Int):=by omega
            rw[ek]
            clear ek hc1 he1 HI
            rcases hbit with hbit|hbit
            · have HIN:Hid (qa*d+ra=a*(b / 2 ^ k)):=by
                show _=_
                rw[hIa,show 2*(b / 2 ^ (k+1))=b / 2 ^ k by omega]
              rw[hbit] at hand
              clear hbit hsplit hIa c1
              go_wp2_with (first
                | (go_at_call 167;refine(rMax1_any _).mono ?_;rintro e w' ⟨rfl,rfl⟩)
                | (go_at_call 331;refine(HC1.out _).mono ?_;rintro e w' ⟨rfl,rfl⟩))
              go_round
              case rel=>exact⟨qa,ra,k,rfl,rfl,rfl,by omega,qa0,qa1,ra0,rad,HIN⟩
              case measure=>simp[intOf]<;>omega
            · have hsum:qa*d+ra+a=a*(b / 2 ^ k):=by
                rw[hIa,show b / 2 ^ k=2*(b / 2 ^ (k+1))+1 by omega,Int.mul_add,Int.mul_one]
              have hdm:=Int.mul_ediv_add_emod a d
              have hm0:=Int.emod_nonneg a (show d≠0 by omega)
              have hm1:=Int.emod_lt_of_pos a (show 0<d by omega)
              have hdiv0:0≤a / d:=Int.ediv_nonneg ha0 hd0
              have hdiv1:a / d≤18446744073709551615:=Int.le_trans (Int.ediv_le_self d ha0) ha
              have hpk:=pow_one_le k
              rw[hbit] at hand
              clear hbit hsplit hIa c1
              have HSUM:=Lib.hid hsum
              have HDM:=Lib.hid hdm
              have hq:IntKind.u64.wrap (a / d)=a / d:=u64_id hdiv0 (by omega)
              clear hsum hdm
              by_cases c2:18446744073709551615 - qa<a / d
              · have h1:=HNO.out (big_of (k:=k) (n:=qa+a / d) ha0 hd0 (by have h3:=Int.mul_le_mul (show 18446744073709551616≤qa+a / d by omega) hpk (by omega) (by omega);omega) (by
                  have:=HSUM.out;have:=HDM.out;rw[Int.add_mul,Int.mul_comm (a / d)];omega))
                have H1:=Lib.hid h1
                clear h1
                go_wp2_with (first
                  | (go_at_call 167;refine(rMax1_any _).mono ?_;rintro e w' ⟨rfl,rfl⟩)
                  | (go_at_call 331;refine(HC1.out _).mono ?_;rintro e w' ⟨rfl,rfl⟩))
                go_ret2
                exact⟨HFF.out _ _ H1.out.1 H1.out.2,rfl⟩
              · rcases rAdd_any (qa+a / d) ra (a % d) d (by omega) (by omega) ra0 rad hm0 hm1 hd with⟨qb,rb,hc2,he2,qb0,qb1,rb0,rbd⟩|⟨hc2,hbad,hge⟩
                · have HIN:Hid (qb*d+rb=a*(b / 2 ^ k)):=by
                    show _=_
                    have h1:=HSUM.out
                    have h2:=HDM.out
                    rw[Int.add_mul,Int.mul_comm (a / d)] at he2
                    omega
                  have HC2:=Lib.hid hc2
                  clear hc2 he2
                  go_wp2_with (first
                    | (go_at_call 167;refine(rMax1_any _).mono ?_;rintro e w' ⟨rfl,rfl⟩)
                    | (go_at_call 331;((with_reducible refine(HC1.out _).mono ?_);rintro e w' ⟨rfl,rfl⟩))
                    | (go_at_call 331;((with_reducible refine(HC2.out _).mono ?_);rintro e w' ⟨rfl,rfl⟩)))
                  go_round
                  case rel=>exact⟨qb,rb,k,rfl,rfl,rfl,by omega,qb0,qb1,rb0,rbd,HIN⟩
                  case measure=>simp[intOf]<;>omega
                · have h1:=HNO.out (big_of (k:=k) (n:=qa+a / d+1) ha0 hd0 (by have h3:=Int.mul_le_mul (show 18446744073709551616≤qa+a / d+1 by omega) hpk (by omega) (by omega);omega) (by
                    have:=HSUM.out;have:=HDM.out;rw[Int.add_mul,Int.add_mul,Int.mul_comm (a / d)];omega))
                  have H1:=Lib.hid h1
                  have HC2:=Lib.hid hc2
                  clear h1 hc2 hbad
                  go_wp2_with (first
                    | (go_at_call 167;refine(rMax1_any _).mono ?_;rintro e w' ⟨rfl,rfl⟩)
                    | (go_at_call 331;((with_reducible refine(HC1.out _).mono ?_);rintro e w' ⟨rfl,rfl⟩))
                    | (go_at_call 331;((with_reducible refine(HC2.out _).mono ?_);rintro e w' ⟨rfl,rfl⟩)))
                  go_ret2
                  exact⟨HFF.out _ _ H1.out.1 H1.out.2,rfl⟩
          · exfalso;omega
end
section
open Go.RowKit Go.Maps
theorem laidOutP:laidOutB Tryz.prog=true:=by kernel_rfl
theorem stepKeyed:Keyed Tryz.prog 259:=Keyed.of_law (deep_law_laid laidOutP (m:=3) (by decide) (of_decide_eq_true (by kernel_rfl)) (by kernel_rfl) (by kernel_rfl))
def stepV (a b:Int):Value:=.agg #[.int .i64 a,.int .i64 b]
theorem stepKey (a b:Int) (ha:(Lit.int .i64 a).wf=true) (hb:(Lit.int .i64 b).wf=true):∃ l,keyOf Tryz.prog 259 (stepV a b)=some l:=by
 have h1:Program.keyType Tryz.prog 259=true:=by kernel_rfl
 have h2:(stepV a b).formed Tryz.prog 259=true:=by kernel_rfl
 have h3:Tryz.prog.keyLits (Tryz.prog.types.size+1) 259 (stepV a b).cells.toList=some [.int .i64 a,.int .i64 b]:=by
  have c1:Tryz.prog.cellsOf 259=2:=by kernel_rfl
  have c2:Tryz.prog.cellsOf 3=1:=by kernel_rfl
  have fuel:∃ n,Tryz.prog.types.size+1=n+2:=⟨Tryz.prog.types.size - 1,by have:Tryz.prog.types.size≠0:=(by decide +kernel:Tryz.prog.types.size≠0);omega⟩
  obtain ⟨n,hn⟩:=fuel
  rw[hn]
  simp[Program.keyLits,Tryz.underlying259,Tryz.underlying3,stepV,Value.cells,c1,c2,ha,hb,List.mapM_cons]
 refine⟨.string (keyBytes [.int .i64 a,.int .i64 b]),?_⟩
 unfold keyOf
 rw[Tryz.underlying259]
 simp only[h1,h2,h3,Bool.and_self,if_true,Option.map_some]
theorem wf_small (n:Int) (h0:0≤n) (h1:n≤100):(Lit.int .i64 n).wf=true:=WalkArith.wf_i64 (by omega)
theorem run_build_step (A:Act) (o:Oper) (a b:Int) (ho:o.op=.build 259 #[(0,.const (.int .i64 a)),(1,.const (.int .i64 b))]) (w':World):(execOp A.eval o).run Tryz.prog w'=.ok (.value (stepV a b)) w':=by
 have hb:Tryz.prog.built 259 [(0,.int .i64 a),(1,.int .i64 b)]=some #[.int .i64 a,.int .i64 b]:=by kernel_rfl
 unfold execOp
 simp only[ho]
 simp[Act.eval,run_build w' _ _ _ hb,stepV]
def stepMap:List (Value × Value):=[(stepV 1 1,.int .i64 2),(stepV 2 2,.int .i64 3),(stepV 3 3,.int .i64 4),(stepV 4 4,.int .i64 5),(stepV 5 5,.int .i64 6),(stepV 2 6,.int .i64 7),(stepV 2 7,.int .i64 3),(stepV 3 7,.int .i64 3),(stepV 4 7,.int .i64 4),(stepV 5 7,.int .i64 4)]
def stepKs:List Lk:=.make::(stepMap.flatMap fun p=>[.val,.ins p.1 p.2])++[.val,.val]
set_option maxHeartbeats 1000000 in
theorem table_any (w:World) :
  Calls Tryz.prog 189 #[] w fun e w'=>e=.returned (.map (some w.heap.size))∧Below w.heap.size w w'∧MapIs Tryz.prog 259 w' w.heap.size stepMap:=by
 go_enter Tryz.func189,Tryz.ntmps189
 go_wp2_with fail
 refine wp_region_map Tryz.underlying256 stepKeyed 1 0 stepKs #[.map (some w.heap.size),.map (some w.heap.size),stepV 1 1,stepV 2 2,stepV 3 3,stepV 4 4,stepV 5 5,stepV 2 6,stepV 2 7,stepV 3 7,stepV 4 7,stepV 5 7,.map (some w.heap.size)] (by kernel_rfl) (by kernel_rfl) (by kernel_rfl) rfl ?_ rfl ?_ ?_ (by decide) ?_
 ·exact rest_of [(0,.map (some w.heap.size)),(1,.map (some w.heap.size)),(2,stepV 1 1),(3,stepV 2 2),(4,stepV 3 3),(5,stepV 4 4),(6,stepV 5 5),(7,stepV 2 6),(8,stepV 2 7),(9,stepV 3 7),(10,stepV 4 7),(11,stepV 5 7),(12,.map (some w.heap.size))] (by kernel_rfl) [0,1,2,3,4,5,6,7,8,9,10,11,12] rfl (by kernel_rfl)
 ·have val:∀ {o:Oper} {v:Value} {d:Tmp} {A:Act} {i:Nat},o.guard=none→o.dst=some d→v=A.tmps.getD d undef→(∀ w',(execOp A.eval o).run Tryz.prog w'=.ok (.value v) w')→i≠0→LitOp Tryz.prog A 1 256 259 0 o .val∧(Lk.val=.make↔i=0) :=
   fun h1 h2 h3 h4 h5=>⟨⟨h1,_,fun d hd=>(by rw[h2] at hd;cases hd;exact h3),h4⟩,by simp[h5]⟩
  have ins:∀ {o:Oper} {k v:Value} {kx vx:Operand} {A:Act} {i:Nat},o.op=.insert 256 (.tmp 1) kx vx→o.dst=none→o.guard=none→A.eval kx=k→A.eval vx=v→(o.after.toList.any fun e=>Region.binds .any e && e.on == 0)=true→(∃ l,keyOf Tryz.prog 259 k=some l)→i≠0 →
    LitOp Tryz.prog A 1 256 259 0 o (.ins k v)∧(Lk.ins k v=.make↔i=0):=fun h1 h2 h3 h4 h5 h6 h7 h8=>⟨⟨_,_,h1,h2,h3,h4,h5,h6,h7⟩,by simp[h8]⟩
  refine⟨⟨⟨rfl,rfl,rfl⟩,by simp⟩,?_⟩
  iterate 10 refine⟨val rfl rfl rfl (run_build_step _ _ _ _ rfl) (by omega),⟨ins rfl rfl rfl rfl rfl (by kernel_rfl) (stepKey _ _ (wf_small _ (by omega) (by omega)) (wf_small _ (by omega) (by omega))) (by omega),?_⟩⟩
  exact⟨val rfl rfl rfl (fun w'=>rfl) (by omega),⟨val rfl rfl rfl (fun w'=>rfl) (by omega),trivial⟩⟩
 ·show(stepMap.map (·.1)).Nodup
  simp[stepMap,stepV]
 ·intro w' hb hs hM
  go_wp2
  go_ret
  exact⟨rfl,hb,hM⟩
def nextF (s e:Int):Int :=
 if e=7 then (if s=2∨s=3 then 3 else if s=4∨s=5 then 4 else 0)
 else if e=6∧s=2 then 7
 else if 1≤e∧e≤5∧s=e then s+1 else 0
theorem step_in {s e:Int} (h:nextF s e≠0):(stepV s e,.int .i64 (nextF s e))∈stepMap:=by
 unfold nextF at *
 by_cases h7:e=7
 ·subst h7
  rw[if_pos rfl] at *
  by_cases h1:s=2∨s=3
  ·rw[if_pos h1];rcases h1 with rfl|rfl<;>simp[stepMap]
  ·rw[if_neg h1] at *
   by_cases h2:s=4∨s=5
   ·rw[if_pos h2];rcases h2 with rfl|rfl<;>simp[stepMap]
   ·rw[if_neg h2] at h;exact absurd rfl h
 ·rw[if_neg h7] at *
  by_cases h6:e=6∧s=2
  ·rw[if_pos h6];obtain ⟨rfl,rfl⟩:=h6;simp[stepMap]
  ·rw[if_neg h6] at *
   by_cases h5:1≤e∧e≤5∧s=e
   ·rw[if_pos h5]
    obtain ⟨h1,h2,rfl⟩:=h5
    have:s=1∨s=2∨s=3∨s=4∨s=5:=by omega
    rcases this with rfl|rfl|rfl|rfl|rfl<;>simp[stepMap]
   ·rw[if_neg h5] at h;exact absurd rfl h
theorem step_out {s e:Int} (h:nextF s e=0):∀ p∈stepMap,p.1≠stepV s e:=by
 intro p hp hk
 have hcase:(s=1∧e=1)∨(s=2∧e=2)∨(s=3∧e=3)∨(s=4∧e=4)∨(s=5∧e=5)∨(s=2∧e=6)∨(s=2∧e=7)∨(s=3∧e=7)∨(s=4∧e=7)∨(s=5∧e=7):=by
  simp only[stepMap,List.mem_cons,List.not_mem_nil,or_false] at hp
  rcases hp with rfl|rfl|rfl|rfl|rfl|rfl|rfl|rfl|rfl|rfl<;>simp[stepV] at hk<;>omega
 rcases hcase with⟨rfl,rfl⟩|⟨rfl,rfl⟩|⟨rfl,rfl⟩|⟨rfl,rfl⟩|⟨rfl,rfl⟩|⟨rfl,rfl⟩|⟨rfl,rfl⟩|⟨rfl,rfl⟩|⟨rfl,rfl⟩|⟨rfl,rfl⟩<;>simp[nextF] at h
set_option maxHeartbeats 1000000 in
theorem next_status (s e:Int) (hs:(Lit.int .i64 s).wf=true) (he:(Lit.int .i64 e).wf=true) (w:World) :
  Calls Tryz.prog 271 #[.int .i64 s,.int .i64 e] w fun r w'=>r=.returned (.tuple #[.int .i64 (nextF s e),.bool (nextF s e != 0)])∧Below w.heap.size w w':=by
 obtain ⟨l,hl⟩:=stepKey s e hs he
 have HLK:Hid (∀ w1 b,MapIs Tryz.prog 259 w1 b stepMap→(Instr.lookup 256 (.map (some b)) (.agg #[.int .i64 s,.int .i64 e]) true).run Tryz.prog w1=.ok (.tuple #[.int .i64 (nextF s e),.bool (nextF s e != 0)]) w1):=fun w1 b hM=>by
  by_cases h:nextF s e=0
  ·have:=run_lookup_miss (z:=.int .i64 0) Tryz.underlying256 stepKeyed hl hM (step_out h) (by kernel_rfl) true
   rw[h];exact this
  ·have:=run_lookup_hit Tryz.underlying256 stepKeyed hl hM (step_in h) true
   rw[show(nextF s e != 0)=true by simpa using h];exact this
 generalize nextF s e=x at *
 clear hl hs he
 go_enter Tryz.func271,Tryz.ntmps271
 go_wp2_with fail
 refine(table_any _).mono ?_
 rintro r w1 ⟨rfl,hb,hM⟩
 have hlk:=HLK.out w1 _ hM
 go_wp2_with fail
 go_ret2
 exact⟨rfl,hb⟩
end
section
open Go.RowKit
structure Val where
 bal:Int
 st:Int
 sl:Bool
 rq:Int
 ex:Int
 wd:Int
 dl:Int
def Val.cells (v:Val):Array Value:=#[.int .u64 v.bal,.int .i64 v.st,.bool v.sl,.int .i64 v.rq,.int .i64 v.ex,.int .i64 v.wd,.int .i64 v.dl]
def Val.zero:Val:=⟨0,0,false,0,0,0,0⟩
def Val.wf (v:Val):Prop:=(0≤v.bal∧v.bal≤18446744073709551615)∧(Lit.int .i64 v.st).wf=true∧(Lit.int .i64 v.rq).wf=true∧(Lit.int .i64 v.ex).wf=true∧(Lit.int .i64 v.wd).wf=true∧(Lit.int .i64 v.dl).wf=true
def VFacts (w:World) (b:Nat) (bal st rq ex wd dl:Int) (sl:Bool):Prop :=
 w.cell? ⟨b,0,none⟩=some (.int .u64 bal)∧w.cell? ⟨b,1,none⟩=some (.int .i64 st)∧w.cell? ⟨b,2,none⟩=some (.bool sl)∧w.cell? ⟨b,3,none⟩=some (.int .i64 rq)∧w.cell? ⟨b,4,none⟩=some (.int .i64 ex)∧w.cell? ⟨b,5,none⟩=some (.int .i64 wd)∧w.cell? ⟨b,6,none⟩=some (.int .i64 dl) ∧
 w.frozen? ⟨b,0,none⟩=false∧w.frozen? ⟨b,1,none⟩=false∧w.frozen? ⟨b,2,none⟩=false∧w.frozen? ⟨b,3,none⟩=false∧w.frozen? ⟨b,4,none⟩=false∧w.frozen? ⟨b,5,none⟩=false∧w.frozen? ⟨b,6,none⟩=false
theorem vfacts {w:World} {b:Nat} {bal st rq ex wd dl:Int} {sl:Bool} (h:BlockIs w b (Val.cells ⟨bal,st,sl,rq,ex,wd,dl⟩) 48):VFacts w b bal st rq ex wd dl sl :=
 ⟨h.cell (i:=0) rfl,h.cell (i:=1) rfl,h.cell (i:=2) rfl,h.cell (i:=3) rfl,h.cell (i:=4) rfl,h.cell (i:=5) rfl,h.cell (i:=6) rfl,h.free 0,h.free 1,h.free 2,h.free 3,h.free 4,h.free 5,h.free 6⟩
theorem Upd.drew {S:List Nat} {a w:World} (h:Upd S a w):Upd S a w.drew:=⟨h.os,h.tape,h.output,h.size,h.block⟩
theorem BlockIs.drew {w:World} {b:Nat} {c:Array Value} {t:TypeId} (h:BlockIs w b c t):BlockIs w.drew b c t:=h
theorem BlockIs.other {w:World} {b:Nat} {c:Array Value} {t:TypeId} (h:BlockIs w b c t) {b':Nat} (hne:b≠b') (i:Nat) (v:Value):BlockIs (w.setCell ⟨b',i,none⟩ v) b c t :=
 h.of (Below.heap_setCell _ _ _ _ hne)
theorem BlockIs.new' {w:World} {n:Nat} {c:Array Value} {t:TypeId} (h:n=w.heap.size):BlockIs (w.alloc (.cells c t)) n c t:=by subst h;exact BlockIs.new w c t
structure Cfg where
 capacity:Int
 queueSize:Int
 minDeposit:Int
 maxDeposit:Int
 supplyCap:Int
 minBalance:Int
 maxBalance:Int
 minChurn:Int
 quotient:Int
 forcedCap:Int
 unbonding:Int
 slashDelay:Int
 ringLen:Int
 epochLen:Int
 visits:Int
 payments:Int
 partials:Int
 merges:Int
 penNum:Int
 penDen:Int
def Cfg.cells (c:Cfg):Array Value:=#[.int .i64 c.capacity,.int .i64 c.queueSize,.int .u64 c.minDeposit,.int .u64 c.maxDeposit,.int .u64 c.supplyCap,.int .u64 c.minBalance,.int .u64 c.maxBalance,.int .u64 c.minChurn,.int .u64 c.quotient,.int .u64 c.forcedCap,
 .int .i64 c.unbonding,.int .i64 c.slashDelay,.int .i64 c.ringLen,.int .i64 c.epochLen,.int .i64 c.visits,.int .i64 c.payments,.int .i64 c.partials,.int .i64 c.merges,.int .u64 c.penNum,.int .u64 c.penDen]
def Cfg.ints (c:Cfg):List Int:=[c.capacity,c.queueSize,c.unbonding,c.slashDelay,c.ringLen,c.epochLen,c.visits,c.payments,c.partials,c.merges]
def Cfg.amounts (c:Cfg):List Int:=[c.minDeposit,c.maxDeposit,c.supplyCap,c.minBalance,c.maxBalance,c.minChurn,c.quotient,c.forcedCap,c.penNum,c.penDen]
def Cfg.wf (c:Cfg):Prop:=(∀ x∈c.ints,(Lit.int .i64 x).wf=true)∧∀ x∈c.amounts,0≤x∧x≤18446744073709551615
theorem BlockIs.below_all {w w':World} {b:Nat} {c:Array Value} {t:TypeId} (h:BlockIs w b c t) (hu:Below w.heap.size w w'):BlockIs w' b c t:=h.below hu h.lt
end
end Go.Proofs.YtopbohbkhljjgaaGreat
