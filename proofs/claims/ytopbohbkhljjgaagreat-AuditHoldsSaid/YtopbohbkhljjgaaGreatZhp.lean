import Derived.Test.YtopbohbkhljjgaaGreatZho
set_option linter.unusedVariables false
set_option linter.unusedSimpArgs false
set_option maxRecDepth 100000
set_option maxHeartbeats 8000000
namespace Go.Proofs.YtopbohbkhljjgaaGreat
section
open Go.RowKit
abbrev cfgSh:Sh:=.agg [.int .i64,.int .i64,.int .u64,.int .u64,.int .u64,.int .u64,.int .u64,.int .u64,.int .u64,.int .u64,.int .i64,.int .i64,.int .i64,.int .i64,.int .i64,.int .i64,.int .i64,.int .i64,.int .u64,.int .u64]
theorem cfg_of_sh {w:World} {l:List Value} (h:HasSh w cfgSh l):∃ c:Cfg,l=cfgL c∧c.wf:=by
 obtain ⟨c0,r0,rfl,h0,h⟩:=shb_cons h
 obtain ⟨c1,r1,rfl,h1,h⟩:=shb_cons h
 obtain ⟨c2,r2,rfl,h2,h⟩:=shb_cons h
 obtain ⟨c3,r3,rfl,h3,h⟩:=shb_cons h
 obtain ⟨c4,r4,rfl,h4,h⟩:=shb_cons h
 obtain ⟨c5,r5,rfl,h5,h⟩:=shb_cons h
 obtain ⟨c6,r6,rfl,h6,h⟩:=shb_cons h
 obtain ⟨c7,r7,rfl,h7,h⟩:=shb_cons h
 obtain ⟨c8,r8,rfl,h8,h⟩:=shb_cons h
 obtain ⟨c9,r9,rfl,h9,h⟩:=shb_cons h
 obtain ⟨c10,r10,rfl,h10,h⟩:=shb_cons h
 obtain ⟨c11,r11,rfl,h11,h⟩:=shb_cons h
 obtain ⟨c12,r12,rfl,h12,h⟩:=shb_cons h
 obtain ⟨c13,r13,rfl,h13,h⟩:=shb_cons h
 obtain ⟨c14,r14,rfl,h14,h⟩:=shb_cons h
 obtain ⟨c15,r15,rfl,h15,h⟩:=shb_cons h
 obtain ⟨c16,r16,rfl,h16,h⟩:=shb_cons h
 obtain ⟨c17,r17,rfl,h17,h⟩:=shb_cons h
 obtain ⟨c18,r18,rfl,h18,h⟩:=shb_cons h
 obtain ⟨c19,r19,rfl,h19,h⟩:=shb_cons h
 obtain rfl:=shb_nil h
 obtain ⟨n0,rfl,w0⟩:=shb_int h0
 obtain ⟨n1,rfl,w1⟩:=shb_int h1
 obtain ⟨n2,rfl,w2⟩:=shb_int h2
 obtain ⟨n3,rfl,w3⟩:=shb_int h3
 obtain ⟨n4,rfl,w4⟩:=shb_int h4
 obtain ⟨n5,rfl,w5⟩:=shb_int h5
 obtain ⟨n6,rfl,w6⟩:=shb_int h6
 obtain ⟨n7,rfl,w7⟩:=shb_int h7
 obtain ⟨n8,rfl,w8⟩:=shb_int h8
 obtain ⟨n9,rfl,w9⟩:=shb_int h9
 obtain ⟨n10,rfl,w10⟩:=shb_int h10
 obtain ⟨n11,rfl,w11⟩:=shb_int h11
 obtain ⟨n12,rfl,w12⟩:=shb_int h12
 obtain ⟨n13,rfl,w13⟩:=shb_int h13
 obtain ⟨n14,rfl,w14⟩:=shb_int h14
 obtain ⟨n15,rfl,w15⟩:=shb_int h15
 obtain ⟨n16,rfl,w16⟩:=shb_int h16
 obtain ⟨n17,rfl,w17⟩:=shb_int h17
 obtain ⟨n18,rfl,w18⟩:=shb_int h18
 obtain ⟨n19,rfl,w19⟩:=shb_int h19
 refine⟨⟨n0,n1,n2,n3,n4,n5,n6,n7,n8,n9,n10,n11,n12,n13,n14,n15,n16,n17,n18,n19⟩,rfl,?_,?_⟩
 ·simp only[Cfg.ints,List.mem_cons,List.not_mem_nil,or_false]
  rintro x (rfl|rfl|rfl|rfl|rfl|rfl|rfl|rfl|rfl|rfl)<;>assumption
 ·simp only[Cfg.amounts,List.mem_cons,List.not_mem_nil,or_false]
  rintro x (rfl|rfl|rfl|rfl|rfl|rfl|rfl|rfl|rfl|rfl)<;>exact u64_wf (by assumption)
theorem law_old {k:FuncId} {us:List Value} {w:World} (h:Spec k us [Old w] fun u L'=>u=.bool true∧L'=[Old w]):Calls Tryz.prog k us.toArray w fun e w'=>e=.returned (.bool true)∧Below w.heap.size w w':=by
 refine(h [] w (Mem.old w)).mono ?_
 rintro e w' ⟨u,L',rfl,⟨rfl,rfl⟩,M⟩
 exact⟨rfl,M.below .here⟩
end
section
open Go.RowKit
abbrev oprSh:Sh:=.agg [.int .i64,.int .i64,.int .i64,.int .u64]
theorem cfg_ops {w:World} {ks:Array Value} (hk:HasSh w cfgSh ks.toList):∃ c:Cfg,ks=(cfgL c).toArray∧0≤c.forcedCap∧0≤c.penNum:=by
 obtain ⟨c,e2,hc⟩:=cfg_of_sh hk
 obtain rfl:=arr_eq e2
 exact⟨c,rfl,(hc.2 c.forcedCap (by simp[Cfg.amounts])).1,(hc.2 c.penNum (by simp[Cfg.amounts])).1⟩
theorem ops_sh {w:World} {v:Value} (hv:HasSh w (.slice 4 oprSh) [v]):∃ l:List Opn,GS [Old w] 4 v l.length (l.flatMap opL)∧∀ o∈l,I64 o.k∧U64 o.am:=by
 obtain ⟨l,gl,hl⟩:=slice_of_sh (f:=opL) (fun cs h=>op_of_sh h) hv
 exact⟨l,gs_oldT gl .here,fun o ho=>⟨(hl o ho).1,(hl o ho).2.2.2⟩⟩
theorem start_AuditHolds (w:World) (ks:Array Value) (hk:HasSh w cfgSh ks.toList) (v:Value) (hv:HasSh w (.slice 4 oprSh) [v]):Calls Tryz.prog 13 #[.agg ks,v] w fun e w'=>e=.returned (.bool true)∧Below w.heap.size w w':=by
 obtain ⟨c,rfl,h0,h1⟩:=cfg_ops hk
 obtain ⟨l,gl,hl⟩:=ops_sh hv
 exact law_old (us:=[cfgV c,v]) (holds_law c v l [Old w] gl h0 h1 hl)
end
end Go.Proofs.YtopbohbkhljjgaaGreat
