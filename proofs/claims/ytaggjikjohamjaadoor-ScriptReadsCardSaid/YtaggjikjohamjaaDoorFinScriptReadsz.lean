import Derived.Test.YtaggjikjohamjaaDoorZsf
/- The statement ScriptReads: the walk start_ScriptReads, lifted. -/
import Derived.ProofKit
import Derived.OpenShut
import Derived.ShutString
import Derived.Test.YtaggjikjohamjaaDoorTie
import Derived.Test.YtaggjikjohamjaaDoorCards
import Derived.LaidMore
import Derived.LaidSub
import Derived.Stop.Joined
import Derived.SevenTiedAt
namespace Go.Proofs.YtaggjikjohamjaaDoor.FscriptReads
open Go.ChangeShapes Go.WideShapes Go.ChangeAt Go.RowKit
open Go.ChangeMaps (open_string shut_string)
set_option linter.unusedVariables false
theorem own : ownKnob Tryd.prog.godebug = none := by kernel_rfl
theorem laidOut : laidOutB Tryd.prog = true := by kernel_rfl
noncomputable def doorW (os : Os) : World := { World.doorLaid Tryd.prog 400 os with heap := (World.doorLaid Tryd.prog 400 os).heap.modify 4 fun | .cells _ t z => .cells (Go.Pinned.utf8FirstZ.map fun z : Nat => Value.int .u8 (z : Int)).toArray t z | o => o }
theorem door_met (os : Os) (args : Array Value) : laidMetH Tryd.prog Rows.scriptReadsRow.laid ((doorW os).forCall (fun _ _ => 0) ⟨#[], args, []⟩).memory :=
  laidMetH_of_parts3 (fuel := 8) (laidMet_of_run' 8 (by kernel_rfl) (by kernel_rfl)) (by kernel_rfl) (by kernel_rfl)
theorem tens_of {W : World} (h : laidMetH Tryd.prog Rows.scriptReadsRow.laid W) : Tens W := by
  have h := laidMetH.filter (fun x => x.1 == "internal/strconv.uint64pow10") h
  have e : (Rows.scriptReadsRow.laid.filter fun x => x.1 == "internal/strconv.uint64pow10") = [("internal/strconv.uint64pow10", Lib.tabData .u64 Lib.pow10Tab)] := by kernel_rfl
  rw [e, MakeChecks.laidMetH_plain _ _ _ (by kernel_rfl)] at h
  exact Lib.tabIs_of_head (g := 1) (t := 126) (e := 22) (n := 20) (by kernel_rfl) (by kernel_rfl) (by kernel_rfl) (by kernel_rfl) (by kernel_rfl) (by kernel_rfl) h
theorem syn_of {W : World} (h : laidMetH Tryd.prog Rows.scriptReadsRow.laid W) : ∃ u v, W.cell? ⟨2, 0, none⟩ = some (.iface u v) := by
  have h := laidMetH.filter (fun x => x.1 == "strconv.ErrSyntax") h
  have e : (Rows.scriptReadsRow.laid.filter fun x => x.1 == "strconv.ErrSyntax") = [("strconv.ErrSyntax", Rows.laid_strconv_ErrSyntax)] := by kernel_rfl
  rw [e, MakeChecks.laidMetH_plain _ _ _ (by kernel_rfl)] at h
  obtain ⟨ps, ⟨g, t, cs, fuel, p, q, hg, ht, hvar, hd, _, _⟩, _⟩ := h
  obtain rfl := Option.some.inj ((show Tryd.prog.globalNamed "strconv.ErrSyntax" = some 2 by kernel_rfl).symm.trans hg)
  have hi : (match (Tryd.prog.globals[2]?).map (·.type) with | some t => (match Tryd.prog.underlying t with | some (.interface _) => true | _ => false) | none => false) = true := by kernel_rfl
  rw [ht] at hi
  split at hi
  · rename_i t1 h1
    obtain rfl := Option.some.inj h1
    split at hi
    · rename_i ms h2
      obtain ⟨_, u, v, hc, _⟩ := iface_of_trod h2 hd
      refine ⟨u, v, ?_⟩
      have := World.var?_cell (P := Tryd.prog) (show Tryd.prog.globalNamed "strconv.ErrSyntax" = some 2 by kernel_rfl) hvar 0
      have e2 : cs = #[.iface u v] := by apply Array.toList_inj.1; simpa using hc
      rw [e2] at this
      simpa using this
    · cases hi
  · cases hi
theorem ran_of {W : World} (h : laidMetH Tryd.prog Rows.scriptReadsRow.laid W) : ∃ u v, W.cell? ⟨3, 0, none⟩ = some (.iface u v) := by
  have h := laidMetH.filter (fun x => x.1 == "strconv.ErrRange") h
  have e : (Rows.scriptReadsRow.laid.filter fun x => x.1 == "strconv.ErrRange") = [("strconv.ErrRange", Rows.laid_strconv_ErrRange)] := by kernel_rfl
  rw [e, MakeChecks.laidMetH_plain _ _ _ (by kernel_rfl)] at h
  obtain ⟨ps, ⟨g, t, cs, fuel, p, q, hg, ht, hvar, hd, _, _⟩, _⟩ := h
  obtain rfl := Option.some.inj ((show Tryd.prog.globalNamed "strconv.ErrRange" = some 3 by kernel_rfl).symm.trans hg)
  have hi : (match (Tryd.prog.globals[3]?).map (·.type) with | some t => (match Tryd.prog.underlying t with | some (.interface _) => true | _ => false) | none => false) = true := by kernel_rfl
  rw [ht] at hi
  split at hi
  · rename_i t1 h1
    obtain rfl := Option.some.inj h1
    split at hi
    · rename_i ms h2
      obtain ⟨_, u, v, hc, _⟩ := iface_of_trod h2 hd
      refine ⟨u, v, ?_⟩
      have := World.var?_cell (P := Tryd.prog) (show Tryd.prog.globalNamed "strconv.ErrRange" = some 3 by kernel_rfl) hvar 0
      have e2 : cs = #[.iface u v] := by apply Array.toList_inj.1; simpa using hc
      rw [e2] at this
      simpa using this
    · cases hi
  · cases hi
set_option maxRecDepth 100000 in
set_option maxHeartbeats 1000000 in
theorem lifted (os : Os) (started : os.Started) (H : Type) (enc : TypeId × Value → H) :
    ReturnsInHanded {} Tryd.checked os 5 .any (fun w args => (Rows.scriptReadsSpec.pre enc Tryd.prog Tryd.f5 [] false w args ∧ laidMetH Tryd.prog Rows.scriptReadsRow.laid w) ∧ sizedMet enc Tryd.prog Tryd.f5 (OpenSpec.ofChange Rows.scriptReadsSpec) false w args)
      (Rows.scriptReadsSpec.post enc Tryd.prog Tryd.f5 false true false false) := by
  refine handed_shaped (C := Tryd.checked) (X := fun w _ => laidMetH Tryd.prog Rows.scriptReadsRow.laid w) (fun _ _ _ hh h => h.of_heap hh) own started (by kernel_rfl) Tryd.func5
    (ChangeSpec.witness_shaped (enc := enc) (C := Tryd.checked) (os := os) (X := fun w _ => laidMetH Tryd.prog Rows.scriptReadsRow.laid w) false (doorW os) #[.string ByteArray.empty, .string ByteArray.empty] 8 rfl (World.shaped_of_RefB (by kernel_rfl) (by kernel_rfl)) (by kernel_rfl) (by kernel_rfl) (by kernel_rfl) (door_met os _)) ?_
  intro W base args ds gs before hval0 hW hSh hL
  have hval : ∀ (j : Nat) t v, Tryd.f5.params[j]? = some t → args[j]? = some v → Value.okWide Tryd.prog W .any base t v := hval0
  have hW' := hW
  obtain ⟨p, q, hA0, hV, rfl, hfz, hnd⟩ := hW
  have hA : DataW.TrodAll enc Tryd.prog W 0 (fun _ => true) true Tryd.f5.params.toList args.toList ds p := hA0
  rw [Tryd.params5] at hA hval
  obtain ⟨v0, vs0, d0, ds0, p0, q0, hargs, rfl, rfl, h0, r0⟩ := trodAll_cons hA
  obtain ⟨v1, vs1, d1, ds1, p1, q1, rfl, rfl, rfl, h1, r1⟩ := trodAll_cons r0
  obtain ⟨rfl, rfl, rfl⟩ := trodAll_nil r1
  obtain rfl : args = #[v0, v1] := by cases args; simp_all
  obtain ⟨rfl, rfl⟩ := trodVars_none hV
  have k0 := h0
  have lt0 : ∀ x ∈ p0, x.block < W.heap.size := by obtain ⟨m, hm⟩ := k0; exact DataW.trod_lt m _ _ _ hm
  obtain ⟨a0, rfl, _, _, w0⟩ := open_string Tryd.underlying9 (hval 0 9 v0 rfl rfl) h0
  have k1 := h1
  have lt1 : ∀ x ∈ p1, x.block < W.heap.size := by obtain ⟨m, hm⟩ := k1; exact DataW.trod_lt m _ _ _ hm
  obtain ⟨a1, rfl, _, _, w1⟩ := open_string Tryd.underlying9 (hval 1 9 v1 rfl rfl) h1
  clear hA0 hval0
  simp only [List.append_nil] at hW'
  refine (start_ScriptReads W a0 w0 a1 w1 ⟨tens_of hL, syn_of hL, ran_of hL⟩ (mxl_of hSh)).mono fun e W' ⟨he, bel⟩ => ?_
  subst he
  exact ⟨_, rfl, _, _, _, [], _, [], hW', trodAll_mk1 (shut_bool Tryd.underlying4 _), (trodAll_cons_mk (Below.trod laidOut (by kernel_rfl) (of_decide_eq_true (by kernel_rfl)) k0 bel lt0) (trodAll_cons_mk (Below.trod laidOut (by kernel_rfl) (of_decide_eq_true (by kernel_rfl)) k1 bel lt1) trodAll_mk0)), rfl, bel.frame _, fun h => by cases h⟩
theorem and_t {x y : Bool} (h : x = true) (k : y = true) : (x && y) = true := by rw [h, k]; rfl
set_option maxHeartbeats 8000000 in
theorem over : Rows.scriptReadsRow.holds Tryd.pinned (OpenSpec.ofChange Rows.scriptReadsSpec) :=
  OpenClaim.holds_of_wide 5 Tryd.f5 rfl rfl rfl rfl rfl rfl rfl ⟨rfl, rfl, rfl, rfl, rfl⟩ rfl rfl rfl rfl rfl (by as_aux_lemma => kernel_rfl) Tryd.func5 (by unfold joinedFacts; (repeat (with_reducible apply and_t)); all_goals (as_aux_lemma => kernel_rfl))
    (of_decide_eq_true (by as_aux_lemma => kernel_rfl)) (by unfold Func.isWrapper; first | (rw [if_pos (by decide +kernel)]; kernel_rfl) | (rw [if_neg (by decide +kernel)]; exact ⟨rfl, rfl⟩))
    (fun os started H enc _ => lifted os started H enc)
end Go.Proofs.YtaggjikjohamjaaDoor.FscriptReads
namespace Go.Proofs.YtaggjikjohamjaaDoor
open Go in
set_option maxRecDepth 100000 in
theorem ScriptReads_proved : Rows.ScriptReadsCardSaid :=
  Claim7.holds_tied_plain_at .later [] [.data, .data, .data, .data, .sentinel, .sentinel, .pinned] true (true, "6627770ed9f8270c39fba1a344afe9ff7d2bd84fe951a5df00bd9328b24007cd") true FscriptReads.over (fun _ h => by cases h) (by kernel_rfl) (fun _ h => by cases h) scriptReads_row_tie rfl ⟨rfl, rfl⟩ (by kernel_rfl) rfl
    (fun f fn hf hfn => by
      obtain rfl : f = 5 := Option.some.inj ((show Tryd.prog.funcNamed "egress/egresslaw20.ScriptReads" = some 5 by kernel_rfl).symm.trans hf) |>.symm
      obtain rfl : fn = Tryd.f5 := (Option.some.inj (Tryd.func5.symm.trans hfn)).symm
      exact ⟨by kernel_rfl, fun j t ht => by
        rw [Tryd.params5] at ht
        have hw : ∀ t ∈ ([9, 9] : List TypeId), Tryd.prog.wantsStandIn t = false := by
          intro t h
          simp only [List.mem_cons, List.not_mem_nil, or_false] at h
          rcases h with rfl | rfl <;> kernel_rfl
        exact hw t (by have := List.mem_of_getElem? (by simpa using ht : ([9, 9] : List TypeId)[j]? = some t); exact this)⟩)
    (by kernel_rfl)
#print axioms ScriptReads_proved
end Go.Proofs.YtaggjikjohamjaaDoor
