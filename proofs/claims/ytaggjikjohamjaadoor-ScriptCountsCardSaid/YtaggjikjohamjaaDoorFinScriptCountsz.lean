import Derived.Test.YtaggjikjohamjaaDoorZsf
/- The statement ScriptCounts: the walk start_ScriptCounts, lifted. -/
import Derived.ProofKit
import Derived.OpenShut
import Derived.ShutString
import Derived.Test.YtaggjikjohamjaaDoorTie
import Derived.Test.YtaggjikjohamjaaDoorCards
import Derived.LaidMore
import Derived.LaidSub
import Derived.Stop.Joined
import Derived.SevenTiedAt
namespace Go.Proofs.YtaggjikjohamjaaDoor.FscriptCounts
open Go.ChangeShapes Go.WideShapes Go.ChangeAt Go.RowKit
open Go.ChangeMaps (open_string shut_string)
set_option linter.unusedVariables false
theorem own : ownKnob Tryd.prog.godebug = none := by kernel_rfl
theorem laidOut : laidOutB Tryd.prog = true := by kernel_rfl
noncomputable def doorW (os : Os) : World := { World.doorLaid Tryd.prog 400 os with heap := (World.doorLaid Tryd.prog 400 os).heap.modify 4 fun | .cells _ t z => .cells (Go.Pinned.utf8FirstZ.map fun z : Nat => Value.int .u8 (z : Int)).toArray t z | o => o }
theorem door_met (os : Os) (args : Array Value) : laidMetH Tryd.prog Rows.scriptCountsRow.laid ((doorW os).forCall (fun _ _ => 0) ⟨#[], args, []⟩).memory :=
  laidMetH_of_parts3 (fuel := 8) (laidMet_of_run' 8 (by kernel_rfl) (by kernel_rfl)) (by kernel_rfl) (by kernel_rfl)
theorem tens_of {W : World} (h : laidMetH Tryd.prog Rows.scriptCountsRow.laid W) : Tens W := by
  have h := laidMetH.filter (fun x => x.1 == "internal/strconv.uint64pow10") h
  have e : (Rows.scriptCountsRow.laid.filter fun x => x.1 == "internal/strconv.uint64pow10") = [("internal/strconv.uint64pow10", Lib.tabData .u64 Lib.pow10Tab)] := by kernel_rfl
  rw [e, MakeChecks.laidMetH_plain _ _ _ (by kernel_rfl)] at h
  exact Lib.tabIs_of_head (g := 1) (t := 126) (e := 22) (n := 20) (by kernel_rfl) (by kernel_rfl) (by kernel_rfl) (by kernel_rfl) (by kernel_rfl) (by kernel_rfl) h
theorem syn_of {W : World} (h : laidMetH Tryd.prog Rows.scriptCountsRow.laid W) : ∃ u v, W.cell? ⟨2, 0, none⟩ = some (.iface u v) := by
  have h := laidMetH.filter (fun x => x.1 == "strconv.ErrSyntax") h
  have e : (Rows.scriptCountsRow.laid.filter fun x => x.1 == "strconv.ErrSyntax") = [("strconv.ErrSyntax", Rows.laid_strconv_ErrSyntax)] := by kernel_rfl
  rw [e, MakeChecks.laidMetH_plain _ _ _ (by kernel_rfl)] at h
  obtain ⟨ps, ⟨g, t, cs, fuel, p, q, hg, ht, hvar, hd, _, _⟩, _⟩ := h
  obtain rfl := Option.some.inj ((show Tryd.prog.globalNamed "strconv.ErrSyntax" = some 2 by kernel_rfl).symm.trans hg)
  have hi : (match (Tryd.prog.globals[2]?).map (·.type) with | some t => (match Tryd.prog.underlying t with | some (.interface _) => true | _ => false) | none => false) = true := by kernel_rfl
  rw [ht] at hi
  split at hi
  · rename_i t1 h1
    obtain rfl := Option.some.inj h1
    split at hi
    · rename_i ms h2
      obtain ⟨_, u, v, hc, _⟩ := iface_of_trod h2 hd
      refine ⟨u, v, ?_⟩
      have := World.var?_cell (P := Tryd.prog) (show Tryd.prog.globalNamed "strconv.ErrSyntax" = some 2 by kernel_rfl) hvar 0
      have e2 : cs = #[.iface u v] := by apply Array.toList_inj.1; simpa using hc
      rw [e2] at this
      simpa using this
    · cases hi
  · cases hi
theorem ran_of {W : World} (h : laidMetH Tryd.prog Rows.scriptCountsRow.laid W) : ∃ u v, W.cell? ⟨3, 0, none⟩ = some (.iface u v) := by
  have h := laidMetH.filter (fun x => x.1 == "strconv.ErrRange") h
  have e : (Rows.scriptCountsRow.laid.filter fun x => x.1 == "strconv.ErrRange") = [("strconv.ErrRange", Rows.laid_strconv_ErrRange)] := by kernel_rfl
  rw [e, MakeChecks.laidMetH_plain _ _ _ (by kernel_rfl)] at h
  obtain ⟨ps, ⟨g, t, cs, fuel, p, q, hg, ht, hvar, hd, _, _⟩, _⟩ := h
  obtain rfl := Option.some.inj ((show Tryd.prog.globalNamed "strconv.ErrRange" = some 3 by kernel_rfl).symm.trans hg)
  have hi : (match (Tryd.prog.globals[3]?).map (·.type) with | some t => (match Tryd.prog.underlying t with | some (.interface _) => true | _ => false) | none => false) = true := by kernel_rfl
  rw [ht] at hi
  split at hi
  · rename_i t1 h1
    obtain rfl := Option.some.inj h1
    split at hi
    · rename_i ms h2
      obtain ⟨_, u, v, hc, _⟩ := iface_of_trod h2 hd
      refine ⟨u, v, ?_⟩
      have := World.var?_cell (P := Tryd.prog) (show Tryd.prog.globalNamed "strconv.ErrRange" = some 3 by kernel_rfl) hvar 0
      have e2 : cs = #[.iface u v] := by apply Array.toList_inj.1; simpa using hc
      rw [e2] at this
      simpa using this
    · cases hi
  · cases hi
set_option maxRecDepth 100000 in
set_option maxHeartbeats 1000000 in
theorem lifted (os : Os) (started : os.Started) (H : Type) (enc : TypeId × Value → H) :
    ReturnsInHanded {} Tryd.checked os 7 .any (fun w args => (Rows.scriptCountsSpec.pre enc Tryd.prog Tryd.f7 [] false w args ∧ laidMetH Tryd.prog Rows.scriptCountsRow.laid w) ∧ sizedMet enc Tryd.prog Tryd.f7 (OpenSpec.ofChange Rows.scriptCountsSpec) false w args)
      (Rows.scriptCountsSpec.post enc Tryd.prog Tryd.f7 false true false false) := by
  refine handed_shaped (C := Tryd.checked) (X := fun w _ => laidMetH Tryd.prog Rows.scriptCountsRow.laid w) (fun _ _ _ hh h => h.of_heap hh) own started (by kernel_rfl) Tryd.func7
    (ChangeSpec.witness_shaped (enc := enc) (C := Tryd.checked) (os := os) (X := fun w _ => laidMetH Tryd.prog Rows.scriptCountsRow.laid w) false (doorW os) #[.slice none 0 0, .int .i64 0] 8 rfl (World.shaped_of_RefB (by kernel_rfl) (by kernel_rfl)) (by kernel_rfl) (by kernel_rfl) (by kernel_rfl) (door_met os _)) ?_
  intro W base args ds gs before hval0 hW hSh hL
  have hval : ∀ (j : Nat) t v, Tryd.f7.params[j]? = some t → args[j]? = some v → Value.okWide Tryd.prog W .any base t v := hval0
  have hW' := hW
  obtain ⟨p, q, hA0, hV, rfl, hfz, hnd⟩ := hW
  have hA : DataW.TrodAll enc Tryd.prog W 0 (fun _ => true) true Tryd.f7.params.toList args.toList ds p := hA0
  rw [Tryd.params7] at hA hval
  obtain ⟨v0, vs0, d0, ds0, p0, q0, hargs, rfl, rfl, h0, r0⟩ := trodAll_cons hA
  obtain ⟨v1, vs1, d1, ds1, p1, q1, rfl, rfl, rfl, h1, r1⟩ := trodAll_cons r0
  obtain ⟨rfl, rfl, rfl⟩ := trodAll_nil r1
  obtain rfl : args = #[v0, v1] := by cases args; simp_all
  obtain ⟨rfl, rfl⟩ := trodVars_none hV
  have k0 := h0
  have lt0 : ∀ x ∈ p0, x.block < W.heap.size := by obtain ⟨m, hm⟩ := k0; exact DataW.trod_lt m _ _ _ hm
  obtain ⟨x0, len0, cap0, rfl⟩ := okWide_slice Tryd.underlying36 (hval 0 36 v0 rfl rfl)
  have s0 : HasSh W (.slice 1 (.int .u8)) [.slice x0 len0 cap0] := by
    obtain ⟨fuel, hf⟩ := h0
    exact hasSh_of_trod 12 36 _ fuel _ _ (by kernel_rfl) hf
  have k1 := h1
  have lt1 : ∀ x ∈ p1, x.block < W.heap.size := by obtain ⟨m, hm⟩ := k1; exact DataW.trod_lt m _ _ _ hm
  obtain ⟨a1, rfl, _, _, w1⟩ := open_int Tryd.underlying3 (hval 1 3 v1 rfl rfl) h1
  clear hA0 hval0
  simp only [List.append_nil] at hW'
  refine (start_ScriptCounts W _ s0 a1 (bounds_i64 w1) ⟨tens_of hL, syn_of hL, ran_of hL⟩ (mxl_of hSh)).mono fun e W' ⟨he, bel⟩ => ?_
  subst he
  exact ⟨_, rfl, _, _, _, [], _, [], hW', trodAll_mk1 (shut_bool Tryd.underlying4 _), (trodAll_cons_mk (Below.trod laidOut (by kernel_rfl) (of_decide_eq_true (by kernel_rfl)) k0 bel lt0) (trodAll_cons_mk (Below.trod laidOut (by kernel_rfl) (of_decide_eq_true (by kernel_rfl)) k1 bel lt1) trodAll_mk0)), rfl, bel.frame _, fun h => by cases h⟩
theorem and_t {x y : Bool} (h : x = true) (k : y = true) : (x && y) = true := by rw [h, k]; rfl
set_option maxHeartbeats 8000000 in
theorem over : Rows.scriptCountsRow.holds Tryd.pinned (OpenSpec.ofChange Rows.scriptCountsSpec) :=
  OpenClaim.holds_of_wide 7 Tryd.f7 rfl rfl rfl rfl rfl rfl rfl ⟨rfl, rfl, rfl, rfl, rfl⟩ rfl rfl rfl rfl rfl (by as_aux_lemma => kernel_rfl) Tryd.func7 (by unfold joinedFacts; (repeat (with_reducible apply and_t)); all_goals (as_aux_lemma => kernel_rfl))
    (of_decide_eq_true (by as_aux_lemma => kernel_rfl)) (by unfold Func.isWrapper; first | (rw [if_pos (by decide +kernel)]; kernel_rfl) | (rw [if_neg (by decide +kernel)]; exact ⟨rfl, rfl⟩))
    (fun os started H enc _ => lifted os started H enc)
end Go.Proofs.YtaggjikjohamjaaDoor.FscriptCounts
namespace Go.Proofs.YtaggjikjohamjaaDoor
open Go in
set_option maxRecDepth 100000 in
theorem ScriptCounts_proved : Rows.ScriptCountsCardSaid :=
  Claim7.holds_tied_plain_at .later [] [.data, .data, .data, .data, .sentinel, .sentinel, .pinned] true (true, "6627770ed9f8270c39fba1a344afe9ff7d2bd84fe951a5df00bd9328b24007cd") true FscriptCounts.over (fun _ h => by cases h) (by kernel_rfl) (fun _ h => by cases h) scriptCounts_row_tie rfl ⟨rfl, rfl⟩ (by kernel_rfl) rfl
    (fun f fn hf hfn => by
      obtain rfl : f = 7 := Option.some.inj ((show Tryd.prog.funcNamed "egress/egresslaw20.ScriptCounts" = some 7 by kernel_rfl).symm.trans hf) |>.symm
      obtain rfl : fn = Tryd.f7 := (Option.some.inj (Tryd.func7.symm.trans hfn)).symm
      exact ⟨by kernel_rfl, fun j t ht => by
        rw [Tryd.params7] at ht
        have hw : ∀ t ∈ ([36, 3] : List TypeId), Tryd.prog.wantsStandIn t = false := by
          intro t h
          simp only [List.mem_cons, List.not_mem_nil, or_false] at h
          rcases h with rfl | rfl <;> kernel_rfl
        exact hw t (by have := List.mem_of_getElem? (by simpa using ht : ([36, 3] : List TypeId)[j]? = some t); exact this)⟩)
    (by kernel_rfl)
#print axioms ScriptCounts_proved
end Go.Proofs.YtaggjikjohamjaaDoor
