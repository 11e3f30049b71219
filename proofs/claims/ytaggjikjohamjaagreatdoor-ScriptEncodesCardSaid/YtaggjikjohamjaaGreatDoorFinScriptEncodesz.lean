import Derived.Test.YtaggjikjohamjaaGreatDoorZse
/- The statement ScriptEncodes: the walk start_ScriptEncodes, lifted. -/
import Derived.ProofKit
import Derived.OpenShut
import Derived.ShutString
import Derived.Test.YtaggjikjohamjaaGreatDoorTie
import Derived.Test.YtaggjikjohamjaaGreatDoorCards
import Derived.LaidMore
import Derived.LaidSub
import Derived.Stop.Joined
import Derived.SevenTiedAt
namespace Go.Proofs.YtaggjikjohamjaaGreatDoor.FscriptEncodes
open Go.ChangeShapes Go.WideShapes Go.ChangeAt Go.RowKit
open Go.ChangeMaps (open_string shut_string)
set_option linter.unusedVariables false
theorem own : ownKnob Tryz.prog.godebug = none := by kernel_rfl
theorem laidOut : laidOutB Tryz.prog = true := by kernel_rfl
noncomputable def doorW (os : Os) : World := { World.doorLaid Tryz.prog 400 os with heap := (World.doorLaid Tryz.prog 400 os).heap.modify 2 fun | .cells _ t z => .cells (Go.Pinned.utf8FirstZ.map fun z : Nat => Value.int .u8 (z : Int)).toArray t z | o => o }
theorem door_met (os : Os) (args : Array Value) : laidMetH Tryz.prog Rows.scriptEncodesRow.laid ((doorW os).forCall (fun _ _ => 0) ⟨#[], args, []⟩).memory :=
  laidMetH_of_parts3 (fuel := 8) (laidMet_of_run' 8 (by kernel_rfl) (by kernel_rfl)) (by kernel_rfl) (by kernel_rfl)
theorem tens_of {W : World} (h : laidMetH Tryz.prog Rows.scriptEncodesRow.laid W) : Tens W := by
  have h := laidMetH.filter (fun x => x.1 == "internal/strconv.uint64pow10") h
  have e : (Rows.scriptEncodesRow.laid.filter fun x => x.1 == "internal/strconv.uint64pow10") = [("internal/strconv.uint64pow10", Lib.tabData .u64 Lib.pow10Tab)] := by kernel_rfl
  rw [e, MakeChecks.laidMetH_plain _ _ _ (by kernel_rfl)] at h
  exact Lib.tabIs_of_head (g := 1) (t := 125) (e := 33) (n := 20) (by kernel_rfl) (by kernel_rfl) (by kernel_rfl) (by kernel_rfl) (by kernel_rfl) (by kernel_rfl) h
theorem syn_of {W : World} (h : laidMetH Tryz.prog Rows.scriptEncodesRow.laid W) : ∃ u v, W.cell? ⟨4, 0, none⟩ = some (.iface u v) := by
  have h := laidMetH.filter (fun x => x.1 == "strconv.ErrSyntax") h
  have e : (Rows.scriptEncodesRow.laid.filter fun x => x.1 == "strconv.ErrSyntax") = [("strconv.ErrSyntax", Rows.laid_strconv_ErrSyntax)] := by kernel_rfl
  rw [e, MakeChecks.laidMetH_plain _ _ _ (by kernel_rfl)] at h
  obtain ⟨ps, ⟨g, t, cs, fuel, p, q, hg, ht, hvar, hd, _, _⟩, _⟩ := h
  obtain rfl := Option.some.inj ((show Tryz.prog.globalNamed "strconv.ErrSyntax" = some 4 by kernel_rfl).symm.trans hg)
  have hi : (match (Tryz.prog.globals[4]?).map (·.type) with | some t => (match Tryz.prog.underlying t with | some (.interface _) => true | _ => false) | none => false) = true := by kernel_rfl
  rw [ht] at hi
  split at hi
  · rename_i t1 h1
    obtain rfl := Option.some.inj h1
    split at hi
    · rename_i ms h2
      obtain ⟨_, u, v, hc, _⟩ := iface_of_trod h2 hd
      refine ⟨u, v, ?_⟩
      have := World.var?_cell (P := Tryz.prog) (show Tryz.prog.globalNamed "strconv.ErrSyntax" = some 4 by kernel_rfl) hvar 0
      have e2 : cs = #[.iface u v] := by apply Array.toList_inj.1; simpa using hc
      rw [e2] at this
      simpa using this
    · cases hi
  · cases hi
theorem ran_of {W : World} (h : laidMetH Tryz.prog Rows.scriptEncodesRow.laid W) : ∃ u v, W.cell? ⟨5, 0, none⟩ = some (.iface u v) := by
  have h := laidMetH.filter (fun x => x.1 == "strconv.ErrRange") h
  have e : (Rows.scriptEncodesRow.laid.filter fun x => x.1 == "strconv.ErrRange") = [("strconv.ErrRange", Rows.laid_strconv_ErrRange)] := by kernel_rfl
  rw [e, MakeChecks.laidMetH_plain _ _ _ (by kernel_rfl)] at h
  obtain ⟨ps, ⟨g, t, cs, fuel, p, q, hg, ht, hvar, hd, _, _⟩, _⟩ := h
  obtain rfl := Option.some.inj ((show Tryz.prog.globalNamed "strconv.ErrRange" = some 5 by kernel_rfl).symm.trans hg)
  have hi : (match (Tryz.prog.globals[5]?).map (·.type) with | some t => (match Tryz.prog.underlying t with | some (.interface _) => true | _ => false) | none => false) = true := by kernel_rfl
  rw [ht] at hi
  split at hi
  · rename_i t1 h1
    obtain rfl := Option.some.inj h1
    split at hi
    · rename_i ms h2
      obtain ⟨_, u, v, hc, _⟩ := iface_of_trod h2 hd
      refine ⟨u, v, ?_⟩
      have := World.var?_cell (P := Tryz.prog) (show Tryz.prog.globalNamed "strconv.ErrRange" = some 5 by kernel_rfl) hvar 0
      have e2 : cs = #[.iface u v] := by apply Array.toList_inj.1; simpa using hc
      rw [e2] at this
      simpa using this
    · cases hi
  · cases hi
set_option maxRecDepth 100000 in
set_option maxHeartbeats 1000000 in
theorem lifted (os : Os) (started : os.Started) (H : Type) (enc : TypeId × Value → H) :
    ReturnsInHanded {} Tryz.checked os 3 .any (fun w args => (Rows.scriptEncodesSpec.pre enc Tryz.prog Tryz.f3 [] false w args ∧ laidMetH Tryz.prog Rows.scriptEncodesRow.laid w) ∧ sizedMet enc Tryz.prog Tryz.f3 (OpenSpec.ofChange Rows.scriptEncodesSpec) false w args)
      (Rows.scriptEncodesSpec.post enc Tryz.prog Tryz.f3 false true false false) := by
  refine handed_shaped (C := Tryz.checked) (X := fun w _ => laidMetH Tryz.prog Rows.scriptEncodesRow.laid w) (fun _ _ _ hh h => h.of_heap hh) own started (by kernel_rfl) Tryz.func3
    (ChangeSpec.witness_shaped (enc := enc) (C := Tryz.checked) (os := os) (X := fun w _ => laidMetH Tryz.prog Rows.scriptEncodesRow.laid w) false (doorW os) #[.slice none 0 0] 8 rfl (World.shaped_of_RefB (by kernel_rfl) (by kernel_rfl)) (by kernel_rfl) (by kernel_rfl) (by kernel_rfl) (door_met os _)) ?_
  intro W base args ds gs before hval0 hW hSh hL
  have hval : ∀ (j : Nat) t v, Tryz.f3.params[j]? = some t → args[j]? = some v → Value.okWide Tryz.prog W .any base t v := hval0
  have hW' := hW
  obtain ⟨p, q, hA0, hV, rfl, hfz, hnd⟩ := hW
  have hA : DataW.TrodAll enc Tryz.prog W 0 (fun _ => true) true Tryz.f3.params.toList args.toList ds p := hA0
  rw [Tryz.params3] at hA hval
  obtain ⟨v0, vs0, d0, ds0, p0, q0, hargs, rfl, rfl, h0, r0⟩ := trodAll_cons hA
  obtain ⟨rfl, rfl, rfl⟩ := trodAll_nil r0
  obtain rfl : args = #[v0] := by cases args; simp_all
  obtain ⟨rfl, rfl⟩ := trodVars_none hV
  have k0 := h0
  have lt0 : ∀ x ∈ p0, x.block < W.heap.size := by obtain ⟨m, hm⟩ := k0; exact DataW.trod_lt m _ _ _ hm
  obtain ⟨x0, len0, cap0, rfl⟩ := okWide_slice Tryz.underlying22 (hval 0 22 v0 rfl rfl)
  have s0 : HasSh W (.slice 4 (.agg [.int .i64, .int .i64, .int .i64, .int .u64])) [.slice x0 len0 cap0] := by
    obtain ⟨fuel, hf⟩ := h0
    exact hasSh_of_trod 12 22 _ fuel _ _ (by kernel_rfl) hf
  clear hA0 hval0
  simp only [List.append_nil] at hW'
  refine (start_ScriptEncodes W _ s0 ⟨tens_of hL, syn_of hL, ran_of hL⟩ (mxl_of hSh)).mono fun e W' ⟨he, bel⟩ => ?_
  subst he
  exact ⟨_, rfl, _, _, _, [], _, [], hW', trodAll_mk1 (shut_bool Tryz.underlying4 _), (trodAll_cons_mk (Below.trod laidOut (by kernel_rfl) (of_decide_eq_true (by kernel_rfl)) k0 bel lt0) trodAll_mk0), rfl, bel.frame _, fun h => by cases h⟩
theorem and_t {x y : Bool} (h : x = true) (k : y = true) : (x && y) = true := by rw [h, k]; rfl
set_option maxHeartbeats 8000000 in
theorem over : Rows.scriptEncodesRow.holds Tryz.pinned (OpenSpec.ofChange Rows.scriptEncodesSpec) :=
  OpenClaim.holds_of_wide 3 Tryz.f3 rfl rfl rfl rfl rfl rfl rfl ⟨rfl, rfl, rfl, rfl, rfl⟩ rfl rfl rfl rfl rfl (by as_aux_lemma => kernel_rfl) Tryz.func3 (by unfold joinedFacts; (repeat (with_reducible apply and_t)); all_goals (as_aux_lemma => kernel_rfl))
    (of_decide_eq_true (by as_aux_lemma => kernel_rfl)) (by unfold Func.isWrapper; first | (rw [if_pos (by decide +kernel)]; kernel_rfl) | (rw [if_neg (by decide +kernel)]; exact ⟨rfl, rfl⟩))
    (fun os started H enc _ => lifted os started H enc)
end Go.Proofs.YtaggjikjohamjaaGreatDoor.FscriptEncodes
namespace Go.Proofs.YtaggjikjohamjaaGreatDoor
open Go in
set_option maxRecDepth 100000 in
theorem ScriptEncodes_proved : Rows.ScriptEncodesCardSaid :=
  Claim7.holds_tied_plain_at .later [] [.data, .data, .data, .data, .sentinel, .sentinel, .pinned] true (true, "34856b060c484aa0c82c1941c2a8d1cb9d2c6ce7efa585cf8e4dc5de4e47c547") true FscriptEncodes.over (fun _ h => by cases h) (by kernel_rfl) (fun _ h => by cases h) scriptEncodes_row_tie rfl ⟨rfl, rfl⟩ (by kernel_rfl) rfl
    (fun f fn hf hfn => by
      obtain rfl : f = 3 := Option.some.inj ((show Tryz.prog.funcNamed "egress/egresslaw20.ScriptEncodes" = some 3 by kernel_rfl).symm.trans hf) |>.symm
      obtain rfl : fn = Tryz.f3 := (Option.some.inj (Tryz.func3.symm.trans hfn)).symm
      exact ⟨by kernel_rfl, fun j t ht => by
        rw [Tryz.params3] at ht
        have hw : ∀ t ∈ ([22] : List TypeId), Tryz.prog.wantsStandIn t = false := by
          intro t h
          simp only [List.mem_cons, List.not_mem_nil, or_false] at h
          rcases h with rfl <;> kernel_rfl
        exact hw t (by have := List.mem_of_getElem? (by simpa using ht : ([22] : List TypeId)[j]? = some t); exact this)⟩)
    (by kernel_rfl)
#print axioms ScriptEncodes_proved
end Go.Proofs.YtaggjikjohamjaaGreatDoor
