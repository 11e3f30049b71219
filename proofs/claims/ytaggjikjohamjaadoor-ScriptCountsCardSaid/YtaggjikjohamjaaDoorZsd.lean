import Derived.Test.YtaggjikjohamjaaDoorZsc
set_option linter.unusedVariables false
set_option linter.unusedSimpArgs false
section
namespace Go.Proofs.YtaggjikjohamjaaDoor
open Go.RowKit
set_option linter.unusedVariables false
set_option maxRecDepth 100000
set_option linter.unusedSimpArgs false
set_option maxHeartbeats 1000000
/-- A block that holds an object. -/
def obA (b : Nat) (o : Obj) : Asn := fun s w => s = [b] ∧ w.heap[b]? = some o
section
variable {w : World} {L : List Asn}
theorem ok_ob {b : Nat} {o : Obj} (h : w.heap[b]? = some o) : Ok (obA b o) [b] w :=
  ⟨fun x hx => (show x = b by simpa using hx) ▸ (Array.getElem?_eq_some_iff.1 h).1, fun w' hw => ⟨rfl, (hw.2.2.2 b (by simp)).trans h⟩⟩
theorem Mem.ob {b : Nat} {o : Obj} (M : Mem w (obA b o :: L)) : w.heap[b]? = some o := by
  obtain ⟨s, hs, _⟩ := M.head
  exact hs.2
theorem Mem.obNew (M : Mem w L) (o : Obj) : Mem (w.alloc o) (obA w.heap.size o :: L) :=
  M.new ⟨rfl, rfl, rfl, by simp, fun k hk _ => (((Below.refl _ _).alloc (Nat.le_refl _) _).block k hk)⟩ ⟨[w.heap.size], ok_ob (World.alloc_heap_new w o), by simp⟩
theorem Mem.obSet {b : Nat} {o : Obj} (M : Mem w (obA b o :: L)) (o' : Obj) : Mem (w.putObj b o') (obA b o' :: L) := M.change fun s hs => by
  obtain ⟨rfl, h⟩ := hs.now
  exact ⟨⟨rfl, rfl, rfl, by simp, fun k hk hb => World.putObj_heap_other (by simpa using hb)⟩, [b], ok_ob (World.putObj_heap_same (Array.getElem?_eq_some_iff.1 h).1), fun x hx => .inl hx⟩
end
/-- The fence that lets all in; in a round, or not. -/
def FR (ro : Option Nat) : Fence := { Fence.wide with round := ro }
section
variable {ro : Option Nat} {ops : Array Oper} {Q : Exit → Act → World → Prop} {rest : List Oper} {o : Oper} {a : Act} {w : World} {n : Nat} {l : List (Nat × Value)} {L : List Asn} {C : Value → List Asn → Prop}
theorem li_upon {next : Act → World → Prop} {r : Result Next} {Φ : Value → World → Prop} (h : UponD Tryd.prog Φ r) (hn : ∀ v w', Φ v w' → next (a.put o.dst v) w') : o.uponIn (FR ro) 0 Tryd.prog a next Q r := by
  cases r with
  | ok x w =>
    cases x <;> simp only [UponD] at h
    case value u => exact hn _ _ h
    case skip => exact hn _ _ h
    case enter f args =>
      refine ⟨(fun h => by cases h), ?_⟩
      have hc : CallsIn Fence.wide (0 - 1) Tryd.prog f args w fun e w'' => ∃ v, e = .returned v ∧ Φ v w'' := callsIn_wide.2 h
      refine ⟨trivial, fun cs hr => ?_⟩
      obtain ⟨e, w', fr, hR, hx⟩ := hc.2 cs (room_wide _)
      obtain ⟨v, rfl, hv⟩ := hR
      exact ⟨_, w', fr, hn v w' hv, hx⟩
  | halt x w => cases h
theorem li_act (F : Fr a n l) (M : Mem w L) (hw : Wanted o ops l = some true) (hnd : ∀ c, o.op ≠ .defer c) {d : Nat} (hd : o.dst = some d) (hn : Nat.ble (d + 1) n = true)
    (h : AC o l L n (fun v L' => ∀ a' w', Fr a' n ((d, v) :: l) → Mem w' L' → wpListIn (FR ro) 0 Tryd.prog ops Q rest a' w')) : wpListIn (FR ro) 0 Tryd.prog ops Q (o :: rest) a w := by
  unfold wpListIn
  rw [if_pos (F.wanted hw)]
  refine ⟨fun _ _ => trivial, ?_⟩
  rw [Oper.semAt_eq _ _ _ hnd]
  exact li_upon (h [] a w F (by simpa using M)) fun v w' ⟨L', hC, hM⟩ => by rw [hd]; exact hC _ _ (F.put d v hn) (by simpa using hM)
theorem li_act0 (F : Fr a n l) (M : Mem w L) (hw : Wanted o ops l = some true) (hnd : ∀ c, o.op ≠ .defer c) (hd : o.dst = none)
    (h : AC o l L n (fun v L' => ∀ w', Mem w' L' → wpListIn (FR ro) 0 Tryd.prog ops Q rest a w')) : wpListIn (FR ro) 0 Tryd.prog ops Q (o :: rest) a w := by
  unfold wpListIn
  rw [if_pos (F.wanted hw)]
  refine ⟨fun _ _ => trivial, ?_⟩
  rw [Oper.semAt_eq _ _ _ hnd]
  exact li_upon (h [] a w F (by simpa using M)) fun v w' ⟨L', hC, hM⟩ => by rw [hd]; exact hC _ (by simpa using hM)
theorem li_nil (h : Q .normal a w) : wpListIn (FR ro) 0 Tryd.prog ops Q [] a w := h
theorem lv1 (F : Fr a n l) (M : Mem w L) {d : Nat} {v : Value} (h : ∀ a', Fr a' n ((d, v) :: l) → wpListIn (FR ro) 0 Tryd.prog ops Q rest a' w)
    (hw : Wanted o ops l = some true := by exact rfl) (hd : o.dst = some d := by exact rfl) (hn : Nat.ble (d + 1) n = true := by exact rfl) (hr : RT o l L n v := by exact rtA) (hnd : ∀ c, o.op ≠ .defer c := by (intro c h; cases h)) : wpListIn (FR ro) 0 Tryd.prog ops Q (o :: rest) a w := by
  unfold wpListIn
  rw [if_pos (F.wanted hw)]
  refine ⟨fun _ _ => trivial, ?_⟩
  rw [Oper.semAt_eq _ _ _ hnd, hr a w F M]
  show wpListIn (FR ro) 0 Tryd.prog ops Q rest (a.put o.dst v) w
  rw [hd]
  exact h _ (F.put d v hn)
theorem lv2 (F : Fr a n l) (M : Mem w L) {d : Nat} {fv : Nat → Value} {fL : Nat → List Asn} (h : ∀ b a' w', Fr a' n ((d, fv b) :: l) → Mem w' (fL b) → wpListIn (FR ro) 0 Tryd.prog ops Q rest a' w')
    (hw : Wanted o ops l = some true := by exact rfl) (hd : o.dst = some d := by exact rfl) (hn : Nat.ble (d + 1) n = true := by exact rfl)
    (s : ∀ C : Value → List Asn → Prop, (∀ b, C (fv b) (fL b)) → AC o l L n C := by (intro C h; exact acA h)) (hnd : ∀ c, o.op ≠ .defer c := by (intro c h; cases h)) : wpListIn (FR ro) 0 Tryd.prog ops Q (o :: rest) a w := li_act F M hw hnd hd hn (s _ h)
theorem lv3 (F : Fr a n l) (M : Mem w L) {v : Value} {L' : List Asn} (h : ∀ w', Mem w' L' → wpListIn (FR ro) 0 Tryd.prog ops Q rest a w')
    (hw : Wanted o ops l = some true := by exact rfl) (hd : o.dst = none := by exact rfl)
    (s : ∀ C : Value → List Asn → Prop, C v L' → AC o l L n C := by (intro C h; exact acB h)) (hnd : ∀ c, o.op ≠ .defer c := by (intro c h; cases h)) : wpListIn (FR ro) 0 Tryd.prog ops Q (o :: rest) a w := li_act0 F M hw hnd hd (s _ h)
theorem lvC (F : Fr a n l) (M : Mem w L) {d : Nat} (h : AC o l L n (fun v L' => ∀ a' w', Fr a' n ((d, v) :: l) → Mem w' L' → wpListIn (FR ro) 0 Tryd.prog ops Q rest a' w')) (hw : Wanted o ops l = some true := by exact rfl) (hd : o.dst = some d := by exact rfl) (hn : Nat.ble (d + 1) n = true := by exact rfl) (hnd : ∀ c, o.op ≠ .defer c := by (intro c h; cases h)) : wpListIn (FR ro) 0 Tryd.prog ops Q (o :: rest) a w := li_act F M hw hnd hd hn h
theorem lvK (F : Fr a n l) {d : Nat} (h : ∀ a', Fr a' n ((d, undef) :: l) → wpListIn (FR ro) 0 Tryd.prog ops Q rest a' w) (hw : Wanted o ops l = some false := by exact rfl) (hd : o.dst = some d := by exact rfl) (hn : Nat.ble (d + 1) n = true := by exact rfl) : wpListIn (FR ro) 0 Tryd.prog ops Q (o :: rest) a w := by
  unfold wpListIn
  rw [if_neg (by rw [F.wanted hw]; decide)]
  refine ⟨fun _ _ => trivial, ?_⟩
  rw [hd]
  exact h _ (F.put d undef hn)
theorem lvG (F : Fr a n l) {b : Bool} (hg : guardOf o ops l = some (.bool b)) (h1 : b = true → wpListIn (FR ro) 0 Tryd.prog ops Q (o :: rest) a w) (h2 : b = false → wpListIn (FR ro) 0 Tryd.prog ops Q (o :: rest) a w) : wpListIn (FR ro) 0 Tryd.prog ops Q (o :: rest) a w := by
  cases b
  · exact h2 rfl
  · exact h1 rfl
theorem isI (h : wpListIn (FR ro) 0 Tryd.prog ops Q rest a w) : wpListIn (FR ro) 0 Tryd.prog ops Q rest a w := h
theorem reg_in {id : Nat} {os : List Oper} (h : wpListIn (FR ro) 0 Tryd.prog os.toArray Q os a w) : (Code.region id os.toArray false).wpIn (FR ro) 0 Tryd.prog Q a w := wpIn_region_lit h
/-- A region, walked so that yield may be called in it. -/
theorem reg_out {id : Nat} {os : List Oper} (h : wpListIn (FR none) 0 Tryd.prog os.toArray Q os a w) : (Code.region id os.toArray false).wp Tryd.prog Q a w := (wpIn_wide (n := 0)).1 (wpIn_region_lit (F := Fence.wide) h)
/-- The record of a loop. -/
def lpR (fn : FuncId) (tmps : Array Value) (p : Nat) (asg bod : Code) (D : Nat) (st : LoopState) : Loop := { state := st, pending := none, fn, tmps, params := #[p], assign := asg, body := bod, defers := D }
/-- A round's contract: from what memory holds to what it holds, at a value. -/
def RoundC (lp : Nat) (fn : FuncId) (tmps : Array Value) (p : Nat) (asg bod : Code) (x : Value) (L L2 : List Asn) : Prop :=
  ∀ G w, Mem w (L ++ G) → RoundIn Fence.wide 0 Tryd.prog lp fn (tmps.setIfInBounds p x) asg bod w fun e w' => e = .returned (.bool true) ∧ Mem w' (L2 ++ G)
/-- A call of yield. -/
theorem lvY (F : Fr a n l) (M : Mem w L) {d : Nat} {fo : Operand} {xs : Array Operand} {ats : Array TypeId} {lp : Nat} {x : Value} {fn : FuncId} {tmps : Array Value} {p : Nat} {asg bod : Code} {D : Nat} {L1 L2 R : List Asn}
    (hR : RoundC lp fn tmps p asg bod x (obA lp (.loop (lpR fn tmps p asg bod D .ready)) :: L1) L2) (hp : Perms L ((obA lp (.loop (lpR fn tmps p asg bod D .ready)) :: L1) ++ R))
    (h : ∀ a' w', Fr a' n ((d, .bool true) :: l) → Mem w' (L2 ++ R) → wpListIn (FR none) 0 Tryd.prog ops Q rest a' w')
    (ho : o.op = .call { callee := .value fo, args := xs, argTypes := ats } := by exact rfl) (hf : evl l fo = some (.func (.yield lp) #[] #[]) := by exact rfl) (hx : evls l xs.toList = some [x] := by exact rfl)
    (hw : Wanted o ops l = some true := by exact rfl) (hd : o.dst = some d := by exact rfl) (hn : Nat.ble (d + 1) n = true := by exact rfl) : wpListIn (FR none) 0 Tryd.prog ops Q (o :: rest) a w := by
  unfold wpListIn
  rw [if_pos (F.wanted hw)]
  refine ⟨fun _ _ => trivial, ?_⟩
  rw [Oper.semAt_eq _ _ _ (by rw [ho]; intro c h; cases h)]
  have M2 := M.perms hp
  have hl := Mem.ob (show Mem w (obA lp (.loop (lpR fn tmps p asg bod D .ready)) :: (L1 ++ R)) from M2)
  have e1 : xs.map a.eval = [x].toArray := by have := F.evals hx; apply Array.toList_inj.1; simpa using this
  have hy := run_yield (P := Tryd.prog) (args := #[x]) hl rfl
  have hrun : (execOp a.eval o).run Tryd.prog w = .ok (.round lp fn (tmps.setIfInBounds p x) asg bod) w := by
    unfold execOp
    rw [ho]
    rw [Sem.run_bind]
    simp only [resolve, F.eval hf, Deferred.ofValue, Sem.run_pure, Result.andThen_ok, invoke, e1]
    simpa [lpR] using hy
  rw [hrun, Oper.uponIn_round]
  refine ⟨(fun h => by cases h), ?_⟩
  refine RoundIn.mono (hR R w M2) ?_
  rintro e w' ⟨rfl, M3⟩
  rw [hd]
  exact h _ _ (F.put d _ hn) M3
theorem round_mk {lp : Nat} {fn : FuncId} {a0 : Act} {p D : Nat} {asg bod : Code} {x : Value} {L1 L2 : List Asn} (F0 : Fr a0 n l) (hp : Nat.ble (p + 1) n = true)
    (h : ∀ G a w, Fr a n ((p, x) :: l) → Mem w (obA lp (.loop (lpR fn a0.tmps p asg bod D .ready)) :: (L1 ++ G)) → asg.wpIn (FR (some lp)) 0 Tryd.prog (Exit.then (fun a1 w1 => ∃ G1, Mem w1 (obA lp (.loop (lpR fn a0.tmps p asg bod D .ready)) :: G1) ∧ ∀ w2, Mem w2 (obA lp (.loop (lpR fn a0.tmps p asg bod D .busy)) :: G1) →
      bod.wpIn (FR (some lp)) 0 Tryd.prog (fun e a w => e = .normal ∧ Mem w (obA lp (.loop (lpR fn a0.tmps p asg bod D .busy)) :: (L2 ++ G))) a1 w2) (fun _ _ _ => False)) a w) :
    RoundC lp fn a0.tmps p asg bod x (obA lp (.loop (lpR fn a0.tmps p asg bod D .ready)) :: L1) (obA lp (.loop (lpR fn a0.tmps p asg bod D .ready)) :: L2) := fun G w M => by
  refine roundIn_of_wpIn trivial ?_
  have hF := F0.put p x hp
  have e : (a0.put (some p) x) = { tmps := a0.tmps.setIfInBounds p x, defers := [] } := by
    have := F0.ds
    obtain ⟨t, ds⟩ := a0
    simp only at this
    subst this; rfl
  rw [e] at hF
  refine wpIn_mono (h G _ w hF M) ?_
  intro e a1 w1 hq
  cases e with
  | normal =>
    obtain ⟨G1, M1, hb⟩ := hq
    refine ⟨_, run_beginRound (Mem.ob M1) rfl, ?_⟩
    refine wpIn_mono (hb _ (M1.obSet _)) ?_
    rintro e a2 w2 ⟨rfl, M2⟩
    exact ⟨_, _, run_endRound none (Mem.ob M2), rfl, M2.obSet _⟩
  | _ => exact hq.elim
/-- A range over a function. -/
theorem rf_range {g : Operand} {p : Nat} {asg bod : Code} {k : FuncId} {caps : Array Value} (F : Fr a n l) (M : Mem w L) (hg : evl l g = some (.func (.func k) #[] caps)) (hfk : FK k) {C : List Asn → Prop}
    (hit : ∀ (fn : FuncId) lp D, Spec k (.func (.yield lp) #[] #[] :: caps.toList) (obA lp (.loop (lpR fn a.tmps p asg bod D .ready)) :: L) fun _ L' => ∃ L2, C L2 ∧ L' = obA lp (.loop (lpR fn a.tmps p asg bod D .ready)) :: L2)
    (h : ∀ D w' L2, C L2 → Mem w' (obA D (.deferred (some [])) :: L2) → Q .normal (sh [{ target := .collected D, args := #[] }] a) w') : (Code.rangeFunc g #[p] asg bod).wp Tryd.prog Q a w := by
  refine (wpIn_wide (n := 0)).1 (wpIn_rangeFunc (F := Fence.wide) ?_)
  intro fn _
  have M1 := Mem.back (R := []) (show Mem _ (obA w.heap.size (.deferred (some [])) :: (L ++ [])) by rw [List.append_nil]; exact M.obNew (.deferred (some [])))
  have M2 := M1.obNew (.loop (lpR fn a.tmps p asg bod w.heap.size .ready))
  have hsz : (w.alloc (.deferred (some []))).heap.size = w.heap.size + 1 := by simp
  rw [hsz] at M2
  obtain ⟨W1, hW1⟩ : ∃ W1, (w.alloc (.deferred (some []))).alloc (.loop (lpR fn a.tmps p asg bod w.heap.size .ready)) = W1 := ⟨_, rfl⟩
  have hent : (Instr.enterLoop fn a.tmps #[p] asg bod Fence.wide.round).run Tryd.prog w = .ok (w.heap.size + 1, [{ target := .collected w.heap.size, args := #[] }]) W1 := by rw [← hW1]; exact run_enterLoop_outer _ _ _ _ _
  rw [hW1] at M2
  refine ⟨w.heap.size + 1, [{ target := .collected w.heap.size, args := #[] }], W1, { target := .fn (.func k) caps, args := #[.func (.yield (w.heap.size + 1)) #[] #[]] }, W1, k, #[.func (.yield (w.heap.size + 1)) #[] #[]] ++ caps, W1, hent, ?_, fun _ _ => trivial, ?_, (fun h => by cases h), ?_⟩
  · simp only [rangeCall, resolve, F.eval hg, Deferred.ofValue]
    simp [Act.eval]
  · have := @run_callFunc k hfk (#[.func (.yield (w.heap.size + 1)) #[] #[]] ++ caps) W1
    simpa [invoke] using this
  · refine callsIn_wide.2 ?_
    have e : (#[.func (.yield (w.heap.size + 1)) #[] #[]] ++ caps : Array Value) = (Value.func (.yield (w.heap.size + 1)) #[] #[] :: caps.toList).toArray := by
      apply Array.toList_inj.1; simp
    rw [e]
    refine (hit fn (w.heap.size + 1) w.heap.size [obA w.heap.size (.deferred (some []))] W1 M2).mono ?_
    rintro e w3 ⟨v, L', rfl, ⟨L2, hC, rfl⟩, M4⟩
    have M4' : Mem w3 (obA (w.heap.size + 1) (.loop (lpR fn a.tmps p asg bod w.heap.size .ready)) :: (L2 ++ [obA w.heap.size (.deferred (some []))])) := M4
    refine ⟨none, _, run_endLoop (Mem.ob M4') (by simp [lpR]), ?_⟩
    have M5 := Mem.front (R := []) (M4'.obSet (.loop { lpR fn a.tmps p asg bod w.heap.size .ready with state := .exhausted })).drop
    rw [List.append_nil] at M5
    have e2 : ({ a with defers := [{ target := .collected w.heap.size, args := #[] }] ++ a.defers } : Act) = sh [{ target := .collected w.heap.size, args := #[] }] a := by
      have := F.ds
      obtain ⟨t, ds⟩ := a
      simp only at this
      subst this; rfl
    show Q .normal { a with defers := [{ target := .collected w.heap.size, args := #[] }] ++ a.defers } _
    rw [e2]
    exact h _ _ L2 hC M5
end
section
variable {ops : Array Oper} {Q : Exit → Act → World → Prop} {D : List Deferred} {a : Act} {w : World} {n : Nat} {l : List (Nat × Value)} {L : List Asn}
/-- What a function is entered with, where it ranges over a function. -/
theorem sx_enterM {f : FuncId} {fn : Func} {c : Code} {vs : List Value} {w : World} {R : Ending → World → Prop} (hf : Tryd.prog.funcs[f]? = some fn) (hb : fn.body = some c) {n k : Nat} (hn : fn.ntmps = n) (hle : Nat.ble vs.length n = true) (hk0 : n - vs.length = k)
    (h : ∀ a, Fr a n (initL 0 vs) → c.wp Tryd.prog (bodyPostM Fence.wide 0 Tryd.prog fn R) a w) : Calls Tryd.prog f vs.toArray w R := by
  have hk : vs.length + k = n := by have := Nat.le_of_ble_eq_true hle; omega
  subst hn
  refine callsIn_wide.1 (callsIn_of_wp_marks (n := 0) hf hb trivial ((wpIn_wide (n := 0)).2 (h _ ?_)))
  have := Fr.init vs k
  rw [hk] at this
  rw [show fn.ntmps - vs.toArray.size = k by simp; omega]
  exact this
/-- The end of a function behind a range over a function: nothing was deferred in its rounds. -/
theorem end_col {fn : Func} {R : Ending → World → Prop} {b : Nat} {rs : List ResultVar} {vs : List Value} (F : Fr a n l) (M : Mem w (obA b (.deferred (some [])) :: L)) (hR : ∀ w', Mem w' L → R (.returned (tupOf vs)) w') (hf : fn.results = rs.toArray := by exact rfl) (hr : Ress (obA b (.deferred none) :: L) l rs vs := by (focus ((repeat (first | exact Ress.nil | (apply Ress.cons) | (apply Res.tmp; exact rfl) | (apply Res.agg; (exact rfl); (exact inferInstance); (exact pullA); (exact rfl)) | (apply Res.one; (exact rfl); (exact inferInstance); (exact pullA); (exact rfl)))); done))) : bodyPostM Fence.wide 0 Tryd.prog fn R .ret (sh [{ target := .collected b, args := #[] }] a) w := by
  have e : (sh [({ target := .collected b, args := #[] } : Deferred)] a).defers = [{ target := .collected b, args := #[] }] := by simp [sh, F.ds]
  show LeavesInM _ _ _ _ _ _ _ _ _
  rw [e]
  have M2 := M.obSet (.deferred none)
  exact ⟨by simp, .inl ⟨b, _, rfl, run_takeDeferred (Mem.ob M), ⟨_, (show (results fn a.tmps).run Tryd.prog _ = _ from hr.run F M2 hf), hR _ M2.drop⟩⟩⟩
end
end Go.Proofs.YtaggjikjohamjaaDoor
end
section
namespace Go.Proofs.YtaggjikjohamjaaDoor
open Go.RowKit Go.Maps
set_option linter.unusedVariables false
set_option maxRecDepth 100000
set_option linter.unusedSimpArgs false
set_option maxHeartbeats 8000000
theorem rdecall_spec (h : SlH) (bs : List UInt8) (hlen : bs.length ≤ 100000) (R : List Asn) (hg : BG R h bs) : Spec 19 [sl h] R fun u L' => ∃ h', u = sl h' ∧ L' = ownT 24 opL 4 (sl h') (decAll bs 0) :: R := by
  generalize hX : decAll bs 0 = X
  (intro G w M; refine sx_enter (vs := ([sl h] : List Value)) Tryd.func19 (n := 25) rfl rfl rfl rfl ?_; intro a F; (try simp only [List.cons_append, List.nil_append] at M))
  have gb := hg.app G
  have gg := gb.g
  have M := M.own_nil 24 4
  (repeat' (first | (refine sx_nil ?_; (try (replace F := F.filt [0, 2, 3, 4, 5, 6, 11] rfl))) | (refine sv1 F M (h := ?_); clear F a; intro a F) | refine pv1 (h := ?_) | (refine sv3 F M (h := ?_); clear M; intro w M) | (refine sv2 F M (h := ?_); clear F M a; intro nb a w F M) | refine pv3 (h := ?_) | (refine pv2 (h := ?_); intro nb) | ((first | refine svC F M (h := ?_) | refine svC0 F M (h := ?_) | refine pvC (h := ?_) | refine pvC0 (h := ?_)); (fail); (first | refine ⟨rvsA, ?_⟩ | (clear F M a; intro a w F M) | (clear M; intro w M))) | (refine svK F (h := ?_); clear F a; intro a F) | refine svK0 F (h := ?_) | ((refine sx_guardb F rfl (fun hg => ?_) (fun hg => ?_)) <;> (rw [hg] at F; (try (exact no hg)))) | (refine pvF (h := ?_); intro nb) | refine pvK (h := ?_) | refine pvK0 (h := ?_) | (refine pv_nil ?_; intro a w F M; (try (replace F := F.filt [0, 2, 3, 4, 5, 6, 11] rfl))) | ((fail_if_success (with_reducible first | refine isW ?_ | refine isP ?_ | refine isL ?_)); (first | with_reducible refine sx_region ?_ | ((with_reducible refine isK ?_); (first | refine svT F (h := ?_) | refine svF F (h := ?_) | ((refine svB F (fun hc => ?_) (fun hc => ?_)) <;> (try (exact no hc))))) | ((with_reducible refine isD ?_); fail) | with_reducible refine wp_scope_straight ?_ | with_reducible refine wp_label ?_ | go_step))))
  refine svLoop F M ((0, nilH, []) : Nat × SlH × List Opn) (fun z => [(4, .int .i64 z.1), (3, sl z.2.1)]) (fun z => [ownT 24 opL 4 (sl z.2.1) z.2.2]) (fun z => z.1 ≤ bs.length ∧ z.2.2 ++ decAll bs z.1 = X ∧ z.2.2.length ≤ z.1) (fun z => bs.length - z.1) [5, 6, 7] ⟨Nat.zero_le _, hX, Nat.zero_le _⟩ ?_ (hR := by (repeat (first | exact Pulls.nil | (apply Pulls.cons; (focus ((repeat (first | exact Pull.here | apply Pull.there)); done))))))
  (rintro ⟨j, hh, out⟩ ⟨q1, q2, q3⟩ a w F M; (try simp only [List.cons_append, List.nil_append] at F M q1 q2 q3 ⊢))
  by_cases hj : j < bs.length
  · have hd := fun R hg => rdec_spec h bs j hj (by omega) R hg
    have hlt := decM_lt hj
    rw [decAll_step hj] at q2
    generalize decM bs j = D at *
    obtain ⟨p, nx⟩ := D
    simp only at hd hlt q2
    have hp : opV p = opV p := rfl
    (repeat' (first | (refine sx_nil ?_; (try (replace F := F.filt [0, 2, 3, 4, 5, 6, 11] rfl))) | (refine sv1 F M (h := ?_); clear F a; intro a F) | refine pv1 (h := ?_) | (refine sv3 F M (h := ?_); clear M; intro w M) | (refine sv2 F M (h := ?_); clear F M a; intro nb a w F M) | refine pv3 (h := ?_) | (refine pv2 (h := ?_); intro nb) | ((first | refine svC F M (h := ?_) | refine svC0 F M (h := ?_) | refine pvC (h := ?_) | refine pvC0 (h := ?_)); ((first | ((refine acW (k := 41) (hd _ ?_) ?_); (focus ((repeat (first | assumption | apply BG.tail)); done)); rintro u L' ⟨rfl, rfl⟩) | (refine ac_appendH (f := opL) (xs := out) (ys := [p]) rfl rfl inferInstance rfl rfl pullA inferInstance gsA rfl rfl (by simp; omega) ?_; intro nv))); (first | refine ⟨rvsA, ?_⟩ | (clear F M a; intro a w F M) | (clear M; intro w M))) | (refine svK F (h := ?_); clear F a; intro a F) | refine svK0 F (h := ?_) | ((refine sx_guardb F rfl (fun hg => ?_) (fun hg => ?_)) <;> (rw [hg] at F; (try (exact no hg)))) | (refine pvF (h := ?_); intro nb) | refine pvK (h := ?_) | refine pvK0 (h := ?_) | (refine pv_nil ?_; intro a w F M; (try (replace F := F.filt [0, 2, 3, 4, 5, 6, 11] rfl))) | ((fail_if_success (with_reducible first | refine isW ?_ | refine isP ?_ | refine isL ?_)); (first | with_reducible refine sx_region ?_ | ((with_reducible refine isK ?_); (first | refine svT F (h := ?_) | refine svF F (h := ?_) | ((refine svB F (fun hc => ?_) (fun hc => ?_)) <;> (try (exact no hc))))) | ((with_reducible refine isD ?_); fail) | with_reducible refine wp_scope_straight ?_ | with_reducible refine wp_label ?_ | go_step))))
    exact sv_again F M ((nx, nv, out ++ [p]) : Nat × SlH × List Opn) kpA permsA ⟨by simp only; omega, by simpa using q2, by simp; omega⟩ (by simp only; omega)
  · obtain rfl : j = bs.length := by omega
    rw [decAll_end (Nat.le_refl _), List.append_nil] at q2
    subst q2
    (repeat' (first | (refine sx_nil ?_; (try (replace F := F.filt [0, 2, 3, 4, 5, 6, 11] rfl))) | (refine sv1 F M (h := ?_); clear F a; intro a F) | refine pv1 (h := ?_) | (refine sv3 F M (h := ?_); clear M; intro w M) | (refine sv2 F M (h := ?_); clear F M a; intro nb a w F M) | refine pv3 (h := ?_) | (refine pv2 (h := ?_); intro nb) | ((first | refine svC F M (h := ?_) | refine svC0 F M (h := ?_) | refine pvC (h := ?_) | refine pvC0 (h := ?_)); (fail); (first | refine ⟨rvsA, ?_⟩ | (clear F M a; intro a w F M) | (clear M; intro w M))) | (refine svK F (h := ?_); clear F a; intro a F) | refine svK0 F (h := ?_) | ((refine sx_guardb F rfl (fun hg => ?_) (fun hg => ?_)) <;> (rw [hg] at F; (try (exact no hg)))) | (refine pvF (h := ?_); intro nb) | refine pvK (h := ?_) | refine pvK0 (h := ?_) | (refine pv_nil ?_; intro a w F M; (try (replace F := F.filt [0, 2, 3, 4, 5, 6, 11] rfl))) | ((fail_if_success (with_reducible first | refine isW ?_ | refine isP ?_ | refine isL ?_)); (first | with_reducible refine sx_region ?_ | ((with_reducible refine isK ?_); (first | refine svT F (h := ?_) | refine svF F (h := ?_) | ((refine svB F (fun hc => ?_) (fun hc => ?_)) <;> (try (exact no hc))))) | ((with_reducible refine isD ?_); fail) | with_reducible refine wp_scope_straight ?_ | with_reducible refine wp_label ?_ | go_step))))
    all_goals (first | refine svEnd F M ?_ | refine svRet F M ?_)
    all_goals exact ⟨_, _, rfl, ⟨hh, rfl, rfl⟩, M.perms permsA⟩
theorem operations_spec (h : SlH) (L : List Asn) : Spec 40 [sl h] L fun u L' => ∃ b, u = .func (.func 55) #[] #[ptr b] ∧ L' = pt b [sl h] 36 :: L := by
  (intro G w M; refine sx_enter (vs := ([sl h] : List Value)) Tryd.func40 (n := 4) rfl rfl rfl rfl ?_; intro a F; (try simp only [List.cons_append, List.nil_append] at M))
  (repeat' (first | (refine sx_nil ?_; (try (replace F := F.filt [0, 1, 2] rfl))) | (refine sv1 F M (h := ?_); clear F a; intro a F) | refine pv1 (h := ?_) | (refine sv3 F M (h := ?_); clear M; intro w M) | (refine sv2 F M (h := ?_); clear F M a; intro nb a w F M) | refine pv3 (h := ?_) | (refine pv2 (h := ?_); intro nb) | ((first | refine svC F M (h := ?_) | refine svC0 F M (h := ?_) | refine pvC (h := ?_) | refine pvC0 (h := ?_)); (fail); (first | refine ⟨rvsA, ?_⟩ | (clear F M a; intro a w F M) | (clear M; intro w M))) | (refine svK F (h := ?_); clear F a; intro a F) | refine svK0 F (h := ?_) | ((refine sx_guardb F rfl (fun hg => ?_) (fun hg => ?_)) <;> (rw [hg] at F; (try (exact no hg)))) | (refine pvF (h := ?_); intro nb) | refine pvK (h := ?_) | refine pvK0 (h := ?_) | (refine pv_nil ?_; intro a w F M; (try (replace F := F.filt [0, 1, 2] rfl))) | ((fail_if_success (with_reducible first | refine isW ?_ | refine isP ?_ | refine isL ?_)); (first | with_reducible refine sx_region ?_ | ((with_reducible refine isK ?_); (first | refine svT F (h := ?_) | refine svF F (h := ?_) | ((refine svB F (fun hc => ?_) (fun hc => ?_)) <;> (try (exact no hc))))) | ((with_reducible refine isD ?_); fail) | with_reducible refine wp_scope_straight ?_ | with_reducible refine wp_label ?_ | go_step))))
  all_goals (first | refine svEnd F M ?_ | refine svRet F M ?_)
  all_goals exact ⟨_, _, rfl, ⟨_, rfl, rfl⟩, M.perms permsA⟩
/-- The operations that a loop's rounds gather. -/
def outS (b : Nat) (l : List Opn) : Asn := exA fun h : SlH => [pt b [sl h] 31, ownT 24 opL 4 (sl h) l]
theorem outS_open {w : World} {L : List Asn} {b : Nat} {l : List Opn} (M : Mem w (outS b l :: L)) : ∃ h, Mem w (pt b [sl h] 31 :: ownT 24 opL 4 (sl h) l :: L) := by
  obtain ⟨h, M⟩ := M.exo
  exact ⟨h, M⟩
theorem outS_close {w : World} {L : List Asn} {b : Nat} {l : List Opn} {h : SlH} (M : Mem w (pt b [sl h] 31 :: ownT 24 opL 4 (sl h) l :: L)) : Mem w (outS b l :: L) := Mem.exc (f := fun h : SlH => [pt b [sl h] 31, ownT 24 opL 4 (sl h) l]) h M
section
variable {ops : Array Oper} {Q : Exit → Act → World → Prop} {rest : List Oper} {o : Oper} {a : Act} {w : World} {n : Nat} {l : List (Nat × Value)} {L : List Asn}
theorem lvYs (F : Fr a n l) (M : Mem w L) {d : Nat} {fo : Operand} {xs : Array Operand} {ats : Array TypeId} {lp : Nat} {x : Value} {fn : FuncId} {tmps : Array Value} {p : Nat} {asg bod : Code} {D : Nat} {A B : Asn} {R : List Asn}
    (hR : RoundC lp fn tmps p asg bod x (obA lp (.loop (lpR fn tmps p asg bod D .ready)) :: [A]) (obA lp (.loop (lpR fn tmps p asg bod D .ready)) :: [B]))
    (h : ∀ a' w', Fr a' n ((d, .bool true) :: l) → Mem w' (obA lp (.loop (lpR fn tmps p asg bod D .ready)) :: B :: R) → wpListIn (FR none) 0 Tryd.prog ops Q rest a' w')
    (hp : Perms L (obA lp (.loop (lpR fn tmps p asg bod D .ready)) :: A :: R) := by exact permsA)
    (ho : o.op = .call { callee := .value fo, args := xs, argTypes := ats } := by exact rfl) (hf : evl l fo = some (.func (.yield lp) #[] #[]) := by exact rfl) (hx : evls l xs.toList = some [x] := by exact rfl)
    (hw : Wanted o ops l = some true := by exact rfl) (hd : o.dst = some d := by exact rfl) (hn : Nat.ble (d + 1) n = true := by exact rfl) : wpListIn (FR none) 0 Tryd.prog ops Q (o :: rest) a w :=
  lvY (R := R) F M hR hp h ho hf hx hw hd hn
end
section
variable (bb b7 : Nat) (h : SlH) (bs : List UInt8) (hlen : bs.length ≤ 100000) (R : List Asn) (hg : BG R h bs) (lp : Nat) (fn : FuncId) (tmps : Array Value) (p D : Nat) (asg bod : Code)
include hlen hg in
theorem ops1_spec (hrd : ∀ (out : List Opn) (o : Opn), out.length ≤ 100000 → RoundC lp fn tmps p asg bod (opV o) (obA lp (.loop (lpR fn tmps p asg bod D .ready)) :: [outS b7 out]) (obA lp (.loop (lpR fn tmps p asg bod D .ready)) :: [outS b7 (out ++ [o])])) :
    Spec 55 [.func (.yield lp) #[] #[], ptr bb] (obA lp (.loop (lpR fn tmps p asg bod D .ready)) :: outS b7 [] :: pt bb [sl h] 36 :: R) fun u L' => L' = obA lp (.loop (lpR fn tmps p asg bod D .ready)) :: outS b7 (decAll bs 0) :: R := by
  generalize hX : decAll bs 0 = X
  (intro G w M; refine sx_enter (vs := ([.func (.yield lp) #[] #[], ptr bb] : List Value)) Tryd.func55 (n := 27) rfl rfl rfl rfl ?_; intro a F; (try simp only [List.cons_append, List.nil_append] at M))
  have gb := hg.app G
  have gg := gb.g
  (repeat' (first | (refine sx_nil ?_; (try (replace F := F.filt [0, 1, 3, 4, 5, 6, 10, 25] rfl))) | (refine sv1 F M (h := ?_); clear F a; intro a F) | refine pv1 (h := ?_) | (refine sv3 F M (h := ?_); clear M; intro w M) | (refine sv2 F M (h := ?_); clear F M a; intro nb a w F M) | refine pv3 (h := ?_) | (refine pv2 (h := ?_); intro nb) | ((first | refine svC F M (h := ?_) | refine svC0 F M (h := ?_) | refine pvC (h := ?_) | refine pvC0 (h := ?_)); (fail); (first | refine ⟨rvsA, ?_⟩ | (clear F M a; intro a w F M) | (clear M; intro w M))) | (refine svK F (h := ?_); clear F a; intro a F) | refine svK0 F (h := ?_) | ((refine sx_guardb F rfl (fun hg => ?_) (fun hg => ?_)) <;> (rw [hg] at F; (try (exact no hg)))) | (refine pvF (h := ?_); intro nb) | refine pvK (h := ?_) | refine pvK0 (h := ?_) | (refine pv_nil ?_; intro a w F M; (try (replace F := F.filt [0, 1, 3, 4, 5, 6, 10, 25] rfl))) | ((fail_if_success (with_reducible first | refine isW ?_ | refine isP ?_ | refine isL ?_)); (first | with_reducible refine sx_region ?_ | ((with_reducible refine isK ?_); (first | refine svT F (h := ?_) | refine svF F (h := ?_) | ((refine svB F (fun hc => ?_) (fun hc => ?_)) <;> (try (exact no hc))))) | ((with_reducible refine isD ?_); fail) | with_reducible refine wp_scope_straight ?_ | with_reducible refine wp_label ?_ | go_step))))
  refine svLoop F M ((0, []) : Nat × List Opn) (fun s => [(3, .int .i64 s.1)]) (fun s => [outS b7 s.2]) (fun s => s.1 ≤ bs.length ∧ s.2 ++ decAll bs s.1 = X ∧ s.2.length ≤ s.1) (fun s => bs.length - s.1) [4, 5, 6] ⟨Nat.zero_le _, hX, Nat.zero_le _⟩ ?_ (hR := by (repeat (first | exact Pulls.nil | (apply Pulls.cons; (focus ((repeat (first | exact Pull.here | apply Pull.there)); done))))))
  (rintro ⟨j, out⟩ ⟨q1, q2, q3⟩ a w F M; (try simp only [List.cons_append, List.nil_append] at F M q1 q2 q3 ⊢))
  by_cases hj : j < bs.length
  · have hd := fun R hg => dec_spec h bs j hj (by omega) R hg
    have hlt := decM_lt hj
    rw [decAll_step hj] at q2
    generalize decM bs j = DD at *
    obtain ⟨o, nx⟩ := DD
    simp only at hd hlt q2
    have hrd2 := hrd out o (by omega)
    (repeat' (first | (refine li_nil ?_; (try (replace F := F.filt [0, 1, 3, 4, 5, 6, 10, 25] rfl))) | (((refine lvYs F M hrd2 ?_); clear F M a; intro a w F M)) | (refine lv1 F M (h := ?_); clear F a; intro a F) | (refine lv3 F M (h := ?_); clear M; intro w M) | (refine lv2 F M (h := ?_); clear F M a; intro nb a w F M) | (refine lvC F M (h := ?_); (((refine acW (k := 44) (hd _ ?_) ?_); (focus ((repeat (first | assumption | apply BG.tail)); done)); rintro u L' ⟨rfl, rfl⟩)); (clear F M a; intro a w F M)) | (refine lvK F (h := ?_); clear F a; intro a F) | ((refine lvG F rfl (fun hg => ?_) (fun hg => ?_)) <;> (rw [hg] at F; (try (exact no hg)))) | ((fail_if_success (with_reducible first | refine isI ?_ | refine isL ?_)); (first | with_reducible refine reg_out ?_ | ((with_reducible refine isK ?_); (first | refine svT F (h := ?_) | refine svF F (h := ?_) | ((refine svB F (fun hc => ?_) (fun hc => ?_)) <;> (try (exact no hc))))) | go_step))))
    exact sv_again F M ((nx, out ++ [o]) : Nat × List Opn) kpA permsA ⟨by simp only; omega, by simpa using q2, by simp; omega⟩ (by simp only; omega)
  · obtain rfl : j = bs.length := by omega
    rw [decAll_end (Nat.le_refl _), List.append_nil] at q2
    subst q2
    (repeat' (first | (refine li_nil ?_; (try (replace F := F.filt [0, 1, 3, 4, 5, 6, 10, 25] rfl))) | (fail) | (refine lv1 F M (h := ?_); clear F a; intro a F) | (refine lv3 F M (h := ?_); clear M; intro w M) | (refine lv2 F M (h := ?_); clear F M a; intro nb a w F M) | (refine lvC F M (h := ?_); (fail); (clear F M a; intro a w F M)) | (refine lvK F (h := ?_); clear F a; intro a F) | ((refine lvG F rfl (fun hg => ?_) (fun hg => ?_)) <;> (rw [hg] at F; (try (exact no hg)))) | ((fail_if_success (with_reducible first | refine isI ?_ | refine isL ?_)); (first | with_reducible refine reg_out ?_ | ((with_reducible refine isK ?_); (first | refine svT F (h := ?_) | refine svF F (h := ?_) | ((refine svB F (fun hc => ?_) (fun hc => ?_)) <;> (try (exact no hc))))) | go_step))))
    all_goals (first | refine svEnd F M ?_ | refine svRet F M ?_)
    all_goals exact ⟨_, _, rfl, rfl, M.perms permsA⟩
end
theorem sdec_spec (h : SlH) (bs : List UInt8) (hlen : bs.length ≤ 100000) (R : List Asn) (hg : BG R h bs) : Spec 18 [sl h] R fun u L' => ∃ h', u = sl h' ∧ L' = ownT 24 opL 4 (sl h') (decAll bs 0) :: R := by
  intro G w M
  refine sx_enterM (vs := ([sl h] : List Value)) Tryd.func18 (n := 13) rfl rfl rfl rfl ?_
  intro a F
  have gb := hg.app G
  (repeat' (first | (refine sx_nil ?_; (try (replace F := F.filt [0, 2, 3, 4, 6] rfl))) | (refine sv1 F M (h := ?_); clear F a; intro a F) | refine pv1 (h := ?_) | (refine sv3 F M (h := ?_); clear M; intro w M) | (refine sv2 F M (h := ?_); clear F M a; intro nb a w F M) | refine pv3 (h := ?_) | (refine pv2 (h := ?_); intro nb) | ((first | refine svC F M (h := ?_) | refine svC0 F M (h := ?_) | refine pvC (h := ?_) | refine pvC0 (h := ?_)); (((refine acW (k := 40) (operations_spec h _) ?_); rintro u L' ⟨bb, rfl, rfl⟩)); (first | refine ⟨rvsA, ?_⟩ | (clear F M a; intro a w F M) | (clear M; intro w M))) | (refine svK F (h := ?_); clear F a; intro a F) | refine svK0 F (h := ?_) | ((refine sx_guardb F rfl (fun hg => ?_) (fun hg => ?_)) <;> (rw [hg] at F; (try (exact no hg)))) | (refine pvF (h := ?_); intro nb) | refine pvK (h := ?_) | refine pvK0 (h := ?_) | (refine pv_nil ?_; intro a w F M; (try (replace F := F.filt [0, 2, 3, 4, 6] rfl))) | ((fail_if_success (with_reducible first | refine isW ?_ | refine isP ?_ | refine isL ?_)); (first | with_reducible refine sx_region ?_ | ((with_reducible refine isK ?_); (first | refine svT F (h := ?_) | refine svF F (h := ?_) | ((refine svB F (fun hc => ?_) (fun hc => ?_)) <;> (try (exact no hc))))) | ((with_reducible refine isD ?_); fail) | with_reducible refine wp_scope_straight ?_ | with_reducible refine wp_label ?_ | go_step))))
  obtain ⟨b7, hb7⟩ : ∃ b7, b7 = nb := ⟨_, rfl⟩
  rw [← hb7] at F M
  have M0 := M.own_nil 24 4
  have M1 : Mem w (outS b7 [] :: pt bb [sl h] 36 :: (R ++ G)) := outS_close (h := nilH) (M0.perms permsA)
  clear M M0
  refine rf_range F M1 (g := .tmp 6) rfl inferInstance (C := fun L2 => L2 = outS b7 (decAll bs 0) :: (R ++ G)) (fun fn lp D => ?_) (fun D w' L2 hC M2 => ?_)
  · refine Spec.mono (ops1_spec bb b7 h bs hlen (R ++ G) gb lp fn a.tmps 7 D _ _ (fun out o ho => ?_)) ?_
    · refine round_mk F rfl fun G2 a w F M => ?_
      obtain ⟨ok, oi, ot, oa⟩ := o
      refine reg_in ?_
      (repeat' (first | (refine li_nil ?_; (try (replace F := F.filt [0, 2, 3, 4, 6] rfl))) | (refine lv1 F M (h := ?_); clear F a; intro a F) | (refine lv3 F M (h := ?_); clear M; intro w M) | (refine lv2 F M (h := ?_); clear F M a; intro nb a w F M) | (refine lvC F M (h := ?_); (fail); (clear F M a; intro a w F M)) | (refine lvK F (h := ?_); clear F a; intro a F) | ((refine lvG F rfl (fun hg => ?_) (fun hg => ?_)) <;> (rw [hg] at F; (try (exact no hg))))))
      refine ⟨pt nb (opL ⟨ok, oi, ot, oa⟩) 24 :: outS b7 out :: G2, (M.perms permsA : Mem _ _), fun w M => ?_⟩
      refine wpIn_block (reg_in ?_)
      obtain ⟨h9, M2⟩ := outS_open (M.pull (.there (.there .here)))
      clear M; have M := M2; clear M2
      (repeat' (first | (refine li_nil ?_; (try (replace F := F.filt [0, 2, 3, 4, 6] rfl))) | (refine lv1 F M (h := ?_); clear F a; intro a F) | (refine lv3 F M (h := ?_); clear M; intro w M) | (refine lv2 F M (h := ?_); clear F M a; intro nb a w F M) | (refine lvC F M (h := ?_); ((refine ac_appendH (f := opL) (xs := out) (ys := [⟨ok, oi, ot, oa⟩]) rfl rfl inferInstance rfl rfl pullA inferInstance gsA rfl rfl (by simp; omega) ?_; intro nv)); (clear F M a; intro a w F M)) | (refine lvK F (h := ?_); clear F a; intro a F) | ((refine lvG F rfl (fun hg => ?_) (fun hg => ?_)) <;> (rw [hg] at F; (try (exact no hg))))))
      exact ⟨rfl, (outS_close (h := nv) (M.perms permsA)).perms permsA⟩
    · rintro u L' rfl
      exact ⟨_, rfl, rfl⟩
  · subst hC
    clear M1
    obtain ⟨h2, M3⟩ := outS_open (M2.perms (permsA : Perms _ (outS b7 (decAll bs 0) :: obA D (.deferred (some [])) :: (R ++ G))))
    clear M2; have M := M3; clear M3
    (repeat' (first | (refine sx_nil ?_; (try (replace F := F.filt [0, 2, 3, 4, 6] rfl))) | (refine sv1 F M (h := ?_); clear F a; intro a F) | refine pv1 (h := ?_) | (refine sv3 F M (h := ?_); clear M; intro w M) | (refine sv2 F M (h := ?_); clear F M a; intro nb a w F M) | refine pv3 (h := ?_) | (refine pv2 (h := ?_); intro nb) | ((first | refine svC F M (h := ?_) | refine svC0 F M (h := ?_) | refine pvC (h := ?_) | refine pvC0 (h := ?_)); (fail); (first | refine ⟨rvsA, ?_⟩ | (clear F M a; intro a w F M) | (clear M; intro w M))) | (refine pv_nil ?_; intro a w F M; (try (replace F := F.filt [0, 2, 3, 4, 6] rfl))) | ((fail_if_success (with_reducible first | refine isW ?_ | refine isP ?_ | refine isL ?_)); (first | with_reducible refine regL_sh ?_ | ((with_reducible refine isD ?_); fail) | go_step))))
    refine end_col F (M.perms (permsA : Perms _ (obA D (.deferred (some [])) :: ownT 24 opL 4 (sl h2) (decAll bs 0) :: (R ++ G)))) ?_
    intro w' M2
    exact ⟨_, _, rfl, ⟨h2, rfl, rfl⟩, M2⟩
end Go.Proofs.YtaggjikjohamjaaDoor
end
section
namespace Go.Proofs
open Go.Shelf
def Tryd.lays156_ren : Go.Shelf.Ren := ⟨fun | 156 => 26 | 165 => 47 | 166 => 48 | 169 => 49 | 240 => 63 | 241 => 64 | 276 => 82 | 277 => 83 | n => n, fun | 31 => 43 | 9 => 9 | 3 => 3 | 4 => 4 | 0 => 0 | 20 => 20 | 72 => 73 | 76 => 77 | 70 => 71 | 37 => 36 | 75 => 76 | 127 => 99 | 164 => 114 | 5 => 5 | 80 => 79 | n => n, fun | n => n⟩
theorem Tryd.lays156 : Go.Proofs.Lays.n156 Tryd.prog Tryd.lays156_ren := {
  mixed := by kernel_rfl
  f156 := Tryd.func26.trans (congrArg some (by kernel_rfl))
  f165 := Tryd.func47.trans (congrArg some (by kernel_rfl))
  f166 := Tryd.func48.trans (congrArg some (by kernel_rfl))
  f169 := Tryd.func49.trans (congrArg some (by kernel_rfl))
  f240 := Tryd.func63.trans (congrArg some (by kernel_rfl))
  f241 := Tryd.func64.trans (congrArg some (by kernel_rfl))
  f276 := Tryd.func82.trans (congrArg some (by kernel_rfl))
  f277 := Tryd.func83.trans (congrArg some (by kernel_rfl))
  t0 := Tryd.underlying0
  a0 := Tryd.isAgg0
  z0 := Tryd.sizeOf0
  v0 := Tryd.zeroValue0
  t3 := Tryd.underlying3
  a3 := Tryd.isAgg3
  z3 := Tryd.sizeOf3
  v3 := Tryd.zeroValue3
  t4 := Tryd.underlying4
  a4 := Tryd.isAgg4
  z4 := Tryd.sizeOf4
  v4 := Tryd.zeroValue4
  t9 := Tryd.underlying9
  a9 := Tryd.isAgg9
  z9 := Tryd.sizeOf9
  v9 := Tryd.zeroValue9
  t20 := Tryd.underlying20
  a20 := Tryd.isAgg20
  z20 := Tryd.sizeOf20
  v20 := Tryd.zeroValue20
  t31 := Tryd.underlying43
  a31 := Tryd.isAgg43
  z31 := Tryd.sizeOf43
  v31 := Tryd.zeroValue43
  t37 := Tryd.underlying36
  a37 := Tryd.isAgg36
  z37 := Tryd.sizeOf36
  v37 := Tryd.zeroValue36
  t70 := Tryd.underlying71
  a70 := Tryd.isAgg71
  z70 := Tryd.sizeOf71
  v70 := Tryd.zeroValue71
  t72 := Tryd.underlying73
  a72 := Tryd.isAgg73
  z72 := Tryd.sizeOf73
  v72 := Tryd.zeroValue73
  t75 := Tryd.underlying76
  a75 := Tryd.isAgg76
  z75 := Tryd.sizeOf76
  v75 := Tryd.zeroValue76
  t76 := Tryd.underlying77
  a76 := Tryd.isAgg77
  z76 := Tryd.sizeOf77
  v76 := Tryd.zeroValue77
  t127 := Tryd.underlying99
  a127 := Tryd.isAgg99
  z127 := Tryd.sizeOf99
  v127 := Tryd.zeroValue99
  t164 := Tryd.underlying114
  a164 := Tryd.isAgg114
  z164 := Tryd.sizeOf114
  v164 := Tryd.zeroValue114 }
theorem Tryd.Builder_Extra_156 : Builder.Extra Tryd.prog Tryd.lays156_ren := {
  sizeBuilder := by kernel_rfl
  liesBuilder := by kernel_rfl
  t5 := Tryd.underlying5
  a5 := Tryd.isAgg5
  z5 := Tryd.sizeOf5
  v5 := Tryd.zeroValue5
  infoByte := by kernel_rfl
  cellsByte := by kernel_rfl
  sizeByte := by kernel_rfl
  neB5 := by decide }
open Go.RowKit in
/-- strings.Join: "Join concatenates the elements of its first argument to create a single string. The separator string sep is placed between elements in the resulting string.": HOWEVER MANY ELEMENTS. Below the heap's end the world is as it was. (LAID: no walk: one application.) -/
theorem Tryd.strings_Join (bk o c : Nat) (xs : List ByteArray) (sep : ByteArray) (w : World) (hcells : ∀ (j : Nat) x, xs[j]? = some x → w.cell? ⟨bk, o + j, none⟩ = some (.string x)) (hbk : bk < w.heap.size) (hN : xs.length ≤ 140737488355328) (hcap : xs.length ≤ c) (hlen : (Lib.join (xs.map (·.data.toList)) sep.data.toList).length ≤ 140737488355328) :
    Calls Tryd.prog 26 #[.slice (some ⟨bk, o, none⟩) xs.length c, .string sep] w fun e w' => e = .returned (.string ⟨(Lib.join (xs.map (·.data.toList)) sep.data.toList).toArray⟩) ∧ Below w.heap.size w w' := Any.strings_Join Tryd.lays156 Tryd.Builder_Extra_156 bk o c xs sep w hcells hbk hN hcap hlen
def Tryd.lays283_ren : Go.Shelf.Ren := ⟨fun | 283 => 78 | n => n, fun | 3 => 3 | 9 => 9 | 4 => 4 | n => n, fun | n => n⟩
theorem Tryd.lays283 : Go.Proofs.Lays.n283 Tryd.prog Tryd.lays283_ren := {
  mixed := by kernel_rfl
  f283 := Tryd.func78.trans (congrArg some (by kernel_rfl))
  t3 := Tryd.underlying3
  a3 := Tryd.isAgg3
  z3 := Tryd.sizeOf3
  v3 := Tryd.zeroValue3
  t4 := Tryd.underlying4
  a4 := Tryd.isAgg4
  z4 := Tryd.sizeOf4
  v4 := Tryd.zeroValue4
  t9 := Tryd.underlying9
  a9 := Tryd.isAgg9
  z9 := Tryd.sizeOf9
  v9 := Tryd.zeroValue9 }
open Go.Lib in
/-- internal/strconv.small: "small returns the string for an i with 0 <= i < nSmalls.": i's decimal numeral. The world is as it was. (LAID: no walk: one application.) -/
theorem Tryd.internal_strconv_small (i : Nat) (h : i < 100) (w : World) :
    Calls Tryd.prog 78 #[.int .i64 i] w fun e w' => e = .returned (.string ⟨(Lib.decDigits i).toArray⟩) ∧ w' = w := Any.internal_strconv_small Tryd.lays283 i h w
def Tryd.laysM284_ren : Go.Shelf.Ren := ⟨fun | 284 => 79 | 129 => 100 | 317 => 99 | 318 => 101 | n => n, fun | 53 => 22 | 3 => 3 | 212 => 126 | 0 => 0 | 4 => 4 | 46 => 87 | 5 => 5 | 9 => 9 | n => n, fun | 17 => 1 | n => n⟩
theorem Tryd.laysM284 : Go.Proofs.LaysM.n284 Tryd.prog Tryd.laysM284_ren := {
  mixed := by kernel_rfl
  f129 := Tryd.func100.trans (congrArg some (by kernel_rfl))
  f284 := Tryd.func79.trans (congrArg some (by kernel_rfl))
  f317 := Tryd.func99.trans (congrArg some (by kernel_rfl))
  f318 := Tryd.func101.trans (congrArg some (by kernel_rfl))
  t0 := Tryd.underlying0
  a0 := Tryd.isAgg0
  z0 := Tryd.sizeOf0
  v0 := Tryd.zeroValue0
  t3 := Tryd.underlying3
  a3 := Tryd.isAgg3
  z3 := Tryd.sizeOf3
  v3 := Tryd.zeroValue3
  t4 := Tryd.underlying4
  a4 := Tryd.isAgg4
  z4 := Tryd.sizeOf4
  v4 := Tryd.zeroValue4
  t5 := Tryd.underlying5
  a5 := Tryd.isAgg5
  z5 := Tryd.sizeOf5
  v5 := Tryd.zeroValue5
  t9 := Tryd.underlying9
  a9 := Tryd.isAgg9
  z9 := Tryd.sizeOf9
  v9 := Tryd.zeroValue9
  t46 := Tryd.underlying87
  a46 := Tryd.isAgg87
  z46 := Tryd.sizeOf87
  v46 := Tryd.zeroValue87
  t53 := Tryd.underlying22
  a53 := Tryd.isAgg22
  z53 := Tryd.sizeOf22
  v53 := Tryd.zeroValue22
  t212 := Tryd.underlying126
  a212 := Tryd.isAgg126
  z212 := Tryd.sizeOf126
  v212 := Tryd.zeroValue126
  g17 := by kernel_rfl
  i0 := by kernel_rfl
  i3 := by kernel_rfl
  i4 := by kernel_rfl
  i5 := by kernel_rfl
  i9 := by kernel_rfl
  i46 := by kernel_rfl
  i53 := by kernel_rfl
  i212 := by kernel_rfl
  m17 := by kernel_rfl }
open Go.Lib in
/-- internal/strconv.numDigits, at a d that is not 0: THE NUMBER OF d's DECIMAL DIGITS. The world is as it was. (LAID: no walk: one application.) -/
theorem Tryd.internal_strconv_numDigits (u : Nat) (h1 : 1 ≤ u) (h2 : u < 18446744073709551616) (w : World) (htab : Lib.TabIs Tryd.prog w "internal/strconv.uint64pow10" .u64 Lib.pow10Tab) :
    Calls Tryd.prog 79 #[.int .u64 u] w fun e w' => e = .returned (.int .i64 (Lib.nDigits u)) ∧ w' = w := Any.internal_strconv_numDigits Tryd.laysM284 u h1 h2 w htab
def Tryd.lays285_ren : Go.Shelf.Ren := ⟨fun | 285 => 80 | n => n, fun | 37 => 36 | 53 => 22 | 3 => 3 | 4 => 4 | 51 => 102 | 9 => 9 | 5 => 5 | 0 => 0 | n => n, fun | n => n⟩
theorem Tryd.lays285 : Go.Proofs.Lays.n285 Tryd.prog Tryd.lays285_ren := {
  mixed := by kernel_rfl
  f285 := Tryd.func80.trans (congrArg some (by kernel_rfl))
  t0 := Tryd.underlying0
  a0 := Tryd.isAgg0
  z0 := Tryd.sizeOf0
  v0 := Tryd.zeroValue0
  t3 := Tryd.underlying3
  a3 := Tryd.isAgg3
  z3 := Tryd.sizeOf3
  v3 := Tryd.zeroValue3
  t4 := Tryd.underlying4
  a4 := Tryd.isAgg4
  z4 := Tryd.sizeOf4
  v4 := Tryd.zeroValue4
  t5 := Tryd.underlying5
  a5 := Tryd.isAgg5
  z5 := Tryd.sizeOf5
  v5 := Tryd.zeroValue5
  t9 := Tryd.underlying9
  a9 := Tryd.isAgg9
  z9 := Tryd.sizeOf9
  v9 := Tryd.zeroValue9
  t37 := Tryd.underlying36
  a37 := Tryd.isAgg36
  z37 := Tryd.sizeOf36
  v37 := Tryd.zeroValue36
  t51 := Tryd.underlying102
  a51 := Tryd.isAgg102
  z51 := Tryd.sizeOf102
  v51 := Tryd.zeroValue102
  t53 := Tryd.underlying22
  a53 := Tryd.isAgg22
  z53 := Tryd.sizeOf22
  v53 := Tryd.zeroValue22 }
open Go.RowKit Go.Sort Go.Lib in
/-- internal/strconv.formatBase10: "formatBase10 formats the decimal representation of u into a. The caller is responsible for ensuring that a is big enough to hold u. If a is too big, leading zeros will be filled in as needed.": THE ROW HOLDS u's DIGITS ('FmtInv .. 0 ..': every place t holds 'dg u (len - 1 - t)'); all else is as it was but for the count of draws. (LAID: no walk: one application.) -/
theorem Tryd.internal_strconv_formatBase10 (blk off cap : Nat) (u : Nat) (d : Array UInt8) (w : World) (hH : Holds (fun (b : UInt8) => Value.int .u8 (b.toNat : Int)) w blk off d) (hu : u < 10 ^ d.size) (hu64 : u < 18446744073709551616) (hsz : d.size < 4611686018427387904) :
    Calls Tryd.prog 80 #[.slice (some ⟨blk, off, none⟩) d.size cap, .int .u64 u] w fun e w' =>
      e = .returned (.tuple #[]) ∧ ∃ (n v' : Nat) (dk : Array UInt8), w' = (putRow (fun (b : UInt8) => Value.int .u8 (b.toNat : Int)) w blk off dk).drewN n ∧ FmtInv d.size u 0 v' dk := Any.internal_strconv_formatBase10 Tryd.lays285 blk off cap u d w hH hu hu64 hsz
def Tryd.laysPu14_ren : Go.Shelf.Ren := ⟨fun | 14 => 52 | 16 => 66 | 17 => 67 | 19 => 85 | 20 => 86 | 21 => 87 | 22 => 88 | 23 => 89 | 24 => 90 | 25 => 105 | 27 => 107 | 26 => 106 | 28 => 110 | 29 => 111 | 30 => 78 | 31 => 79 | 32 => 80 | 33 => 81 | 35 => 100 | 34 => 99 | 36 => 101 | 37 => 102 | 38 => 103 | 39 => 108 | 40 => 109 | n => n, fun | 9 => 9 | 3 => 3 | 22 => 22 | 24 => 76 | 25 => 82 | 4 => 4 | 34 => 119 | 5 => 5 | 36 => 87 | 37 => 36 | 0 => 0 | 39 => 121 | 21 => 21 | 44 => 132 | 47 => 99 | 50 => 141 | 48 => 139 | 2 => 2 | 52 => 109 | 55 => 112 | 59 => 126 | 60 => 102 | 20 => 20 | 61 => 127 | 65 => 142 | 66 => 143 | 67 => 79 | n => n, fun | 0 => 2 | 1 => 3 | 2 => 1 | 3 => 6 | 4 => 7 | n => n⟩
theorem Tryd.laysPu14 : Go.Proofs.LaysPu.n14 Tryd.prog Tryd.laysPu14_ren := {
  mixed := by kernel_rfl
  f14 := Tryd.func52.trans (congrArg some (by kernel_rfl))
  f16 := Tryd.func66.trans (congrArg some (by kernel_rfl))
  f17 := Tryd.func67.trans (congrArg some (by kernel_rfl))
  f19 := Tryd.func85.trans (congrArg some (by kernel_rfl))
  f20 := Tryd.func86.trans (congrArg some (by kernel_rfl))
  f21 := Tryd.func87.trans (congrArg some (by kernel_rfl))
  f22 := Tryd.func88.trans (congrArg some (by kernel_rfl))
  f23 := Tryd.func89.trans (congrArg some (by kernel_rfl))
  f24 := Tryd.func90.trans (congrArg some (by kernel_rfl))
  f25 := Tryd.func105.trans (congrArg some (by kernel_rfl))
  f26 := Tryd.func106.trans (congrArg some (by kernel_rfl))
  f27 := Tryd.func107.trans (congrArg some (by kernel_rfl))
  f28 := Tryd.func110.trans (congrArg some (by kernel_rfl))
  f29 := Tryd.func111.trans (congrArg some (by kernel_rfl))
  f30 := Tryd.func78.trans (congrArg some (by kernel_rfl))
  f31 := Tryd.func79.trans (congrArg some (by kernel_rfl))
  f32 := Tryd.func80.trans (congrArg some (by kernel_rfl))
  f33 := Tryd.func81.trans (congrArg some (by kernel_rfl))
  f34 := Tryd.func99.trans (congrArg some (by kernel_rfl))
  f35 := Tryd.func100.trans (congrArg some (by kernel_rfl))
  f36 := Tryd.func101.trans (congrArg some (by kernel_rfl))
  f37 := Tryd.func102.trans (congrArg some (by kernel_rfl))
  f38 := Tryd.func103.trans (congrArg some (by kernel_rfl))
  f39 := Tryd.func108.trans (congrArg some (by kernel_rfl))
  f40 := Tryd.func109.trans (congrArg some (by kernel_rfl))
  t0 := Tryd.underlying0
  a0 := Tryd.isAgg0
  z0 := Tryd.sizeOf0
  v0 := Tryd.zeroValue0
  i0 := by kernel_rfl
  t2 := Tryd.underlying2
  a2 := Tryd.isAgg2
  z2 := Tryd.sizeOf2
  v2 := Tryd.zeroValue2
  i2 := by kernel_rfl
  t3 := Tryd.underlying3
  a3 := Tryd.isAgg3
  z3 := Tryd.sizeOf3
  v3 := Tryd.zeroValue3
  i3 := by kernel_rfl
  t4 := Tryd.underlying4
  a4 := Tryd.isAgg4
  z4 := Tryd.sizeOf4
  v4 := Tryd.zeroValue4
  i4 := by kernel_rfl
  t5 := Tryd.underlying5
  a5 := Tryd.isAgg5
  z5 := Tryd.sizeOf5
  v5 := Tryd.zeroValue5
  i5 := by kernel_rfl
  t9 := Tryd.underlying9
  a9 := Tryd.isAgg9
  z9 := Tryd.sizeOf9
  v9 := Tryd.zeroValue9
  i9 := by kernel_rfl
  t20 := Tryd.underlying20
  a20 := Tryd.isAgg20
  z20 := Tryd.sizeOf20
  v20 := Tryd.zeroValue20
  i20 := by kernel_rfl
  t21 := Tryd.underlying21
  a21 := Tryd.isAgg21
  z21 := Tryd.sizeOf21
  v21 := Tryd.zeroValue21
  i21 := by kernel_rfl
  t22 := Tryd.underlying22
  a22 := Tryd.isAgg22
  z22 := Tryd.sizeOf22
  v22 := Tryd.zeroValue22
  i22 := by kernel_rfl
  t24 := Tryd.underlying76
  a24 := Tryd.isAgg76
  z24 := Tryd.sizeOf76
  v24 := Tryd.zeroValue76
  i24 := by kernel_rfl
  t25 := Tryd.underlying82
  a25 := Tryd.isAgg82
  z25 := Tryd.sizeOf82
  v25 := Tryd.zeroValue82
  i25 := by kernel_rfl
  t34 := Tryd.underlying119
  a34 := Tryd.isAgg119
  z34 := Tryd.sizeOf119
  v34 := Tryd.zeroValue119
  i34 := by kernel_rfl
  c34 := by kernel_rfl
  t36 := Tryd.underlying87
  a36 := Tryd.isAgg87
  z36 := Tryd.sizeOf87
  v36 := Tryd.zeroValue87
  i36 := by kernel_rfl
  t37 := Tryd.underlying36
  a37 := Tryd.isAgg36
  z37 := Tryd.sizeOf36
  v37 := Tryd.zeroValue36
  i37 := by kernel_rfl
  t39 := Tryd.underlying121
  a39 := Tryd.isAgg121
  z39 := Tryd.sizeOf121
  v39 := Tryd.zeroValue121
  i39 := by kernel_rfl
  t44 := Tryd.underlying132
  a44 := Tryd.isAgg132
  z44 := Tryd.sizeOf132
  v44 := Tryd.zeroValue132
  i44 := by kernel_rfl
  t47 := Tryd.underlying99
  a47 := Tryd.isAgg99
  z47 := Tryd.sizeOf99
  v47 := Tryd.zeroValue99
  i47 := by kernel_rfl
  t48 := Tryd.underlying139
  a48 := Tryd.isAgg139
  z48 := Tryd.sizeOf139
  v48 := Tryd.zeroValue139
  i48 := by kernel_rfl
  t50 := Tryd.underlying141
  a50 := Tryd.isAgg141
  z50 := Tryd.sizeOf141
  v50 := Tryd.zeroValue141
  i50 := by kernel_rfl
  t52 := Tryd.underlying109
  a52 := Tryd.isAgg109
  z52 := Tryd.sizeOf109
  v52 := Tryd.zeroValue109
  i52 := by kernel_rfl
  t55 := Tryd.underlying112
  a55 := Tryd.isAgg112
  z55 := Tryd.sizeOf112
  v55 := Tryd.zeroValue112
  i55 := by kernel_rfl
  t59 := Tryd.underlying126
  a59 := Tryd.isAgg126
  z59 := Tryd.sizeOf126
  v59 := Tryd.zeroValue126
  i59 := by kernel_rfl
  t60 := Tryd.underlying102
  a60 := Tryd.isAgg102
  z60 := Tryd.sizeOf102
  v60 := Tryd.zeroValue102
  i60 := by kernel_rfl
  t61 := Tryd.underlying127
  a61 := Tryd.isAgg127
  z61 := Tryd.sizeOf127
  t65 := Tryd.underlying142
  a65 := Tryd.isAgg142
  z65 := Tryd.sizeOf142
  v65 := Tryd.zeroValue142
  i65 := by kernel_rfl
  t66 := Tryd.underlying143
  a66 := Tryd.isAgg143
  z66 := Tryd.sizeOf143
  v66 := Tryd.zeroValue143
  i66 := by kernel_rfl
  t67 := Tryd.underlying79
  a67 := Tryd.isAgg79
  z67 := Tryd.sizeOf79
  v67 := Tryd.zeroValue79
  i67 := by kernel_rfl
  g0 := by kernel_rfl
  m0 := by kernel_rfl
  g1 := by kernel_rfl
  m1 := by kernel_rfl
  g2 := by kernel_rfl
  m2 := by kernel_rfl
  g3 := by kernel_rfl
  m3 := by kernel_rfl
  g4 := by kernel_rfl
  m4 := by kernel_rfl }
open Go.RowKit in
/-- strconv.ParseUint(s, 10, 64), AT EVERY STRING THAT SPELLS A uint64 ('Lib.parseUintB 64 s.data.toList = .ok u'): u, AND NO ERROR. (LAID: no walk: one application.) -/
theorem Tryd.strconv_ParseUint_10_at64_ok (s : ByteArray) (hmax : s.size ≤ 9223372036854775806) (u : Nat) (h : Lib.parseUintB 64 s.data.toList = .ok u) (w : World) :
    Calls Tryd.prog 52 #[.string s, .int .i64 10, .int .i64 64] w fun e w' => e = .returned (.tuple #[.int .u64 u, .nilIface]) ∧ (w' = w ∨ w' = Lib.bytesWorld w 5 s) := Any.strconv_ParseUint_10_at64_ok Tryd.laysPu14 s hmax u h w
open Go.RowKit in
/-- strconv.ParseUint(s, 10, 64), AT EVERY NUMERAL THAT NO uint64 HOLDS: THE GREATEST uint64, AND AN ERROR THAT IS NOT nil: a *NumError in a new block N: {Func: "ParseUint", Num: s's bytes, Err: what the variable ErrRange holds}. Of what was there nothing has turned. (LAID: no walk: one application.) -/
theorem Tryd.strconv_ParseUint_10_at64_range (s : ByteArray) (hlim : s.size ≤ 281474976710656) (h : Lib.parseUintB 64 s.data.toList = .range) (ev : Value) (w : World) (hv : w.cell? ⟨3, 0, none⟩ = some ev) (hev : ev = .nilIface ∨ ∃ te pe, ev = .iface te pe) :
    Calls Tryd.prog 52 #[.string s, .int .i64 10, .int .i64 64] w fun e w' => ∃ N, e = .returned (.tuple #[.int .u64 18446744073709551615, .iface 121 (.pointer (some ⟨N, 0, none⟩))]) ∧ w.heap.size ≤ N ∧ w'.heap[N]? = some (.cells #[.string ⟨#[80, 97, 114, 115, 101, 85, 105, 110, 116]⟩, .string s, ev] 132 (0, 0)) ∧ Below w.heap.size w w' := Any.strconv_ParseUint_10_at64_range Tryd.laysPu14 s hlim h ev w hv hev
def Tryd.lays138_ren : Go.Shelf.Ren := ⟨fun | 138 => 17 | 195 => 37 | 218 => 38 | 143 => 39 | 219 => 54 | 217 => 68 | 225 => 69 | 224 => 70 | 267 => 71 | 266 => 91 | 314 => 92 | n => n, fun | 9 => 9 | 3 => 3 | 4 => 4 | 5 => 5 | 0 => 0 | 46 => 87 | 146 => 103 | 51 => 102 | n => n, fun | 1 => 0 | n => n⟩
theorem Tryd.lays138 : Go.Proofs.Lays.n138 Tryd.prog Tryd.lays138_ren := {
  mixed := by kernel_rfl
  f138 := Tryd.func17.trans (congrArg some (by kernel_rfl))
  f143 := Tryd.func39.trans (congrArg some (by kernel_rfl))
  f195 := Tryd.func37.trans (congrArg some (by kernel_rfl))
  f217 := Tryd.func68.trans (congrArg some (by kernel_rfl))
  f218 := Tryd.func38.trans (congrArg some (by kernel_rfl))
  f219 := Tryd.func54.trans (congrArg some (by kernel_rfl))
  f224 := Tryd.func70.trans (congrArg some (by kernel_rfl))
  f225 := Tryd.func69.trans (congrArg some (by kernel_rfl))
  f266 := Tryd.func91.trans (congrArg some (by kernel_rfl))
  f267 := Tryd.func71.trans (congrArg some (by kernel_rfl))
  f314 := Tryd.func92.trans (congrArg some (by kernel_rfl))
  t0 := Tryd.underlying0
  a0 := Tryd.isAgg0
  z0 := Tryd.sizeOf0
  v0 := Tryd.zeroValue0
  t3 := Tryd.underlying3
  a3 := Tryd.isAgg3
  z3 := Tryd.sizeOf3
  v3 := Tryd.zeroValue3
  t4 := Tryd.underlying4
  a4 := Tryd.isAgg4
  z4 := Tryd.sizeOf4
  v4 := Tryd.zeroValue4
  t5 := Tryd.underlying5
  a5 := Tryd.isAgg5
  z5 := Tryd.sizeOf5
  v5 := Tryd.zeroValue5
  t9 := Tryd.underlying9
  a9 := Tryd.isAgg9
  z9 := Tryd.sizeOf9
  v9 := Tryd.zeroValue9
  t46 := Tryd.underlying87
  a46 := Tryd.isAgg87
  z46 := Tryd.sizeOf87
  v46 := Tryd.zeroValue87
  t51 := Tryd.underlying102
  a51 := Tryd.isAgg102
  z51 := Tryd.sizeOf102
  v51 := Tryd.zeroValue102
  t146 := Tryd.underlying103
  a146 := Tryd.isAgg103
  z146 := Tryd.sizeOf103
  v146 := Tryd.zeroValue103
  g1 := by kernel_rfl }
open Go.RowKit Go.Lib in
/-- strings.Count AT A substr OF ONE BYTE ('hp'): "Count counts the number of non-overlapping instances of substr in s.": IT RETURNS 'Lib.countByte s (that byte)'; the world is as it was. ✋ NO CONTRACT HERE YET at an empty substr (utf8.RuneCountInString) or at a longer one (a loop over strings.Index). (LAID: no walk: one application.) -/
theorem Tryd.strings_Count_one (s : ByteArray) (c : UInt8) (w : World) :
    Calls Tryd.prog 17 #[.string s, .string ⟨#[c]⟩] w fun e w' => e = .returned (.int .i64 (Lib.countByte s.data.toList c)) ∧ w' = w := Any.strings_Count_one Tryd.lays138 s c w
def Tryd.lays146_ren : Go.Shelf.Ren := ⟨fun | 146 => 27 | 221 => 50 | 268 => 65 | 138 => 17 | 143 => 39 | 195 => 37 | 197 => 84 | 218 => 38 | 219 => 54 | 260 => 104 | 217 => 68 | 225 => 69 | 224 => 70 | 267 => 71 | 266 => 91 | 314 => 92 | n => n, fun | 9 => 9 | 31 => 43 | 3 => 3 | 4 => 4 | 0 => 0 | 105 => 117 | 21 => 21 | 5 => 5 | 46 => 87 | 119 => 135 | 139 => 138 | 138 => 137 | 146 => 103 | 51 => 102 | n => n, fun | 1 => 0 | 3 => 4 | 4 => 5 | n => n⟩
theorem Tryd.lays146 : Go.Proofs.Lays.n146 Tryd.prog Tryd.lays146_ren := {
  mixed := by kernel_rfl
  f138 := Tryd.func17.trans (congrArg some (by kernel_rfl))
  f143 := Tryd.func39.trans (congrArg some (by kernel_rfl))
  f146 := Tryd.func27.trans (congrArg some (by kernel_rfl))
  f195 := Tryd.func37.trans (congrArg some (by kernel_rfl))
  f197 := Tryd.func84.trans (congrArg some (by kernel_rfl))
  f217 := Tryd.func68.trans (congrArg some (by kernel_rfl))
  f218 := Tryd.func38.trans (congrArg some (by kernel_rfl))
  f219 := Tryd.func54.trans (congrArg some (by kernel_rfl))
  f221 := Tryd.func50.trans (congrArg some (by kernel_rfl))
  f224 := Tryd.func70.trans (congrArg some (by kernel_rfl))
  f225 := Tryd.func69.trans (congrArg some (by kernel_rfl))
  f260 := Tryd.func104.trans (congrArg some (by kernel_rfl))
  f266 := Tryd.func91.trans (congrArg some (by kernel_rfl))
  f267 := Tryd.func71.trans (congrArg some (by kernel_rfl))
  f268 := Tryd.func65.trans (congrArg some (by kernel_rfl))
  f314 := Tryd.func92.trans (congrArg some (by kernel_rfl))
  t0 := Tryd.underlying0
  a0 := Tryd.isAgg0
  z0 := Tryd.sizeOf0
  v0 := Tryd.zeroValue0
  t3 := Tryd.underlying3
  a3 := Tryd.isAgg3
  z3 := Tryd.sizeOf3
  v3 := Tryd.zeroValue3
  t4 := Tryd.underlying4
  a4 := Tryd.isAgg4
  z4 := Tryd.sizeOf4
  v4 := Tryd.zeroValue4
  t5 := Tryd.underlying5
  a5 := Tryd.isAgg5
  z5 := Tryd.sizeOf5
  v5 := Tryd.zeroValue5
  t9 := Tryd.underlying9
  a9 := Tryd.isAgg9
  z9 := Tryd.sizeOf9
  v9 := Tryd.zeroValue9
  t21 := Tryd.underlying21
  a21 := Tryd.isAgg21
  z21 := Tryd.sizeOf21
  v21 := Tryd.zeroValue21
  t31 := Tryd.underlying43
  a31 := Tryd.isAgg43
  z31 := Tryd.sizeOf43
  v31 := Tryd.zeroValue43
  t46 := Tryd.underlying87
  a46 := Tryd.isAgg87
  z46 := Tryd.sizeOf87
  v46 := Tryd.zeroValue87
  t51 := Tryd.underlying102
  a51 := Tryd.isAgg102
  z51 := Tryd.sizeOf102
  v51 := Tryd.zeroValue102
  t105 := Tryd.underlying117
  a105 := Tryd.isAgg117
  z105 := Tryd.sizeOf117
  v105 := Tryd.zeroValue117
  t119 := Tryd.underlying135
  a119 := Tryd.isAgg135
  z119 := Tryd.sizeOf135
  t138 := Tryd.underlying137
  a138 := Tryd.isAgg137
  z138 := Tryd.sizeOf137
  v138 := Tryd.zeroValue137
  t139 := Tryd.underlying138
  a139 := Tryd.isAgg138
  z139 := Tryd.sizeOf138
  v139 := Tryd.zeroValue138
  t146 := Tryd.underlying103
  a146 := Tryd.isAgg103
  z146 := Tryd.sizeOf103
  v146 := Tryd.zeroValue103
  g1 := by kernel_rfl
  g3 := by kernel_rfl
  g4 := by kernel_rfl }
open Go.RowKit Go.Lib in
/-- strings.Split. (LAID: no walk: one application.) -/
theorem Tryd.strings_Split (s sep : ByteArray) (m : Int) (w : World) (hs : s.size < 4294967281) (hm : w.cell? ⟨0, 0, none⟩ = some (.int .i64 m)) (h1 : 1 ≤ sep.size) :
    Calls Tryd.prog 27 #[.string s, .string sep] w fun e w' =>
      e = .returned (.slice (some ⟨w.heap.size, 0, none⟩) (Lib.countB s sep + 1) (Lib.countB s sep + 1)) ∧ w' = w.alloc (.cells ((Lib.splitB sep 0 (Lib.countB s sep) s).map Value.string).toArray 9) := Any.strings_Split Tryd.lays146 (by kernel_rfl) s sep m w hs hm h1
def Tryd.lays212_ren : Go.Shelf.Ren := ⟨fun | 212 => 58 | 263 => 72 | 264 => 73 | n => n, fun | 46 => 87 | 51 => 102 | 146 => 103 | 53 => 22 | 148 => 105 | n => n, fun | n => n⟩
theorem Tryd.lays212 : Go.Proofs.Lays.n212 Tryd.prog Tryd.lays212_ren := {
  mixed := by kernel_rfl
  f212 := Tryd.func58.trans (congrArg some (by kernel_rfl))
  f263 := Tryd.func72.trans (congrArg some (by kernel_rfl))
  f264 := Tryd.func73.trans (congrArg some (by kernel_rfl))
  t46 := Tryd.underlying87
  a46 := Tryd.isAgg87
  z46 := Tryd.sizeOf87
  v46 := Tryd.zeroValue87
  t51 := Tryd.underlying102
  a51 := Tryd.isAgg102
  z51 := Tryd.sizeOf102
  v51 := Tryd.zeroValue102
  t53 := Tryd.underlying22
  a53 := Tryd.isAgg22
  z53 := Tryd.sizeOf22
  v53 := Tryd.zeroValue22
  t146 := Tryd.underlying103
  a146 := Tryd.isAgg103
  z146 := Tryd.sizeOf103
  v146 := Tryd.zeroValue103
  t148 := Tryd.underlying105
  a148 := Tryd.isAgg105
  z148 := Tryd.sizeOf105
  v148 := Tryd.zeroValue105 }
open Go.RowKit Go.Lib in
/-- math/bits.Mul: "Mul returns the full-width product of x and y": on a machine of 64 bits: Mul64's. (LAID: no walk: one application.) -/
theorem Tryd.bits_Mul (x y : Nat) (hx : x < 18446744073709551616) (hy : y < 18446744073709551616) (w : World) :
    Calls Tryd.prog 58 #[.int .u64 x, .int .u64 y] w fun e w' => e = .returned (.tuple #[.int .u64 ((x * y / 18446744073709551616 : Nat) : Int), .int .u64 ((x * y % 18446744073709551616 : Nat) : Int)]) ∧ w' = w := Any.bits_Mul Tryd.lays212 x y hx hy w
end Go.Proofs
end
section
namespace Go.Proofs.YtaggjikjohamjaaDoor
open Go.RowKit Go.Maps
set_option linter.unusedVariables false
set_option maxRecDepth 100000
set_option linter.unusedSimpArgs false
set_option maxHeartbeats 8000000
theorem same_spec (v1 v2 : Value) (xs ys : List Opn) (R : List Asn) (g1 : GS R 4 v1 xs.length (xs.flatMap opL)) (g2 : GS R 4 v2 ys.length (ys.flatMap opL)) : Spec 15 [v1, v2] R fun u L' => u = .bool (decide (xs = ys)) ∧ L' = R := by
  obtain ⟨X, hX⟩ : ∃ X, decide (xs = ys) = X := ⟨_, rfl⟩
  rw [hX]
  (intro G w M; refine sx_enter (vs := ([v1, v2] : List Value)) Tryd.func15 (n := 26) rfl rfl rfl rfl ?_; intro a F; (try simp only [List.cons_append, List.nil_append] at M))
  have h1 : GS (R ++ G) 4 v1 xs.length (xs.flatMap opL) := Gives.app g1
  have h2 : GS (R ++ G) 4 v2 ys.length (ys.flatMap opL) := Gives.app g2
  have hlv := h1.len_le M
  have hlv2 := h2.len_le M
  by_cases hl : xs.length = ys.length
  · (repeat' (first | (refine sx_nil ?_; (try (replace F := F.filt [0, 1, 4, 5, 10, 14, 25] rfl))) | (refine sv1 F M (h := ?_); clear F a; intro a F) | refine pv1 (h := ?_) | (refine sv3 F M (h := ?_); clear M; intro w M) | (refine sv2 F M (h := ?_); clear F M a; intro nb a w F M) | refine pv3 (h := ?_) | (refine pv2 (h := ?_); intro nb) | ((first | refine svC F M (h := ?_) | refine svC0 F M (h := ?_) | refine pvC (h := ?_) | refine pvC0 (h := ?_)); (fail); (first | refine ⟨rvsA, ?_⟩ | (clear F M a; intro a w F M) | (clear M; intro w M))) | (refine svK F (h := ?_); clear F a; intro a F) | refine svK0 F (h := ?_) | ((refine sx_guardb F rfl (fun hg => ?_) (fun hg => ?_)) <;> (rw [hg] at F; (try (exact no hg)))) | (refine pvF (h := ?_); intro nb) | refine pvK (h := ?_) | refine pvK0 (h := ?_) | (refine pv_nil ?_; intro a w F M; (try (replace F := F.filt [0, 1, 4, 5, 10, 14, 25] rfl))) | ((fail_if_success (with_reducible first | refine isW ?_ | refine isP ?_ | refine isL ?_)); (first | with_reducible refine sx_region ?_ | ((with_reducible refine isK ?_); (first | refine svT F (h := ?_) | refine svF F (h := ?_) | ((refine svB F (fun hc => ?_) (fun hc => ?_)) <;> (try (exact no hc))))) | ((with_reducible refine isD ?_); (first | (refine svDraw (id := 6) [] [] [] [0, 1, 2, 3, 4, 5, 6, 7, 8] F M (h := ?_); clear F M a w))) | with_reducible refine wp_scope_straight ?_ | with_reducible refine wp_label ?_ | go_step))))
    refine svLoop F M (0 : Nat) (fun k => [(5, .int .i64 k)]) (fun _ => []) (fun k => k ≤ xs.length ∧ decide (xs.drop k = ys.drop k) = X) (fun k => xs.length - k) [] ⟨Nat.zero_le _, by simpa using hX⟩ ?_
    (rintro k ⟨q1, q2⟩ a w F M; (try simp only [List.cons_append, List.nil_append] at F M q1 q2 ⊢))
    by_cases hlt : k < xs.length
    · obtain ⟨x, hx⟩ : ∃ x, xs[k]? = some x := ⟨xs[k], by simp [hlt]⟩
      obtain ⟨y, hy⟩ : ∃ y, ys[k]? = some y := ⟨ys[k]'(by omega), by rw [List.getElem?_eq_getElem]⟩
      rw [drop_cons hx, drop_cons hy] at q2
      by_cases hxy : x = y
      · subst hxy
        have q2 : decide (xs.drop (k + 1) = ys.drop (k + 1)) = X := by simpa using q2
        have dx : decide (x ≠ x) = false := by simp
        (repeat' (first | (refine pv1 (h := ?_) (hr := by ((refine rt_neqT (f := opL) (p := x) (q := y) rfl rfl rfl inferInstance inferInstance)))) | (refine sx_nil ?_; (try (replace F := F.filt [0, 1, 4, 5, 10, 14, 25] rfl))) | (refine sv1 F M (h := ?_); clear F a; intro a F) | refine pv1 (h := ?_) | (refine sv3 F M (h := ?_); clear M; intro w M) | (refine sv2 F M (h := ?_); clear F M a; intro nb a w F M) | refine pv3 (h := ?_) | (refine pv2 (h := ?_); intro nb) | ((first | refine svC F M (h := ?_) | refine svC0 F M (h := ?_) | refine pvC (h := ?_) | refine pvC0 (h := ?_)); (fail); (first | refine ⟨rvsA, ?_⟩ | (clear F M a; intro a w F M) | (clear M; intro w M))) | (refine svK F (h := ?_); clear F a; intro a F) | refine svK0 F (h := ?_) | ((refine sx_guardb F rfl (fun hg => ?_) (fun hg => ?_)) <;> (rw [hg] at F; (try (exact no hg)))) | (refine pvF (h := ?_); intro nb) | refine pvK (h := ?_) | refine pvK0 (h := ?_) | (refine pv_nil ?_; intro a w F M; (try (replace F := F.filt [0, 1, 4, 5, 10, 14, 25] rfl))) | ((fail_if_success (with_reducible first | refine isW ?_ | refine isP ?_ | refine isL ?_)); (first | with_reducible refine sx_region ?_ | ((with_reducible refine isK ?_); (first | refine svT F (h := ?_) | refine svF F (h := ?_) | ((refine svB F (fun hc => ?_) (fun hc => ?_)) <;> (try (exact no hc))))) | ((with_reducible refine isD ?_); (first | (refine svDraw (id := 6) [] [] [] [0, 1, 2, 3, 4, 5, 6, 7, 8] F M (h := ?_); clear F M a w))) | with_reducible refine wp_scope_straight ?_ | with_reducible refine wp_label ?_ | go_step))))
        exact sv_again F M (k + 1) kpA permsA ⟨by omega, q2⟩ (by omega)
      · have q2 : false = X := by simpa [hxy] using q2
        subst q2
        have dx : decide (x ≠ y) = true := by simpa using hxy
        (repeat' (first | (refine pv1 (h := ?_) (hr := by ((refine rt_neqT (f := opL) (p := x) (q := y) rfl rfl rfl inferInstance inferInstance)))) | (refine sx_nil ?_; (try (replace F := F.filt [0, 1, 4, 5, 10, 14, 25] rfl))) | (refine sv1 F M (h := ?_); clear F a; intro a F) | refine pv1 (h := ?_) | (refine sv3 F M (h := ?_); clear M; intro w M) | (refine sv2 F M (h := ?_); clear F M a; intro nb a w F M) | refine pv3 (h := ?_) | (refine pv2 (h := ?_); intro nb) | ((first | refine svC F M (h := ?_) | refine svC0 F M (h := ?_) | refine pvC (h := ?_) | refine pvC0 (h := ?_)); (fail); (first | refine ⟨rvsA, ?_⟩ | (clear F M a; intro a w F M) | (clear M; intro w M))) | (refine svK F (h := ?_); clear F a; intro a F) | refine svK0 F (h := ?_) | ((refine sx_guardb F rfl (fun hg => ?_) (fun hg => ?_)) <;> (rw [hg] at F; (try (exact no hg)))) | (refine pvF (h := ?_); intro nb) | refine pvK (h := ?_) | refine pvK0 (h := ?_) | (refine pv_nil ?_; intro a w F M; (try (replace F := F.filt [0, 1, 4, 5, 10, 14, 25] rfl))) | ((fail_if_success (with_reducible first | refine isW ?_ | refine isP ?_ | refine isL ?_)); (first | with_reducible refine sx_region ?_ | ((with_reducible refine isK ?_); (first | refine svT F (h := ?_) | refine svF F (h := ?_) | ((refine svB F (fun hc => ?_) (fun hc => ?_)) <;> (try (exact no hc))))) | ((with_reducible refine isD ?_); (first | (refine svDraw (id := 6) [] [] [] [0, 1, 2, 3, 4, 5, 6, 7, 8] F M (h := ?_); clear F M a w))) | with_reducible refine wp_scope_straight ?_ | with_reducible refine wp_label ?_ | go_step))))
        all_goals (first | refine svEnd F M ?_ | refine svRet F M ?_)
        all_goals exact ⟨_, _, rfl, ⟨rfl, rfl⟩, M.perms permsA⟩
    · obtain rfl : k = xs.length := by omega
      rw [List.drop_length, List.drop_of_length_le (by omega)] at q2
      have q2 : true = X := q2
      subst q2
      (repeat' (first | (refine pv1 (h := ?_) (hr := by ((refine rt_neqT (f := opL) (p := x) (q := y) rfl rfl rfl inferInstance inferInstance)))) | (refine sx_nil ?_; (try (replace F := F.filt [0, 1, 4, 5, 10, 14, 25] rfl))) | (refine sv1 F M (h := ?_); clear F a; intro a F) | refine pv1 (h := ?_) | (refine sv3 F M (h := ?_); clear M; intro w M) | (refine sv2 F M (h := ?_); clear F M a; intro nb a w F M) | refine pv3 (h := ?_) | (refine pv2 (h := ?_); intro nb) | ((first | refine svC F M (h := ?_) | refine svC0 F M (h := ?_) | refine pvC (h := ?_) | refine pvC0 (h := ?_)); (fail); (first | refine ⟨rvsA, ?_⟩ | (clear F M a; intro a w F M) | (clear M; intro w M))) | (refine svK F (h := ?_); clear F a; intro a F) | refine svK0 F (h := ?_) | ((refine sx_guardb F rfl (fun hg => ?_) (fun hg => ?_)) <;> (rw [hg] at F; (try (exact no hg)))) | (refine pvF (h := ?_); intro nb) | refine pvK (h := ?_) | refine pvK0 (h := ?_) | (refine pv_nil ?_; intro a w F M; (try (replace F := F.filt [0, 1, 4, 5, 10, 14, 25] rfl))) | ((fail_if_success (with_reducible first | refine isW ?_ | refine isP ?_ | refine isL ?_)); (first | with_reducible refine sx_region ?_ | ((with_reducible refine isK ?_); (first | refine svT F (h := ?_) | refine svF F (h := ?_) | ((refine svB F (fun hc => ?_) (fun hc => ?_)) <;> (try (exact no hc))))) | ((with_reducible refine isD ?_); (first | (refine svDraw (id := 6) [] [] [] [0, 1, 2, 3, 4, 5, 6, 7, 8] F M (h := ?_); clear F M a w))) | with_reducible refine wp_scope_straight ?_ | with_reducible refine wp_label ?_ | go_step))))
      all_goals (first | refine svEnd F M ?_ | refine svRet F M ?_)
      all_goals exact ⟨_, _, rfl, ⟨rfl, rfl⟩, M.perms permsA⟩
  · have e : X = false := by rw [← hX, decide_eq_false_iff_not]; exact fun h => hl (by rw [h])
    subst e
    (repeat' (first | (refine sx_nil ?_; (try (replace F := F.filt [0, 1, 4, 5, 10, 14, 25] rfl))) | (refine sv1 F M (h := ?_); clear F a; intro a F) | refine pv1 (h := ?_) | (refine sv3 F M (h := ?_); clear M; intro w M) | (refine sv2 F M (h := ?_); clear F M a; intro nb a w F M) | refine pv3 (h := ?_) | (refine pv2 (h := ?_); intro nb) | ((first | refine svC F M (h := ?_) | refine svC0 F M (h := ?_) | refine pvC (h := ?_) | refine pvC0 (h := ?_)); (fail); (first | refine ⟨rvsA, ?_⟩ | (clear F M a; intro a w F M) | (clear M; intro w M))) | (refine svK F (h := ?_); clear F a; intro a F) | refine svK0 F (h := ?_) | ((refine sx_guardb F rfl (fun hg => ?_) (fun hg => ?_)) <;> (rw [hg] at F; (try (exact no hg)))) | (refine pvF (h := ?_); intro nb) | refine pvK (h := ?_) | refine pvK0 (h := ?_) | (refine pv_nil ?_; intro a w F M; (try (replace F := F.filt [0, 1, 4, 5, 10, 14, 25] rfl))) | ((fail_if_success (with_reducible first | refine isW ?_ | refine isP ?_ | refine isL ?_)); (first | with_reducible refine sx_region ?_ | ((with_reducible refine isK ?_); (first | refine svT F (h := ?_) | refine svF F (h := ?_) | ((refine svB F (fun hc => ?_) (fun hc => ?_)) <;> (try (exact no hc))))) | ((with_reducible refine isD ?_); (first | (refine svDraw (id := 6) [] [] [] [0, 1, 2, 3, 4, 5, 6, 7, 8] F M (h := ?_); clear F M a w))) | with_reducible refine wp_scope_straight ?_ | with_reducible refine wp_label ?_ | go_step))))
    all_goals (first | refine svEnd F M ?_ | refine svRet F M ?_)
    all_goals exact ⟨_, _, rfl, ⟨rfl, rfl⟩, M.perms permsA⟩
theorem cntK_le (l : List Opn) (k : Int) : cntK l k ≤ l.length := List.length_filter_le _ _
theorem cntK_take {l : List Opn} {j : Nat} {o : Opn} (h : l[j]? = some o) (k : Int) : cntK (l.take (j + 1)) k = cntK (l.take j) k + (if o.k = k then 1 else 0) := by
  unfold cntK
  rw [List.take_add_one, h, List.filter_append, List.length_append]
  congr 1
  by_cases hk : o.k = k <;> simp [hk]
theorem count_spec (v : Value) (l : List Opn) (k : Int) (R : List Asn) (hg : GS R 4 v l.length (l.flatMap opL)) : Spec 20 [v, .int .i64 k] R fun u L' => u = .int .i64 (cntK l k : Nat) ∧ L' = R := by
  (intro G w M; refine sx_enter (vs := ([v, .int .i64 k] : List Value)) Tryd.func20 (n := 22) rfl rfl rfl rfl ?_; intro a F; (try simp only [List.cons_append, List.nil_append] at M))
  have gg : GS (R ++ G) 4 v l.length (l.flatMap opL) := Gives.app hg
  have hlv := gg.len_le M
  (repeat' (first | (refine sx_nil ?_; (try (replace F := F.filt [0, 1, 4, 5, 7, 8, 9, 10, 11, 17] rfl))) | (refine sv1 F M (h := ?_); clear F a; intro a F) | refine pv1 (h := ?_) | (refine sv3 F M (h := ?_); clear M; intro w M) | (refine sv2 F M (h := ?_); clear F M a; intro nb a w F M) | refine pv3 (h := ?_) | (refine pv2 (h := ?_); intro nb) | ((first | refine svC F M (h := ?_) | refine svC0 F M (h := ?_) | refine pvC (h := ?_) | refine pvC0 (h := ?_)); (fail); (first | refine ⟨rvsA, ?_⟩ | (clear F M a; intro a w F M) | (clear M; intro w M))) | (refine svK F (h := ?_); clear F a; intro a F) | refine svK0 F (h := ?_) | ((refine sx_guardb F rfl (fun hg => ?_) (fun hg => ?_)) <;> (rw [hg] at F; (try (exact no hg)))) | (refine pvF (h := ?_); intro nb) | refine pvK (h := ?_) | refine pvK0 (h := ?_) | (refine pv_nil ?_; intro a w F M; (try (replace F := F.filt [0, 1, 4, 5, 7, 8, 9, 10, 11, 17] rfl))) | ((fail_if_success (with_reducible first | refine isW ?_ | refine isP ?_ | refine isL ?_)); (first | with_reducible refine sx_region ?_ | ((with_reducible refine isK ?_); (first | refine svT F (h := ?_) | refine svF F (h := ?_) | ((refine svB F (fun hc => ?_) (fun hc => ?_)) <;> (try (exact no hc))))) | ((with_reducible refine isD ?_); fail) | with_reducible refine wp_scope_straight ?_ | with_reducible refine wp_label ?_ | go_step))))
  refine svLoop F M (0 : Nat) (fun j => [(10, .int .i64 j), (5, .int .i64 (cntK (l.take j) k : Nat))]) (fun _ => []) (fun j => j ≤ l.length) (fun j => l.length - j) [7] (Nat.zero_le _) ?_
  (rintro j q1 a w F M; (try simp only [List.cons_append, List.nil_append] at F M q1 ⊢))
  by_cases hj : j < l.length
  · obtain ⟨o, ho⟩ : ∃ o, l[j]? = some o := ⟨l[j], by simp [hj]⟩
    have e := cntK_take ho k
    have hle := cntK_le (l.take j) k
    rw [List.length_take] at hle
    generalize cntK (l.take j) k = A at *
    obtain ⟨ok, oi, ot, oa⟩ := o
    simp only at e
    by_cases hk : ok = k
    · rw [if_pos hk] at e
      have e2 : (A : Int) + 1 = (cntK (l.take (j + 1)) k : Nat) := by omega
      (repeat' (first | (refine sx_nil ?_; (try (replace F := F.filt [0, 1, 4, 5, 7, 8, 9, 10, 11, 17] rfl))) | (refine sv1 F M (h := ?_); clear F a; intro a F) | refine pv1 (h := ?_) | (refine sv3 F M (h := ?_); clear M; intro w M) | (refine sv2 F M (h := ?_); clear F M a; intro nb a w F M) | refine pv3 (h := ?_) | (refine pv2 (h := ?_); intro nb) | ((first | refine svC F M (h := ?_) | refine svC0 F M (h := ?_) | refine pvC (h := ?_) | refine pvC0 (h := ?_)); (fail); (first | refine ⟨rvsA, ?_⟩ | (clear F M a; intro a w F M) | (clear M; intro w M))) | (refine svK F (h := ?_); clear F a; intro a F) | refine svK0 F (h := ?_) | ((refine sx_guardb F rfl (fun hg => ?_) (fun hg => ?_)) <;> (rw [hg] at F; (try (exact no hg)))) | (refine pvF (h := ?_); intro nb) | refine pvK (h := ?_) | refine pvK0 (h := ?_) | (refine pv_nil ?_; intro a w F M; (try (replace F := F.filt [0, 1, 4, 5, 7, 8, 9, 10, 11, 17] rfl))) | ((fail_if_success (with_reducible first | refine isW ?_ | refine isP ?_ | refine isL ?_)); (first | with_reducible refine sx_region ?_ | ((with_reducible refine isK ?_); (first | refine svT F (h := ?_) | refine svF F (h := ?_) | ((refine svB F (fun hc => ?_) (fun hc => ?_)) <;> (try (exact no hc))))) | ((with_reducible refine isD ?_); fail) | with_reducible refine wp_scope_straight ?_ | with_reducible refine wp_label ?_ | go_step))))
      rw [e2] at F
      exact sv_again F M (j + 1) kpA permsA (by omega) (by omega)
    · rw [if_neg hk] at e
      (repeat' (first | (refine sx_nil ?_; (try (replace F := F.filt [0, 1, 4, 5, 7, 8, 9, 10, 11, 17] rfl))) | (refine sv1 F M (h := ?_); clear F a; intro a F) | refine pv1 (h := ?_) | (refine sv3 F M (h := ?_); clear M; intro w M) | (refine sv2 F M (h := ?_); clear F M a; intro nb a w F M) | refine pv3 (h := ?_) | (refine pv2 (h := ?_); intro nb) | ((first | refine svC F M (h := ?_) | refine svC0 F M (h := ?_) | refine pvC (h := ?_) | refine pvC0 (h := ?_)); (fail); (first | refine ⟨rvsA, ?_⟩ | (clear F M a; intro a w F M) | (clear M; intro w M))) | (refine svK F (h := ?_); clear F a; intro a F) | refine svK0 F (h := ?_) | ((refine sx_guardb F rfl (fun hg => ?_) (fun hg => ?_)) <;> (rw [hg] at F; (try (exact no hg)))) | (refine pvF (h := ?_); intro nb) | refine pvK (h := ?_) | refine pvK0 (h := ?_) | (refine pv_nil ?_; intro a w F M; (try (replace F := F.filt [0, 1, 4, 5, 7, 8, 9, 10, 11, 17] rfl))) | ((fail_if_success (with_reducible first | refine isW ?_ | refine isP ?_ | refine isL ?_)); (first | with_reducible refine sx_region ?_ | ((with_reducible refine isK ?_); (first | refine svT F (h := ?_) | refine svF F (h := ?_) | ((refine svB F (fun hc => ?_) (fun hc => ?_)) <;> (try (exact no hc))))) | ((with_reducible refine isD ?_); fail) | with_reducible refine wp_scope_straight ?_ | with_reducible refine wp_label ?_ | go_step))))
      rw [show A = cntK (l.take (j + 1)) k by omega] at F
      exact sv_again F M (j + 1) kpA permsA (by omega) (by omega)
  · obtain rfl : j = l.length := by omega
    rw [List.take_length] at F
    (repeat' (first | (refine sx_nil ?_; (try (replace F := F.filt [0, 1, 4, 5, 7, 8, 9, 10, 11, 17] rfl))) | (refine sv1 F M (h := ?_); clear F a; intro a F) | refine pv1 (h := ?_) | (refine sv3 F M (h := ?_); clear M; intro w M) | (refine sv2 F M (h := ?_); clear F M a; intro nb a w F M) | refine pv3 (h := ?_) | (refine pv2 (h := ?_); intro nb) | ((first | refine svC F M (h := ?_) | refine svC0 F M (h := ?_) | refine pvC (h := ?_) | refine pvC0 (h := ?_)); (fail); (first | refine ⟨rvsA, ?_⟩ | (clear F M a; intro a w F M) | (clear M; intro w M))) | (refine svK F (h := ?_); clear F a; intro a F) | refine svK0 F (h := ?_) | ((refine sx_guardb F rfl (fun hg => ?_) (fun hg => ?_)) <;> (rw [hg] at F; (try (exact no hg)))) | (refine pvF (h := ?_); intro nb) | refine pvK (h := ?_) | refine pvK0 (h := ?_) | (refine pv_nil ?_; intro a w F M; (try (replace F := F.filt [0, 1, 4, 5, 7, 8, 9, 10, 11, 17] rfl))) | ((fail_if_success (with_reducible first | refine isW ?_ | refine isP ?_ | refine isL ?_)); (first | with_reducible refine sx_region ?_ | ((with_reducible refine isK ?_); (first | refine svT F (h := ?_) | refine svF F (h := ?_) | ((refine svB F (fun hc => ?_) (fun hc => ?_)) <;> (try (exact no hc))))) | ((with_reducible refine isD ?_); fail) | with_reducible refine wp_scope_straight ?_ | with_reducible refine wp_label ?_ | go_step))))
    all_goals (first | refine svEnd F M ?_ | refine svRet F M ?_)
    all_goals exact ⟨_, _, rfl, ⟨rfl, rfl⟩, M.perms permsA⟩
section
variable {o : Oper} {n : Nat} {l : List (Nat × Value)} {L : List Asn} {C : Value → List Asn → Prop}
/-- copy into an owned slice, of as many cells as there is room for. -/
theorem ac_copyM {x y : Operand} {ats : Array TypeId} {t u : TypeId} (ho : o.op = .call { callee := .builtin .copy, args := #[x, y], argTypes := ats }) (hat : ats = #[t, u]) {e : TypeId} {z : Value} {size bytes : Nat} (ht : ST t e z size bytes) {b j dl dc : Nat} (hx : evl l x = some (.slice (some ⟨b, j * size, none⟩) dl dc))
    {v : Value} (hy : evl l y = some v) {k : Nat} {cs : List Value} (hg : GS L size v k cs) (hone : ∀ c ∈ cs, c.oneCell' = true) {k' : Nat} {cs' : List Value} (hk : Nat.min k dl = k') (hcs : cs.take (k' * size) = cs') {m cap : Nat} {xs : List Value} {L' : List Asn} (hp : Pull L (own e size (sl ⟨some ⟨b, 0, none⟩, m, cap⟩) m xs) L') (hj : j + dl ≤ m)
    (h : C (.int .i64 k') (own e size (sl ⟨some ⟨b, 0, none⟩, m, cap⟩) m (xs.take (j * size) ++ cs' ++ xs.drop (j * size + cs'.length)) :: L')) : AC o l L n C := fun G a w F M => by
  subst hat
  obtain ⟨i, hu, hi, hzi, hsz, hby, hzs, hpos⟩ := st_info ht
  have hs := hg w M.drop_app
  have M1 := M.pull (hp.app G)
  obtain ⟨s, ho1, hlt⟩ := M1.head
  obtain ⟨hlen, h8 | ⟨g, cap', cur, h8, _, h3, h4, h5, h6, h7⟩⟩ := ho1
  · simp [sl] at h8
  simp only [sl, Value.slice.injEq, Option.some.injEq, Addr.mk.injEq] at h8
  obtain ⟨⟨rfl, _⟩, _, rfl⟩ := h8
  have hk1 : k' ≤ k := by rw [← hk]; exact Nat.min_le_left _ _
  have hk2 : k' ≤ dl := by rw [← hk]; exact Nat.min_le_right _ _
  have hkk : k' * size ≤ k * size := Nat.mul_le_mul_right _ hk1
  have hcl0 : cs.length = k * size := hs.1
  have hcl : cs'.length = k' * size := by rw [← hcs, List.length_take]; omega
  have hone' : ∀ c ∈ cs', c.oneCell' = true := fun c hc => hone c (List.mem_of_mem_take (hcs ▸ hc))
  have hle : j * size + k' * size ≤ m * size := by rw [← Nat.add_mul]; exact Nat.mul_le_mul_right _ (by omega)
  have hle2 : m * size ≤ cap * size := Nat.mul_le_mul_right _ h4
  have hst := run_storeCells_at (P := Tryd.prog) b (j * size) e cs' 0 cur w h3 (by rw [hcl]; omega) hone'
  simp only [Nat.add_zero] at hst
  have hr : (Builtin.copy_ #[t, u] o.type #[.slice (some ⟨b, j * size, none⟩) dl dc, v]).run Tryd.prog w = .ok (.int .i64 k') (w.setRow b (cur.toList.take (j * size) ++ cs' ++ cur.toList.drop (j * size + cs'.length)).toArray) := by
    rcases hs.2 with ⟨⟨a0, cp, rfl⟩, rfl⟩ | ⟨b2, off, cp, rfl, _, _, hc⟩
    · have hk0 : k' = 0 := by omega
      subst hk0
      have hcs0 : cs' = [] := List.eq_nil_of_length_eq_zero (by rw [hcl]; simp)
      subst hcs0
      cases a0 with
      | none => simp [Builtin.copy_, run_underlying hu, Builtin.lenOf, Builtin.firstCells, sizeOf, typeInfo, hi, hst, goInt]
      | some a0 =>
        have hl := run_loadCells_list (P := Tryd.prog) w a0 [] (by simp)
        simp at hl
        simp [Builtin.copy_, run_underlying hu, Builtin.lenOf, Builtin.firstCells, sizeOf, typeInfo, hi, hst, goInt, hl]
    · have hl := run_loadCells_list (P := Tryd.prog) w ⟨b2, off, none⟩ cs' (fun q c hq => by
        rw [add0]
        refine hc q c ?_
        rw [← hcs, List.getElem?_take] at hq
        split at hq
        · exact hq
        · cases hq)
      rw [hcl] at hl
      simp [Builtin.copy_, run_underlying hu, Builtin.lenOf, Builtin.firstCells, sizeOf, typeInfo, hi, hsz, hk, hst, goInt, hl]
  have : (execOp a.eval o).run Tryd.prog w = .ok (.value (.int .i64 k')) (w.setRow b (cur.toList.take (j * size) ++ cs' ++ cur.toList.drop (j * size + cs'.length)).toArray) := by
    unfold execOp
    rw [ho]
    simp [resolve, invoke, builtin, F.eval hx, F.eval hy, hr]
  rw [this]
  refine ⟨_, h, M1.change fun s' hs' => ?_⟩
  obtain ⟨_, h8 | ⟨g2, cap2, cur2, h8, rfl, _⟩⟩ := hs'.now
  · simp [sl] at h8
  simp only [sl, Value.slice.injEq, Option.some.injEq, Addr.mk.injEq] at h8
  obtain ⟨⟨rfl, _⟩, _⟩ := h8
  have lc : cur.toList.length = cap * size := by rw [Array.length_toList]; exact h6
  refine ⟨chg_setRow, [b], ok_own ?_ (setRow_heap w b cur _ e _ h3) h4 h5 ?_ ?_, fun x hx => .inl hx⟩
  · simp only [List.length_append, List.length_take, List.length_drop, hcl, hlen]; omega
  · simp only [List.size_toArray, List.length_append, List.length_take, List.length_drop, hcl, lc]; omega
  · simp only [List.toList_toArray]
    generalize hA : j * size = A at *
    generalize hB : k' * size = B at *
    generalize hN : m * size = N at *
    generalize hD : cap * size = D at *
    rw [← h7, List.take_take, Nat.min_eq_left (by omega), hcl, List.drop_take, List.take_append, List.take_append]
    have l1 : (cur.toList.take A).length = A := by rw [List.length_take]; omega
    rw [List.take_of_length_le (l := cur.toList.take A) (by omega), l1, List.take_of_length_le (l := cs') (by omega), List.length_append, l1, hcl]
end
end Go.Proofs.YtaggjikjohamjaaDoor
end
section
namespace Go.Proofs.YtaggjikjohamjaaDoor
open Go.RowKit
set_option linter.unusedVariables false
set_option maxRecDepth 100000
set_option linter.unusedSimpArgs false
set_option maxHeartbeats 2000000
/-- The table of powers of ten is as the program's text lays it. -/
def Tens (w : World) : Prop := Lib.TabIs Tryd.prog w "internal/strconv.uint64pow10" .u64 Lib.pow10Tab
theorem tens_glob : ∃ g, Tryd.prog.globalNamed "internal/strconv.uint64pow10" = some g ∧ g = 1 := ⟨_, by kernel_rfl, rfl⟩
theorem Tens.below {w w' : World} (h : Tens w) (hb : Below w.heap.size w w') : Tens w' := by
  obtain ⟨g, hg, _⟩ := tens_glob
  unfold Tens Lib.TabIs World.var? at *
  rw [hg] at h ⊢
  simp only [Option.bind_some] at h ⊢
  have hlt : g < w.heap.size := by
    rcases Nat.lt_or_ge g w.heap.size with h1 | h1
    · exact h1
    · have : w.heap[g]? = none := Array.getElem?_eq_none h1
      rw [this] at h; simp at h
  rw [hb.block g hlt]; exact h
theorem Old.tens {w0 : World} (h : Tens w0) {L L' : List Asn} (hp : Pull L (Old w0) L') : Gives L Tens := fun w M => h.below (M.below hp)
theorem dec_len (u : Nat) (h : u < 18446744073709551616) : (Lib.decDigits u).length ≤ 20 := by
  rw [Lib.decDigits_length]
  rcases Nat.eq_zero_or_pos u with h0 | h0
  · subst h0; decide +kernel
  · have := Lib.numDigits_eq u h0 h; split at this <;> omega
def zs24 : List Value := [.int .u8 0, .int .u8 0, .int .u8 0, .int .u8 0, .int .u8 0, .int .u8 0, .int .u8 0, .int .u8 0, .int .u8 0, .int .u8 0, .int .u8 0, .int .u8 0, .int .u8 0, .int .u8 0, .int .u8 0, .int .u8 0, .int .u8 0, .int .u8 0, .int .u8 0, .int .u8 0, .int .u8 0, .int .u8 0, .int .u8 0, .int .u8 0]
theorem zs24_at : ∀ j, j < 24 → zs24[j]? = some (.int .u8 0) := fun j hj => by
  have e : zs24 = List.replicate 24 (.int .u8 0) := rfl
  rw [e, List.getElem?_replicate, if_pos hj]
theorem fmt10_spec (u : Nat) (hu : u < 18446744073709551616) (b : Nat) (t : TypeId) (L : List Asn) :
    Spec 80 [.slice (some ⟨b, 0, none⟩) (Lib.nDigits u) 24, .int .u64 u] (pt b zs24 t :: L)
      fun v L' => v = .tuple #[] ∧ ∃ cs, L' = pt b cs t :: L ∧ ∀ j (h : j < (Lib.decDigits u).length), cs[j]? = some (.int .u8 ((Lib.decDigits u)[j].toNat : Int)) := fun G w M => by
  have hb : w.heap[b]? = some (.cells zs24.toArray t (0, 0)) := Mem.pt M Pull.here
  have hnd : Lib.nDigits u ≤ 20 := by have := dec_len u hu; rwa [Lib.decDigits_length] at this
  have hH : Sort.Holds (fun (b : UInt8) => Value.int .u8 (b.toNat : Int)) w b 0 (Array.replicate (Lib.nDigits u) (0 : UInt8)) := fun j hj => by
    have hj' : j < Lib.nDigits u := by simpa using hj
    have hj2 : j < 24 := by omega
    refine ⟨?_, by simp [World.frozen?, hb]⟩
    rw [getElem!_pos _ j hj]
    simp [World.cell?, hb, zs24_at j hj2]
  have h := Tryd.internal_strconv_formatBase10 b 0 24 u (Array.replicate (Lib.nDigits u) (0 : UInt8)) w hH (by rw [Array.size_replicate]; exact Lib.lt_pow_nDigits u) hu (by rw [Array.size_replicate]; omega)
  rw [Array.size_replicate] at h
  refine Calls.mono h fun e w' ⟨he, k, v', dk, hw, hF⟩ => ?_
  subst hw
  refine ⟨_, _, he, ⟨rfl, ((Sort.putCells (fun (b : UInt8) => Value.int .u8 (b.toNat : Int)) 0 dk zs24.toArray).toList), rfl, fun j hj => ?_⟩, ?_⟩
  · have hj2 : j < Lib.nDigits u := by rw [Lib.decDigits_length] at hj; exact hj
    have hj3 : j < 24 := by omega
    rw [Lib.row_is_numeral hF j hj]
    have hs : dk.size = Lib.nDigits u := hF.size
    have hz' := zs24_at j hj3
    obtain ⟨hjl, hjv⟩ := List.getElem?_eq_some_iff.1 hz'
    simp [Sort.putCells, hjl, hs, hj2]
  · have M' : Mem ((Sort.putRow (fun (b : UInt8) => Value.int .u8 (b.toNat : Int)) w b 0 dk)) (pt b (Sort.putCells (fun (b : UInt8) => Value.int .u8 (b.toNat : Int)) 0 dk zs24.toArray).toList t :: (L ++ G)) := by
      refine Mem.change M fun s hs => ?_
      obtain ⟨rfl, _⟩ := hs.now
      refine ⟨⟨rfl, rfl, rfl, by simp [Sort.putRow, Sort.mapBlock], fun k _ hk => ?_⟩, [b], ok_pt ?_, fun x hx => .inl hx⟩
      · have : b ≠ k := fun e => hk (by simp [e])
        simp [Sort.putRow, Sort.mapBlock, Array.getElem?_modify, this]
      · simp [Sort.putRow, Sort.mapBlock, Array.getElem?_modify, hb, Sort.onCells]
    exact M'.same ⟨rfl, rfl, rfl, Nat.le_refl _, fun _ _ _ => rfl⟩
theorem gives_bytes {b : Nat} {cs : List Value} {t : TypeId} {L L' : List Asn} {r : List UInt8} (h : ∀ j (hj : j < r.length), cs[j]? = some (.int .u8 (r[j].toNat : Int))) (hp : Pull L (pt b cs t) L') : Gives L fun w => ∀ j (hj : j < r.length), w.cell? ⟨b, 0 + j, none⟩ = some (.int .u8 (r[j].toNat : Int)) := fun w M j hj => by
  rw [Nat.zero_add]
  have := M.pt hp
  simp [World.cell?, this, h j hj]
theorem ifmt_any (u : Nat) (hu : u < 18446744073709551616) (w0 : World) (ht : Tens w0) :
    Calls Tryd.prog 62 [.int .u64 u, .int .i64 10].toArray w0 fun e w' => e = .returned (str (Lib.decDigits u)) ∧ Below w0.heap.size w0 w' := by
  refine sx_enter Tryd.func62 (n := 32) rfl rfl rfl rfl ?_
  (intro a F; refine sv_start ?_; intro w M)
  by_cases hs : u < 100
  · have HS : ∀ w, Calls Tryd.prog 78 [.int .i64 u].toArray w fun e w' => e = .returned (str (Lib.decDigits u)) ∧ w = w' := fun w => (Tryd.internal_strconv_small u hs w).mono fun e w' ⟨h1, h2⟩ => ⟨h1, h2.symm⟩
    (repeat' (first | (first | (refine sx_nil ?_; (try (replace F := F.filt [0, 1, 4, 5, 6, 8, 10, 12] rfl))) | (refine sv1 F M (h := ?_) (hr := by fail); clear F a; intro a F) | (refine sv1 F M (h := ?_); clear F a; intro a F) | (refine sv3 F M (h := ?_); clear M; intro w M) | (refine sv2 F M (h := ?_); clear F M a; intro b a w F M) | (refine svC F M (h := ?_); ((refine acCall (k := 78) ?_); refine Spec.of_quiet HS ?_); (clear F M a; intro a w F M)) | (refine svC0 F M (h := ?_); ((refine acCall (k := 78) ?_); refine Spec.of_quiet HS ?_); (clear M; intro w M)) | (refine sv1 F M (h := ?_) (hr := by fail); clear F a; intro a F) | (refine svK F (h := ?_); clear F a; intro a F) | (refine svK0 F (h := ?_)) | ((refine sx_guardb F rfl (fun hg => ?_) (fun hg => ?_)) <;> (rw [hg] at F; (try (exact no hg))))) | (first | (refine pv1 (h := ?_) (hr := by fail)) | (refine pv1 (h := ?_)) | (refine pv3 (h := ?_)) | (refine pv2 (h := ?_); intro b) | (refine pvC (h := ?_); ((refine acCall (k := 78) ?_); refine Spec.of_quiet HS ?_); (refine ⟨?_, ?_⟩; (exact rvsA))) | (refine pvC0 (h := ?_); ((refine acCall (k := 78) ?_); refine Spec.of_quiet HS ?_); (refine ⟨?_, ?_⟩; (exact rvsA))) | (refine pv1 (h := ?_) (hr := by fail)) | (refine pvF (h := ?_); intro b) | (refine pvK (h := ?_)) | (refine pvK0 (h := ?_)) | (refine pv_nil ?_; intro a w F M; refine ql_open ?_) | (refine pv_nil ?_; intro a w F M; (try (replace F := F.filt [0, 1, 4, 5, 6, 8, 10, 12] rfl)))) | ((fail_if_success (with_reducible show wpList _ _ _ _ _ _)); (fail_if_success (with_reducible show PW _ _ _ _ _ _ _ _ _ _)); (fail_if_success (with_reducible show Code.wp _ (Code.loop _) _ _ _)); (first | ((with_reducible show Code.wp _ (Code.region _ _ false) _ _ _); (refine sx_region ?_)) | ((with_reducible show Code.wp _ (Code.cond _ _ _) _ _ _); (first | (refine svT F (h := ?_)) | (refine svF F (h := ?_)) | ((refine svB F (fun hc => ?_) (fun hc => ?_)) <;> (try (exact no hc))))) | ((with_reducible show Code.wp _ (Code.region _ _ true) _ _ _); fail) | go_step))))
    (all_goals ((first | (refine svEnd F M ?_) | (refine svRet F M ?_)); refine ⟨?_, M.below (by (focus ((repeat (first | exact Pull.here | apply Pull.there)); done)))⟩))
    all_goals rfl
  · have hnd : Lib.nDigits u ≤ 20 := by have := dec_len u hu; rwa [Lib.decDigits_length] at this
    have HN : ∀ w, Tens w → Calls Tryd.prog 79 [.int .u64 u].toArray w fun e w' => e = .returned (.int .i64 (Lib.nDigits u)) ∧ w = w' := fun w ht => (Tryd.internal_strconv_numDigits u (by omega) hu w ht).mono fun e w' ⟨h1, h2⟩ => ⟨h1, h2.symm⟩
    have hsu : ¬ ((u : Int) < 100) := by omega
    (repeat' (first | (first | (refine sx_nil ?_; (try (replace F := F.filt [0, 1, 4, 5, 6, 8, 10, 12] rfl))) | (refine sv1 F M (h := ?_) (hr := by fail); clear F a; intro a F) | (refine sv1 F M (h := ?_); clear F a; intro a F) | (refine sv3 F M (h := ?_); clear M; intro w M) | (refine sv2 F M (h := ?_); clear F M a; intro b a w F M) | (refine svC F M (h := ?_); ((first | ((refine acCall (k := 79) ?_); (refine Spec.of_quiet_g HN (Old.tens ht (by (focus ((repeat (first | exact Pull.here | apply Pull.there)); done)))) rfl ?_)) | ((refine acCall (k := 80) ?_); (refine Spec.of_eq (Spec.mono (Spec.pre (fmt10_spec u hu b _ _) permsA) ?_) rfl); (rintro v L' ⟨rfl, cs, rfl, hcs⟩)))); (clear F M a; intro a w F M)) | (refine svC0 F M (h := ?_); ((first | ((refine acCall (k := 79) ?_); (refine Spec.of_quiet_g HN (Old.tens ht (by (focus ((repeat (first | exact Pull.here | apply Pull.there)); done)))) rfl ?_)) | ((refine acCall (k := 80) ?_); (refine Spec.of_eq (Spec.mono (Spec.pre (fmt10_spec u hu b _ _) permsA) ?_) rfl); (rintro v L' ⟨rfl, cs, rfl, hcs⟩)))); (clear M; intro w M)) | (refine sv1 F M (h := ?_) (hr := by (apply rt_string; (exact rfl); (exact rfl); (exact inferInstance); (exact inferInstance); (exact inferInstance); (exact (Lib.decDigits_length u).symm); (exact gives_bytes hcs (by (focus ((repeat (first | exact Pull.here | apply Pull.there)); done)))))); clear F a; intro a F) | (refine svK F (h := ?_); clear F a; intro a F) | (refine svK0 F (h := ?_)) | ((refine sx_guardb F rfl (fun hg => ?_) (fun hg => ?_)) <;> (rw [hg] at F; (try (exact no hg))))) | (first | (refine pv1 (h := ?_) (hr := by fail)) | (refine pv1 (h := ?_)) | (refine pv3 (h := ?_)) | (refine pv2 (h := ?_); intro b) | (refine pvC (h := ?_); ((first | ((refine acCall (k := 79) ?_); (refine Spec.of_quiet_g HN (Old.tens ht (by (focus ((repeat (first | exact Pull.here | apply Pull.there)); done)))) rfl ?_)) | ((refine acCall (k := 80) ?_); (refine Spec.of_eq (Spec.mono (Spec.pre (fmt10_spec u hu b _ _) permsA) ?_) rfl); (rintro v L' ⟨rfl, cs, rfl, hcs⟩)))); (refine ⟨?_, ?_⟩; (exact rvsA))) | (refine pvC0 (h := ?_); ((first | ((refine acCall (k := 79) ?_); (refine Spec.of_quiet_g HN (Old.tens ht (by (focus ((repeat (first | exact Pull.here | apply Pull.there)); done)))) rfl ?_)) | ((refine acCall (k := 80) ?_); (refine Spec.of_eq (Spec.mono (Spec.pre (fmt10_spec u hu b _ _) permsA) ?_) rfl); (rintro v L' ⟨rfl, cs, rfl, hcs⟩)))); (refine ⟨?_, ?_⟩; (exact rvsA))) | (refine pv1 (h := ?_) (hr := by (apply rt_string; (exact rfl); (exact rfl); (exact inferInstance); (exact inferInstance); (exact inferInstance); (exact (Lib.decDigits_length u).symm); (exact gives_bytes hcs (by (focus ((repeat (first | exact Pull.here | apply Pull.there)); done))))))) | (refine pvF (h := ?_); intro b) | (refine pvK (h := ?_)) | (refine pvK0 (h := ?_)) | (refine pv_nil ?_; intro a w F M; refine ql_open ?_) | (refine pv_nil ?_; intro a w F M; (try (replace F := F.filt [0, 1, 4, 5, 6, 8, 10, 12] rfl)))) | ((fail_if_success (with_reducible show wpList _ _ _ _ _ _)); (fail_if_success (with_reducible show PW _ _ _ _ _ _ _ _ _ _)); (fail_if_success (with_reducible show Code.wp _ (Code.loop _) _ _ _)); (first | ((with_reducible show Code.wp _ (Code.region _ _ false) _ _ _); (refine sx_region ?_)) | ((with_reducible show Code.wp _ (Code.cond _ _ _) _ _ _); (first | (refine svT F (h := ?_)) | (refine svF F (h := ?_)) | ((refine svB F (fun hc => ?_) (fun hc => ?_)) <;> (try (exact no hc))))) | ((with_reducible show Code.wp _ (Code.region _ _ true) _ _ _); fail) | go_step))))
    (all_goals ((first | (refine svEnd F M ?_) | (refine svRet F M ?_)); refine ⟨?_, M.below (by (focus ((repeat (first | exact Pull.here | apply Pull.there)); done)))⟩))
    all_goals rfl
theorem fmtUint_any (u : Nat) (hu : u < 18446744073709551616) (w0 : World) (ht : Tens w0) :
    Calls Tryd.prog 46 [.int .u64 u, .int .i64 10].toArray w0 fun e w' => e = .returned (str (Lib.decDigits u)) ∧ Below w0.heap.size w0 w' := by
  refine sx_enter Tryd.func46 (n := 8) rfl rfl rfl rfl ?_
  (intro a F; refine sv_start ?_; intro w M)
  (repeat' (first | (first | (refine sx_nil ?_; (try (replace F := F.filt [0, 1, 4] rfl))) | (refine sv1 F M (h := ?_) (hr := by fail); clear F a; intro a F) | (refine sv1 F M (h := ?_); clear F a; intro a F) | (refine sv3 F M (h := ?_); clear M; intro w M) | (refine sv2 F M (h := ?_); clear F M a; intro b a w F M) | (refine svC F M (h := ?_); (((refine acCall (k := 62) ?_); (refine Spec.of_below_g (ifmt_any u hu) (Old.tens ht (by (focus ((repeat (first | exact Pull.here | apply Pull.there)); done)))) rfl ?_))); (clear F M a; intro a w F M)) | (refine svC0 F M (h := ?_); (((refine acCall (k := 62) ?_); (refine Spec.of_below_g (ifmt_any u hu) (Old.tens ht (by (focus ((repeat (first | exact Pull.here | apply Pull.there)); done)))) rfl ?_))); (clear M; intro w M)) | (refine sv1 F M (h := ?_) (hr := by fail); clear F a; intro a F) | (refine svK F (h := ?_); clear F a; intro a F) | (refine svK0 F (h := ?_)) | ((refine sx_guardb F rfl (fun hg => ?_) (fun hg => ?_)) <;> (rw [hg] at F; (try (exact no hg))))) | (first | (refine pv1 (h := ?_) (hr := by fail)) | (refine pv1 (h := ?_)) | (refine pv3 (h := ?_)) | (refine pv2 (h := ?_); intro b) | (refine pvC (h := ?_); (((refine acCall (k := 62) ?_); (refine Spec.of_below_g (ifmt_any u hu) (Old.tens ht (by (focus ((repeat (first | exact Pull.here | apply Pull.there)); done)))) rfl ?_))); (refine ⟨?_, ?_⟩; (exact rvsA))) | (refine pvC0 (h := ?_); (((refine acCall (k := 62) ?_); (refine Spec.of_below_g (ifmt_any u hu) (Old.tens ht (by (focus ((repeat (first | exact Pull.here | apply Pull.there)); done)))) rfl ?_))); (refine ⟨?_, ?_⟩; (exact rvsA))) | (refine pv1 (h := ?_) (hr := by fail)) | (refine pvF (h := ?_); intro b) | (refine pvK (h := ?_)) | (refine pvK0 (h := ?_)) | (refine pv_nil ?_; intro a w F M; refine ql_open ?_) | (refine pv_nil ?_; intro a w F M; (try (replace F := F.filt [0, 1, 4] rfl)))) | ((fail_if_success (with_reducible show wpList _ _ _ _ _ _)); (fail_if_success (with_reducible show PW _ _ _ _ _ _ _ _ _ _)); (fail_if_success (with_reducible show Code.wp _ (Code.loop _) _ _ _)); (first | ((with_reducible show Code.wp _ (Code.region _ _ false) _ _ _); (refine sx_region ?_)) | ((with_reducible show Code.wp _ (Code.cond _ _ _) _ _ _); (first | (refine svT F (h := ?_)) | (refine svF F (h := ?_)) | ((refine svB F (fun hc => ?_) (fun hc => ?_)) <;> (try (exact no hc))))) | ((with_reducible show Code.wp _ (Code.region _ _ true) _ _ _); fail) | go_step))))
  (all_goals ((first | (refine svEnd F M ?_) | (refine svRet F M ?_)); refine ⟨?_, M.below (by (focus ((repeat (first | exact Pull.here | apply Pull.there)); done)))⟩))
  all_goals rfl
theorem gfmt_any (u : Nat) (hu : u < 18446744073709551616) (w0 : World) (ht : Tens w0) :
    Calls Tryd.prog 25 [.int .u64 u].toArray w0 fun e w' => e = .returned (str (Lib.decDigits u)) ∧ Below w0.heap.size w0 w' := by
  refine sx_enter Tryd.func25 (n := 5) rfl rfl rfl rfl ?_
  (intro a F; refine sv_start ?_; intro w M)
  (repeat' (first | (first | (refine sx_nil ?_; (try (replace F := F.filt [0, 2] rfl))) | (refine sv1 F M (h := ?_) (hr := by fail); clear F a; intro a F) | (refine sv1 F M (h := ?_); clear F a; intro a F) | (refine sv3 F M (h := ?_); clear M; intro w M) | (refine sv2 F M (h := ?_); clear F M a; intro b a w F M) | (refine svC F M (h := ?_); (((refine acCall (k := 46) ?_); (refine Spec.of_below_g (fmtUint_any u hu) (Old.tens ht (by (focus ((repeat (first | exact Pull.here | apply Pull.there)); done)))) rfl ?_))); (clear F M a; intro a w F M)) | (refine svC0 F M (h := ?_); (((refine acCall (k := 46) ?_); (refine Spec.of_below_g (fmtUint_any u hu) (Old.tens ht (by (focus ((repeat (first | exact Pull.here | apply Pull.there)); done)))) rfl ?_))); (clear M; intro w M)) | (refine sv1 F M (h := ?_) (hr := by fail); clear F a; intro a F) | (refine svK F (h := ?_); clear F a; intro a F) | (refine svK0 F (h := ?_)) | ((refine sx_guardb F rfl (fun hg => ?_) (fun hg => ?_)) <;> (rw [hg] at F; (try (exact no hg))))) | (first | (refine pv1 (h := ?_) (hr := by fail)) | (refine pv1 (h := ?_)) | (refine pv3 (h := ?_)) | (refine pv2 (h := ?_); intro b) | (refine pvC (h := ?_); (((refine acCall (k := 46) ?_); (refine Spec.of_below_g (fmtUint_any u hu) (Old.tens ht (by (focus ((repeat (first | exact Pull.here | apply Pull.there)); done)))) rfl ?_))); (refine ⟨?_, ?_⟩; (exact rvsA))) | (refine pvC0 (h := ?_); (((refine acCall (k := 46) ?_); (refine Spec.of_below_g (fmtUint_any u hu) (Old.tens ht (by (focus ((repeat (first | exact Pull.here | apply Pull.there)); done)))) rfl ?_))); (refine ⟨?_, ?_⟩; (exact rvsA))) | (refine pv1 (h := ?_) (hr := by fail)) | (refine pvF (h := ?_); intro b) | (refine pvK (h := ?_)) | (refine pvK0 (h := ?_)) | (refine pv_nil ?_; intro a w F M; refine ql_open ?_) | (refine pv_nil ?_; intro a w F M; (try (replace F := F.filt [0, 2] rfl)))) | ((fail_if_success (with_reducible show wpList _ _ _ _ _ _)); (fail_if_success (with_reducible show PW _ _ _ _ _ _ _ _ _ _)); (fail_if_success (with_reducible show Code.wp _ (Code.loop _) _ _ _)); (first | ((with_reducible show Code.wp _ (Code.region _ _ false) _ _ _); (refine sx_region ?_)) | ((with_reducible show Code.wp _ (Code.cond _ _ _) _ _ _); (first | (refine svT F (h := ?_)) | (refine svF F (h := ?_)) | ((refine svB F (fun hc => ?_) (fun hc => ?_)) <;> (try (exact no hc))))) | ((with_reducible show Code.wp _ (Code.region _ _ true) _ _ _); fail) | go_step))))
  (all_goals ((first | (refine svEnd F M ?_) | (refine svRet F M ?_)); refine ⟨?_, M.below (by (focus ((repeat (first | exact Pull.here | apply Pull.there)); done)))⟩))
  all_goals rfl
end Go.Proofs.YtaggjikjohamjaaDoor
end
section
namespace Go.Proofs.YtaggjikjohamjaaDoor
open Go.RowKit
set_option linter.unusedVariables false
set_option maxRecDepth 100000
set_option linter.unusedSimpArgs false
set_option maxHeartbeats 2000000
theorem rfmt_reads : ∀ (u : Nat) (hu : u < 18446744073709551616) {L : List Asn}, Reads 32 [.int .u64 u] (str (Lib.decDigits u)) L := by
  intro u
  induction u using Nat.strongRecOn with
  | _ u ih =>
    intro hu L
    by_cases h : u < 10
    · (intro K hK w M; refine sx_enter (vs := [.int .u64 u]) Tryd.func32 (n := 16) rfl rfl rfl rfl ?_; intro a F)
      have hd : ([48, 49, 50, 51, 52, 53, 54, 55, 56, 57].drop (u : Int).toNat).take (((u : Int) + 1).toNat - (u : Int).toNat) = Lib.decDigits u := by
        have : ((u : Int) + 1).toNat - (u : Int).toNat = 1 := by omega
        rw [this, Lib.decDigits_one h]
        rcases u with _ | _ | _ | _ | _ | _ | _ | _ | _ | _ | u
        all_goals first | rfl | omega
      (repeat' (first | (first | (refine sx_nil ?_; (try (replace F := F.filt [0, 2, 4] rfl))) | (refine sv1 F M (h := ?_) (hr := by fail); clear F a; intro a F) | (refine sv1 F M (h := ?_); clear F a; intro a F) | (refine sv3 F M (h := ?_); clear M; intro w M) | (refine sv2 F M (h := ?_); clear F M a; intro b a w F M) | (refine svC F M (h := ?_); fail; (clear F M a; intro a w F M)) | (refine svC0 F M (h := ?_); fail; (clear M; intro w M)) | (refine sv1 F M (h := ?_) (hr := by (apply rt_mid; (exact rfl); (exact rfl); (exact rfl); (exact rfl); (exact inferInstance); (focus omega); (focus omega); (simp; omega))); clear F a; intro a F) | (refine svK F (h := ?_); clear F a; intro a F) | (refine svK0 F (h := ?_)) | ((refine sx_guardb F rfl (fun hg => ?_) (fun hg => ?_)) <;> (rw [hg] at F; (try (exact no hg))))) | (first | (refine pv1 (h := ?_) (hr := by fail)) | (refine pv1 (h := ?_)) | (refine pv3 (h := ?_)) | (refine pv2 (h := ?_); intro b) | (refine pvC (h := ?_); fail; (refine ⟨?_, ?_⟩; (exact rvsA))) | (refine pvC0 (h := ?_); fail; (refine ⟨?_, ?_⟩; (exact rvsA))) | (refine pv1 (h := ?_) (hr := by (apply rt_mid; (exact rfl); (exact rfl); (exact rfl); (exact rfl); (exact inferInstance); (focus omega); (focus omega); (simp; omega)))) | (refine pvF (h := ?_); intro b) | (refine pvK (h := ?_)) | (refine pvK0 (h := ?_)) | (refine pv_nil ?_; intro a w F M; refine ql_open ?_) | (refine pv_nil ?_; intro a w F M; (try (replace F := F.filt [0, 2, 4] rfl)))) | ((fail_if_success (with_reducible show wpList _ _ _ _ _ _)); (fail_if_success (with_reducible show PW _ _ _ _ _ _ _ _ _ _)); (fail_if_success (with_reducible show Code.wp _ (Code.loop _) _ _ _)); (first | ((with_reducible show Code.wp _ (Code.region _ _ false) _ _ _); (refine sx_region ?_)) | ((with_reducible show Code.wp _ (Code.cond _ _ _) _ _ _); (first | (refine svT F (h := ?_)) | (refine svF F (h := ?_)) | ((refine svB F (fun hc => ?_) (fun hc => ?_)) <;> (try (exact no hc))))) | ((with_reducible show Code.wp _ (Code.region _ _ true) _ _ _); fail) | go_step))))
      (all_goals ((first | (refine svEnd F M ?_) | (refine svRet F M ?_)); refine ⟨?_, M.perms permsA⟩))
      rw [← hd]; rfl
    · (intro K hK w M; refine sx_enter (vs := [.int .u64 u]) Tryd.func32 (n := 16) rfl rfl rfl rfl ?_; intro a F)
      have hne : ¬ ((u : Int) < 10) := by omega
      have h1 : Lib.decDigits u = Lib.decDigits (u / 10) ++ Lib.decDigits (u % 10) := by
        rw [Lib.decDigits, dif_neg h, Lib.decDigits_one (i := u % 10) (by omega)]
      have hl1 : (Lib.decDigits (u / 10)).length ≤ 20 := dec_len _ (by omega)
      have hl2 : (Lib.decDigits (u % 10)).length ≤ 20 := dec_len _ (by omega)
      have H1 : ∀ L, Reads 32 [.int .u64 ((u : Int) / 10)] (str (Lib.decDigits (u / 10))) L := fun L => by
        have := ih (u / 10) (by omega) (by omega) (L := L)
        simpa using this
      have H2 : ∀ L, Reads 32 [.int .u64 ((u : Int) % 10)] (str (Lib.decDigits (u % 10))) L := fun L => by
        have := ih (u % 10) (by omega) (by omega) (L := L)
        simpa using this
      (repeat' (first | (first | (refine sx_nil ?_; (try (replace F := F.filt [0, 2, 4] rfl))) | (refine sv1 F M (h := ?_) (hr := by fail); clear F a; intro a F) | (refine sv1 F M (h := ?_); clear F a; intro a F) | (refine sv3 F M (h := ?_); clear M; intro w M) | (refine sv2 F M (h := ?_); clear F M a; intro b a w F M) | (refine svC F M (h := ?_); (first | ((refine acCall (k := 32) ?_); (refine Spec.of_reads (H1 _) rfl ?_)) | ((refine acCall (k := 32) ?_); (refine Spec.of_reads (H2 _) rfl ?_))); (clear F M a; intro a w F M)) | (refine svC0 F M (h := ?_); (first | ((refine acCall (k := 32) ?_); (refine Spec.of_reads (H1 _) rfl ?_)) | ((refine acCall (k := 32) ?_); (refine Spec.of_reads (H2 _) rfl ?_))); (clear M; intro w M)) | (refine sv1 F M (h := ?_) (hr := by fail); clear F a; intro a F) | (refine svK F (h := ?_); clear F a; intro a F) | (refine svK0 F (h := ?_)) | ((refine sx_guardb F rfl (fun hg => ?_) (fun hg => ?_)) <;> (rw [hg] at F; (try (exact no hg))))) | (first | (refine pv1 (h := ?_) (hr := by fail)) | (refine pv1 (h := ?_)) | (refine pv3 (h := ?_)) | (refine pv2 (h := ?_); intro b) | (refine pvC (h := ?_); (first | ((refine acCall (k := 32) ?_); (refine Spec.of_reads (H1 _) rfl ?_)) | ((refine acCall (k := 32) ?_); (refine Spec.of_reads (H2 _) rfl ?_))); (refine ⟨?_, ?_⟩; (exact rvsA))) | (refine pvC0 (h := ?_); (first | ((refine acCall (k := 32) ?_); (refine Spec.of_reads (H1 _) rfl ?_)) | ((refine acCall (k := 32) ?_); (refine Spec.of_reads (H2 _) rfl ?_))); (refine ⟨?_, ?_⟩; (exact rvsA))) | (refine pv1 (h := ?_) (hr := by fail)) | (refine pvF (h := ?_); intro b) | (refine pvK (h := ?_)) | (refine pvK0 (h := ?_)) | (refine pv_nil ?_; intro a w F M; refine ql_open ?_) | (refine pv_nil ?_; intro a w F M; (try (replace F := F.filt [0, 2, 4] rfl)))) | ((fail_if_success (with_reducible show wpList _ _ _ _ _ _)); (fail_if_success (with_reducible show PW _ _ _ _ _ _ _ _ _ _)); (fail_if_success (with_reducible show Code.wp _ (Code.loop _) _ _ _)); (first | ((with_reducible show Code.wp _ (Code.region _ _ false) _ _ _); (refine sx_region ?_)) | ((with_reducible show Code.wp _ (Code.cond _ _ _) _ _ _); (first | (refine svT F (h := ?_)) | (refine svF F (h := ?_)) | ((refine svB F (fun hc => ?_) (fun hc => ?_)) <;> (try (exact no hc))))) | ((with_reducible show Code.wp _ (Code.region _ _ true) _ _ _); fail) | go_step))))
      (all_goals ((first | (refine svEnd F M ?_) | (refine svRet F M ?_)); refine ⟨?_, M.perms permsA⟩))
      rw [h1]; rfl
theorem rfmt_int (m : Int) (h0 : 0 ≤ m) (h1 : m ≤ 18446744073709551615) {L : List Asn} : Reads 32 [.int .u64 m] (str (Lib.decDigits m.toNat)) L := by
  have := rfmt_reads m.toNat (by omega) (L := L)
  rwa [Int.toNat_of_nonneg h0] at this
end Go.Proofs.YtaggjikjohamjaaDoor
end
section
namespace Go.Proofs.YtaggjikjohamjaaDoor
open Go.RowKit
set_option linter.unusedVariables false
set_option maxRecDepth 100000
set_option linter.unusedSimpArgs false
set_option maxHeartbeats 8000000
theorem rmax1_reads {L : List Asn} : Reads 53 [] (.int .u64 18446744073709551615) L := by
  (intro K hK w M; refine sx_enter Tryd.func53 (n := 1) rfl rfl rfl rfl ?_; intro a F)
  (repeat' (first | (first | (refine sx_nil ?_; (try (replace F := F.filt [0] rfl))) | (refine sv1 F M (h := ?_) (hr := by fail); clear F a; intro a F) | (refine sv1 F M (h := ?_); clear F a; intro a F) | (refine sv3 F M (h := ?_); clear M; intro w M) | (refine sv2 F M (h := ?_); clear F M a; intro b a w F M) | (refine svC F M (h := ?_); fail; (clear F M a; intro a w F M)) | (refine svC0 F M (h := ?_); fail; (clear M; intro w M)) | (refine sv1 F M (h := ?_) (hr := by fail); clear F a; intro a F) | (refine svK F (h := ?_); clear F a; intro a F) | (refine svK0 F (h := ?_)) | ((refine sx_guardb F rfl (fun hg => ?_) (fun hg => ?_)) <;> (rw [hg] at F; (try (exact no hg))))) | (first | (refine pv1 (h := ?_) (hr := by fail)) | (refine pv1 (h := ?_)) | (refine pv3 (h := ?_)) | (refine pv2 (h := ?_); intro b) | (refine pvC (h := ?_); fail; (refine ⟨?_, ?_⟩; (exact rvsA))) | (refine pvC0 (h := ?_); fail; (refine ⟨?_, ?_⟩; (exact rvsA))) | (refine pv1 (h := ?_) (hr := by fail)) | (refine pvF (h := ?_); intro b) | (refine pvK (h := ?_)) | (refine pvK0 (h := ?_)) | (refine pv_nil ?_; intro a w F M; refine ql_open ?_) | (refine pv_nil ?_; intro a w F M; (try (replace F := F.filt [0] rfl)))) | ((fail_if_success (with_reducible show wpList _ _ _ _ _ _)); (fail_if_success (with_reducible show PW _ _ _ _ _ _ _ _ _ _)); (fail_if_success (with_reducible show Code.wp _ (Code.loop _) _ _ _)); (first | ((with_reducible show Code.wp _ (Code.region _ _ false) _ _ _); (refine sx_region ?_)) | ((with_reducible show Code.wp _ (Code.cond _ _ _) _ _ _); (first | (refine svT F (h := ?_)) | (refine svF F (h := ?_)) | ((refine svB F (fun hc => ?_) (fun hc => ?_)) <;> (try (exact no hc))))) | ((with_reducible show Code.wp _ (Code.region _ _ true) _ _ _); fail) | go_step))))
  (all_goals ((first | (refine svEnd F M ?_) | (refine svRet F M ?_)); refine ⟨?_, M.perms permsA⟩))
  all_goals rfl
/-- strconv's two errors are there. -/
def Errs (w : World) : Prop := (∃ u v, w.cell? ⟨2, 0, none⟩ = some (.iface u v)) ∧ (∃ u v, w.cell? ⟨3, 0, none⟩ = some (.iface u v))
theorem cell_below {w w' : World} {b : Nat} {v : Value} (h : w.cell? ⟨b, 0, none⟩ = some v) (hb : Below w.heap.size w w') : w'.cell? ⟨b, 0, none⟩ = some v := by
  have hlt : b < w.heap.size := by
    rcases Nat.lt_or_ge b w.heap.size with h1 | h1
    · exact h1
    · have : w.heap[b]? = none := Array.getElem?_eq_none h1
      simp [World.cell?, this] at h
  unfold World.cell? at *
  rw [hb.block b hlt]; exact h
theorem Errs.below {w w' : World} (h : Errs w) (hb : Below w.heap.size w w') : Errs w' := by
  obtain ⟨⟨u, v, h1⟩, u', v', h2⟩ := h
  exact ⟨⟨u, v, cell_below h1 hb⟩, u', v', cell_below h2 hb⟩
def Laid (w : World) : Prop := Tens w ∧ Errs w
theorem Laid.below {w w' : World} (h : Laid w) (hb : Below w.heap.size w w') : Laid w' := ⟨h.1.below hb, h.2.below hb⟩
theorem Old.laid {w0 : World} (h : Laid w0) {L L' : List Asn} (hp : Pull L (Old w0) L') : Gives L Laid := fun w M => h.below (M.below hp)
section
variable {o : Oper} {n : Nat} {l : List (Nat × Value)} {L : List Asn} {C : Value → List Asn → Prop}
theorem Spec.of_below_ex {α : Type} {k : FuncId} {us us' : List Value} {v : α → Value} {φ : World → Prop} (h : ∀ w, φ w → Calls Tryd.prog k us'.toArray w fun e w' => (∃ x, e = .returned (v x)) ∧ Below w.heap.size w w') (hg : Gives L φ) (hu : us = us') (hC : ∀ x, C (v x) L) : Spec k us L C := by
  subst hu
  exact fun G w M => (h w (hg w M.drop_app)).mono fun e w' ⟨⟨x, he⟩, hb⟩ => ⟨v x, L, he, hC x, M.of_below hb⟩
theorem rt_neIf {t ty : TypeId} {x : Operand} (ho : o.op = .binOp .neq t x (.const .nilIface) ty) {u : TypeId} {v : Value} (hx : evl l x = some (.iface u v)) (ht : Tryd.prog.isIface t = true) : RT o l L n (.bool true) := fun a w F M => by
  have := run_neq_iface_nil (P := Tryd.prog) w t ht u v
  unfold execOp
  rw [ho]
  have e1 := F.eval hx
  have e2 : a.eval (.const .nilIface) = .nilIface := rfl
  simp only [e1, e2]
  simp [eqGuard, this]
theorem rt_neNil {t ty : TypeId} {x : Operand} (ho : o.op = .binOp .neq t x (.const .nilIface) ty) (hx : evl l x = some .nilIface) (ht : Tryd.prog.isIface t = true) : RT o l L n (.bool false) := fun a w F M => by
  have := run_neq_nil_nil_at (P := Tryd.prog) w t ht
  unfold execOp
  rw [ho]
  have e1 := F.eval hx
  have e2 : a.eval (.const .nilIface) = .nilIface := rfl
  simp only [e1, e2]
  simp [eqGuard, this]
theorem rt_arithE {b : BinOp} {t ty : TypeId} {x y : Operand} (ho : o.op = .binOp b t x y ty) {k : IntKind} {m p : Int} (hx : evl l x = some (.int k m)) (hy : evl l y = some (.int k p)) {r r' : Int} (hr : arithR b m p = some r) (hw : k.wrap r = r') : RT o l L n (.int k r') := hw ▸ rt_arith ho hx hy hr
end
theorem parse_any (s : List UInt8) (hs : s.length ≤ 1000000) (w0 : World) (hl : Laid w0) :
    Calls Tryd.prog 29 [str s].toArray w0 fun e w' => e = .returned (.tuple [.int .u64 ((pU s).getD 0 : Nat), .bool (pU s).isSome].toArray) ∧ Below w0.heap.size w0 w' := by
  have ht := hl.1
  rcases h : Lib.parseUintB 64 s with u | _ | _
  · have hu : u < 18446744073709551616 := by have := Lib.parseUintB_le h; omega
    have HP : ∀ w : World, Laid w → Calls Tryd.prog 52 [str s, .int .i64 10, .int .i64 64].toArray w fun e w' => e = .returned (.tuple #[.int .u64 u, .nilIface]) ∧ Below w.heap.size w w' := fun w hw => by
      refine (Tryd.strconv_ParseUint_10_at64_ok ⟨s.toArray⟩ (by simp [ByteArray.size]; omega) u (by simpa using h) w).mono fun e w' ⟨h1, h2⟩ => ⟨h1, ?_⟩
      rcases h2 with rfl | rfl
      · exact Below.refl _ _
      · exact Lib.bytesWorld_below _ _ _
    by_cases he : Lib.decDigits u = s
    · have ep : pU s = some u := by rw [pU_parse, h]; exact if_pos he
      rw [ep]
      refine sx_enter (vs := [str s]) Tryd.func29 (n := 20) rfl rfl rfl rfl ?_
      (intro a F; refine sv_start ?_; intro w M)
      have hsl : (Lib.decDigits u).length ≤ 20 := dec_len u hu
      (repeat' (first | (first | (refine sx_nil ?_; (try (replace F := F.filt [0, 2, 3, 4, 5, 18] rfl))) | (refine sv1 F M (h := ?_) (hr := by fail); clear F a; intro a F) | (refine sv1 F M (h := ?_); clear F a; intro a F) | (refine sv3 F M (h := ?_); clear M; intro w M) | (refine sv2 F M (h := ?_); clear F M a; intro b a w F M) | (refine svC F M (h := ?_); (first | ((refine acCall (k := 52) ?_); (refine Spec.of_below_g HP (Old.laid hl pullA) rfl ?_)) | ((refine acCall (k := 25) ?_); (refine Spec.of_below_g (gfmt_any u (by omega)) (Old.tens ht pullA) rfl ?_))); (clear F M a; intro a w F M)) | (refine svC0 F M (h := ?_); (first | ((refine acCall (k := 52) ?_); (refine Spec.of_below_g HP (Old.laid hl pullA) rfl ?_)) | ((refine acCall (k := 25) ?_); (refine Spec.of_below_g (gfmt_any u (by omega)) (Old.tens ht pullA) rfl ?_))); (clear M; intro w M)) | (refine sv1 F M (h := ?_) (hr := by (first | (apply rt_neIf; (exact rfl); (exact rfl); kernel_rfl) | (apply rt_neNil; (exact rfl); (exact rfl); kernel_rfl))); clear F a; intro a F) | (refine svK F (h := ?_); clear F a; intro a F) | (refine svK0 F (h := ?_)) | ((refine sx_guardb F rfl (fun hg => ?_) (fun hg => ?_)) <;> (rw [hg] at F; (try (exact no hg))))) | (first | (refine pv1 (h := ?_) (hr := by fail)) | (refine pv1 (h := ?_)) | (refine pv3 (h := ?_)) | (refine pv2 (h := ?_); intro b) | (refine pvC (h := ?_); (first | ((refine acCall (k := 52) ?_); (refine Spec.of_below_g HP (Old.laid hl pullA) rfl ?_)) | ((refine acCall (k := 25) ?_); (refine Spec.of_below_g (gfmt_any u (by omega)) (Old.tens ht pullA) rfl ?_))); (refine ⟨?_, ?_⟩; (exact rvsA))) | (refine pvC0 (h := ?_); (first | ((refine acCall (k := 52) ?_); (refine Spec.of_below_g HP (Old.laid hl pullA) rfl ?_)) | ((refine acCall (k := 25) ?_); (refine Spec.of_below_g (gfmt_any u (by omega)) (Old.tens ht pullA) rfl ?_))); (refine ⟨?_, ?_⟩; (exact rvsA))) | (refine pv1 (h := ?_) (hr := by (first | (apply rt_neIf; (exact rfl); (exact rfl); kernel_rfl) | (apply rt_neNil; (exact rfl); (exact rfl); kernel_rfl)))) | (refine pvF (h := ?_); intro b) | (refine pvK (h := ?_)) | (refine pvK0 (h := ?_)) | (refine pv_nil ?_; intro a w F M; refine ql_open ?_) | (refine pv_nil ?_; intro a w F M; (try (replace F := F.filt [0, 2, 3, 4, 5, 18] rfl)))) | ((fail_if_success (with_reducible show wpList _ _ _ _ _ _)); (fail_if_success (with_reducible show PW _ _ _ _ _ _ _ _ _ _)); (fail_if_success (with_reducible show Code.wp _ (Code.loop _) _ _ _)); (first | ((with_reducible show Code.wp _ (Code.region _ _ false) _ _ _); (refine sx_region ?_)) | ((with_reducible show Code.wp _ (Code.cond _ _ _) _ _ _); (first | (refine svT F (h := ?_)) | (refine svF F (h := ?_)) | ((refine svB F (fun hc => ?_) (fun hc => ?_)) <;> (try (exact no hc))))) | ((with_reducible show Code.wp _ (Code.region _ _ true) _ _ _); fail) | go_step))))
      (all_goals ((first | (refine svEnd F M ?_) | (refine svRet F M ?_)); refine ⟨?_, M.below (by (focus ((repeat (first | exact Pull.here | apply Pull.there)); done)))⟩))
      all_goals rfl
    · have ep : pU s = none := by rw [pU_parse, h]; exact if_neg he
      rw [ep]
      refine sx_enter (vs := [str s]) Tryd.func29 (n := 20) rfl rfl rfl rfl ?_
      (intro a F; refine sv_start ?_; intro w M)
      (repeat' (first | (first | (refine sx_nil ?_; (try (replace F := F.filt [0, 2, 3, 4, 5, 18] rfl))) | (refine sv1 F M (h := ?_) (hr := by fail); clear F a; intro a F) | (refine sv1 F M (h := ?_); clear F a; intro a F) | (refine sv3 F M (h := ?_); clear M; intro w M) | (refine sv2 F M (h := ?_); clear F M a; intro b a w F M) | (refine svC F M (h := ?_); (first | ((refine acCall (k := 52) ?_); (refine Spec.of_below_g HP (Old.laid hl pullA) rfl ?_)) | ((refine acCall (k := 25) ?_); (refine Spec.of_below_g (gfmt_any u (by omega)) (Old.tens ht pullA) rfl ?_))); (clear F M a; intro a w F M)) | (refine svC0 F M (h := ?_); (first | ((refine acCall (k := 52) ?_); (refine Spec.of_below_g HP (Old.laid hl pullA) rfl ?_)) | ((refine acCall (k := 25) ?_); (refine Spec.of_below_g (gfmt_any u (by omega)) (Old.tens ht pullA) rfl ?_))); (clear M; intro w M)) | (refine sv1 F M (h := ?_) (hr := by (first | (apply rt_neIf; (exact rfl); (exact rfl); kernel_rfl) | (apply rt_neNil; (exact rfl); (exact rfl); kernel_rfl))); clear F a; intro a F) | (refine svK F (h := ?_); clear F a; intro a F) | (refine svK0 F (h := ?_)) | ((refine sx_guardb F rfl (fun hg => ?_) (fun hg => ?_)) <;> (rw [hg] at F; (try (exact no hg))))) | (first | (refine pv1 (h := ?_) (hr := by fail)) | (refine pv1 (h := ?_)) | (refine pv3 (h := ?_)) | (refine pv2 (h := ?_); intro b) | (refine pvC (h := ?_); (first | ((refine acCall (k := 52) ?_); (refine Spec.of_below_g HP (Old.laid hl pullA) rfl ?_)) | ((refine acCall (k := 25) ?_); (refine Spec.of_below_g (gfmt_any u (by omega)) (Old.tens ht pullA) rfl ?_))); (refine ⟨?_, ?_⟩; (exact rvsA))) | (refine pvC0 (h := ?_); (first | ((refine acCall (k := 52) ?_); (refine Spec.of_below_g HP (Old.laid hl pullA) rfl ?_)) | ((refine acCall (k := 25) ?_); (refine Spec.of_below_g (gfmt_any u (by omega)) (Old.tens ht pullA) rfl ?_))); (refine ⟨?_, ?_⟩; (exact rvsA))) | (refine pv1 (h := ?_) (hr := by (first | (apply rt_neIf; (exact rfl); (exact rfl); kernel_rfl) | (apply rt_neNil; (exact rfl); (exact rfl); kernel_rfl)))) | (refine pvF (h := ?_); intro b) | (refine pvK (h := ?_)) | (refine pvK0 (h := ?_)) | (refine pv_nil ?_; intro a w F M; refine ql_open ?_) | (refine pv_nil ?_; intro a w F M; (try (replace F := F.filt [0, 2, 3, 4, 5, 18] rfl)))) | ((fail_if_success (with_reducible show wpList _ _ _ _ _ _)); (fail_if_success (with_reducible show PW _ _ _ _ _ _ _ _ _ _)); (fail_if_success (with_reducible show Code.wp _ (Code.loop _) _ _ _)); (first | ((with_reducible show Code.wp _ (Code.region _ _ false) _ _ _); (refine sx_region ?_)) | ((with_reducible show Code.wp _ (Code.cond _ _ _) _ _ _); (first | (refine svT F (h := ?_)) | (refine svF F (h := ?_)) | ((refine svB F (fun hc => ?_) (fun hc => ?_)) <;> (try (exact no hc))))) | ((with_reducible show Code.wp _ (Code.region _ _ true) _ _ _); fail) | go_step))))
      (all_goals ((first | (refine svEnd F M ?_) | (refine svRet F M ?_)); refine ⟨?_, M.below (by (focus ((repeat (first | exact Pull.here | apply Pull.there)); done)))⟩))
      all_goals rfl
  · have HP : ∀ w : World, Laid w → Calls Tryd.prog 52 [str s, .int .i64 10, .int .i64 64].toArray w fun e w' => (∃ N : Nat, e = .returned (.tuple #[.int .u64 0, .iface 121 (.pointer (some ⟨N, 0, none⟩))])) ∧ Below w.heap.size w w' := fun w hw => by
      obtain ⟨⟨u, v, hc⟩, _⟩ := hw.2
      exact (Any.strconv_ParseUint_10_at64_syntax Tryd.laysPu14 ⟨s.toArray⟩ (by simp [ByteArray.size]; omega) (by simpa using h) (.iface u v) w hc (.inr ⟨u, v, rfl⟩)).mono fun e w' ⟨N, h1, _, _, h2⟩ => ⟨⟨N, h1⟩, h2⟩
    have ep : pU s = none := by rw [pU_parse, h]
    rw [ep]
    refine sx_enter (vs := [str s]) Tryd.func29 (n := 20) rfl rfl rfl rfl ?_
    (intro a F; refine sv_start ?_; intro w M)
    (repeat' (first | (first | (refine sx_nil ?_; (try (replace F := F.filt [0, 2, 3, 4, 5, 18] rfl))) | (refine sv1 F M (h := ?_) (hr := by fail); clear F a; intro a F) | (refine sv1 F M (h := ?_); clear F a; intro a F) | (refine sv3 F M (h := ?_); clear M; intro w M) | (refine sv2 F M (h := ?_); clear F M a; intro b a w F M) | (refine svC F M (h := ?_); ((refine acCall (k := 52) ?_); (refine Spec.of_below_ex HP (Old.laid hl pullA) rfl ?_); intro N); (clear F M a; intro a w F M)) | (refine svC0 F M (h := ?_); ((refine acCall (k := 52) ?_); (refine Spec.of_below_ex HP (Old.laid hl pullA) rfl ?_); intro N); (clear M; intro w M)) | (refine sv1 F M (h := ?_) (hr := by (first | (apply rt_neIf; (exact rfl); (exact rfl); kernel_rfl) | (apply rt_neNil; (exact rfl); (exact rfl); kernel_rfl))); clear F a; intro a F) | (refine svK F (h := ?_); clear F a; intro a F) | (refine svK0 F (h := ?_)) | ((refine sx_guardb F rfl (fun hg => ?_) (fun hg => ?_)) <;> (rw [hg] at F; (try (exact no hg))))) | (first | (refine pv1 (h := ?_) (hr := by fail)) | (refine pv1 (h := ?_)) | (refine pv3 (h := ?_)) | (refine pv2 (h := ?_); intro b) | (refine pvC (h := ?_); ((refine acCall (k := 52) ?_); (refine Spec.of_below_ex HP (Old.laid hl pullA) rfl ?_); intro N); (refine ⟨?_, ?_⟩; (exact rvsA))) | (refine pvC0 (h := ?_); ((refine acCall (k := 52) ?_); (refine Spec.of_below_ex HP (Old.laid hl pullA) rfl ?_); intro N); (refine ⟨?_, ?_⟩; (exact rvsA))) | (refine pv1 (h := ?_) (hr := by (first | (apply rt_neIf; (exact rfl); (exact rfl); kernel_rfl) | (apply rt_neNil; (exact rfl); (exact rfl); kernel_rfl)))) | (refine pvF (h := ?_); intro b) | (refine pvK (h := ?_)) | (refine pvK0 (h := ?_)) | (refine pv_nil ?_; intro a w F M; refine ql_open ?_) | (refine pv_nil ?_; intro a w F M; (try (replace F := F.filt [0, 2, 3, 4, 5, 18] rfl)))) | ((fail_if_success (with_reducible show wpList _ _ _ _ _ _)); (fail_if_success (with_reducible show PW _ _ _ _ _ _ _ _ _ _)); (fail_if_success (with_reducible show Code.wp _ (Code.loop _) _ _ _)); (first | ((with_reducible show Code.wp _ (Code.region _ _ false) _ _ _); (refine sx_region ?_)) | ((with_reducible show Code.wp _ (Code.cond _ _ _) _ _ _); (first | (refine svT F (h := ?_)) | (refine svF F (h := ?_)) | ((refine svB F (fun hc => ?_) (fun hc => ?_)) <;> (try (exact no hc))))) | ((with_reducible show Code.wp _ (Code.region _ _ true) _ _ _); fail) | go_step))))
    (all_goals ((first | (refine svEnd F M ?_) | (refine svRet F M ?_)); refine ⟨?_, M.below (by (focus ((repeat (first | exact Pull.here | apply Pull.there)); done)))⟩))
    all_goals rfl
  · have HP : ∀ w : World, Laid w → Calls Tryd.prog 52 [str s, .int .i64 10, .int .i64 64].toArray w fun e w' => (∃ N : Nat, e = .returned (.tuple #[.int .u64 18446744073709551615, .iface 121 (.pointer (some ⟨N, 0, none⟩))])) ∧ Below w.heap.size w w' := fun w hw => by
      obtain ⟨_, u, v, hc⟩ := hw.2
      exact (Tryd.strconv_ParseUint_10_at64_range ⟨s.toArray⟩ (by simp [ByteArray.size]; omega) (by simpa using h) (.iface u v) w hc (.inr ⟨u, v, rfl⟩)).mono fun e w' ⟨N, h1, _, _, h2⟩ => ⟨⟨N, h1⟩, h2⟩
    have ep : pU s = none := by rw [pU_parse, h]
    rw [ep]
    refine sx_enter (vs := [str s]) Tryd.func29 (n := 20) rfl rfl rfl rfl ?_
    (intro a F; refine sv_start ?_; intro w M)
    (repeat' (first | (first | (refine sx_nil ?_; (try (replace F := F.filt [0, 2, 3, 4, 5, 18] rfl))) | (refine sv1 F M (h := ?_) (hr := by fail); clear F a; intro a F) | (refine sv1 F M (h := ?_); clear F a; intro a F) | (refine sv3 F M (h := ?_); clear M; intro w M) | (refine sv2 F M (h := ?_); clear F M a; intro b a w F M) | (refine svC F M (h := ?_); ((refine acCall (k := 52) ?_); (refine Spec.of_below_ex HP (Old.laid hl pullA) rfl ?_); intro N); (clear F M a; intro a w F M)) | (refine svC0 F M (h := ?_); ((refine acCall (k := 52) ?_); (refine Spec.of_below_ex HP (Old.laid hl pullA) rfl ?_); intro N); (clear M; intro w M)) | (refine sv1 F M (h := ?_) (hr := by (first | (apply rt_neIf; (exact rfl); (exact rfl); kernel_rfl) | (apply rt_neNil; (exact rfl); (exact rfl); kernel_rfl))); clear F a; intro a F) | (refine svK F (h := ?_); clear F a; intro a F) | (refine svK0 F (h := ?_)) | ((refine sx_guardb F rfl (fun hg => ?_) (fun hg => ?_)) <;> (rw [hg] at F; (try (exact no hg))))) | (first | (refine pv1 (h := ?_) (hr := by fail)) | (refine pv1 (h := ?_)) | (refine pv3 (h := ?_)) | (refine pv2 (h := ?_); intro b) | (refine pvC (h := ?_); ((refine acCall (k := 52) ?_); (refine Spec.of_below_ex HP (Old.laid hl pullA) rfl ?_); intro N); (refine ⟨?_, ?_⟩; (exact rvsA))) | (refine pvC0 (h := ?_); ((refine acCall (k := 52) ?_); (refine Spec.of_below_ex HP (Old.laid hl pullA) rfl ?_); intro N); (refine ⟨?_, ?_⟩; (exact rvsA))) | (refine pv1 (h := ?_) (hr := by (first | (apply rt_neIf; (exact rfl); (exact rfl); kernel_rfl) | (apply rt_neNil; (exact rfl); (exact rfl); kernel_rfl)))) | (refine pvF (h := ?_); intro b) | (refine pvK (h := ?_)) | (refine pvK0 (h := ?_)) | (refine pv_nil ?_; intro a w F M; refine ql_open ?_) | (refine pv_nil ?_; intro a w F M; (try (replace F := F.filt [0, 2, 3, 4, 5, 18] rfl)))) | ((fail_if_success (with_reducible show wpList _ _ _ _ _ _)); (fail_if_success (with_reducible show PW _ _ _ _ _ _ _ _ _ _)); (fail_if_success (with_reducible show Code.wp _ (Code.loop _) _ _ _)); (first | ((with_reducible show Code.wp _ (Code.region _ _ false) _ _ _); (refine sx_region ?_)) | ((with_reducible show Code.wp _ (Code.cond _ _ _) _ _ _); (first | (refine svT F (h := ?_)) | (refine svF F (h := ?_)) | ((refine svB F (fun hc => ?_) (fun hc => ?_)) <;> (try (exact no hc))))) | ((with_reducible show Code.wp _ (Code.region _ _ true) _ _ _); fail) | go_step))))
    (all_goals ((first | (refine svEnd F M ?_) | (refine svRet F M ?_)); refine ⟨?_, M.below (by (focus ((repeat (first | exact Pull.here | apply Pull.there)); done)))⟩))
    all_goals rfl
theorem pGo_cons (c : UInt8) (r : List UInt8) (acc : Nat) : pGo acc (c :: r) = if 48 ≤ c.toNat ∧ c.toNat ≤ 57 then (if (18446744073709551615 - (c.toNat - 48)) / 10 < acc then none else pGo (10 * acc + (c.toNat - 48)) r) else none := rfl
theorem pU_nil {s : List UInt8} (h : s.length = 0) : pU s = none := if_pos (.inl (List.eq_nil_of_length_eq_zero h))
theorem pU_zero {s : List UInt8} (h : 2 ≤ s.length) (h0 : s[0]? = some 48) : pU s = none := if_pos (.inr ⟨h, by rw [List.head?_eq_getElem?]; exact h0⟩)
theorem pU_go {s : List UInt8} {c : UInt8} (h1 : 1 ≤ s.length) (h0 : s[0]? = some c) (h : ¬ (2 ≤ s.length ∧ c.toNat = 48)) : pU s = pGo 0 s := if_neg (by
  rintro (h' | ⟨h2, h3⟩)
  · subst h'; simp at h1
  · rw [List.head?_eq_getElem?, h0] at h3
    exact h ⟨h2, by rw [Option.some.inj h3]; rfl⟩)
theorem rparse_reads (s : List UInt8) (hs : s.length ≤ 1000000) {L : List Asn} : Reads 36 [str s] (.tuple [.int .u64 ((pU s).getD 0 : Nat), .bool (pU s).isSome].toArray) L := by
  (intro K hK w M; refine sx_enter (vs := [str s]) Tryd.func36 (n := 52) rfl rfl rfl rfl ?_; intro a F)
  by_cases hn : s.length = 0
  · rw [pU_nil hn]
    (repeat' (first | (first | (refine sx_nil ?_; (try (replace F := F.filt [0, 2, 3, 4, 5, 6, 19, 23, 35, 46] rfl))) | (refine sv1 F M (h := ?_) (hr := by fail); clear F a; intro a F) | (refine sv1 F M (h := ?_); clear F a; intro a F) | (refine sv3 F M (h := ?_); clear M; intro w M) | (refine sv2 F M (h := ?_); clear F M a; intro b a w F M) | (refine svC F M (h := ?_); ((refine acCall (k := 53) ?_); (refine Spec.of_reads rmax1_reads rfl ?_)); (clear F M a; intro a w F M)) | (refine svC0 F M (h := ?_); ((refine acCall (k := 53) ?_); (refine Spec.of_reads rmax1_reads rfl ?_)); (clear M; intro w M)) | (refine sv1 F M (h := ?_) (hr := by fail); clear F a; intro a F) | (refine svK F (h := ?_); clear F a; intro a F) | (refine svK0 F (h := ?_)) | ((refine sx_guardb F rfl (fun hg => ?_) (fun hg => ?_)) <;> (rw [hg] at F; (try (exact no hg))))) | (first | (refine pv1 (h := ?_) (hr := by fail)) | (refine pv1 (h := ?_)) | (refine pv3 (h := ?_)) | (refine pv2 (h := ?_); intro b) | (refine pvC (h := ?_); ((refine acCall (k := 53) ?_); (refine Spec.of_reads rmax1_reads rfl ?_)); (refine ⟨?_, ?_⟩; (exact rvsA))) | (refine pvC0 (h := ?_); ((refine acCall (k := 53) ?_); (refine Spec.of_reads rmax1_reads rfl ?_)); (refine ⟨?_, ?_⟩; (exact rvsA))) | (refine pv1 (h := ?_) (hr := by fail)) | (refine pvF (h := ?_); intro b) | (refine pvK (h := ?_)) | (refine pvK0 (h := ?_)) | (refine pv_nil ?_; intro a w F M; refine ql_open ?_) | (refine pv_nil ?_; intro a w F M; (try (replace F := F.filt [0, 2, 3, 4, 5, 6, 19, 23, 35, 46] rfl)))) | ((fail_if_success (with_reducible show wpList _ _ _ _ _ _)); (fail_if_success (with_reducible show PW _ _ _ _ _ _ _ _ _ _)); (fail_if_success (with_reducible show Code.wp _ (Code.loop _) _ _ _)); (first | ((with_reducible show Code.wp _ (Code.region _ _ false) _ _ _); (refine sx_region ?_)) | ((with_reducible show Code.wp _ (Code.cond _ _ _) _ _ _); (first | (refine svT F (h := ?_)) | (refine svF F (h := ?_)) | ((refine svB F (fun hc => ?_) (fun hc => ?_)) <;> (try (exact no hc))))) | ((with_reducible show Code.wp _ (Code.region _ _ true) _ _ _); fail) | go_step))))
    (all_goals ((first | (refine svEnd F M ?_) | (refine svRet F M ?_)); refine ⟨?_, M.perms permsA⟩))
    all_goals rfl
  obtain ⟨c, hc⟩ : ∃ c, s[0]? = some c := ⟨s[0]'(by omega), by simp⟩
  have hc0 : s[(0 : Int).toNat]? = some c := hc
  have hcn : c.toNat < 256 := c.toNat_lt
  by_cases hz : 2 ≤ s.length ∧ c.toNat = 48
  · obtain ⟨hz1, hz2⟩ := hz
    rw [pU_zero hz1 (by rw [hc, ← UInt8.toNat_inj.1 (show c.toNat = (48 : UInt8).toNat from hz2)])]
    (repeat' (first | (first | (refine sx_nil ?_; (try (replace F := F.filt [0, 2, 3, 4, 5, 6, 19, 23, 35, 46] rfl))) | (refine sv1 F M (h := ?_) (hr := by fail); clear F a; intro a F) | (refine sv1 F M (h := ?_); clear F a; intro a F) | (refine sv3 F M (h := ?_); clear M; intro w M) | (refine sv2 F M (h := ?_); clear F M a; intro b a w F M) | (refine svC F M (h := ?_); ((refine acCall (k := 53) ?_); (refine Spec.of_reads rmax1_reads rfl ?_)); (clear F M a; intro a w F M)) | (refine svC0 F M (h := ?_); ((refine acCall (k := 53) ?_); (refine Spec.of_reads rmax1_reads rfl ?_)); (clear M; intro w M)) | (refine sv1 F M (h := ?_) (hr := by fail); clear F a; intro a F) | (refine svK F (h := ?_); clear F a; intro a F) | (refine svK0 F (h := ?_)) | ((refine sx_guardb F rfl (fun hg => ?_) (fun hg => ?_)) <;> (rw [hg] at F; (try (exact no hg))))) | (first | (refine pv1 (h := ?_) (hr := by fail)) | (refine pv1 (h := ?_)) | (refine pv3 (h := ?_)) | (refine pv2 (h := ?_); intro b) | (refine pvC (h := ?_); ((refine acCall (k := 53) ?_); (refine Spec.of_reads rmax1_reads rfl ?_)); (refine ⟨?_, ?_⟩; (exact rvsA))) | (refine pvC0 (h := ?_); ((refine acCall (k := 53) ?_); (refine Spec.of_reads rmax1_reads rfl ?_)); (refine ⟨?_, ?_⟩; (exact rvsA))) | (refine pv1 (h := ?_) (hr := by fail)) | (refine pvF (h := ?_); intro b) | (refine pvK (h := ?_)) | (refine pvK0 (h := ?_)) | (refine pv_nil ?_; intro a w F M; refine ql_open ?_) | (refine pv_nil ?_; intro a w F M; (try (replace F := F.filt [0, 2, 3, 4, 5, 6, 19, 23, 35, 46] rfl)))) | ((fail_if_success (with_reducible show wpList _ _ _ _ _ _)); (fail_if_success (with_reducible show PW _ _ _ _ _ _ _ _ _ _)); (fail_if_success (with_reducible show Code.wp _ (Code.loop _) _ _ _)); (first | ((with_reducible show Code.wp _ (Code.region _ _ false) _ _ _); (refine sx_region ?_)) | ((with_reducible show Code.wp _ (Code.cond _ _ _) _ _ _); (first | (refine svT F (h := ?_)) | (refine svF F (h := ?_)) | ((refine svB F (fun hc => ?_) (fun hc => ?_)) <;> (try (exact no hc))))) | ((with_reducible show Code.wp _ (Code.region _ _ true) _ _ _); fail) | go_step))))
    (all_goals ((first | (refine svEnd F M ?_) | (refine svRet F M ?_)); refine ⟨?_, M.perms permsA⟩))
    all_goals rfl
  rw [pU_go (by omega) hc hz]
  have hz' : ¬ (1 < (s.length : Int)) ∨ ¬ ((c.toNat : Int) = 48) := by omega
  rcases hz' with hz' | hz'
  all_goals (repeat' (first | (first | (refine sx_nil ?_; (try (replace F := F.filt [0, 2, 3, 4, 5, 6, 19, 23, 35, 46] rfl))) | (refine sv1 F M (h := ?_) (hr := by fail); clear F a; intro a F) | (refine sv1 F M (h := ?_); clear F a; intro a F) | (refine sv3 F M (h := ?_); clear M; intro w M) | (refine sv2 F M (h := ?_); clear F M a; intro b a w F M) | (refine svC F M (h := ?_); ((refine acCall (k := 53) ?_); (refine Spec.of_reads rmax1_reads rfl ?_)); (clear F M a; intro a w F M)) | (refine svC0 F M (h := ?_); ((refine acCall (k := 53) ?_); (refine Spec.of_reads rmax1_reads rfl ?_)); (clear M; intro w M)) | (refine sv1 F M (h := ?_) (hr := by fail); clear F a; intro a F) | (refine svK F (h := ?_); clear F a; intro a F) | (refine svK0 F (h := ?_)) | ((refine sx_guardb F rfl (fun hg => ?_) (fun hg => ?_)) <;> (rw [hg] at F; (try (exact no hg))))) | (first | (refine pv1 (h := ?_) (hr := by fail)) | (refine pv1 (h := ?_)) | (refine pv3 (h := ?_)) | (refine pv2 (h := ?_); intro b) | (refine pvC (h := ?_); ((refine acCall (k := 53) ?_); (refine Spec.of_reads rmax1_reads rfl ?_)); (refine ⟨?_, ?_⟩; (exact rvsA))) | (refine pvC0 (h := ?_); ((refine acCall (k := 53) ?_); (refine Spec.of_reads rmax1_reads rfl ?_)); (refine ⟨?_, ?_⟩; (exact rvsA))) | (refine pv1 (h := ?_) (hr := by fail)) | (refine pvF (h := ?_); intro b) | (refine pvK (h := ?_)) | (refine pvK0 (h := ?_)) | (refine pv_nil ?_; intro a w F M; refine ql_open ?_) | (refine pv_nil ?_; intro a w F M; (try (replace F := F.filt [0, 2, 3, 4, 5, 6, 19, 23, 35, 46] rfl)))) | ((fail_if_success (with_reducible show wpList _ _ _ _ _ _)); (fail_if_success (with_reducible show PW _ _ _ _ _ _ _ _ _ _)); (fail_if_success (with_reducible show Code.wp _ (Code.loop _) _ _ _)); (first | ((with_reducible show Code.wp _ (Code.region _ _ false) _ _ _); (refine sx_region ?_)) | ((with_reducible show Code.wp _ (Code.cond _ _ _) _ _ _); (first | (refine svT F (h := ?_)) | (refine svF F (h := ?_)) | ((refine svB F (fun hc => ?_) (fun hc => ?_)) <;> (try (exact no hc))))) | ((with_reducible show Code.wp _ (Code.region _ _ true) _ _ _); fail) | go_step))))
  all_goals
    refine svLoop F M ((0, 0) : Nat × Nat) (fun s => [(4, .int .u64 s.2), (5, .int .i64 s.1)]) (fun s => []) (fun q => q.1 ≤ s.length ∧ q.2 < 18446744073709551616 ∧ pGo 0 s = pGo q.2 (s.drop q.1)) (fun q => s.length - q.1) [] (by simp) ?_
    (rintro ⟨k, v⟩ ⟨q1, q2, q3⟩ a w F M; (try simp only [List.cons_append, List.nil_append] at F M q3 ⊢))
    try simp only at q1 q2 q3 F M ⊢
    by_cases hlt : k < s.length
    · obtain ⟨d, hd⟩ : ∃ d, s[k]? = some d := ⟨s[k], by simp [hlt]⟩
      have hdd : s.drop k = d :: s.drop (k + 1) := by
        have := List.getElem?_eq_some_iff.1 hd
        rw [← this.2]; exact List.drop_eq_getElem_cons hlt
      rw [hdd, pGo_cons] at q3
      have hd' : s[(k : Int).toNat]? = some d := hd
      have hdn : d.toNat < 256 := d.toNat_lt
      clear hc hc0 hcn hz hz' hdd
      have hdI : 48 ≤ d.toNat → IntKind.u8.wrap ((d.toNat : Int) - 48) = ((d.toNat - 48 : Nat) : Int) := fun h => by rw [IntKind.wrap_u8]; omega
      have hD9 : d.toNat - 48 < 256 := by omega
      generalize hD : d.toNat - 48 = D at *
      have w2 : IntKind.u64.wrap (D : Int) = D := u64_in (by omega) (by omega)
      have w3 : IntKind.u64.wrap (18446744073709551615 - (D : Int)) = 18446744073709551615 - D := u64_in (by omega) (by omega)
      by_cases hdig : 48 ≤ d.toNat ∧ d.toNat ≤ 57
      · rw [if_pos hdig] at q3
        obtain ⟨hd1, hd2⟩ := hdig
        have w1 := hdI hd1
        by_cases hov : (18446744073709551615 - D) / 10 < v
        · rw [if_pos hov] at q3
          (repeat' (first | (first | (refine sx_nil ?_; (try (replace F := F.filt [0, 2, 3, 4, 5, 6, 19, 23, 35, 46] rfl))) | (refine sv1 F M (h := ?_) (hr := by (first | (apply rt_arithE; (exact rfl); (exact rfl); (exact rfl); (exact rfl); (exact w1)) | (apply rt_conv; (exact rfl); (exact rfl); (exact inferInstance); (exact inferInstance); (exact w2)) | (apply rt_arithE; (exact rfl); (exact rfl); (exact rfl); (exact rfl); (exact w3)))); clear F a; intro a F) | (refine sv1 F M (h := ?_); clear F a; intro a F) | (refine sv3 F M (h := ?_); clear M; intro w M) | (refine sv2 F M (h := ?_); clear F M a; intro b a w F M) | (refine svC F M (h := ?_); ((refine acCall (k := 53) ?_); (refine Spec.of_reads rmax1_reads rfl ?_)); (clear F M a; intro a w F M)) | (refine svC0 F M (h := ?_); ((refine acCall (k := 53) ?_); (refine Spec.of_reads rmax1_reads rfl ?_)); (clear M; intro w M)) | (refine sv1 F M (h := ?_) (hr := by fail); clear F a; intro a F) | (refine svK F (h := ?_); clear F a; intro a F) | (refine svK0 F (h := ?_)) | ((refine sx_guardb F rfl (fun hg => ?_) (fun hg => ?_)) <;> (rw [hg] at F; (try (exact no hg))))) | (first | (refine pv1 (h := ?_) (hr := by (first | (apply rt_arithE; (exact rfl); (exact rfl); (exact rfl); (exact rfl); (exact w1)) | (apply rt_conv; (exact rfl); (exact rfl); (exact inferInstance); (exact inferInstance); (exact w2)) | (apply rt_arithE; (exact rfl); (exact rfl); (exact rfl); (exact rfl); (exact w3))))) | (refine pv1 (h := ?_)) | (refine pv3 (h := ?_)) | (refine pv2 (h := ?_); intro b) | (refine pvC (h := ?_); ((refine acCall (k := 53) ?_); (refine Spec.of_reads rmax1_reads rfl ?_)); (refine ⟨?_, ?_⟩; (exact rvsA))) | (refine pvC0 (h := ?_); ((refine acCall (k := 53) ?_); (refine Spec.of_reads rmax1_reads rfl ?_)); (refine ⟨?_, ?_⟩; (exact rvsA))) | (refine pv1 (h := ?_) (hr := by fail)) | (refine pvF (h := ?_); intro b) | (refine pvK (h := ?_)) | (refine pvK0 (h := ?_)) | (refine pv_nil ?_; intro a w F M; refine ql_open ?_) | (refine pv_nil ?_; intro a w F M; (try (replace F := F.filt [0, 2, 3, 4, 5, 6, 19, 23, 35, 46] rfl)))) | ((fail_if_success (with_reducible show wpList _ _ _ _ _ _)); (fail_if_success (with_reducible show PW _ _ _ _ _ _ _ _ _ _)); (fail_if_success (with_reducible show Code.wp _ (Code.loop _) _ _ _)); (first | ((with_reducible show Code.wp _ (Code.region _ _ false) _ _ _); (refine sx_region ?_)) | ((with_reducible show Code.wp _ (Code.cond _ _ _) _ _ _); (first | (refine svT F (h := ?_)) | (refine svF F (h := ?_)) | ((refine svB F (fun hc => ?_) (fun hc => ?_)) <;> (try (exact no hc))))) | ((with_reducible show Code.wp _ (Code.region _ _ true) _ _ _); fail) | go_step))))
          (all_goals ((first | (refine svEnd F M ?_) | (refine svRet F M ?_)); refine ⟨?_, M.perms permsA⟩))
          all_goals (rw [q3]; rfl)
        · rw [if_neg hov] at q3
          (repeat' (first | (first | (refine sx_nil ?_; (try (replace F := F.filt [0, 2, 3, 4, 5, 6, 19, 23, 35, 46] rfl))) | (refine sv1 F M (h := ?_) (hr := by (first | (apply rt_arithE; (exact rfl); (exact rfl); (exact rfl); (exact rfl); (exact w1)) | (apply rt_conv; (exact rfl); (exact rfl); (exact inferInstance); (exact inferInstance); (exact w2)) | (apply rt_arithE; (exact rfl); (exact rfl); (exact rfl); (exact rfl); (exact w3)))); clear F a; intro a F) | (refine sv1 F M (h := ?_); clear F a; intro a F) | (refine sv3 F M (h := ?_); clear M; intro w M) | (refine sv2 F M (h := ?_); clear F M a; intro b a w F M) | (refine svC F M (h := ?_); ((refine acCall (k := 53) ?_); (refine Spec.of_reads rmax1_reads rfl ?_)); (clear F M a; intro a w F M)) | (refine svC0 F M (h := ?_); ((refine acCall (k := 53) ?_); (refine Spec.of_reads rmax1_reads rfl ?_)); (clear M; intro w M)) | (refine sv1 F M (h := ?_) (hr := by fail); clear F a; intro a F) | (refine svK F (h := ?_); clear F a; intro a F) | (refine svK0 F (h := ?_)) | ((refine sx_guardb F rfl (fun hg => ?_) (fun hg => ?_)) <;> (rw [hg] at F; (try (exact no hg))))) | (first | (refine pv1 (h := ?_) (hr := by (first | (apply rt_arithE; (exact rfl); (exact rfl); (exact rfl); (exact rfl); (exact w1)) | (apply rt_conv; (exact rfl); (exact rfl); (exact inferInstance); (exact inferInstance); (exact w2)) | (apply rt_arithE; (exact rfl); (exact rfl); (exact rfl); (exact rfl); (exact w3))))) | (refine pv1 (h := ?_)) | (refine pv3 (h := ?_)) | (refine pv2 (h := ?_); intro b) | (refine pvC (h := ?_); ((refine acCall (k := 53) ?_); (refine Spec.of_reads rmax1_reads rfl ?_)); (refine ⟨?_, ?_⟩; (exact rvsA))) | (refine pvC0 (h := ?_); ((refine acCall (k := 53) ?_); (refine Spec.of_reads rmax1_reads rfl ?_)); (refine ⟨?_, ?_⟩; (exact rvsA))) | (refine pv1 (h := ?_) (hr := by fail)) | (refine pvF (h := ?_); intro b) | (refine pvK (h := ?_)) | (refine pvK0 (h := ?_)) | (refine pv_nil ?_; intro a w F M; refine ql_open ?_) | (refine pv_nil ?_; intro a w F M; (try (replace F := F.filt [0, 2, 3, 4, 5, 6, 19, 23, 35, 46] rfl)))) | ((fail_if_success (with_reducible show wpList _ _ _ _ _ _)); (fail_if_success (with_reducible show PW _ _ _ _ _ _ _ _ _ _)); (fail_if_success (with_reducible show Code.wp _ (Code.loop _) _ _ _)); (first | ((with_reducible show Code.wp _ (Code.region _ _ false) _ _ _); (refine sx_region ?_)) | ((with_reducible show Code.wp _ (Code.cond _ _ _) _ _ _); (first | (refine svT F (h := ?_)) | (refine svF F (h := ?_)) | ((refine svB F (fun hc => ?_) (fun hc => ?_)) <;> (try (exact no hc))))) | ((with_reducible show Code.wp _ (Code.region _ _ true) _ _ _); fail) | go_step))))
          have e1 : IntKind.u64.wrap (IntKind.u64.wrap (10 * (v : Int)) + D) = ((10 * v + D : Nat) : Int) := by rw [IntKind.wrap_u64, IntKind.wrap_u64]; omega
          rw [e1] at F
          (refine sv_again F M (k + 1, 10 * v + D) kpA permsA ?_ ?_)
          · exact ⟨by omega, by omega, q3⟩
          · simp only; omega
      · rw [if_neg hdig] at q3
        have hdg : d.toNat < 48 ∨ 57 < d.toNat := by omega
        clear hdI w2 w3 hdig
        rcases hdg with hdg | hdg
        all_goals (repeat' (first | (first | (refine sx_nil ?_; (try (replace F := F.filt [0, 2, 3, 4, 5, 6, 19, 23, 35, 46] rfl))) | (refine sv1 F M (h := ?_) (hr := by fail); clear F a; intro a F) | (refine sv1 F M (h := ?_); clear F a; intro a F) | (refine sv3 F M (h := ?_); clear M; intro w M) | (refine sv2 F M (h := ?_); clear F M a; intro b a w F M) | (refine svC F M (h := ?_); ((refine acCall (k := 53) ?_); (refine Spec.of_reads rmax1_reads rfl ?_)); (clear F M a; intro a w F M)) | (refine svC0 F M (h := ?_); ((refine acCall (k := 53) ?_); (refine Spec.of_reads rmax1_reads rfl ?_)); (clear M; intro w M)) | (refine sv1 F M (h := ?_) (hr := by fail); clear F a; intro a F) | (refine svK F (h := ?_); clear F a; intro a F) | (refine svK0 F (h := ?_)) | ((refine sx_guardb F rfl (fun hg => ?_) (fun hg => ?_)) <;> (rw [hg] at F; (try (exact no hg))))) | (first | (refine pv1 (h := ?_) (hr := by fail)) | (refine pv1 (h := ?_)) | (refine pv3 (h := ?_)) | (refine pv2 (h := ?_); intro b) | (refine pvC (h := ?_); ((refine acCall (k := 53) ?_); (refine Spec.of_reads rmax1_reads rfl ?_)); (refine ⟨?_, ?_⟩; (exact rvsA))) | (refine pvC0 (h := ?_); ((refine acCall (k := 53) ?_); (refine Spec.of_reads rmax1_reads rfl ?_)); (refine ⟨?_, ?_⟩; (exact rvsA))) | (refine pv1 (h := ?_) (hr := by fail)) | (refine pvF (h := ?_); intro b) | (refine pvK (h := ?_)) | (refine pvK0 (h := ?_)) | (refine pv_nil ?_; intro a w F M; refine ql_open ?_) | (refine pv_nil ?_; intro a w F M; (try (replace F := F.filt [0, 2, 3, 4, 5, 6, 19, 23, 35, 46] rfl)))) | ((fail_if_success (with_reducible show wpList _ _ _ _ _ _)); (fail_if_success (with_reducible show PW _ _ _ _ _ _ _ _ _ _)); (fail_if_success (with_reducible show Code.wp _ (Code.loop _) _ _ _)); (first | ((with_reducible show Code.wp _ (Code.region _ _ false) _ _ _); (refine sx_region ?_)) | ((with_reducible show Code.wp _ (Code.cond _ _ _) _ _ _); (first | (refine svT F (h := ?_)) | (refine svF F (h := ?_)) | ((refine svB F (fun hc => ?_) (fun hc => ?_)) <;> (try (exact no hc))))) | ((with_reducible show Code.wp _ (Code.region _ _ true) _ _ _); fail) | go_step))))
        (all_goals ((first | (refine svEnd F M ?_) | (refine svRet F M ?_)); refine ⟨?_, M.perms permsA⟩))
        all_goals (rw [q3]; rfl)
    · rw [List.drop_of_length_le (by omega)] at q3
      (repeat' (first | (first | (refine sx_nil ?_; (try (replace F := F.filt [0, 2, 3, 4, 5, 6, 19, 23, 35, 46] rfl))) | (refine sv1 F M (h := ?_) (hr := by fail); clear F a; intro a F) | (refine sv1 F M (h := ?_); clear F a; intro a F) | (refine sv3 F M (h := ?_); clear M; intro w M) | (refine sv2 F M (h := ?_); clear F M a; intro b a w F M) | (refine svC F M (h := ?_); ((refine acCall (k := 53) ?_); (refine Spec.of_reads rmax1_reads rfl ?_)); (clear F M a; intro a w F M)) | (refine svC0 F M (h := ?_); ((refine acCall (k := 53) ?_); (refine Spec.of_reads rmax1_reads rfl ?_)); (clear M; intro w M)) | (refine sv1 F M (h := ?_) (hr := by fail); clear F a; intro a F) | (refine svK F (h := ?_); clear F a; intro a F) | (refine svK0 F (h := ?_)) | ((refine sx_guardb F rfl (fun hg => ?_) (fun hg => ?_)) <;> (rw [hg] at F; (try (exact no hg))))) | (first | (refine pv1 (h := ?_) (hr := by fail)) | (refine pv1 (h := ?_)) | (refine pv3 (h := ?_)) | (refine pv2 (h := ?_); intro b) | (refine pvC (h := ?_); ((refine acCall (k := 53) ?_); (refine Spec.of_reads rmax1_reads rfl ?_)); (refine ⟨?_, ?_⟩; (exact rvsA))) | (refine pvC0 (h := ?_); ((refine acCall (k := 53) ?_); (refine Spec.of_reads rmax1_reads rfl ?_)); (refine ⟨?_, ?_⟩; (exact rvsA))) | (refine pv1 (h := ?_) (hr := by fail)) | (refine pvF (h := ?_); intro b) | (refine pvK (h := ?_)) | (refine pvK0 (h := ?_)) | (refine pv_nil ?_; intro a w F M; refine ql_open ?_) | (refine pv_nil ?_; intro a w F M; (try (replace F := F.filt [0, 2, 3, 4, 5, 6, 19, 23, 35, 46] rfl)))) | ((fail_if_success (with_reducible show wpList _ _ _ _ _ _)); (fail_if_success (with_reducible show PW _ _ _ _ _ _ _ _ _ _)); (fail_if_success (with_reducible show Code.wp _ (Code.loop _) _ _ _)); (first | ((with_reducible show Code.wp _ (Code.region _ _ false) _ _ _); (refine sx_region ?_)) | ((with_reducible show Code.wp _ (Code.cond _ _ _) _ _ _); (first | (refine svT F (h := ?_)) | (refine svF F (h := ?_)) | ((refine svB F (fun hc => ?_) (fun hc => ?_)) <;> (try (exact no hc))))) | ((with_reducible show Code.wp _ (Code.region _ _ true) _ _ _); fail) | go_step))))
      (all_goals ((first | (refine svEnd F M ?_) | (refine svRet F M ?_)); refine ⟨?_, M.perms permsA⟩))
      all_goals (rw [q3]; rfl)
end Go.Proofs.YtaggjikjohamjaaDoor
end
section
namespace Go.Proofs.YtaggjikjohamjaaDoor
open Go.RowKit Go.Maps
set_option linter.unusedVariables false
set_option maxRecDepth 100000
set_option linter.unusedSimpArgs false
set_option maxHeartbeats 8000000
/-! ### Split -/
theorem splitK_eq (c : UInt8) : ∀ (s : List UInt8) (k : Nat), s.count c ≤ k → Lib.splitK [c] 0 k s = splitB c s
  | [], k, _ => by
    cases k with
    | zero => rfl
    | succ k => rfl
  | x :: r, k, h => by
    by_cases hx : x = c
    · subst hx
      rw [List.count_cons_self] at h
      obtain ⟨k, rfl⟩ : ∃ m, k = m + 1 := ⟨k - 1, by omega⟩
      have hi : Lib.index (x :: r) [x] = 0 := by simp [Lib.index, List.isPrefixOf]
      rw [Lib.splitK, hi, splitB, if_pos rfl, if_neg (by decide)]
      simp only [Int.toNat_zero, Nat.zero_add, List.take_zero, List.length_cons, List.length_nil, List.drop_one, List.tail_cons]
      rw [splitK_eq x r k (by omega)]
    · rw [List.count_cons_of_ne hx] at h
      have ih := splitK_eq c r k h
      obtain ⟨hd, t, e⟩ := splitB_ne c r
      rw [splitB, if_neg hx, e]
      simp only
      rw [e] at ih
      cases k with
      | zero =>
        rw [Lib.splitK] at ih ⊢
        injection ih with i1 i2
        rw [← i1, ← i2]
      | succ k =>
        have hp : ¬ (([c] : List UInt8).isPrefixOf (x :: r)) = true := by simp [List.isPrefixOf]; exact fun h => hx h.symm
        by_cases hm : Lib.index r [c] = -1
        · have hi : Lib.index (x :: r) [c] = -1 := by rw [Lib.index, if_neg hp, if_pos (by rw [hm]; rfl)]
          rw [Lib.splitK, hm, if_pos (by decide)] at ih
          rw [Lib.splitK, hi, if_pos (by decide)]
          injection ih with i1 i2
          rw [← i1, ← i2]
        · have hge := Lib.index_ge r [c]
          obtain ⟨i, hi0⟩ : ∃ i : Nat, Lib.index r [c] = i := ⟨(Lib.index r [c]).toNat, by omega⟩
          have hb : ¬ (((i : Int) == -1) = true) := by rw [beq_iff_eq]; omega
          have hi : Lib.index (x :: r) [c] = ((i + 1 : Nat) : Int) := by rw [Lib.index, if_neg hp, hi0, if_neg hb]; omega
          have hb2 : ¬ (((((i + 1 : Nat) : Int)) == -1) = true) := by rw [beq_iff_eq]; omega
          rw [Lib.splitK, hi0, if_neg hb] at ih
          rw [Lib.splitK, hi, if_neg hb2]
          simp only [Int.toNat_natCast, Nat.add_zero] at ih ⊢
          injection ih with i1 i2
          rw [← i1, ← i2]
          rfl
theorem lib_split (s : List UInt8) (c : UInt8) : Lib.splitB ⟨#[c]⟩ 0 (Lib.countB ⟨s.toArray⟩ ⟨#[c]⟩) ⟨s.toArray⟩ = (splitB c s).map fun l => ⟨l.toArray⟩ := by
  have h := Lib.splitB_data ⟨#[c]⟩ 0 (Lib.countB ⟨s.toArray⟩ ⟨#[c]⟩) ⟨s.toArray⟩
  have hc : Lib.countB ⟨s.toArray⟩ ⟨#[c]⟩ = s.count c := Lib.count_one c s
  have h : _ = Lib.splitK [c] 0 (Lib.countB ⟨s.toArray⟩ ⟨#[c]⟩) s := h
  rw [hc, splitK_eq c s _ (Nat.le_refl _)] at h
  rw [hc]
  have key : ∀ (a : List ByteArray) (b : List (List UInt8)), a.map (·.data.toList) = b → a = b.map fun l => ⟨l.toArray⟩ := by
    rintro a b rfl
    rw [List.map_map]
    conv => lhs; rw [← List.map_id a]
    refine List.map_congr_left fun x _ => ?_
    show x = ⟨x.data.toList.toArray⟩
    cases x; simp
  exact key _ _ h
/-- What a variable of the library holds. -/
def MxL (w : World) : Prop := ∃ m, w.cell? ⟨0, 0, none⟩ = some (.int .i64 m)
theorem MxL.below {w w' : World} (h : MxL w) (hb : Below w.heap.size w w') : MxL w' := by
  obtain ⟨m, h⟩ := h
  exact ⟨m, cell_below h hb⟩
theorem Old.mxl {w0 : World} (h : MxL w0) {L L' : List Asn} (hp : Pull L (Old w0) L') : Gives L MxL := fun w M => h.below (M.below hp)
theorem strL_cells (xs : List (List UInt8)) : (xs.map fun l => Value.string ⟨l.toArray⟩) = xs.flatMap strL := by
  induction xs with
  | nil => rfl
  | cons x r ih => rw [List.map_cons, List.flatMap_cons, ih]; rfl
theorem split_spec (s : List UInt8) (c : UInt8) (hs : s.length ≤ 1000000) (R : List Asn) (hm : Gives R MxL) : Spec 27 [str s, str [c]] R fun u L' => ∃ h, u = sl h ∧ L' = ownT 9 strL 1 (sl h) (splitB c s) :: R := fun G w M => by
  obtain ⟨m, hm⟩ := hm w M.drop_app
  have hsz : (ByteArray.mk s.toArray).size = s.length := by show s.toArray.size = _; simp
  have := Tryd.strings_Split ⟨s.toArray⟩ ⟨#[c]⟩ m w (by rw [hsz]; omega) hm (Nat.le_refl 1)
  have hc : Lib.countB ⟨s.toArray⟩ ⟨#[c]⟩ = s.count c := Lib.count_one c s
  have hle := List.count_le_length (a := c) (l := s)
  rw [lib_split, hc] at this
  refine this.mono ?_
  rintro e w' ⟨rfl, rfl⟩
  have hl := splitB_len c s
  refine ⟨_, _, rfl, ⟨⟨some ⟨w.heap.size, 0, none⟩, s.count c + 1, s.count c + 1⟩, rfl, rfl⟩, ?_⟩
  have hcl : ((splitB c s).flatMap strL).length = (s.count c + 1) * 1 := by rw [flat_len (f := strL) (k := 1) (fun _ => rfl), hl]
  have e1 : (((splitB c s).map fun l => (⟨l.toArray⟩ : ByteArray)).map Value.string).toArray = ((splitB c s).flatMap strL).toArray := by
    rw [List.map_map, ← strL_cells]; rfl
  rw [e1, ownT, hl]
  refine M.new ⟨rfl, rfl, rfl, by simp, fun k hk _ => (((Below.refl _ _).alloc (Nat.le_refl _) _).block k hk)⟩ ⟨[w.heap.size], ok_own hcl (World.alloc_heap_new w _) (Nat.le_refl _) (by simp only [maxLen]; omega) (by simp [hcl]) ?_, by simp⟩
  rw [List.toList_toArray, List.take_of_length_le (Nat.le_of_eq hcl)]
theorem scount_spec (s : List UInt8) (c : UInt8) (R : List Asn) : Spec 17 [str s, str [c]] R fun u L' => u = .int .i64 (s.count c : Nat) ∧ L' = R := fun G w M => by
  refine (Tryd.strings_Count_one ⟨s.toArray⟩ c w).mono ?_
  rintro e w' ⟨rfl, rfl⟩
  exact ⟨_, _, rfl, ⟨rfl, rfl⟩, M⟩
theorem join_eq (c : UInt8) (xs : List (List UInt8)) : Lib.join xs [c] = joinB c xs := by
  cases xs with
  | nil => rfl
  | cons h t =>
    rw [Lib.join_cons, joinB, Lib.joinTail]
    congr 1
theorem join_spec (h : SlH) (xs : List (List UInt8)) (hx : xs ≠ []) (c : UInt8) (R : List Asn) (hl : (joinB c xs).length ≤ 1000000) (hn : xs.length ≤ 1000) : Spec 26 [sl h, str [c]] (ownT 9 strL 1 (sl h) xs :: R) fun u L' => u = str (joinB c xs) ∧ L' = ownT 9 strL 1 (sl h) xs :: R := fun G w M => by
  obtain ⟨h1, h2, _, _⟩ := own_h M
  obtain ⟨s, ⟨_, ⟨h3, _⟩ | ⟨g, cap, cur, h3, _, hg, hm, hcm, hcs, ht⟩⟩, _⟩ := M.head
  · obtain ⟨a, n, cc⟩ := h
    simp only [sl, Value.slice.injEq] at h3 h1
    have : xs.length = 0 := by omega
    exact absurd (List.eq_nil_of_length_eq_zero this) hx
  · obtain ⟨a, n, cc⟩ := h
    simp only [sl, Value.slice.injEq] at h3
    obtain ⟨rfl, rfl, rfl⟩ := h3
    have hfl : (xs.flatMap strL).length = xs.length := by rw [flat_len (f := strL) (k := 1) (fun _ => rfl)]; omega
    have hbk : g < w.heap.size := (Array.getElem?_eq_some_iff.1 hg).1
    have hcell : ∀ (j : Nat) (x : ByteArray), (xs.map fun l => (⟨l.toArray⟩ : ByteArray))[j]? = some x → w.cell? ⟨g, 0 + j, none⟩ = some (.string x) := fun j x hj => by
      rw [List.getElem?_map] at hj
      cases hxj : xs[j]? with
      | none => rw [hxj] at hj; cases hj
      | some l =>
        rw [hxj] at hj
        have hj := Option.some.inj hj
        subst hj
        have hlt : j < xs.length := (List.getElem?_eq_some_iff.1 hxj).1
        have e1 : (xs.flatMap strL)[j]? = some (.string ⟨l.toArray⟩) := by
          rw [← strL_cells, List.getElem?_map, hxj]; rfl
        have e2 : cur[j]? = some (.string ⟨l.toArray⟩) := by
          rw [← ht, List.getElem?_take] at e1
          split at e1
          · simpa using e1
          · cases e1
        rw [Nat.zero_add]
        simp [World.cell?, hg, e2]
    have hbl : (xs.map fun l => (⟨l.toArray⟩ : ByteArray)).map (·.data.toList) = xs := by
      rw [List.map_map]
      conv => rhs; rw [← List.map_id xs]
      exact List.map_congr_left fun x _ => rfl
    have hlen : (xs.map fun l => (⟨l.toArray⟩ : ByteArray)).length = xs.length := List.length_map ..
    have hL : Lib.join ((xs.map fun l => (⟨l.toArray⟩ : ByteArray)).map (·.data.toList)) (ByteArray.mk #[c]).data.toList = joinB c xs := by
      rw [hbl]; exact join_eq c xs
    obtain ⟨X, hX⟩ : ∃ X : List ByteArray, X = xs.map fun l => ⟨l.toArray⟩ := ⟨_, rfl⟩
    rw [← hX] at hL hcell hlen
    have := Tryd.strings_Join g 0 cc X ⟨#[c]⟩ w hcell hbk (Nat.le_trans (Nat.le_of_eq hlen) (by omega)) (Nat.le_trans (Nat.le_of_eq hlen) hm) (by rw [hL]; omega)
    rw [hL, hlen] at this
    refine this.mono ?_
    rintro e w' ⟨rfl, hb⟩
    exact ⟨_, _, rfl, ⟨rfl, rfl⟩, M.of_below hb⟩
end Go.Proofs.YtaggjikjohamjaaDoor
end
section
namespace Go.Proofs.YtaggjikjohamjaaDoor
open Go.RowKit Go.Maps
set_option linter.unusedVariables false
set_option maxRecDepth 100000
set_option linter.unusedSimpArgs false
set_option maxHeartbeats 8000000
def ixFrom (s : List UInt8) : Int → List (List UInt8) → Int
  | _, [] => -1
  | i, x :: r => if s = x then i else ixFrom s (i + 1) r
theorem sindex_spec (v : Value) (xs : List (List UInt8)) (s : List UInt8) (R : List Asn) (hg : GS R 1 v xs.length (xs.flatMap strL)) : Spec 51 [v, str s] R fun u L' => u = .int .i64 (ixFrom s 0 xs) ∧ L' = R := by
  generalize hX : ixFrom s 0 xs = X
  (intro G w M; refine sx_enter (vs := ([v, str s] : List Value)) Tryd.func51 (n := 19) rfl rfl rfl rfl ?_; intro a F; (try simp only [List.cons_append, List.nil_append] at M))
  have gg : GS (R ++ G) 1 v xs.length (xs.flatMap strL) := Gives.app hg
  have hlv := gg.len_le M
  (repeat' (first | (refine sx_nil ?_; (try (replace F := F.filt [0, 1, 4, 5, 7, 8, 9, 16] rfl))) | (refine sv1 F M (h := ?_); clear F a; intro a F) | refine pv1 (h := ?_) | (refine sv3 F M (h := ?_); clear M; intro w M) | (refine sv2 F M (h := ?_); clear F M a; intro nb a w F M) | refine pv3 (h := ?_) | (refine pv2 (h := ?_); intro nb) | ((first | refine svC F M (h := ?_) | refine svC0 F M (h := ?_) | refine pvC (h := ?_) | refine pvC0 (h := ?_)); (fail); (first | refine ⟨rvsA, ?_⟩ | (clear F M a; intro a w F M) | (clear M; intro w M))) | (refine svK F (h := ?_); clear F a; intro a F) | refine svK0 F (h := ?_) | ((refine sx_guardb F rfl (fun hg => ?_) (fun hg => ?_)) <;> (rw [hg] at F; (try (exact no hg)))) | (refine pvF (h := ?_); intro nb) | refine pvK (h := ?_) | refine pvK0 (h := ?_) | (refine pv_nil ?_; intro a w F M; (try (replace F := F.filt [0, 1, 4, 5, 7, 8, 9, 16] rfl))) | ((fail_if_success (with_reducible first | refine isW ?_ | refine isP ?_ | refine isL ?_)); (first | with_reducible refine sx_region ?_ | ((with_reducible refine isK ?_); (first | refine svT F (h := ?_) | refine svF F (h := ?_) | ((refine svB F (fun hc => ?_) (fun hc => ?_)) <;> (try (exact no hc))))) | ((with_reducible refine isD ?_); fail) | with_reducible refine wp_scope_straight ?_ | with_reducible refine wp_label ?_ | go_step))))
  refine svLoop F M (0 : Nat) (fun k => [(8, .int .i64 k)]) (fun _ => []) (fun k => k ≤ xs.length ∧ ixFrom s k (xs.drop k) = X) (fun k => xs.length - k) [5] ⟨Nat.zero_le _, by simpa using hX⟩ ?_
  (rintro k ⟨q1, q2⟩ a w F M; (try simp only [List.cons_append, List.nil_append] at F M q1 q2 ⊢))
  by_cases hlt : k < xs.length
  · obtain ⟨x, hx⟩ : ∃ x, xs[k]? = some x := ⟨xs[k], by simp [hlt]⟩
    rw [drop_cons hx, ixFrom] at q2
    by_cases hsx : s = x
    · rw [if_pos hsx] at q2
      subst q2
      (repeat' (first | (refine sx_nil ?_; (try (replace F := F.filt [0, 1, 4, 5, 7, 8, 9, 16] rfl))) | (refine sv1 F M (h := ?_); clear F a; intro a F) | refine pv1 (h := ?_) | (refine sv3 F M (h := ?_); clear M; intro w M) | (refine sv2 F M (h := ?_); clear F M a; intro nb a w F M) | refine pv3 (h := ?_) | (refine pv2 (h := ?_); intro nb) | ((first | refine svC F M (h := ?_) | refine svC0 F M (h := ?_) | refine pvC (h := ?_) | refine pvC0 (h := ?_)); (fail); (first | refine ⟨rvsA, ?_⟩ | (clear F M a; intro a w F M) | (clear M; intro w M))) | (refine svK F (h := ?_); clear F a; intro a F) | refine svK0 F (h := ?_) | ((refine sx_guardb F rfl (fun hg => ?_) (fun hg => ?_)) <;> (rw [hg] at F; (try (exact no hg)))) | (refine pvF (h := ?_); intro nb) | refine pvK (h := ?_) | refine pvK0 (h := ?_) | (refine pv_nil ?_; intro a w F M; (try (replace F := F.filt [0, 1, 4, 5, 7, 8, 9, 16] rfl))) | ((fail_if_success (with_reducible first | refine isW ?_ | refine isP ?_ | refine isL ?_)); (first | with_reducible refine sx_region ?_ | ((with_reducible refine isK ?_); (first | refine svT F (h := ?_) | refine svF F (h := ?_) | ((refine svB F (fun hc => ?_) (fun hc => ?_)) <;> (try (exact no hc))))) | ((with_reducible refine isD ?_); fail) | with_reducible refine wp_scope_straight ?_ | with_reducible refine wp_label ?_ | go_step))))
      all_goals (first | refine svEnd F M ?_ | refine svRet F M ?_)
      all_goals exact ⟨_, _, rfl, ⟨rfl, rfl⟩, M.perms permsA⟩
    · rw [if_neg hsx] at q2
      (repeat' (first | (refine sx_nil ?_; (try (replace F := F.filt [0, 1, 4, 5, 7, 8, 9, 16] rfl))) | (refine sv1 F M (h := ?_); clear F a; intro a F) | refine pv1 (h := ?_) | (refine sv3 F M (h := ?_); clear M; intro w M) | (refine sv2 F M (h := ?_); clear F M a; intro nb a w F M) | refine pv3 (h := ?_) | (refine pv2 (h := ?_); intro nb) | ((first | refine svC F M (h := ?_) | refine svC0 F M (h := ?_) | refine pvC (h := ?_) | refine pvC0 (h := ?_)); (fail); (first | refine ⟨rvsA, ?_⟩ | (clear F M a; intro a w F M) | (clear M; intro w M))) | (refine svK F (h := ?_); clear F a; intro a F) | refine svK0 F (h := ?_) | ((refine sx_guardb F rfl (fun hg => ?_) (fun hg => ?_)) <;> (rw [hg] at F; (try (exact no hg)))) | (refine pvF (h := ?_); intro nb) | refine pvK (h := ?_) | refine pvK0 (h := ?_) | (refine pv_nil ?_; intro a w F M; (try (replace F := F.filt [0, 1, 4, 5, 7, 8, 9, 16] rfl))) | ((fail_if_success (with_reducible first | refine isW ?_ | refine isP ?_ | refine isL ?_)); (first | with_reducible refine sx_region ?_ | ((with_reducible refine isK ?_); (first | refine svT F (h := ?_) | refine svF F (h := ?_) | ((refine svB F (fun hc => ?_) (fun hc => ?_)) <;> (try (exact no hc))))) | ((with_reducible refine isD ?_); fail) | with_reducible refine wp_scope_straight ?_ | with_reducible refine wp_label ?_ | go_step))))
      exact sv_again F M (k + 1) kpA permsA ⟨by omega, by have e : ((k + 1 : Nat) : Int) = (k : Int) + 1 := by omega
                                                          rw [e]; exact q2⟩ (by omega)
  · obtain rfl : k = xs.length := by omega
    rw [List.drop_length] at q2
    have q2 : -1 = X := q2
    subst q2
    (repeat' (first | (refine sx_nil ?_; (try (replace F := F.filt [0, 1, 4, 5, 7, 8, 9, 16] rfl))) | (refine sv1 F M (h := ?_); clear F a; intro a F) | refine pv1 (h := ?_) | (refine sv3 F M (h := ?_); clear M; intro w M) | (refine sv2 F M (h := ?_); clear F M a; intro nb a w F M) | refine pv3 (h := ?_) | (refine pv2 (h := ?_); intro nb) | ((first | refine svC F M (h := ?_) | refine svC0 F M (h := ?_) | refine pvC (h := ?_) | refine pvC0 (h := ?_)); (fail); (first | refine ⟨rvsA, ?_⟩ | (clear F M a; intro a w F M) | (clear M; intro w M))) | (refine svK F (h := ?_); clear F a; intro a F) | refine svK0 F (h := ?_) | ((refine sx_guardb F rfl (fun hg => ?_) (fun hg => ?_)) <;> (rw [hg] at F; (try (exact no hg)))) | (refine pvF (h := ?_); intro nb) | refine pvK (h := ?_) | refine pvK0 (h := ?_) | (refine pv_nil ?_; intro a w F M; (try (replace F := F.filt [0, 1, 4, 5, 7, 8, 9, 16] rfl))) | ((fail_if_success (with_reducible first | refine isW ?_ | refine isP ?_ | refine isL ?_)); (first | with_reducible refine sx_region ?_ | ((with_reducible refine isK ?_); (first | refine svT F (h := ?_) | refine svF F (h := ?_) | ((refine svB F (fun hc => ?_) (fun hc => ?_)) <;> (try (exact no hc))))) | ((with_reducible refine isD ?_); fail) | with_reducible refine wp_scope_straight ?_ | with_reducible refine wp_label ?_ | go_step))))
    all_goals (first | refine svEnd F M ?_ | refine svRet F M ?_)
    all_goals exact ⟨_, _, rfl, ⟨rfl, rfl⟩, M.perms permsA⟩
theorem ix_kind (s : List UInt8) : ixFrom s 0 names7 + 1 = (kindOf s).getD 0 ∧ decide (0 ≤ ixFrom s 0 names7) = (kindOf s).isSome := by
  have e1 : nameOf 1 = [100, 101, 112, 111, 115, 105, 116] := by decide
  have e2 : nameOf 2 = [101, 120, 105, 116] := by decide
  have e3 : nameOf 3 = [101, 106, 101, 99, 116] := by decide
  have e4 : nameOf 4 = [115, 108, 97, 115, 104] := by decide
  have e5 : nameOf 5 = [99, 111, 110, 115, 111, 108, 105, 100, 97, 116, 101] := by decide
  have e6 : nameOf 6 = [112, 97, 114, 116, 105, 97, 108] := by decide
  have e7 : nameOf 7 = [116, 105, 99, 107] := by decide
  unfold kindOf names7
  rw [e1, e2, e3, e4, e5, e6, e7]
  simp only [ixFrom]
  repeat' split
  all_goals simp
theorem kind_spec (s : List UInt8) (R : List Asn) : Spec 28 [str s] R fun u L' => u = .tuple [.int .i64 ((kindOf s).getD 0), .bool (kindOf s).isSome].toArray ∧ L' = R := by
  obtain ⟨h1, h2⟩ := ix_kind s
  have hb : 0 ≤ (kindOf s).getD 0 ∧ (kindOf s).getD 0 ≤ 7 := by
    cases h : kindOf s with
    | none => decide
    | some k => have := kindOf_name h; simp only [Option.getD_some]; omega
  have hix := fun (v : Value) (R : List Asn) hg => sindex_spec v names7 s R hg
  generalize (kindOf s).getD 0 = A at *
  generalize (kindOf s).isSome = B at *
  generalize ixFrom s 0 names7 = X at *
  (intro G w M; refine sx_enter (vs := ([str s] : List Value)) Tryd.func28 (n := 12) rfl rfl rfl rfl ?_; intro a F; (try simp only [List.cons_append, List.nil_append] at M))
  (repeat' (first | (refine sx_nil ?_; (try (replace F := F.filt [0, 2, 3, 4] rfl))) | (refine sv1 F M (h := ?_); clear F a; intro a F) | refine pv1 (h := ?_) | (refine sv3 F M (h := ?_); clear M; intro w M) | (refine sv2 F M (h := ?_); clear F M a; intro nb a w F M) | refine pv3 (h := ?_) | (refine pv2 (h := ?_); intro nb) | ((first | refine svC F M (h := ?_) | refine svC0 F M (h := ?_) | refine pvC (h := ?_) | refine pvC0 (h := ?_)); ((first | ((refine acW (k := 45) opnames_spec ?_); rintro u L' ⟨h, rfl, rfl⟩) | ((refine acW (k := 51) (hix _ _ ?_) ?_); (exact gs_own pullA); rintro u L' ⟨rfl, rfl⟩))); (first | refine ⟨rvsA, ?_⟩ | (clear F M a; intro a w F M) | (clear M; intro w M))) | (refine svK F (h := ?_); clear F a; intro a F) | refine svK0 F (h := ?_) | ((refine sx_guardb F rfl (fun hg => ?_) (fun hg => ?_)) <;> (rw [hg] at F; (try (exact no hg)))) | (refine pvF (h := ?_); intro nb) | refine pvK (h := ?_) | refine pvK0 (h := ?_) | (refine pv_nil ?_; intro a w F M; (try (replace F := F.filt [0, 2, 3, 4] rfl))) | ((fail_if_success (with_reducible first | refine isW ?_ | refine isP ?_ | refine isL ?_)); (first | with_reducible refine sx_region ?_ | ((with_reducible refine isK ?_); (first | refine svT F (h := ?_) | refine svF F (h := ?_) | ((refine svB F (fun hc => ?_) (fun hc => ?_)) <;> (try (exact no hc))))) | ((with_reducible refine isD ?_); fail) | with_reducible refine wp_scope_straight ?_ | with_reducible refine wp_label ?_ | go_step))))
  all_goals (first | refine svEnd F M ?_ | refine svRet F M ?_)
  all_goals exact ⟨_, _, rfl, ⟨by simp only [tupOf, h1, h2], rfl⟩, M.perms permsA⟩
/-! ### The operands' addresses -/
def Od.ty : Od → TypeId
  | .i => 49
  | .t => 49
  | .a => 47
def Od.off : Od → Nat
  | .i => 1
  | .t => 2
  | .a => 3
def fdL (b : Nat) (d : Od) : List Value := [.iface d.ty (.pointer (some ⟨b, d.off, none⟩))]
instance scFD (b : Nat) : EL (fdL b) 1 := ⟨fun _ => rfl, fun x u h => by simp [fdL] at h; subst h; rfl⟩
section
variable {o : Oper} {n : Nat} {l : List (Nat × Value)} {L : List Asn}
theorem rt_mkI {t : TypeId} {x : Operand} (ho : o.op = .makeInterface t x) {v : Value} (hx : evl l x = some v) (hr : ∀ w, (Instr.makeInterface t v).run Tryd.prog w = .ok (.iface t v) w) : RT o l L n (.iface t v) := fun a w F M => by
  unfold execOp
  rw [ho]
  simp [F.eval hx, hr]
theorem rt_tA {x : Operand} {t d : TypeId} {b : Bool} (ho : o.op = .typeAssert x t d b) {v r : Value} (hx : evl l x = some v) (hr : ∀ w, (Instr.typeAssert v t d b).run Tryd.prog w = .ok r w) : RT o l L n r := fun a w F M => by
  unfold execOp
  rw [ho]
  simp [F.eval hx, hr]
end
theorem mkI_u (v : Value) (w : World) : (Instr.makeInterface 47 v).run Tryd.prog w = .ok (.iface 47 v) w := by kernel_rfl
theorem mkI_i (v : Value) (w : World) : (Instr.makeInterface 49 v).run Tryd.prog w = .ok (.iface 49 v) w := by kernel_rfl
theorem tA_uu (v : Value) (w : World) : (Instr.typeAssert (.iface 47 v) 20 47 true).run Tryd.prog w = .ok (.tuple [v, .bool true].toArray) w := by kernel_rfl
theorem tA_iu (v : Value) (w : World) : (Instr.typeAssert (.iface 49 v) 20 47 true).run Tryd.prog w = .ok (.tuple [.pointer none, .bool false].toArray) w := by kernel_rfl
theorem tA_ii (v : Value) (w : World) : (Instr.typeAssert (.iface 49 v) 20 49 true).run Tryd.prog w = .ok (.tuple [v, .bool true].toArray) w := by kernel_rfl
theorem fields_spec (b : Nat) (o : Opn) (R : List Asn) : Spec 24 [ptr b] (pt b (opL o) 24 :: R) fun u L' => ∃ h, u = sl h ∧ L' = ownT 20 (fdL b) 1 (sl h) ((odsOf o.k).getD []) :: pt b (opL o) 24 :: R := by
  obtain ⟨k, ix, tg, am⟩ := o
  by_cases hk7 : k = 1 ∨ k = 2 ∨ k = 3 ∨ k = 4 ∨ k = 5 ∨ k = 6
  · rcases hk7 with rfl | rfl | rfl | rfl | rfl | rfl
    · (intro G w M; refine sx_enter (vs := ([ptr b] : List Value)) Tryd.func24 (n := 45) rfl rfl rfl rfl ?_; intro a F; (try simp only [List.cons_append, List.nil_append] at M))
      (repeat' (first | ((first | refine sv1 F M (h := ?_) (hr := by ((first | (refine rt_mkI rfl rfl (mkI_u _)) | (refine rt_mkI rfl rfl (mkI_i _))))) | refine pv1 (h := ?_) (hr := by ((first | (refine rt_mkI rfl rfl (mkI_u _)) | (refine rt_mkI rfl rfl (mkI_i _)))))); (try (clear F a; intro a F))) | (refine sx_nil ?_; (try (replace F := F.filt [0, 2, 6, 7, 14, 23, 34] rfl))) | (refine sv1 F M (h := ?_); clear F a; intro a F) | refine pv1 (h := ?_) | (refine sv3 F M (h := ?_); clear M; intro w M) | (refine sv2 F M (h := ?_); clear F M a; intro nb a w F M) | refine pv3 (h := ?_) | (refine pv2 (h := ?_); intro nb) | ((first | refine svC F M (h := ?_) | refine svC0 F M (h := ?_) | refine pvC (h := ?_) | refine pvC0 (h := ?_)); (fail); (first | refine ⟨rvsA, ?_⟩ | (clear F M a; intro a w F M) | (clear M; intro w M))) | (refine svK F (h := ?_); clear F a; intro a F) | refine svK0 F (h := ?_) | ((refine sx_guardb F rfl (fun hg => ?_) (fun hg => ?_)) <;> (rw [hg] at F; (try (exact no hg)))) | (refine pvF (h := ?_); intro nb) | refine pvK (h := ?_) | refine pvK0 (h := ?_) | (refine pv_nil ?_; intro a w F M; (try (replace F := F.filt [0, 2, 6, 7, 14, 23, 34] rfl))) | ((fail_if_success (with_reducible first | refine isW ?_ | refine isP ?_ | refine isL ?_)); (first | with_reducible refine sx_region ?_ | ((with_reducible refine isK ?_); (first | refine svT F (h := ?_) | refine svF F (h := ?_) | ((refine svB F (fun hc => ?_) (fun hc => ?_)) <;> (try (exact no hc))))) | ((with_reducible refine isD ?_); (first | (refine svDraw (id := 9) [8] [] [] [0, 1, 2, 3, 4, 5, 6, 7, 8, 9] F M (h := ?_); clear F M a w) | (refine svDraw (id := 11) [8] [] [] [0, 1, 2, 3, 4, 5, 6, 7, 8, 9] F M (h := ?_); clear F M a w))) | with_reducible refine wp_scope_straight ?_ | with_reducible refine wp_label ?_ | go_step))))
      all_goals (first | refine svEnd F M ?_ | refine svRet F M ?_)
      all_goals exact ⟨_, _, rfl, ⟨⟨_, _, _⟩, rfl, rfl⟩, M.perms permsA⟩
    · (intro G w M; refine sx_enter (vs := ([ptr b] : List Value)) Tryd.func24 (n := 45) rfl rfl rfl rfl ?_; intro a F; (try simp only [List.cons_append, List.nil_append] at M))
      (repeat' (first | ((first | refine sv1 F M (h := ?_) (hr := by ((first | (refine rt_mkI rfl rfl (mkI_u _)) | (refine rt_mkI rfl rfl (mkI_i _))))) | refine pv1 (h := ?_) (hr := by ((first | (refine rt_mkI rfl rfl (mkI_u _)) | (refine rt_mkI rfl rfl (mkI_i _)))))); (try (clear F a; intro a F))) | (refine sx_nil ?_; (try (replace F := F.filt [0, 2, 6, 7, 14, 23, 34] rfl))) | (refine sv1 F M (h := ?_); clear F a; intro a F) | refine pv1 (h := ?_) | (refine sv3 F M (h := ?_); clear M; intro w M) | (refine sv2 F M (h := ?_); clear F M a; intro nb a w F M) | refine pv3 (h := ?_) | (refine pv2 (h := ?_); intro nb) | ((first | refine svC F M (h := ?_) | refine svC0 F M (h := ?_) | refine pvC (h := ?_) | refine pvC0 (h := ?_)); (fail); (first | refine ⟨rvsA, ?_⟩ | (clear F M a; intro a w F M) | (clear M; intro w M))) | (refine svK F (h := ?_); clear F a; intro a F) | refine svK0 F (h := ?_) | ((refine sx_guardb F rfl (fun hg => ?_) (fun hg => ?_)) <;> (rw [hg] at F; (try (exact no hg)))) | (refine pvF (h := ?_); intro nb) | refine pvK (h := ?_) | refine pvK0 (h := ?_) | (refine pv_nil ?_; intro a w F M; (try (replace F := F.filt [0, 2, 6, 7, 14, 23, 34] rfl))) | ((fail_if_success (with_reducible first | refine isW ?_ | refine isP ?_ | refine isL ?_)); (first | with_reducible refine sx_region ?_ | ((with_reducible refine isK ?_); (first | refine svT F (h := ?_) | refine svF F (h := ?_) | ((refine svB F (fun hc => ?_) (fun hc => ?_)) <;> (try (exact no hc))))) | ((with_reducible refine isD ?_); (first | (refine svDraw (id := 9) [8] [] [] [0, 1, 2, 3, 4, 5, 6, 7, 8, 9] F M (h := ?_); clear F M a w) | (refine svDraw (id := 11) [8] [] [] [0, 1, 2, 3, 4, 5, 6, 7, 8, 9] F M (h := ?_); clear F M a w))) | with_reducible refine wp_scope_straight ?_ | with_reducible refine wp_label ?_ | go_step))))
      all_goals (first | refine svEnd F M ?_ | refine svRet F M ?_)
      all_goals exact ⟨_, _, rfl, ⟨⟨_, _, _⟩, rfl, rfl⟩, M.perms permsA⟩
    · (intro G w M; refine sx_enter (vs := ([ptr b] : List Value)) Tryd.func24 (n := 45) rfl rfl rfl rfl ?_; intro a F; (try simp only [List.cons_append, List.nil_append] at M))
      (repeat' (first | ((first | refine sv1 F M (h := ?_) (hr := by ((first | (refine rt_mkI rfl rfl (mkI_u _)) | (refine rt_mkI rfl rfl (mkI_i _))))) | refine pv1 (h := ?_) (hr := by ((first | (refine rt_mkI rfl rfl (mkI_u _)) | (refine rt_mkI rfl rfl (mkI_i _)))))); (try (clear F a; intro a F))) | (refine sx_nil ?_; (try (replace F := F.filt [0, 2, 6, 7, 14, 23, 34] rfl))) | (refine sv1 F M (h := ?_); clear F a; intro a F) | refine pv1 (h := ?_) | (refine sv3 F M (h := ?_); clear M; intro w M) | (refine sv2 F M (h := ?_); clear F M a; intro nb a w F M) | refine pv3 (h := ?_) | (refine pv2 (h := ?_); intro nb) | ((first | refine svC F M (h := ?_) | refine svC0 F M (h := ?_) | refine pvC (h := ?_) | refine pvC0 (h := ?_)); (fail); (first | refine ⟨rvsA, ?_⟩ | (clear F M a; intro a w F M) | (clear M; intro w M))) | (refine svK F (h := ?_); clear F a; intro a F) | refine svK0 F (h := ?_) | ((refine sx_guardb F rfl (fun hg => ?_) (fun hg => ?_)) <;> (rw [hg] at F; (try (exact no hg)))) | (refine pvF (h := ?_); intro nb) | refine pvK (h := ?_) | refine pvK0 (h := ?_) | (refine pv_nil ?_; intro a w F M; (try (replace F := F.filt [0, 2, 6, 7, 14, 23, 34] rfl))) | ((fail_if_success (with_reducible first | refine isW ?_ | refine isP ?_ | refine isL ?_)); (first | with_reducible refine sx_region ?_ | ((with_reducible refine isK ?_); (first | refine svT F (h := ?_) | refine svF F (h := ?_) | ((refine svB F (fun hc => ?_) (fun hc => ?_)) <;> (try (exact no hc))))) | ((with_reducible refine isD ?_); (first | (refine svDraw (id := 9) [8] [] [] [0, 1, 2, 3, 4, 5, 6, 7, 8, 9] F M (h := ?_); clear F M a w) | (refine svDraw (id := 11) [8] [] [] [0, 1, 2, 3, 4, 5, 6, 7, 8, 9] F M (h := ?_); clear F M a w))) | with_reducible refine wp_scope_straight ?_ | with_reducible refine wp_label ?_ | go_step))))
      all_goals (first | refine svEnd F M ?_ | refine svRet F M ?_)
      all_goals exact ⟨_, _, rfl, ⟨⟨_, _, _⟩, rfl, rfl⟩, M.perms permsA⟩
    · (intro G w M; refine sx_enter (vs := ([ptr b] : List Value)) Tryd.func24 (n := 45) rfl rfl rfl rfl ?_; intro a F; (try simp only [List.cons_append, List.nil_append] at M))
      (repeat' (first | ((first | refine sv1 F M (h := ?_) (hr := by ((first | (refine rt_mkI rfl rfl (mkI_u _)) | (refine rt_mkI rfl rfl (mkI_i _))))) | refine pv1 (h := ?_) (hr := by ((first | (refine rt_mkI rfl rfl (mkI_u _)) | (refine rt_mkI rfl rfl (mkI_i _)))))); (try (clear F a; intro a F))) | (refine sx_nil ?_; (try (replace F := F.filt [0, 2, 6, 7, 14, 23, 34] rfl))) | (refine sv1 F M (h := ?_); clear F a; intro a F) | refine pv1 (h := ?_) | (refine sv3 F M (h := ?_); clear M; intro w M) | (refine sv2 F M (h := ?_); clear F M a; intro nb a w F M) | refine pv3 (h := ?_) | (refine pv2 (h := ?_); intro nb) | ((first | refine svC F M (h := ?_) | refine svC0 F M (h := ?_) | refine pvC (h := ?_) | refine pvC0 (h := ?_)); (fail); (first | refine ⟨rvsA, ?_⟩ | (clear F M a; intro a w F M) | (clear M; intro w M))) | (refine svK F (h := ?_); clear F a; intro a F) | refine svK0 F (h := ?_) | ((refine sx_guardb F rfl (fun hg => ?_) (fun hg => ?_)) <;> (rw [hg] at F; (try (exact no hg)))) | (refine pvF (h := ?_); intro nb) | refine pvK (h := ?_) | refine pvK0 (h := ?_) | (refine pv_nil ?_; intro a w F M; (try (replace F := F.filt [0, 2, 6, 7, 14, 23, 34] rfl))) | ((fail_if_success (with_reducible first | refine isW ?_ | refine isP ?_ | refine isL ?_)); (first | with_reducible refine sx_region ?_ | ((with_reducible refine isK ?_); (first | refine svT F (h := ?_) | refine svF F (h := ?_) | ((refine svB F (fun hc => ?_) (fun hc => ?_)) <;> (try (exact no hc))))) | ((with_reducible refine isD ?_); (first | (refine svDraw (id := 9) [8] [] [] [0, 1, 2, 3, 4, 5, 6, 7, 8, 9] F M (h := ?_); clear F M a w) | (refine svDraw (id := 11) [8] [] [] [0, 1, 2, 3, 4, 5, 6, 7, 8, 9] F M (h := ?_); clear F M a w))) | with_reducible refine wp_scope_straight ?_ | with_reducible refine wp_label ?_ | go_step))))
      all_goals (first | refine svEnd F M ?_ | refine svRet F M ?_)
      all_goals exact ⟨_, _, rfl, ⟨⟨_, _, _⟩, rfl, rfl⟩, M.perms permsA⟩
    · (intro G w M; refine sx_enter (vs := ([ptr b] : List Value)) Tryd.func24 (n := 45) rfl rfl rfl rfl ?_; intro a F; (try simp only [List.cons_append, List.nil_append] at M))
      (repeat' (first | ((first | refine sv1 F M (h := ?_) (hr := by ((first | (refine rt_mkI rfl rfl (mkI_u _)) | (refine rt_mkI rfl rfl (mkI_i _))))) | refine pv1 (h := ?_) (hr := by ((first | (refine rt_mkI rfl rfl (mkI_u _)) | (refine rt_mkI rfl rfl (mkI_i _)))))); (try (clear F a; intro a F))) | (refine sx_nil ?_; (try (replace F := F.filt [0, 2, 6, 7, 14, 23, 34] rfl))) | (refine sv1 F M (h := ?_); clear F a; intro a F) | refine pv1 (h := ?_) | (refine sv3 F M (h := ?_); clear M; intro w M) | (refine sv2 F M (h := ?_); clear F M a; intro nb a w F M) | refine pv3 (h := ?_) | (refine pv2 (h := ?_); intro nb) | ((first | refine svC F M (h := ?_) | refine svC0 F M (h := ?_) | refine pvC (h := ?_) | refine pvC0 (h := ?_)); (fail); (first | refine ⟨rvsA, ?_⟩ | (clear F M a; intro a w F M) | (clear M; intro w M))) | (refine svK F (h := ?_); clear F a; intro a F) | refine svK0 F (h := ?_) | ((refine sx_guardb F rfl (fun hg => ?_) (fun hg => ?_)) <;> (rw [hg] at F; (try (exact no hg)))) | (refine pvF (h := ?_); intro nb) | refine pvK (h := ?_) | refine pvK0 (h := ?_) | (refine pv_nil ?_; intro a w F M; (try (replace F := F.filt [0, 2, 6, 7, 14, 23, 34] rfl))) | ((fail_if_success (with_reducible first | refine isW ?_ | refine isP ?_ | refine isL ?_)); (first | with_reducible refine sx_region ?_ | ((with_reducible refine isK ?_); (first | refine svT F (h := ?_) | refine svF F (h := ?_) | ((refine svB F (fun hc => ?_) (fun hc => ?_)) <;> (try (exact no hc))))) | ((with_reducible refine isD ?_); (first | (refine svDraw (id := 9) [8] [] [] [0, 1, 2, 3, 4, 5, 6, 7, 8, 9] F M (h := ?_); clear F M a w) | (refine svDraw (id := 11) [8] [] [] [0, 1, 2, 3, 4, 5, 6, 7, 8, 9] F M (h := ?_); clear F M a w))) | with_reducible refine wp_scope_straight ?_ | with_reducible refine wp_label ?_ | go_step))))
      all_goals (first | refine svEnd F M ?_ | refine svRet F M ?_)
      all_goals exact ⟨_, _, rfl, ⟨⟨_, _, _⟩, rfl, rfl⟩, M.perms permsA⟩
    · (intro G w M; refine sx_enter (vs := ([ptr b] : List Value)) Tryd.func24 (n := 45) rfl rfl rfl rfl ?_; intro a F; (try simp only [List.cons_append, List.nil_append] at M))
      (repeat' (first | ((first | refine sv1 F M (h := ?_) (hr := by ((first | (refine rt_mkI rfl rfl (mkI_u _)) | (refine rt_mkI rfl rfl (mkI_i _))))) | refine pv1 (h := ?_) (hr := by ((first | (refine rt_mkI rfl rfl (mkI_u _)) | (refine rt_mkI rfl rfl (mkI_i _)))))); (try (clear F a; intro a F))) | (refine sx_nil ?_; (try (replace F := F.filt [0, 2, 6, 7, 14, 23, 34] rfl))) | (refine sv1 F M (h := ?_); clear F a; intro a F) | refine pv1 (h := ?_) | (refine sv3 F M (h := ?_); clear M; intro w M) | (refine sv2 F M (h := ?_); clear F M a; intro nb a w F M) | refine pv3 (h := ?_) | (refine pv2 (h := ?_); intro nb) | ((first | refine svC F M (h := ?_) | refine svC0 F M (h := ?_) | refine pvC (h := ?_) | refine pvC0 (h := ?_)); (fail); (first | refine ⟨rvsA, ?_⟩ | (clear F M a; intro a w F M) | (clear M; intro w M))) | (refine svK F (h := ?_); clear F a; intro a F) | refine svK0 F (h := ?_) | ((refine sx_guardb F rfl (fun hg => ?_) (fun hg => ?_)) <;> (rw [hg] at F; (try (exact no hg)))) | (refine pvF (h := ?_); intro nb) | refine pvK (h := ?_) | refine pvK0 (h := ?_) | (refine pv_nil ?_; intro a w F M; (try (replace F := F.filt [0, 2, 6, 7, 14, 23, 34] rfl))) | ((fail_if_success (with_reducible first | refine isW ?_ | refine isP ?_ | refine isL ?_)); (first | with_reducible refine sx_region ?_ | ((with_reducible refine isK ?_); (first | refine svT F (h := ?_) | refine svF F (h := ?_) | ((refine svB F (fun hc => ?_) (fun hc => ?_)) <;> (try (exact no hc))))) | ((with_reducible refine isD ?_); (first | (refine svDraw (id := 9) [8] [] [] [0, 1, 2, 3, 4, 5, 6, 7, 8, 9] F M (h := ?_); clear F M a w) | (refine svDraw (id := 11) [8] [] [] [0, 1, 2, 3, 4, 5, 6, 7, 8, 9] F M (h := ?_); clear F M a w))) | with_reducible refine wp_scope_straight ?_ | with_reducible refine wp_label ?_ | go_step))))
      all_goals (first | refine svEnd F M ?_ | refine svRet F M ?_)
      all_goals exact ⟨_, _, rfl, ⟨⟨_, _, _⟩, rfl, rfl⟩, M.perms permsA⟩
  · have e : (odsOf k).getD [] = [] := by
      unfold odsOf
      rw [if_neg (by omega), if_neg (by omega), if_neg (by omega), if_neg (by omega)]
      split <;> rfl
    rw [e]
    (intro G w M; refine sx_enter (vs := ([ptr b] : List Value)) Tryd.func24 (n := 45) rfl rfl rfl rfl ?_; intro a F; (try simp only [List.cons_append, List.nil_append] at M))
    have M := M.own_nil 20 1
    (repeat' (first | ((first | refine sv1 F M (h := ?_) (hr := by ((first | (refine rt_mkI rfl rfl (mkI_u _)) | (refine rt_mkI rfl rfl (mkI_i _))))) | refine pv1 (h := ?_) (hr := by ((first | (refine rt_mkI rfl rfl (mkI_u _)) | (refine rt_mkI rfl rfl (mkI_i _)))))); (try (clear F a; intro a F))) | (refine sx_nil ?_; (try (replace F := F.filt [0, 2, 6, 7, 14, 23, 34] rfl))) | (refine sv1 F M (h := ?_); clear F a; intro a F) | refine pv1 (h := ?_) | (refine sv3 F M (h := ?_); clear M; intro w M) | (refine sv2 F M (h := ?_); clear F M a; intro nb a w F M) | refine pv3 (h := ?_) | (refine pv2 (h := ?_); intro nb) | ((first | refine svC F M (h := ?_) | refine svC0 F M (h := ?_) | refine pvC (h := ?_) | refine pvC0 (h := ?_)); (fail); (first | refine ⟨rvsA, ?_⟩ | (clear F M a; intro a w F M) | (clear M; intro w M))) | (refine svK F (h := ?_); clear F a; intro a F) | refine svK0 F (h := ?_) | ((refine sx_guardb F rfl (fun hg => ?_) (fun hg => ?_)) <;> (rw [hg] at F; (try (exact no hg)))) | (refine pvF (h := ?_); intro nb) | refine pvK (h := ?_) | refine pvK0 (h := ?_) | (refine pv_nil ?_; intro a w F M; (try (replace F := F.filt [0, 2, 6, 7, 14, 23, 34] rfl))) | ((fail_if_success (with_reducible first | refine isW ?_ | refine isP ?_ | refine isL ?_)); (first | with_reducible refine sx_region ?_ | ((with_reducible refine isK ?_); (first | refine svT F (h := ?_) | refine svF F (h := ?_) | ((refine svB F (fun hc => ?_) (fun hc => ?_)) <;> (try (exact no hc))))) | ((with_reducible refine isD ?_); (first | (refine svDraw (id := 9) [8] [] [] [0, 1, 2, 3, 4, 5, 6, 7, 8, 9] F M (h := ?_); clear F M a w) | (refine svDraw (id := 11) [8] [] [] [0, 1, 2, 3, 4, 5, 6, 7, 8, 9] F M (h := ?_); clear F M a w))) | with_reducible refine wp_scope_straight ?_ | with_reducible refine wp_label ?_ | go_step))))
    all_goals (first | refine svEnd F M ?_ | refine svRet F M ?_)
    all_goals exact ⟨_, _, rfl, ⟨nilH, rfl, rfl⟩, M.perms permsA⟩
end Go.Proofs.YtaggjikjohamjaaDoor
end
