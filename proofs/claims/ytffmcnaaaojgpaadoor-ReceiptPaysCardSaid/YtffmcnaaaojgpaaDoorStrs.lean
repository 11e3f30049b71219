/- Strings: append of a string to bytes, strings.Builder, decimal numbers. -/
import Derived.Test.YtffmcnaaaojgpaaDoorFormat
import Derived.Lib.FrozenHead
namespace Go.Proofs.YtffmcnaaaojgpaaDoor
open Go.RowKit
set_option linter.unusedVariables false
set_option maxRecDepth 100000
set_option linter.unusedSimpArgs false
set_option maxHeartbeats 2000000
/-- A byte, as a cell. -/
def u8L (b : UInt8) : List Value := [.int .u8 (b.toNat : Int)]
instance : EL u8L 1 := ⟨fun _ => rfl, fun x u h => by simp [u8L] at h; subst h; rfl⟩
theorem u8s_eq (s : List UInt8) : Lib.strCells ⟨s.toArray⟩ = s.flatMap u8L := by
  simp [Lib.strCells]
  induction s with
  | nil => rfl
  | cons x r ih => simp [u8L, ih]
theorem append_str_run {t u ty e : TypeId} (ht : ST t e (.int .u8 0) 1 1) (hus : Tryd.prog.underlying u = some .string) {v : Value} {m : Nat} {xs : List Value} {L' : List Asn} {w : World} (M : Mem w (own e 1 v m xs :: L')) (s : List UInt8)
    (h47 : m + s.length ≤ 140737488355328) : ∃ v' w', (Builtin.append_ #[t, u] ty #[v, str s]).run Tryd.prog w = .ok v' w' ∧ Mem w' (own e 1 v' (m + s.length) (xs ++ s.flatMap u8L) :: L') := by
  obtain ⟨i, hu, hi, hz, hsize, hby, hzs, hsz⟩ := st_info ht
  have hsz : (ByteArray.mk s.toArray).size = s.length := by show s.toArray.size = _; simp
  have h63 : m + s.length ≤ maxLen := by simp only [maxLen]; omega
  obtain ⟨r, hs, hslt⟩ := M.head
  have hxl : xs.length = m := by simpa using hs.1
  have hfl : (s.flatMap u8L).length = s.length := by rw [flat_len (f := u8L) (k := 1) (fun _ => rfl)]; omega
  have hlen : (xs ++ s.flatMap u8L).length = (m + s.length) * 1 := by rw [List.length_append, hxl, hfl, Nat.mul_one]
  have grown : ∀ (old : Nat), old < m + s.length → ∀ (w1 : World), w1 = w.drew.alloc (.cells (xs.toArray ++ (s.flatMap u8L).toArray ++ Builtin.zeroCells (Value.int .u8 0).cells (grownCap w (m + s.length) old e - (m + s.length))) e) → Mem w1 (own e 1 (.slice (some ⟨w.heap.size, 0, none⟩) (m + s.length) (grownCap w (m + s.length) old e)) (m + s.length) (xs ++ s.flatMap u8L) :: L') := by
    intro old ho w1 hw1
    subst hw1
    have hge := grownCap_ge w (m + s.length) old e
    have hcm : grownCap w (m + s.length) old e ≤ maxLen := grownCap_le_maxLen w (m + s.length) old e h63
    refine M.drop.new ⟨rfl, rfl, rfl, by simp, fun k hk _ => ((Below.refl w.drew.heap.size w.drew).alloc (Nat.le_refl _) _).block k hk⟩ ⟨[w.heap.size], ok_own hlen (heap_alloc_new w.drew _) hge hcm ?_ ?_, by simp⟩
    · simp only [Array.size_append, List.size_toArray, size_zeroCells, hzs, hxl, hfl]
      omega
    · simp only [Array.toList_append, List.append_assoc]
      rw [← List.append_assoc, ← hlen]
      exact List.take_left
  rcases hs.2 with ⟨rfl, rfl, rfl⟩ | ⟨g, cap, cur, rfl, rfl, hg, hnc, hcm, hcs, htake⟩
  · have hx : xs = [] := List.eq_nil_of_length_eq_zero hxl
    subst hx
    by_cases hk : s = []
    · subst hk
      refine ⟨.slice none 0 0, w, ?_, M⟩
      simp [Builtin.append_, run_underlying hu, run_underlying hus, sizeOf, typeInfo, hi, Builtin.lenOf, Builtin.firstCells, loadCells, loadCellsFrom, ByteArray.size]
    · have h0 : 0 < s.length := by cases s with | nil => exact absurd rfl hk | cons => simp
      have hr := run_append_nil_string (P := Tryd.prog) w t u ty e i (.int .u8 0) hu hus hi hz ⟨s.toArray⟩ (by omega) (by rw [hsz]; omega) (by rw [hsz, hby]; omega)
      rw [hsz] at hr
      have hgr := grown 0 (by omega) _ rfl
      have e1 : (ByteArray.mk s.toArray).data.map (fun b => Value.int .u8 (b.toNat : Int)) = (s.flatMap u8L).toArray := by
        rw [← u8s_eq]; simp [Lib.strCells]
      rw [e1] at hr
      simp only [Nat.zero_add, List.nil_append, Array.empty_append] at hgr ⊢
      exact ⟨_, _, hr, hgr⟩
  · by_cases hroom : m + s.length ≤ cap
    · have hr := Lib.run_append_room_string (P := Tryd.prog) w t u ty e i hu hus hi hsize g m cap cur hg ⟨s.toArray⟩ (by rw [hsz]; exact hroom) (by rw [hsz, hcs]; omega)
      rw [hsz, u8s_eq] at hr
      refine ⟨_, _, hr, M.change fun s' hs' => ?_⟩
      obtain ⟨_, h2⟩ := hs'.now
      rcases h2 with ⟨h2, _⟩ | ⟨g', cap', cur', h3, rfl, h5, _⟩
      · cases h2
      · have hgg : g' = g := by cases h3; rfl
        subst hgg
        refine ⟨chg_setRow, [g'], ok_own hlen (setRow_heap w g' cur _ e _ hg) hroom hcm ?_ ?_, fun b hb => .inl hb⟩
        · simp only [List.size_toArray, List.length_append, List.length_take, List.length_drop, Array.length_toList]
          omega
        · have ht' : cur.toList.take m = xs := by simpa using htake
          rw [ht', ← hlen]
          exact List.take_left
    · have holds : ∀ j u, xs[j]? = some u → w.cell? ((⟨g, 0, none⟩ : Addr).add j) = some u := fun j u hu' => by
        have h1 : cur[j]? = some u := by
          rw [← htake, List.getElem?_take] at hu'
          split at hu'
          · simpa using hu'
          · cases hu'
        rw [add0]
        simp [World.cell?, hg, h1]
      have hr := Lib.run_append_grow_string (P := Tryd.prog) w t u ty e i (.int .u8 0) hu hus hi hz ⟨g, 0, none⟩ m cap xs (by rw [hsize]; omega) holds ⟨s.toArray⟩ (by rw [hsz]; omega) (by rw [hsz]; omega) (by rw [hsz, hby]; exact growslice_fits (by omega) (by omega))
      rw [hsz, u8s_eq] at hr
      exact ⟨_, _, hr, grown cap (by omega) _ rfl⟩
section
variable {ops : Array Oper} {Q : Exit → Act → World → Prop} {rest : List Oper} {o : Oper} {a : Act} {w : World} {n : Nat} {l : List (Nat × Value)} {L : List Asn} {C : Value → List Asn → Prop}
/-- Append of a string to bytes. -/
theorem ac_appendS {x y : Operand} {t u : TypeId} {ats : Array TypeId} (ho : o.op = .call { callee := .builtin .append, args := #[x, y], argTypes := ats }) (hat : ats = #[t, u]) {e : TypeId} (ht : ST t e (.int .u8 0) 1 1) (hu : TT u) {v : Value} (hx : evl l x = some v) {r : List UInt8} (hy : evl l y = some (str r))
    {s : List UInt8} {L' : List Asn} (hp : Pull L (ownT e u8L 1 v s) L') (hb : s.length + r.length ≤ 140737488355328) (h : ∀ v', C (sl v') (ownT e u8L 1 (sl v') (s ++ r) :: L')) : AC o l L n C := fun G a w F M => by
  subst hat
  obtain ⟨v', w', hr, hM⟩ := append_str_run (ty := o.type) ht hu.k (M.pull (hp.app G)) r hb
  have : (execOp a.eval o).run Tryd.prog w = .ok (.value v') w' := by
    unfold execOp
    rw [ho]
    simp [resolve, invoke, builtin, F.eval hx, F.eval hy, hr]
  rw [this]
  obtain ⟨h', rfl⟩ := own_sl hM
  have := h h'
  rw [ownT, List.length_append, List.flatMap_append] at this
  exact ⟨_, this, hM⟩
theorem rt_nesame {t ty : TypeId} {x y : Operand} (ho : o.op = .binOp .neq t x y ty) {p : Addr} (hx : evl l x = some (.pointer (some p))) (hy : evl l y = some (.pointer (some p))) {e : TypeId} (ht : PT t e) : RT o l L n (.bool false) := fun a w F M => by
  obtain ⟨j, hj⟩ := Option.isSome_iff_exists.1 ht.k.2
  unfold execOp
  rw [ho]
  simp [F.eval hx, F.eval hy, eqGuard, Lib.run_neq_ptr_same w p ht.k.1 hj]
/-- *T to unsafe.Pointer and back. -/
theorem rt_toU {s d : TypeId} {x : Operand} (ho : o.op = .convert s d x) {b : Nat} (hx : evl l x = some (.pointer (some ⟨b, 0, none⟩))) {e : TypeId} (hs : PT s e) (hd : Tryd.prog.underlying d = some .unsafePointer) (hz : (Tryd.prog.info? e).map (fun j => Nat.ble 1 j.size) = some true)
    {c : Value} {cs : List Value} {t : TypeId} {L' : List Asn} (hp : Pull L (pt b (c :: cs) t) L') : RT o l L n (.pointer (some ⟨b, 0, none⟩)) := fun a w F M => by
  have hb := M.pt hp
  obtain ⟨j, hj, hj1⟩ := Option.map_eq_some_iff.1 hz
  have hr := Lib.run_to_unsafe (P := Tryd.prog) w (src := s) (dst := d) (cells := (c :: cs).length) (e := t) ⟨b, 0, none⟩ hs.k.1 hd hj (by have := Nat.le_of_ble_eq_true hj1; omega) (by simp [World.shape?, hb]) (by simp)
  unfold execOp
  rw [ho]
  simp [F.eval hx, hr]
theorem rt_fromU {s d : TypeId} {x : Operand} (ho : o.op = .convert s d x) {b : Nat} (hx : evl l x = some (.pointer (some ⟨b, 0, none⟩))) {e : TypeId} (hs : Tryd.prog.underlying s = some .unsafePointer) (hd : PT d e)
    {cs : List Value} {t : TypeId} {L' : List Asn} (hp : Pull L (pt b cs t) L') (hl : liesAt Tryd.prog Tryd.prog.depth t (cs.length / Tryd.prog.cellsOf t) 0 e 1 = true) : RT o l L n (.pointer (some ⟨b, 0, none⟩)) := fun a w F M => by
  have hb := M.pt hp
  obtain ⟨j, hj⟩ := Option.isSome_iff_exists.1 hd.k.2
  have hr := Lib.run_from_unsafe (P := Tryd.prog) w (src := s) (dst := d) (cells := cs.length) (e := t) ⟨b, 0, none⟩ hs hd.k.1 hj (by simp [World.shape?, hb]) hl
  unfold execOp
  rw [ho]
  simp [F.eval hx, hr]
theorem rt_noEscape {f : Operand} {x : Operand} {ats : Array TypeId} (ho : o.op = .call { callee := .value f, args := #[x], argTypes := ats }) {k : FuncId} (hf : evl l f = some (.func (.func k) #[] #[])) {v : Value} (hx : evl l x = some v)
    (hk : (Tryd.prog.funcs[k]?).map (fun fn => !(fn.name == "runtime.NumGoroutine") && fn.body.isNone && (Extern.findNext fn).isNone) = some true) (he : ∃ fn, Tryd.prog.funcs[k]? = some fn ∧ Extern.find fn = some Extern.AbiNoEscape.same) : RT o l L n v := fun a w F M => by
  obtain ⟨fn, h1, h2⟩ := he
  rw [h1] at hk
  have hk := Option.some.inj hk
  simp only [Bool.and_eq_true, Bool.not_eq_true'] at hk
  have hr := run_callFunc_extern (P := Tryd.prog) h1 hk.1.1 hk.1.2 (by simpa using hk.2) h2 #[v] w
  unfold execOp
  rw [ho]
  rw [Sem.run_bind]
  simp only [resolve, F.eval hf, Deferred.ofValue, Sem.run_pure, Result.andThen_ok, invoke]
  simp [F.eval hx, hr, Lib.run_noEscape]
/-- unsafe.SliceData of bytes; unsafe.String over them. -/
theorem rt_sliceData {x : Operand} {ats : Array TypeId} (ho : o.op = .call { callee := .builtin .unsafeSliceData, args := #[x], argTypes := ats }) {v : Value} (hx : evl l x = some v) {e : TypeId} {s : List UInt8} {L' : List Asn} (hp : Pull L (ownT e u8L 1 v s) L') (h0 : s ≠ []) : RT o l L n (.pointer (some ⟨vb v, 0, none⟩)) := fun a w F M => by
  obtain ⟨r, hs, _⟩ := (M.pull hp).head
  have hl : s.length ≠ 0 := by simpa using h0
  rcases hs.2 with ⟨_, h1, _⟩ | ⟨g, cap, cur, rfl, _, _, h2, _⟩
  · exact absurd h1 hl
  · have hr := Lib.run_unsafeSliceData_row (P := Tryd.prog) w ats o.type ⟨g, 0, none⟩ s.length cap (by omega)
    unfold execOp
    rw [ho]
    simp [resolve, invoke, builtin, F.eval hx, hr, vb]
theorem ac_unsafeString {x y : Operand} {pt' it : TypeId} {ats : Array TypeId} (ho : o.op = .call { callee := .builtin .unsafeString, args := #[x, y], argTypes := ats }) (hat : ats = #[pt', it]) {v : Value} (hx : evl l x = some (.pointer (some ⟨vb v, 0, none⟩))) {e : TypeId} (hpt : PT pt' e) (he : Tryd.prog.cellsOf e = 1) {s : List UInt8} (hy : evl l y = some (.int .i64 s.length))
    {L' : List Asn} (hp : Pull L (ownT e u8L 1 v s) L') (h0 : s ≠ []) (h : C (str s) L') : AC o l L n C := fun G a w F M => by
  subst hat
  have M1 := M.pull (hp.app G)
  obtain ⟨r, hs, _⟩ := M1.head
  have hl : s.length ≠ 0 := by simpa using h0
  rcases hs.2 with ⟨_, h1, _⟩ | ⟨g, cap, cur, rfl, rfl, hg, h2, h3, h4, h5⟩
  · exact absurd h1 hl
  · have hA : s.length ≤ cur.size := by rw [h4]; omega
    have hB : s.length ≤ 9223372036854775807 := by have : cap ≤ maxLen := h3; simp only [maxLen] at this; omega
    have hcell : ∀ j x, s[j]? = some x → w.cell? ((⟨g, 0, none⟩ : Addr).add j) = some (.int .u8 x.toNat) := fun j x hj => by
      have h6 : (s.flatMap u8L)[j * 1 + 0]? = (u8L x)[0]? := flat_get (k := 1) (fun _ => rfl) s j 0 x hj (by decide)
      rw [← h5, List.getElem?_take] at h6
      split at h6
      · rw [add0]
        have : cur[j]? = some (.int .u8 x.toNat) := by simpa [u8L] using h6
        simp [World.cell?, hg, this]
      · simp [u8L] at h6
    have hr := Lib.run_unsafeString_row (P := Tryd.prog) w pt' it o.type e hpt.k.1 he g cur.size (by simp [World.shape?, hg]) s h0 hA hB hcell
    have : (execOp a.eval o).run Tryd.prog w = .ok (.value (str s)) (w.freeze ⟨g, 0, none⟩ s.length) := by
      unfold execOp
      rw [ho]
      simp [resolve, invoke, builtin, F.eval hx, F.eval hy, hr, vb]
    rw [this]
    refine ⟨_, h, ?_⟩
    have M2 : Mem (w.freeze ⟨g, 0, none⟩ s.length) ((fun r _ => r = [] : Asn) :: (L' ++ G)) := M1.change fun r' hr' => by
      obtain ⟨_, hh⟩ := hr'.now
      rcases hh with ⟨hh, _⟩ | ⟨g', cap', cur', hh, rfl, _⟩
      · cases hh
      · obtain rfl : g' = g := by cases hh; rfl
        refine ⟨?_, [], ⟨by simp, fun _ _ => rfl⟩, by simp⟩
        unfold World.freeze
        split
        · exact ⟨rfl, rfl, rfl, Nat.le_refl _, fun _ _ _ => rfl⟩
        · refine ⟨rfl, rfl, rfl, by simp, fun k _ hk => ?_⟩
          simp only [Array.getElem?_modify]
          rw [if_neg (by simp at hk; exact fun e => hk e.symm)]
    exact M2.drop
end
/-! ### strings.Builder -/
theorem bldU : Tryd.prog.underlying 124 = some .unsafePointer := by kernel_rfl
theorem bldZ : (Tryd.prog.info? 71).map (fun j => Nat.ble 1 j.size) = some true := by kernel_rfl
theorem bldL {x y : Value} : liesAt Tryd.prog Tryd.prog.depth 71 ([x, y].length / Tryd.prog.cellsOf 71) 0 71 1 = true := by
  show liesAt Tryd.prog Tryd.prog.depth 71 (2 / Tryd.prog.cellsOf 71) 0 71 1 = true
  kernel_rfl
theorem bldN : (Tryd.prog.funcs[91]?).map (fun fn => !(fn.name == "runtime.NumGoroutine") && fn.body.isNone && (Extern.findNext fn).isNone) = some true := by kernel_rfl
theorem bldE : ∃ fn, Tryd.prog.funcs[91]? = some fn ∧ Extern.find fn = some Extern.AbiNoEscape.same := ⟨_, rfl, by kernel_rfl⟩
abbrev ptr (b : Nat) : Value := .pointer (some ⟨b, 0, none⟩)
theorem copyCheck_spec (b : Nat) (p : Option Addr) (hp : p = none ∨ p = some ⟨b, 0, none⟩) (v : Value) (L : List Asn) :
    Spec 74 [ptr b] (pt b [.pointer p, v] 71 :: L) fun u L' => u = .tuple #[] ∧ L' = pt b [ptr b, v] 71 :: L := by
  (intro G w M; refine sx_enter (vs := [ptr b]) Tryd.func74 (n := 20) rfl rfl rfl rfl ?_; intro a F; (try simp only [List.cons_append, List.nil_append] at M))
  rcases hp with rfl | rfl
  · (repeat' (first | (first | (refine sx_nil ?_; (try (replace F := F.filt [0, 6, 19] rfl))) | (refine sv1 F M (h := ?_) (hr := by fail); clear F a; intro a F) | (refine sv1 F M (h := ?_); clear F a; intro a F) | (refine sv3 F M (h := ?_); clear M; intro w M) | (refine sv2 F M (h := ?_); clear F M a; intro b a w F M) | (refine svC F M (h := ?_); fail; (clear F M a; intro a w F M)) | (refine svC0 F M (h := ?_); fail; (clear M; intro w M)) | (refine sv1 F M (h := ?_) (hr := by (first | (apply rt_nilp; (exact rfl); (exact rfl); (exact rfl); (exact inferInstance)) | (apply rt_nesame; (exact rfl); (exact rfl); (exact rfl); (exact inferInstance)) | (apply rt_toU; (exact rfl); (exact rfl); (exact inferInstance); (exact bldU); (exact bldZ); (focus ((repeat (first | exact Pull.here | apply Pull.there)); done))) | (apply rt_fromU; (exact rfl); (exact rfl); (exact bldU); (exact inferInstance); (focus ((repeat (first | exact Pull.here | apply Pull.there)); done)); (exact bldL)) | (apply rt_noEscape; (exact rfl); (exact rfl); (exact rfl); (exact bldN); (exact bldE)))); clear F a; intro a F) | (refine svK F (h := ?_); clear F a; intro a F) | (refine svK0 F (h := ?_)) | ((refine sx_guardb F rfl (fun hg => ?_) (fun hg => ?_)) <;> (rw [hg] at F; (try (exact no hg))))) | (first | (refine pv1 (h := ?_) (hr := by fail)) | (refine pv1 (h := ?_)) | (refine pv3 (h := ?_)) | (refine pv2 (h := ?_); intro b) | (refine pvC (h := ?_); fail; (refine ⟨?_, ?_⟩; (exact rvsA))) | (refine pvC0 (h := ?_); fail; (refine ⟨?_, ?_⟩; (exact rvsA))) | (refine pv1 (h := ?_) (hr := by (first | (apply rt_nilp; (exact rfl); (exact rfl); (exact rfl); (exact inferInstance)) | (apply rt_nesame; (exact rfl); (exact rfl); (exact rfl); (exact inferInstance)) | (apply rt_toU; (exact rfl); (exact rfl); (exact inferInstance); (exact bldU); (exact bldZ); (focus ((repeat (first | exact Pull.here | apply Pull.there)); done))) | (apply rt_fromU; (exact rfl); (exact rfl); (exact bldU); (exact inferInstance); (focus ((repeat (first | exact Pull.here | apply Pull.there)); done)); (exact bldL)) | (apply rt_noEscape; (exact rfl); (exact rfl); (exact rfl); (exact bldN); (exact bldE))))) | (refine pvF (h := ?_); intro b) | (refine pvK (h := ?_)) | (refine pvK0 (h := ?_)) | (refine pv_nil ?_; intro a w F M; refine ql_open ?_) | (refine pv_nil ?_; intro a w F M; (try (replace F := F.filt [0, 6, 19] rfl)))) | ((fail_if_success (with_reducible show wpList _ _ _ _ _ _)); (fail_if_success (with_reducible show PW _ _ _ _ _ _ _ _ _ _)); (fail_if_success (with_reducible show Code.wp _ (Code.loop _) _ _ _)); (first | ((with_reducible show Code.wp _ (Code.region _ _ false) _ _ _); (refine sx_region ?_)) | ((with_reducible show Code.wp _ (Code.cond _ _ _) _ _ _); (first | (refine svT F (h := ?_)) | (refine svF F (h := ?_)) | ((refine svB F (fun hc => ?_) (fun hc => ?_)) <;> (try (exact no hc))))) | ((with_reducible show Code.wp _ (Code.region _ _ true) _ _ _); fail) | go_step))))
    (all_goals ((first | (refine svEnd F M ?_) | (refine svRet F M ?_)); refine ⟨_, _, rfl, ⟨rfl, rfl⟩, ?_⟩; (try simp only [List.cons_append, List.nil_append]); exact M.perms permsA))
  · (repeat' (first | (first | (refine sx_nil ?_; (try (replace F := F.filt [0, 6, 19] rfl))) | (refine sv1 F M (h := ?_) (hr := by fail); clear F a; intro a F) | (refine sv1 F M (h := ?_); clear F a; intro a F) | (refine sv3 F M (h := ?_); clear M; intro w M) | (refine sv2 F M (h := ?_); clear F M a; intro b a w F M) | (refine svC F M (h := ?_); fail; (clear F M a; intro a w F M)) | (refine svC0 F M (h := ?_); fail; (clear M; intro w M)) | (refine sv1 F M (h := ?_) (hr := by (first | (apply rt_nilp; (exact rfl); (exact rfl); (exact rfl); (exact inferInstance)) | (apply rt_nesame; (exact rfl); (exact rfl); (exact rfl); (exact inferInstance)) | (apply rt_toU; (exact rfl); (exact rfl); (exact inferInstance); (exact bldU); (exact bldZ); (focus ((repeat (first | exact Pull.here | apply Pull.there)); done))) | (apply rt_fromU; (exact rfl); (exact rfl); (exact bldU); (exact inferInstance); (focus ((repeat (first | exact Pull.here | apply Pull.there)); done)); (exact bldL)) | (apply rt_noEscape; (exact rfl); (exact rfl); (exact rfl); (exact bldN); (exact bldE)))); clear F a; intro a F) | (refine svK F (h := ?_); clear F a; intro a F) | (refine svK0 F (h := ?_)) | ((refine sx_guardb F rfl (fun hg => ?_) (fun hg => ?_)) <;> (rw [hg] at F; (try (exact no hg))))) | (first | (refine pv1 (h := ?_) (hr := by fail)) | (refine pv1 (h := ?_)) | (refine pv3 (h := ?_)) | (refine pv2 (h := ?_); intro b) | (refine pvC (h := ?_); fail; (refine ⟨?_, ?_⟩; (exact rvsA))) | (refine pvC0 (h := ?_); fail; (refine ⟨?_, ?_⟩; (exact rvsA))) | (refine pv1 (h := ?_) (hr := by (first | (apply rt_nilp; (exact rfl); (exact rfl); (exact rfl); (exact inferInstance)) | (apply rt_nesame; (exact rfl); (exact rfl); (exact rfl); (exact inferInstance)) | (apply rt_toU; (exact rfl); (exact rfl); (exact inferInstance); (exact bldU); (exact bldZ); (focus ((repeat (first | exact Pull.here | apply Pull.there)); done))) | (apply rt_fromU; (exact rfl); (exact rfl); (exact bldU); (exact inferInstance); (focus ((repeat (first | exact Pull.here | apply Pull.there)); done)); (exact bldL)) | (apply rt_noEscape; (exact rfl); (exact rfl); (exact rfl); (exact bldN); (exact bldE))))) | (refine pvF (h := ?_); intro b) | (refine pvK (h := ?_)) | (refine pvK0 (h := ?_)) | (refine pv_nil ?_; intro a w F M; refine ql_open ?_) | (refine pv_nil ?_; intro a w F M; (try (replace F := F.filt [0, 6, 19] rfl)))) | ((fail_if_success (with_reducible show wpList _ _ _ _ _ _)); (fail_if_success (with_reducible show PW _ _ _ _ _ _ _ _ _ _)); (fail_if_success (with_reducible show Code.wp _ (Code.loop _) _ _ _)); (first | ((with_reducible show Code.wp _ (Code.region _ _ false) _ _ _); (refine sx_region ?_)) | ((with_reducible show Code.wp _ (Code.cond _ _ _) _ _ _); (first | (refine svT F (h := ?_)) | (refine svF F (h := ?_)) | ((refine svB F (fun hc => ?_) (fun hc => ?_)) <;> (try (exact no hc))))) | ((with_reducible show Code.wp _ (Code.region _ _ true) _ _ _); fail) | go_step))))
    (all_goals ((first | (refine svEnd F M ?_) | (refine svRet F M ?_)); refine ⟨_, _, rfl, ⟨rfl, rfl⟩, ?_⟩; (try simp only [List.cons_append, List.nil_append]); exact M.perms permsA))
theorem writeString_spec (b : Nat) (p : Option Addr) (hp : p = none ∨ p = some ⟨b, 0, none⟩) (v : Value) (s r : List UInt8) (hb : s.length + r.length ≤ 140737488355328) (L : List Asn) :
    Spec 42 [ptr b, str r] (pt b [.pointer p, v] 71 :: ownT 5 u8L 1 v s :: L) fun u L' => u = .tuple [.int .i64 r.length, .nilIface].toArray ∧ ∃ v', L' = pt b [ptr b, sl v'] 71 :: ownT 5 u8L 1 (sl v') (s ++ r) :: L := by
  (intro G w M; refine sx_enter (vs := [ptr b, str r]) Tryd.func42 (n := 19) rfl rfl rfl rfl ?_; intro a F; (try simp only [List.cons_append, List.nil_append] at M))
  (repeat' (first | (first | (refine sx_nil ?_; (try (replace F := F.filt [0, 1, 4, 5] rfl))) | (refine sv1 F M (h := ?_) (hr := by fail); clear F a; intro a F) | (refine sv1 F M (h := ?_); clear F a; intro a F) | (refine sv3 F M (h := ?_); clear M; intro w M) | (refine sv2 F M (h := ?_); clear F M a; intro b a w F M) | (refine svC F M (h := ?_); (first | ((refine acCall (k := 74) ?_); (refine Spec.mono (copyCheck_spec b p hp v _) ?_); (rintro u L' ⟨rfl, rfl⟩)) | (apply ac_appendS; (exact rfl); (exact rfl); (exact inferInstance); (exact inferInstance); (exact rfl); (exact rfl); (focus ((repeat (first | exact Pull.here | apply Pull.there)); done)); (exact hb); intro v')); (clear F M a; intro a w F M)) | (refine svC0 F M (h := ?_); (first | ((refine acCall (k := 74) ?_); (refine Spec.mono (copyCheck_spec b p hp v _) ?_); (rintro u L' ⟨rfl, rfl⟩)) | (apply ac_appendS; (exact rfl); (exact rfl); (exact inferInstance); (exact inferInstance); (exact rfl); (exact rfl); (focus ((repeat (first | exact Pull.here | apply Pull.there)); done)); (exact hb); intro v')); (clear M; intro w M)) | (refine sv1 F M (h := ?_) (hr := by fail); clear F a; intro a F) | (refine svK F (h := ?_); clear F a; intro a F) | (refine svK0 F (h := ?_)) | ((refine sx_guardb F rfl (fun hg => ?_) (fun hg => ?_)) <;> (rw [hg] at F; (try (exact no hg))))) | (first | (refine pv1 (h := ?_) (hr := by fail)) | (refine pv1 (h := ?_)) | (refine pv3 (h := ?_)) | (refine pv2 (h := ?_); intro b) | (refine pvC (h := ?_); (first | ((refine acCall (k := 74) ?_); (refine Spec.mono (copyCheck_spec b p hp v _) ?_); (rintro u L' ⟨rfl, rfl⟩)) | (apply ac_appendS; (exact rfl); (exact rfl); (exact inferInstance); (exact inferInstance); (exact rfl); (exact rfl); (focus ((repeat (first | exact Pull.here | apply Pull.there)); done)); (exact hb); intro v')); (refine ⟨?_, ?_⟩; (exact rvsA))) | (refine pvC0 (h := ?_); (first | ((refine acCall (k := 74) ?_); (refine Spec.mono (copyCheck_spec b p hp v _) ?_); (rintro u L' ⟨rfl, rfl⟩)) | (apply ac_appendS; (exact rfl); (exact rfl); (exact inferInstance); (exact inferInstance); (exact rfl); (exact rfl); (focus ((repeat (first | exact Pull.here | apply Pull.there)); done)); (exact hb); intro v')); (refine ⟨?_, ?_⟩; (exact rvsA))) | (refine pv1 (h := ?_) (hr := by fail)) | (refine pvF (h := ?_); intro b) | (refine pvK (h := ?_)) | (refine pvK0 (h := ?_)) | (refine pv_nil ?_; intro a w F M; refine ql_open ?_) | (refine pv_nil ?_; intro a w F M; (try (replace F := F.filt [0, 1, 4, 5] rfl)))) | ((fail_if_success (with_reducible show wpList _ _ _ _ _ _)); (fail_if_success (with_reducible show PW _ _ _ _ _ _ _ _ _ _)); (fail_if_success (with_reducible show Code.wp _ (Code.loop _) _ _ _)); (first | ((with_reducible show Code.wp _ (Code.region _ _ false) _ _ _); (refine sx_region ?_)) | ((with_reducible show Code.wp _ (Code.cond _ _ _) _ _ _); (first | (refine svT F (h := ?_)) | (refine svF F (h := ?_)) | ((refine svB F (fun hc => ?_) (fun hc => ?_)) <;> (try (exact no hc))))) | ((with_reducible show Code.wp _ (Code.region _ _ true) _ _ _); fail) | go_step))))
  (all_goals ((first | (refine svEnd F M ?_) | (refine svRet F M ?_)); refine ⟨_, _, rfl, ⟨rfl, v', rfl⟩, ?_⟩; (try simp only [List.cons_append, List.nil_append]); exact M.perms permsA))
theorem bldLen_spec (b : Nat) (p v : Value) (s : List UInt8) (L : List Asn) :
    Spec 45 [ptr b] (pt b [p, v] 71 :: ownT 5 u8L 1 v s :: L) fun u L' => u = .int .i64 s.length ∧ L' = pt b [p, v] 71 :: ownT 5 u8L 1 v s :: L := by
  (intro G w M; refine sx_enter (vs := [ptr b]) Tryd.func45 (n := 8) rfl rfl rfl rfl ?_; intro a F; (try simp only [List.cons_append, List.nil_append] at M))
  (repeat' (first | (first | (refine sx_nil ?_; (try (replace F := F.filt [0, 2] rfl))) | (refine sv1 F M (h := ?_) (hr := by fail); clear F a; intro a F) | (refine sv1 F M (h := ?_); clear F a; intro a F) | (refine sv3 F M (h := ?_); clear M; intro w M) | (refine sv2 F M (h := ?_); clear F M a; intro b a w F M) | (refine svC F M (h := ?_); fail; (clear F M a; intro a w F M)) | (refine svC0 F M (h := ?_); fail; (clear M; intro w M)) | (refine sv1 F M (h := ?_) (hr := by fail); clear F a; intro a F) | (refine svK F (h := ?_); clear F a; intro a F) | (refine svK0 F (h := ?_)) | ((refine sx_guardb F rfl (fun hg => ?_) (fun hg => ?_)) <;> (rw [hg] at F; (try (exact no hg))))) | (first | (refine pv1 (h := ?_) (hr := by fail)) | (refine pv1 (h := ?_)) | (refine pv3 (h := ?_)) | (refine pv2 (h := ?_); intro b) | (refine pvC (h := ?_); fail; (refine ⟨?_, ?_⟩; (exact rvsA))) | (refine pvC0 (h := ?_); fail; (refine ⟨?_, ?_⟩; (exact rvsA))) | (refine pv1 (h := ?_) (hr := by fail)) | (refine pvF (h := ?_); intro b) | (refine pvK (h := ?_)) | (refine pvK0 (h := ?_)) | (refine pv_nil ?_; intro a w F M; refine ql_open ?_) | (refine pv_nil ?_; intro a w F M; (try (replace F := F.filt [0, 2] rfl)))) | ((fail_if_success (with_reducible show wpList _ _ _ _ _ _)); (fail_if_success (with_reducible show PW _ _ _ _ _ _ _ _ _ _)); (fail_if_success (with_reducible show Code.wp _ (Code.loop _) _ _ _)); (first | ((with_reducible show Code.wp _ (Code.region _ _ false) _ _ _); (refine sx_region ?_)) | ((with_reducible show Code.wp _ (Code.cond _ _ _) _ _ _); (first | (refine svT F (h := ?_)) | (refine svF F (h := ?_)) | ((refine svB F (fun hc => ?_) (fun hc => ?_)) <;> (try (exact no hc))))) | ((with_reducible show Code.wp _ (Code.region _ _ true) _ _ _); fail) | go_step))))
  (all_goals ((first | (refine svEnd F M ?_) | (refine svRet F M ?_)); refine ⟨_, _, rfl, ⟨rfl, rfl⟩, ?_⟩; (try simp only [List.cons_append, List.nil_append]); exact M.perms permsA))
theorem bldString_spec (b : Nat) (p v : Value) (s : List UInt8) (h0 : s ≠ []) (L : List Asn) :
    Spec 47 [ptr b] (pt b [p, v] 71 :: ownT 5 u8L 1 v s :: L) fun u L' => u = str s ∧ L' = pt b [p, v] 71 :: L := by
  (intro G w M; refine sx_enter (vs := [ptr b]) Tryd.func47 (n := 14) rfl rfl rfl rfl ?_; intro a F; (try simp only [List.cons_append, List.nil_append] at M))
  (repeat' (first | (first | (refine sx_nil ?_; (try (replace F := F.filt [0, 2] rfl))) | (refine sv1 F M (h := ?_) (hr := by fail); clear F a; intro a F) | (refine sv1 F M (h := ?_); clear F a; intro a F) | (refine sv3 F M (h := ?_); clear M; intro w M) | (refine sv2 F M (h := ?_); clear F M a; intro b a w F M) | (refine svC F M (h := ?_); (apply ac_unsafeString; (exact rfl); (exact rfl); (exact rfl); (exact inferInstance); (exact rfl); (exact rfl); (focus ((repeat (first | exact Pull.here | apply Pull.there)); done)); (exact h0)); (clear F M a; intro a w F M)) | (refine svC0 F M (h := ?_); (apply ac_unsafeString; (exact rfl); (exact rfl); (exact rfl); (exact inferInstance); (exact rfl); (exact rfl); (focus ((repeat (first | exact Pull.here | apply Pull.there)); done)); (exact h0)); (clear M; intro w M)) | (refine sv1 F M (h := ?_) (hr := by (apply rt_sliceData; (exact rfl); (exact rfl); (focus ((repeat (first | exact Pull.here | apply Pull.there)); done)); (exact h0))); clear F a; intro a F) | (refine svK F (h := ?_); clear F a; intro a F) | (refine svK0 F (h := ?_)) | ((refine sx_guardb F rfl (fun hg => ?_) (fun hg => ?_)) <;> (rw [hg] at F; (try (exact no hg))))) | (first | (refine pv1 (h := ?_) (hr := by fail)) | (refine pv1 (h := ?_)) | (refine pv3 (h := ?_)) | (refine pv2 (h := ?_); intro b) | (refine pvC (h := ?_); (apply ac_unsafeString; (exact rfl); (exact rfl); (exact rfl); (exact inferInstance); (exact rfl); (exact rfl); (focus ((repeat (first | exact Pull.here | apply Pull.there)); done)); (exact h0)); (refine ⟨?_, ?_⟩; (exact rvsA))) | (refine pvC0 (h := ?_); (apply ac_unsafeString; (exact rfl); (exact rfl); (exact rfl); (exact inferInstance); (exact rfl); (exact rfl); (focus ((repeat (first | exact Pull.here | apply Pull.there)); done)); (exact h0)); (refine ⟨?_, ?_⟩; (exact rvsA))) | (refine pv1 (h := ?_) (hr := by (apply rt_sliceData; (exact rfl); (exact rfl); (focus ((repeat (first | exact Pull.here | apply Pull.there)); done)); (exact h0)))) | (refine pvF (h := ?_); intro b) | (refine pvK (h := ?_)) | (refine pvK0 (h := ?_)) | (refine pv_nil ?_; intro a w F M; refine ql_open ?_) | (refine pv_nil ?_; intro a w F M; (try (replace F := F.filt [0, 2] rfl)))) | ((fail_if_success (with_reducible show wpList _ _ _ _ _ _)); (fail_if_success (with_reducible show PW _ _ _ _ _ _ _ _ _ _)); (fail_if_success (with_reducible show Code.wp _ (Code.loop _) _ _ _)); (first | ((with_reducible show Code.wp _ (Code.region _ _ false) _ _ _); (refine sx_region ?_)) | ((with_reducible show Code.wp _ (Code.cond _ _ _) _ _ _); (first | (refine svT F (h := ?_)) | (refine svF F (h := ?_)) | ((refine svB F (fun hc => ?_) (fun hc => ?_)) <;> (try (exact no hc))))) | ((with_reducible show Code.wp _ (Code.region _ _ true) _ _ _); (first | (refine svDraw (id := 1) [10] [] [] [0, 1, 2, 3, 4, 5, 6, 7, 8, 9, 10, 11] F M (h := ?_); clear F M a w))) | go_step))))
  (all_goals ((first | (refine svEnd F M ?_) | (refine svRet F M ?_)); refine ⟨_, _, rfl, ⟨rfl, rfl⟩, ?_⟩; (try simp only [List.cons_append, List.nil_append]); exact M.perms permsA))
end Go.Proofs.YtffmcnaaaojgpaaDoor
