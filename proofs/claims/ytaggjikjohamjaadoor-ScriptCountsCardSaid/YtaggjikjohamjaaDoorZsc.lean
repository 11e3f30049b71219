import Derived.Test.YtaggjikjohamjaaDoorZsb
set_option linter.unusedVariables false
set_option linter.unusedSimpArgs false
section
namespace Go.Proofs.YtaggjikjohamjaaDoor
open Go.RowKit
set_option linter.unusedVariables false
set_option maxRecDepth 100000
set_option linter.unusedSimpArgs false
set_option maxHeartbeats 1000000
theorem SlR.from {w : World} {size : Nat} {h : SlH} {m : Nat} {xs : List Value} (hs : SlR w size (sl h) m xs) {j : Nat} (hj : j ≤ m) (hc : m ≤ h.c) : SlR w size (sl (fromH h j size)) (m - j) (xs.drop (j * size)) := by
  obtain ⟨hl, h2⟩ := hs
  obtain ⟨a, n, c⟩ := h
  refine ⟨by rw [List.length_drop, hl, Nat.mul_sub_right_distrib], ?_⟩
  rcases h2 with ⟨⟨p, q, h3⟩, h4⟩ | ⟨b, off, cap, h3, hb, hm, hcell⟩
  · simp only [sl, Value.slice.injEq] at h3
    obtain ⟨rfl, rfl, rfl⟩ := h3
    subst h4
    obtain rfl : j = 0 := by omega
    exact .inl ⟨⟨_, _, rfl⟩, rfl⟩
  · simp only [sl, Value.slice.injEq] at h3
    obtain ⟨rfl, rfl, rfl⟩ := h3
    by_cases hjm : j = n
    · subst hjm
      simp only [fromH, Nat.sub_self]
      exact .inl ⟨⟨_, _, rfl⟩, trivial⟩
    · have hcj : ¬ c = j := by simp only at hc; omega
      refine .inr ⟨b, off + j * size, c - j, ?_, hb, by omega, fun i u hu => ?_⟩
      · simp only [fromH, if_neg hcj, Option.map_some, add0]
      · rw [List.getElem?_drop] at hu
        have := hcell (j * size + i) u hu
        rw [Nat.add_assoc]; exact this
theorem SlR.to {w : World} {size : Nat} {h : SlH} {m : Nat} {xs : List Value} (hs : SlR w size (sl h) m xs) {j : Nat} (hj : j ≤ m) : SlR w size (sl ⟨h.a, j, h.c⟩) j (xs.take (j * size)) := by
  obtain ⟨hl, h2⟩ := hs
  obtain ⟨a, n, c⟩ := h
  have hle : j * size ≤ m * size := Nat.mul_le_mul_right _ hj
  refine ⟨by rw [List.length_take]; omega, ?_⟩
  rcases h2 with ⟨⟨p, q, h3⟩, h4⟩ | ⟨b, off, cap, h3, hb, hm, hcell⟩
  · subst h4
    obtain rfl : j = 0 := by omega
    exact .inl ⟨⟨_, _, rfl⟩, rfl⟩
  · simp only [sl, Value.slice.injEq] at h3
    obtain ⟨rfl, rfl, rfl⟩ := h3
    refine .inr ⟨b, off, c, rfl, hb, by omega, fun i u hu => ?_⟩
    rw [List.getElem?_take] at hu
    split at hu
    · exact hcell i u hu
    · cases hu
section
variable {o : Oper} {n : Nat} {l : List (Nat × Value)} {L : List Asn} {C : Value → List Asn → Prop}
theorem gs_from {L' : List Asn} {e : TypeId} {size m : Nat} {h : SlH} {xs : List Value} (hp : Pull L (own e size (sl h) m xs) L') {j : Nat} (hj : j ≤ m) : GS L size (sl (fromH h j size)) (m - j) (xs.drop (j * size)) := fun w M => by
  have M := M.pull hp
  obtain ⟨_, h2, _, _⟩ := own_h M
  exact (gs_own (L' := L') .here w M).from hj h2
theorem madeCells_get (z : Array Value) (n i : Nat) (hi : i < n) (hz : 0 < z.size) : (madeCells z n).toList[i]? = z.toList[i % z.size]? := by
  have := Nat.mod_lt i hz
  simp [madeCells, hi, getElem!_pos z (i % z.size) this, this]
theorem made_flat {α : Type} {f : α → List Value} {k : Nat} (he : EL f k) (z0 : α) (m : Nat) (hk : 0 < k) : (madeCells (f z0).toArray (m * k)).toList = (List.replicate m z0).flatMap f := by
  apply List.ext_getElem?
  intro i
  by_cases hi : i < m * k
  · have hd : i / k < m := (Nat.div_lt_iff_lt_mul hk).2 hi
    have hm := Nat.mod_lt i hk
    have e : i = i / k * k + i % k := by rw [Nat.mul_comm]; exact (Nat.div_add_mod i k).symm
    rw [madeCells_get _ _ _ hi (by simp [he.len, hk])]
    have h2 := flat_get he.len (List.replicate m z0) (i / k) (i % k) z0 (by simp [hd]) hm
    rw [← e] at h2
    rw [h2]
    simp [he.len]
  · have h1 : (madeCells (f z0).toArray (m * k)).toList.length = m * k := by rw [Array.length_toList, size_madeCells]
    have h2 := flat_lenE he (List.replicate m z0)
    rw [List.getElem?_eq_none (by omega), List.getElem?_eq_none (by rw [h2, List.length_replicate]; omega)]
/-- make of elements. -/
theorem ac_makeT {α : Type} {f : α → List Value} {k : Nat} (he : EL f k) (z0 : α) (hk : Nat.ble 1 k = true) {t : TypeId} {x y : Operand} (ho : o.op = .makeSlice t x y) {e : TypeId} {z : Value} {bytes : Nat} (ht : ST t e z k bytes) (hz : z.cells = (f z0).toArray) {kl kc : IntKind} {m : Nat} (hx : evl l x = some (.int kl (m : Int))) (hy : evl l y = some (.int kc (m : Int))) (hb : bytes * m ≤ 281474976710656) (hm : m ≤ 140737488355328)
    (h : ∀ b, C (sl ⟨some ⟨b, 0, none⟩, m, m⟩) (ownT e f k (sl ⟨some ⟨b, 0, none⟩, m, m⟩) (List.replicate m z0) :: L)) : AC o l L n C :=
  ac_makeSlice ho ht hx hy hb hm fun b => by
    have := h b
    rw [hz, made_flat he z0 m (Nat.le_of_ble_eq_true hk)]
    unfold ownT at this
    rw [List.length_replicate] at this
    exact this
end
end Go.Proofs.YtaggjikjohamjaaDoor
end
section
namespace Go.Proofs.YtaggjikjohamjaaDoor.DM
theorem split_y {y yn1 yn0 q u r un1 : Nat} (hy : y = yn1 * 4294967296 + yn0) (hq : q * yn1 + r = u) :
    q * y = (q * yn1) * 4294967296 + q * yn0 ∧ u * 4294967296 + un1 = (q * yn1) * 4294967296 + r * 4294967296 + un1 := by
  constructor
  · rw [hy, Nat.mul_add, Nat.mul_assoc]
  · rw [← hq, Nat.add_mul]
/-- What the loop keeps: the guess and its remainder. -/
def Inv (y yn1 u un1 q r : Nat) : Prop := q * yn1 + r = u ∧ (u * 4294967296 + un1) / y ≤ q ∧ q ≤ 4294967297 ∧ r < 4294967296
theorem quot_lt {y u un1 : Nat} (hu : u < y) (h1 : un1 < 4294967296) : (u * 4294967296 + un1) / y < 4294967296 := by
  rw [Nat.div_lt_iff_lt_mul (by omega)]
  have : (u + 1) * 4294967296 ≤ y * 4294967296 := Nat.mul_le_mul_right _ (by omega)
  rw [Nat.mul_comm 4294967296 y]
  omega
/-- The test of the loop. -/
theorem test_iff {y yn1 yn0 u un1 q r : Nat} (hy : y = yn1 * 4294967296 + yn0) (hq : q * yn1 + r = u) : (4294967296 * r + un1 < q * yn0) ↔ u * 4294967296 + un1 < q * y := by
  obtain ⟨h1, h2⟩ := split_y (un1 := un1) hy hq
  rw [h1, h2]
  omega
theorem over {y yn1 yn0 u un1 q r : Nat} (hy : y = yn1 * 4294967296 + yn0) (hu : u < y) (h1 : un1 < 4294967296) (hI : Inv y yn1 u un1 q r) (ht : 4294967296 ≤ q ∨ 4294967296 * r + un1 < q * yn0) :
    1 ≤ q ∧ (q - 1) * yn1 + (r + yn1) = u ∧ (u * 4294967296 + un1) / y ≤ q - 1 := by
  obtain ⟨e, hle, hq, hr⟩ := hI
  have hlt : (u * 4294967296 + un1) / y < q := by
    rcases ht with ht | ht
    · exact Nat.lt_of_lt_of_le (quot_lt hu h1) ht
    · rw [test_iff hy e] at ht
      rw [Nat.div_lt_iff_lt_mul (by omega)]
      exact ht
  have hq1 : 1 ≤ q := Nat.lt_of_le_of_lt (Nat.zero_le _) hlt
  refine ⟨hq1, ?_, Nat.le_sub_one_of_lt hlt⟩
  rw [Nat.sub_mul, Nat.one_mul]
  have : yn1 ≤ q * yn1 := Nat.le_mul_of_pos_left _ hq1
  omega
theorem or_add {a b s : Nat} (hb : b < 2 ^ s) : (a * 2 ^ s) ||| b = a * 2 ^ s + b := by
  rw [Nat.mul_comm, Nat.two_pow_add_eq_or_of_lt hb]
theorem parts (U L : Nat) : (U * 4294967296 + L / 4294967296) * 4294967296 + L % 4294967296 = U * 18446744073709551616 + L := by omega
section
variable {y yn1 yn0 u un1 q r : Int}
end
end Go.Proofs.YtaggjikjohamjaaDoor.DM
end
section
namespace Go.Proofs.YtaggjikjohamjaaDoor
open Go.RowKit Go.Maps
set_option linter.unusedVariables false
set_option maxRecDepth 100000
set_option linter.unusedSimpArgs false
set_option maxHeartbeats 8000000
section
variable {o : Oper} {n : Nat} {l : List (Nat × Value)} {L : List Asn} {C : Value → List Asn → Prop}
/-- An entry of a map's literal. -/
theorem ac_insM {t : TypeId} {x y z : Operand} (ho : o.op = .insert t x y z) {b : Nat} (hx : evl l x = some (.map (some b))) {k v : Value} (hy : evl l y = some k) (hz : evl l z = some v) {K E : TypeId} (ht : MT t K E) {q : Lit} (hk : keyOf Tryd.prog K k = some q) {P : List (Value × Value)} {L2 : List Asn} (hp : Rep L (mp b K P) (mp b K ((k, v) :: P)) L2) (hno : ∀ p ∈ P, p.1 ≠ k) (h : C undef L2) : AC o l L n C := fun G a w F M => by
  obtain ⟨L', h1, h2⟩ := hp.both
  obtain ⟨w', e, hm, ht'⟩ := run_mapUpdate_new (v := v) ht.k ht.h hk (gives_mp (h1.app G) w M) hno
  have : (execOp a.eval o).run Tryd.prog w = .ok .skip w' := by
    unfold execOp
    rw [ho]
    simp [F.eval hx, F.eval hy, F.eval hz, e]
  rw [this]
  refine ⟨L2, h, M.rep (hp.app G) fun s hs => ?_⟩
  obtain ⟨rfl, _⟩ := hs.now
  exact ⟨ht'.chg, [b], ok_mp (hm.perm (List.Perm.refl _)), fun x hx => .inl hx⟩
theorem sh_run {a : Act} (F : Fr a n l) {w : World} {b : BinOp} {t ty : TypeId} {x y : Operand} (ho : o.op = .binOp b t x y ty) {k k' : IntKind} {m p : Int} (hx : evl l x = some (.int k m)) (hy : evl l y = some (.int k' p)) {r : Value}
    (h : (binOp b t (.int k m) (.int k' p)).run Tryd.prog w = .ok r w) : (execOp a.eval o).run Tryd.prog w = .ok (.value r) w := by
  unfold execOp
  rw [ho]
  have h1 : (eqGuard b t x y (.int k m) (.int k' p)).run Tryd.prog w = .ok () w := by unfold eqGuard; cases b <;> simp [Sem.run_pure]
  simp only [F.eval hx, F.eval hy, Sem.run_bind, h1, Result.andThen_ok, h]
  rfl
/-- x >> s -/
theorem rt_shr {t ty : TypeId} {x y : Operand} (ho : o.op = .binOp .shr t x y ty) {k : IntKind} {m s : Nat} (hx : evl l x = some (.int .u64 (m : Int))) (hy : evl l y = some (.int k (s : Int))) (hs : s ≤ 64) : RT o l L n (.int .u64 ((m / 2 ^ s : Nat) : Int)) := fun a w F M => by
  refine sh_run F ho hx hy ?_
  have e1 : min (Int.toNat (s : Int)) IntKind.u64.bits = s := by simp [IntKind.bits]; omega
  have e2 : (m : Int).fdiv (2 ^ s) = ((m / 2 ^ s : Nat) : Int) := by
    rw [Int.fdiv_eq_ediv_of_nonneg _ (by exact Int.pow_nonneg (by decide))]; simp
  simp [binOp, Op.shift, e1, e2]
/-- x << s -/
theorem rt_shl {t ty : TypeId} {x y : Operand} (ho : o.op = .binOp .shl t x y ty) {k : IntKind} {m s : Nat} (hx : evl l x = some (.int .u64 (m : Int))) (hy : evl l y = some (.int k (s : Int))) (hs : s ≤ 64) (hm : m * 2 ^ s < 18446744073709551616) : RT o l L n (.int .u64 ((m * 2 ^ s : Nat) : Int)) := fun a w F M => by
  refine sh_run F ho hx hy ?_
  have e1 : min (Int.toNat (s : Int)) IntKind.u64.bits = s := by simp [IntKind.bits]; omega
  have e2 : IntKind.u64.wrap ((m : Int) * 2 ^ s) = ((m * 2 ^ s : Nat) : Int) := by
    rw [IntKind.wrap_u64]
    have : (m : Int) * 2 ^ s = ((m * 2 ^ s : Nat) : Int) := by simp
    rw [this]; omega
  simp [binOp, Op.shift, e1, e2]
/-- x | y, where the bits are apart -/
theorem rt_or8 {t ty : TypeId} {x y : Operand} (ho : o.op = .binOp .or t x y ty) {m p : Nat} (hx : evl l x = some (.int .u64 ((m * 256 : Nat) : Int))) (hy : evl l y = some (.int .u64 (p : Int))) (hp : p < 256) (hm : m * 256 < 18446744073709551616) : RT o l L n (.int .u64 ((256 * m + p : Nat) : Int)) :=
  rt_bin ho hx hy fun w => by
    have : bits .or .u64 ((m * 256 : Nat) : Int) (p : Int) = ((256 * m + p : Nat) : Int) := by
      rw [bits_or_u64_nat _ _ hm (by omega), DM.or_add (a := m) (b := p) (s := 8) hp]
      simp only [Nat.reducePow]; congr 1; omega
    exact Eq.trans (b := .ok (.int .u64 (bits .or .u64 ((m * 256 : Nat) : Int) (p : Int))) w) rfl (by rw [this])
end
abbrev fnO (k : FuncId) : Value := .func (.func k) #[] #[]
def Od.gf : Od → FuncId
  | .i => 95
  | .t => 97
  | .a => 93
def Od.sf : Od → FuncId
  | .i => 96
  | .t => 98
  | .a => 94
def odL (d : Od) : List Value := [.int .i64 d.size, fnO d.gf, fnO d.sf]
abbrev odV (d : Od) : Value := .agg (odL d).toArray
instance : EL odL 3 := ⟨fun _ => rfl, fun x u h => by simp [odL] at h; rcases h with rfl | rfl | rfl <;> rfl⟩
abbrev opV (o : Opn) : Value := .agg (opL o).toArray
theorem index_spec (R : List Asn) : Spec 75 [] R fun u L' => u = odV .i ∧ L' = R := by
  (intro G w M; refine sx_enter (vs := ([] : List Value)) Tryd.func75 (n := 2) rfl rfl rfl rfl ?_; intro a F; (try simp only [List.cons_append, List.nil_append] at M))
  (repeat' (first | (refine sx_nil ?_; (try (replace F := F.filt [0] rfl))) | (refine sv1 F M (h := ?_); clear F a; intro a F) | refine pv1 (h := ?_) | (refine sv3 F M (h := ?_); clear M; intro w M) | (refine sv2 F M (h := ?_); clear F M a; intro nb a w F M) | refine pv3 (h := ?_) | (refine pv2 (h := ?_); intro nb) | ((first | refine svC F M (h := ?_) | refine svC0 F M (h := ?_) | refine pvC (h := ?_) | refine pvC0 (h := ?_)); (fail); (first | refine ⟨rvsA, ?_⟩ | (clear F M a; intro a w F M) | (clear M; intro w M))) | (refine svK F (h := ?_); clear F a; intro a F) | refine svK0 F (h := ?_) | ((refine sx_guardb F rfl (fun hg => ?_) (fun hg => ?_)) <;> (rw [hg] at F; (try (exact no hg)))) | (refine pvF (h := ?_); intro nb) | refine pvK (h := ?_) | refine pvK0 (h := ?_) | (refine pv_nil ?_; intro a w F M; (try (replace F := F.filt [0] rfl))) | ((fail_if_success (with_reducible first | refine isW ?_ | refine isP ?_ | refine isL ?_)); (first | with_reducible refine sx_region ?_ | ((with_reducible refine isK ?_); (first | refine svT F (h := ?_) | refine svF F (h := ?_) | ((refine svB F (fun hc => ?_) (fun hc => ?_)) <;> (try (exact no hc))))) | ((with_reducible refine isD ?_); fail) | with_reducible refine wp_scope_straight ?_ | with_reducible refine wp_label ?_ | go_step))))
  (all_goals ((first | refine svEnd F M ?_ | refine svRet F M ?_); exact ⟨_, _, rfl, ⟨rfl, rfl⟩, M.perms permsA⟩))
theorem target_spec (R : List Asn) : Spec 76 [] R fun u L' => u = odV .t ∧ L' = R := by
  (intro G w M; refine sx_enter (vs := ([] : List Value)) Tryd.func76 (n := 2) rfl rfl rfl rfl ?_; intro a F; (try simp only [List.cons_append, List.nil_append] at M))
  (repeat' (first | (refine sx_nil ?_; (try (replace F := F.filt [0] rfl))) | (refine sv1 F M (h := ?_); clear F a; intro a F) | refine pv1 (h := ?_) | (refine sv3 F M (h := ?_); clear M; intro w M) | (refine sv2 F M (h := ?_); clear F M a; intro nb a w F M) | refine pv3 (h := ?_) | (refine pv2 (h := ?_); intro nb) | ((first | refine svC F M (h := ?_) | refine svC0 F M (h := ?_) | refine pvC (h := ?_) | refine pvC0 (h := ?_)); (fail); (first | refine ⟨rvsA, ?_⟩ | (clear F M a; intro a w F M) | (clear M; intro w M))) | (refine svK F (h := ?_); clear F a; intro a F) | refine svK0 F (h := ?_) | ((refine sx_guardb F rfl (fun hg => ?_) (fun hg => ?_)) <;> (rw [hg] at F; (try (exact no hg)))) | (refine pvF (h := ?_); intro nb) | refine pvK (h := ?_) | refine pvK0 (h := ?_) | (refine pv_nil ?_; intro a w F M; (try (replace F := F.filt [0] rfl))) | ((fail_if_success (with_reducible first | refine isW ?_ | refine isP ?_ | refine isL ?_)); (first | with_reducible refine sx_region ?_ | ((with_reducible refine isK ?_); (first | refine svT F (h := ?_) | refine svF F (h := ?_) | ((refine svB F (fun hc => ?_) (fun hc => ?_)) <;> (try (exact no hc))))) | ((with_reducible refine isD ?_); fail) | with_reducible refine wp_scope_straight ?_ | with_reducible refine wp_label ?_ | go_step))))
  (all_goals ((first | refine svEnd F M ?_ | refine svRet F M ?_); exact ⟨_, _, rfl, ⟨rfl, rfl⟩, M.perms permsA⟩))
theorem amount_spec (R : List Asn) : Spec 74 [] R fun u L' => u = odV .a ∧ L' = R := by
  (intro G w M; refine sx_enter (vs := ([] : List Value)) Tryd.func74 (n := 2) rfl rfl rfl rfl ?_; intro a F; (try simp only [List.cons_append, List.nil_append] at M))
  (repeat' (first | (refine sx_nil ?_; (try (replace F := F.filt [0] rfl))) | (refine sv1 F M (h := ?_); clear F a; intro a F) | refine pv1 (h := ?_) | (refine sv3 F M (h := ?_); clear M; intro w M) | (refine sv2 F M (h := ?_); clear F M a; intro nb a w F M) | refine pv3 (h := ?_) | (refine pv2 (h := ?_); intro nb) | ((first | refine svC F M (h := ?_) | refine svC0 F M (h := ?_) | refine pvC (h := ?_) | refine pvC0 (h := ?_)); (fail); (first | refine ⟨rvsA, ?_⟩ | (clear F M a; intro a w F M) | (clear M; intro w M))) | (refine svK F (h := ?_); clear F a; intro a F) | refine svK0 F (h := ?_) | ((refine sx_guardb F rfl (fun hg => ?_) (fun hg => ?_)) <;> (rw [hg] at F; (try (exact no hg)))) | (refine pvF (h := ?_); intro nb) | refine pvK (h := ?_) | refine pvK0 (h := ?_) | (refine pv_nil ?_; intro a w F M; (try (replace F := F.filt [0] rfl))) | ((fail_if_success (with_reducible first | refine isW ?_ | refine isP ?_ | refine isL ?_)); (first | with_reducible refine sx_region ?_ | ((with_reducible refine isK ?_); (first | refine svT F (h := ?_) | refine svF F (h := ?_) | ((refine svB F (fun hc => ?_) (fun hc => ?_)) <;> (try (exact no hc))))) | ((with_reducible refine isD ?_); fail) | with_reducible refine wp_scope_straight ?_ | with_reducible refine wp_label ?_ | go_step))))
  (all_goals ((first | refine svEnd F M ?_ | refine svRet F M ?_); exact ⟨_, _, rfl, ⟨rfl, rfl⟩, M.perms permsA⟩))
theorem scKey {i : Int} (h : I64 i) : keyOf Tryd.prog 3 (.int .i64 i) = some (.int .i64 i) := keyOf_int_mk (q := .i64) (by kernel_rfl) (by
  have := h.1; have := h.2; simp [Lit.wf, IntKind.min, IntKind.max, IntKind.signed, IntKind.bits]; omega)
instance scMT : MT 108 3 90 := ⟨by kernel_rfl, int_keyed (q := .i64) (by kernel_rfl)⟩
instance scZV : ZV 90 (.slice none 0 0) := ⟨by kernel_rfl⟩
theorem operands_spec (k : Int) (hk : I64 k) (R : List Asn) : Spec 59 [.int .i64 k] R fun u L' => ∃ h, u = .tuple [sl h, .bool (odsOf k).isSome].toArray ∧ L' = ownT 96 odL 3 (sl h) ((odsOf k).getD []) :: R := by
  (intro G w M; refine sx_enter (vs := ([.int .i64 k] : List Value)) Tryd.func59 (n := 30) rfl rfl rfl rfl ?_; intro a F; (try simp only [List.cons_append, List.nil_append] at M))
  have M := M.own_nil 96 3
  (repeat' (first | (refine sx_nil ?_; (try (replace F := F.filt [0, 2, 3, 4, 5] rfl))) | (refine sv1 F M (h := ?_); clear F a; intro a F) | refine pv1 (h := ?_) | (refine sv3 F M (h := ?_); clear M; intro w M) | (refine sv2 F M (h := ?_); clear F M a; intro nb a w F M) | refine pv3 (h := ?_) | (refine pv2 (h := ?_); intro nb) | ((first | refine svC F M (h := ?_) | refine svC0 F M (h := ?_) | refine pvC (h := ?_) | refine pvC0 (h := ?_)); ((first | (apply ac_makeMap; (exact rfl); (exact inferInstance); intro nm) | (refine ac_insM rfl rfl rfl rfl inferInstance (scKey (by constructor <;> decide)) (by (focus ((repeat (first | exact Rep.here | apply Rep.there)); done))) (by simp) ?_) | ((refine acW (k := 75) (index_spec _) ?_); rintro u L' ⟨rfl, rfl⟩) | ((refine acW (k := 76) (target_spec _) ?_); rintro u L' ⟨rfl, rfl⟩) | ((refine acW (k := 74) (amount_spec _) ?_); rintro u L' ⟨rfl, rfl⟩))); (first | refine ⟨rvsA, ?_⟩ | (clear F M a; intro a w F M) | (clear M; intro w M))) | (refine svK F (h := ?_); clear F a; intro a F) | refine svK0 F (h := ?_) | ((refine sx_guardb F rfl (fun hg => ?_) (fun hg => ?_)) <;> (rw [hg] at F; (try (exact no hg)))) | (refine pvF (h := ?_); intro nb) | refine pvK (h := ?_) | refine pvK0 (h := ?_) | (refine pv_nil ?_; intro a w F M; (try (replace F := F.filt [0, 2, 3, 4, 5] rfl))) | ((fail_if_success (with_reducible first | refine isW ?_ | refine isP ?_ | refine isL ?_)); (first | with_reducible refine sx_region ?_ | ((with_reducible refine isK ?_); (first | refine svT F (h := ?_) | refine svF F (h := ?_) | ((refine svB F (fun hc => ?_) (fun hc => ?_)) <;> (try (exact no hc))))) | ((with_reducible refine isD ?_); fail) | with_reducible refine wp_scope_straight ?_ | with_reducible refine wp_label ?_ | go_step))))
  by_cases hk7 : k = 1 ∨ k = 2 ∨ k = 3 ∨ k = 4 ∨ k = 5 ∨ k = 6 ∨ k = 7
  · rcases hk7 with rfl | rfl | rfl | rfl | rfl | rfl | rfl
    all_goals (repeat' (first | ((first | refine sv1 F M (h := ?_) (hr := by ((apply rt_hit2; (exact rfl); (exact rfl); (exact rfl); (exact inferInstance); (exact gives_mp pullA); (exact scKey (by constructor <;> decide)); ((repeat (first | exact List.Mem.head _ | apply List.Mem.tail)); done)))) | refine pv1 (h := ?_) (hr := by ((apply rt_hit2; (exact rfl); (exact rfl); (exact rfl); (exact inferInstance); (exact gives_mp pullA); (exact scKey (by constructor <;> decide)); ((repeat (first | exact List.Mem.head _ | apply List.Mem.tail)); done))))); (try (clear F a; intro a F))) | (refine sx_nil ?_; (try (replace F := F.filt [0, 2, 3, 4, 5] rfl))) | (refine sv1 F M (h := ?_); clear F a; intro a F) | refine pv1 (h := ?_) | (refine sv3 F M (h := ?_); clear M; intro w M) | (refine sv2 F M (h := ?_); clear F M a; intro nb a w F M) | refine pv3 (h := ?_) | (refine pv2 (h := ?_); intro nb) | ((first | refine svC F M (h := ?_) | refine svC0 F M (h := ?_) | refine pvC (h := ?_) | refine pvC0 (h := ?_)); ((first | (apply ac_makeMap; (exact rfl); (exact inferInstance); intro nm) | (refine ac_insM rfl rfl rfl rfl inferInstance (scKey (by constructor <;> decide)) (by (focus ((repeat (first | exact Rep.here | apply Rep.there)); done))) (by simp) ?_) | ((refine acW (k := 75) (index_spec _) ?_); rintro u L' ⟨rfl, rfl⟩) | ((refine acW (k := 76) (target_spec _) ?_); rintro u L' ⟨rfl, rfl⟩) | ((refine acW (k := 74) (amount_spec _) ?_); rintro u L' ⟨rfl, rfl⟩))); (first | refine ⟨rvsA, ?_⟩ | (clear F M a; intro a w F M) | (clear M; intro w M))) | (refine svK F (h := ?_); clear F a; intro a F) | refine svK0 F (h := ?_) | ((refine sx_guardb F rfl (fun hg => ?_) (fun hg => ?_)) <;> (rw [hg] at F; (try (exact no hg)))) | (refine pvF (h := ?_); intro nb) | refine pvK (h := ?_) | refine pvK0 (h := ?_) | (refine pv_nil ?_; intro a w F M; (try (replace F := F.filt [0, 2, 3, 4, 5] rfl))) | ((fail_if_success (with_reducible first | refine isW ?_ | refine isP ?_ | refine isL ?_)); (first | with_reducible refine sx_region ?_ | ((with_reducible refine isK ?_); (first | refine svT F (h := ?_) | refine svF F (h := ?_) | ((refine svB F (fun hc => ?_) (fun hc => ?_)) <;> (try (exact no hc))))) | ((with_reducible refine isD ?_); fail) | with_reducible refine wp_scope_straight ?_ | with_reducible refine wp_label ?_ | go_step))))
    all_goals (first | refine svEnd F M ?_ | refine svRet F M ?_)
    all_goals exact ⟨_, _, rfl, ⟨⟨_, _, _⟩, rfl, rfl⟩, M.perms permsA⟩
  · have e : odsOf k = none := by
      unfold odsOf
      repeat rw [if_neg (by omega)]
    (repeat' (first | ((first | refine sv1 F M (h := ?_) (hr := by ((apply rt_miss2; (exact rfl); (exact rfl); (exact rfl); (exact inferInstance); (exact gives_mp pullA); (exact scKey hk); (intro p hp he; simp only [List.mem_cons, List.not_mem_nil, or_false] at hp; (rcases hp with rfl | rfl | rfl | rfl | rfl | rfl | rfl) <;> (injection he with _ he; omega)); (exact inferInstance)))) | refine pv1 (h := ?_) (hr := by ((apply rt_miss2; (exact rfl); (exact rfl); (exact rfl); (exact inferInstance); (exact gives_mp pullA); (exact scKey hk); (intro p hp he; simp only [List.mem_cons, List.not_mem_nil, or_false] at hp; (rcases hp with rfl | rfl | rfl | rfl | rfl | rfl | rfl) <;> (injection he with _ he; omega)); (exact inferInstance))))); (try (clear F a; intro a F))) | (refine sx_nil ?_; (try (replace F := F.filt [0, 2, 3, 4, 5] rfl))) | (refine sv1 F M (h := ?_); clear F a; intro a F) | refine pv1 (h := ?_) | (refine sv3 F M (h := ?_); clear M; intro w M) | (refine sv2 F M (h := ?_); clear F M a; intro nb a w F M) | refine pv3 (h := ?_) | (refine pv2 (h := ?_); intro nb) | ((first | refine svC F M (h := ?_) | refine svC0 F M (h := ?_) | refine pvC (h := ?_) | refine pvC0 (h := ?_)); ((first | (apply ac_makeMap; (exact rfl); (exact inferInstance); intro nm) | (refine ac_insM rfl rfl rfl rfl inferInstance (scKey (by constructor <;> decide)) (by (focus ((repeat (first | exact Rep.here | apply Rep.there)); done))) (by simp) ?_) | ((refine acW (k := 75) (index_spec _) ?_); rintro u L' ⟨rfl, rfl⟩) | ((refine acW (k := 76) (target_spec _) ?_); rintro u L' ⟨rfl, rfl⟩) | ((refine acW (k := 74) (amount_spec _) ?_); rintro u L' ⟨rfl, rfl⟩))); (first | refine ⟨rvsA, ?_⟩ | (clear F M a; intro a w F M) | (clear M; intro w M))) | (refine svK F (h := ?_); clear F a; intro a F) | refine svK0 F (h := ?_) | ((refine sx_guardb F rfl (fun hg => ?_) (fun hg => ?_)) <;> (rw [hg] at F; (try (exact no hg)))) | (refine pvF (h := ?_); intro nb) | refine pvK (h := ?_) | refine pvK0 (h := ?_) | (refine pv_nil ?_; intro a w F M; (try (replace F := F.filt [0, 2, 3, 4, 5] rfl))) | ((fail_if_success (with_reducible first | refine isW ?_ | refine isP ?_ | refine isL ?_)); (first | with_reducible refine sx_region ?_ | ((with_reducible refine isK ?_); (first | refine svT F (h := ?_) | refine svF F (h := ?_) | ((refine svB F (fun hc => ?_) (fun hc => ?_)) <;> (try (exact no hc))))) | ((with_reducible refine isD ?_); fail) | with_reducible refine wp_scope_straight ?_ | with_reducible refine wp_label ?_ | go_step))))
    all_goals (first | refine svEnd F M ?_ | refine svRet F M ?_)
    all_goals (rw [e]; exact ⟨_, _, rfl, ⟨nilH, rfl, rfl⟩, M.perms permsA⟩)
theorem szL_take {ds : List Od} {j : Nat} {d : Od} (h : ds[j]? = some d) : szL (ds.take (j + 1)) = szL (ds.take j) + d.size := by
  induction ds generalizing j with
  | nil => simp at h
  | cons e ds ih =>
    cases j with
    | zero => simp at h; subst h; simp [szL]
    | succ j => simp at h; rw [List.take_succ_cons, List.take_succ_cons, szL, szL, ih h]; omega
theorem ods_len {k : Int} {ds : List Od} (h : odsOf k = some ds) : ds.length ≤ 2 ∧ szL ds ≤ 10 := by
  rcases ods_cases h with ⟨_, rfl⟩ | ⟨_, rfl⟩ | ⟨_, rfl⟩ | ⟨_, rfl⟩ | ⟨_, rfl⟩ | ⟨_, rfl⟩ | ⟨_, rfl⟩ <;> decide
theorem od_size (d : Od) : d.size ≤ 8 ∧ 2 ≤ d.size := by cases d <;> decide
theorem size_spec (k : Int) (hk : I64 k) (R : List Asn) : Spec 60 [.int .i64 k] R fun u L' => u = .int .i64 (szK k) ∧ L' = R := by
  have hop := fun R => operands_spec k hk R
  cases hd : odsOf k with
  | none =>
    rw [hd] at hop
    simp only [Option.isSome_none, Option.getD_none] at hop
    have e : szK k = 0 := by rw [szK, hd]
    (intro G w M; refine sx_enter (vs := ([.int .i64 k] : List Value)) Tryd.func60 (n := 27) rfl rfl rfl rfl ?_; intro a F; (try simp only [List.cons_append, List.nil_append] at M))
    (repeat' (first | (refine sx_nil ?_; (try (replace F := F.filt [0, 2, 3, 4, 5, 7, 14, 15, 16, 17, 18] rfl))) | (refine sv1 F M (h := ?_); clear F a; intro a F) | refine pv1 (h := ?_) | (refine sv3 F M (h := ?_); clear M; intro w M) | (refine sv2 F M (h := ?_); clear F M a; intro nb a w F M) | refine pv3 (h := ?_) | (refine pv2 (h := ?_); intro nb) | ((first | refine svC F M (h := ?_) | refine svC0 F M (h := ?_) | refine pvC (h := ?_) | refine pvC0 (h := ?_)); (((refine acW (k := 59) (hop _) ?_); rintro u L' ⟨h, rfl, rfl⟩)); (first | refine ⟨rvsA, ?_⟩ | (clear F M a; intro a w F M) | (clear M; intro w M))) | (refine svK F (h := ?_); clear F a; intro a F) | refine svK0 F (h := ?_) | ((refine sx_guardb F rfl (fun hg => ?_) (fun hg => ?_)) <;> (rw [hg] at F; (try (exact no hg)))) | (refine pvF (h := ?_); intro nb) | refine pvK (h := ?_) | refine pvK0 (h := ?_) | (refine pv_nil ?_; intro a w F M; (try (replace F := F.filt [0, 2, 3, 4, 5, 7, 14, 15, 16, 17, 18] rfl))) | ((fail_if_success (with_reducible first | refine isW ?_ | refine isP ?_ | refine isL ?_)); (first | with_reducible refine sx_region ?_ | ((with_reducible refine isK ?_); (first | refine svT F (h := ?_) | refine svF F (h := ?_) | ((refine svB F (fun hc => ?_) (fun hc => ?_)) <;> (try (exact no hc))))) | ((with_reducible refine isD ?_); fail) | with_reducible refine wp_scope_straight ?_ | with_reducible refine wp_label ?_ | go_step))))
    all_goals (first | refine svEnd F M ?_ | refine svRet F M ?_)
    all_goals exact ⟨_, _, rfl, ⟨by rw [e]; rfl, rfl⟩, M.perms permsA⟩
  | some ds =>
    rw [hd] at hop
    simp only [Option.isSome_some, Option.getD_some] at hop
    obtain ⟨hl, hz⟩ := ods_len hd
    have e : szK k = 1 + szL ds := by rw [szK, hd]
    (intro G w M; refine sx_enter (vs := ([.int .i64 k] : List Value)) Tryd.func60 (n := 27) rfl rfl rfl rfl ?_; intro a F; (try simp only [List.cons_append, List.nil_append] at M))
    (repeat' (first | (refine sx_nil ?_; (try (replace F := F.filt [0, 2, 3, 4, 5, 7, 14, 15, 16, 17, 18] rfl))) | (refine sv1 F M (h := ?_); clear F a; intro a F) | refine pv1 (h := ?_) | (refine sv3 F M (h := ?_); clear M; intro w M) | (refine sv2 F M (h := ?_); clear F M a; intro nb a w F M) | refine pv3 (h := ?_) | (refine pv2 (h := ?_); intro nb) | ((first | refine svC F M (h := ?_) | refine svC0 F M (h := ?_) | refine pvC (h := ?_) | refine pvC0 (h := ?_)); (((refine acW (k := 59) (hop _) ?_); rintro u L' ⟨h, rfl, rfl⟩)); (first | refine ⟨rvsA, ?_⟩ | (clear F M a; intro a w F M) | (clear M; intro w M))) | (refine svK F (h := ?_); clear F a; intro a F) | refine svK0 F (h := ?_) | ((refine sx_guardb F rfl (fun hg => ?_) (fun hg => ?_)) <;> (rw [hg] at F; (try (exact no hg)))) | (refine pvF (h := ?_); intro nb) | refine pvK (h := ?_) | refine pvK0 (h := ?_) | (refine pv_nil ?_; intro a w F M; (try (replace F := F.filt [0, 2, 3, 4, 5, 7, 14, 15, 16, 17, 18] rfl))) | ((fail_if_success (with_reducible first | refine isW ?_ | refine isP ?_ | refine isL ?_)); (first | with_reducible refine sx_region ?_ | ((with_reducible refine isK ?_); (first | refine svT F (h := ?_) | refine svF F (h := ?_) | ((refine svB F (fun hc => ?_) (fun hc => ?_)) <;> (try (exact no hc))))) | ((with_reducible refine isD ?_); fail) | with_reducible refine wp_scope_straight ?_ | with_reducible refine wp_label ?_ | go_step))))
    refine svLoop F M (0 : Nat) (fun j => [(17, .int .i64 j), (5, .int .i64 ((1 + szL (ds.take j) : Nat) : Int))]) (fun _ => []) (fun j => j ≤ ds.length) (fun j => ds.length - j) [7] (Nat.zero_le _) ?_
    (rintro j q1 a w F M; (try simp only [List.cons_append, List.nil_append] at F M q1 ⊢))
    by_cases hj : j < ds.length
    · obtain ⟨d, hdj⟩ : ∃ d, ds[j]? = some d := ⟨ds[j], by simp [hj]⟩
      have hs := szL_take hdj
      have hds := od_size d
      have hb : szL (ds.take j) ≤ 100 := by
        have : ∀ l : List Od, szL l ≤ 8 * l.length := fun l => by
          induction l with
          | nil => decide
          | cons d l ih => have := od_size d; rw [szL, List.length_cons]; omega
        have := this (ds.take j)
        rw [List.length_take] at this; omega
      have e2 : ((1 + szL (ds.take j) : Nat) : Int) + (d.size : Int) = ((1 + szL (ds.take (j + 1)) : Nat) : Int) := by omega
      (repeat' (first | (refine sx_nil ?_; (try (replace F := F.filt [0, 2, 3, 4, 5, 7, 14, 15, 16, 17, 18] rfl))) | (refine sv1 F M (h := ?_); clear F a; intro a F) | refine pv1 (h := ?_) | (refine sv3 F M (h := ?_); clear M; intro w M) | (refine sv2 F M (h := ?_); clear F M a; intro nb a w F M) | refine pv3 (h := ?_) | (refine pv2 (h := ?_); intro nb) | ((first | refine svC F M (h := ?_) | refine svC0 F M (h := ?_) | refine pvC (h := ?_) | refine pvC0 (h := ?_)); (((refine acW (k := 59) (hop _) ?_); rintro u L' ⟨h, rfl, rfl⟩)); (first | refine ⟨rvsA, ?_⟩ | (clear F M a; intro a w F M) | (clear M; intro w M))) | (refine svK F (h := ?_); clear F a; intro a F) | refine svK0 F (h := ?_) | ((refine sx_guardb F rfl (fun hg => ?_) (fun hg => ?_)) <;> (rw [hg] at F; (try (exact no hg)))) | (refine pvF (h := ?_); intro nb) | refine pvK (h := ?_) | refine pvK0 (h := ?_) | (refine pv_nil ?_; intro a w F M; (try (replace F := F.filt [0, 2, 3, 4, 5, 7, 14, 15, 16, 17, 18] rfl))) | ((fail_if_success (with_reducible first | refine isW ?_ | refine isP ?_ | refine isL ?_)); (first | with_reducible refine sx_region ?_ | ((with_reducible refine isK ?_); (first | refine svT F (h := ?_) | refine svF F (h := ?_) | ((refine svB F (fun hc => ?_) (fun hc => ?_)) <;> (try (exact no hc))))) | ((with_reducible refine isD ?_); fail) | with_reducible refine wp_scope_straight ?_ | with_reducible refine wp_label ?_ | go_step))))
      rw [e2] at F
      exact sv_again F M (j + 1) kpA permsA (by omega) (by omega)
    · obtain rfl : j = ds.length := by omega
      (repeat' (first | (refine sx_nil ?_; (try (replace F := F.filt [0, 2, 3, 4, 5, 7, 14, 15, 16, 17, 18] rfl))) | (refine sv1 F M (h := ?_); clear F a; intro a F) | refine pv1 (h := ?_) | (refine sv3 F M (h := ?_); clear M; intro w M) | (refine sv2 F M (h := ?_); clear F M a; intro nb a w F M) | refine pv3 (h := ?_) | (refine pv2 (h := ?_); intro nb) | ((first | refine svC F M (h := ?_) | refine svC0 F M (h := ?_) | refine pvC (h := ?_) | refine pvC0 (h := ?_)); (((refine acW (k := 59) (hop _) ?_); rintro u L' ⟨h, rfl, rfl⟩)); (first | refine ⟨rvsA, ?_⟩ | (clear F M a; intro a w F M) | (clear M; intro w M))) | (refine svK F (h := ?_); clear F a; intro a F) | refine svK0 F (h := ?_) | ((refine sx_guardb F rfl (fun hg => ?_) (fun hg => ?_)) <;> (rw [hg] at F; (try (exact no hg)))) | (refine pvF (h := ?_); intro nb) | refine pvK (h := ?_) | refine pvK0 (h := ?_) | (refine pv_nil ?_; intro a w F M; (try (replace F := F.filt [0, 2, 3, 4, 5, 7, 14, 15, 16, 17, 18] rfl))) | ((fail_if_success (with_reducible first | refine isW ?_ | refine isP ?_ | refine isL ?_)); (first | with_reducible refine sx_region ?_ | ((with_reducible refine isK ?_); (first | refine svT F (h := ?_) | refine svF F (h := ?_) | ((refine svB F (fun hc => ?_) (fun hc => ?_)) <;> (try (exact no hc))))) | ((with_reducible refine isD ?_); fail) | with_reducible refine wp_scope_straight ?_ | with_reducible refine wp_label ?_ | go_step))))
      all_goals (first | refine svEnd F M ?_ | refine svRet F M ?_)
      all_goals exact ⟨_, _, rfl, ⟨by rw [e, List.take_length]; rfl, rfl⟩, M.perms permsA⟩
/-! ### get and set -/
theorem u64of_wrap (x : Int) : IntKind.u64.wrap x = (u64of x : Int) := by rw [IntKind.wrap_u64]; unfold u64of; omega
theorem get_spec (d : Od) (o : Opn) (ho : U64 o.am) (R : List Asn) : Spec d.gf [opV o] R fun u L' => u = .int .u64 (u64of (d.get o) : Int) ∧ L' = R := by
  have e : ((u64of o.am : Nat) : Int) = o.am := by unfold u64of; have := ho.1; have := ho.2; omega
  have e2 := u64of_wrap o.ix
  have e3 := u64of_wrap o.tg
  obtain ⟨k, ix, tg, am⟩ := o
  simp only at e e2 e3
  cases d
  · (intro G w M; refine sx_enter (vs := ([opV ⟨k, ix, tg, am⟩] : List Value)) Tryd.func95 (n := 6) rfl rfl rfl rfl ?_; intro a F; (try simp only [List.cons_append, List.nil_append] at M))
    (repeat' (first | (refine sx_nil ?_; (try (replace F := F.filt [0, 1, 2] rfl))) | (refine sv1 F M (h := ?_); clear F a; intro a F) | refine pv1 (h := ?_) | (refine sv3 F M (h := ?_); clear M; intro w M) | (refine sv2 F M (h := ?_); clear F M a; intro nb a w F M) | refine pv3 (h := ?_) | (refine pv2 (h := ?_); intro nb) | ((first | refine svC F M (h := ?_) | refine svC0 F M (h := ?_) | refine pvC (h := ?_) | refine pvC0 (h := ?_)); (fail); (first | refine ⟨rvsA, ?_⟩ | (clear F M a; intro a w F M) | (clear M; intro w M))) | (refine svK F (h := ?_); clear F a; intro a F) | refine svK0 F (h := ?_) | ((refine sx_guardb F rfl (fun hg => ?_) (fun hg => ?_)) <;> (rw [hg] at F; (try (exact no hg)))) | (refine pvF (h := ?_); intro nb) | refine pvK (h := ?_) | refine pvK0 (h := ?_) | (refine pv_nil ?_; intro a w F M; (try (replace F := F.filt [0, 1, 2] rfl))) | ((fail_if_success (with_reducible first | refine isW ?_ | refine isP ?_ | refine isL ?_)); (first | with_reducible refine sx_region ?_ | ((with_reducible refine isK ?_); (first | refine svT F (h := ?_) | refine svF F (h := ?_) | ((refine svB F (fun hc => ?_) (fun hc => ?_)) <;> (try (exact no hc))))) | ((with_reducible refine isD ?_); fail) | with_reducible refine wp_scope_straight ?_ | with_reducible refine wp_label ?_ | go_step))))
    all_goals (first | refine svEnd F M ?_ | refine svRet F M ?_)
    all_goals exact ⟨_, _, rfl, ⟨by simp only [tupOf, e2, Od.get], rfl⟩, M.perms permsA⟩
  · (intro G w M; refine sx_enter (vs := ([opV ⟨k, ix, tg, am⟩] : List Value)) Tryd.func97 (n := 6) rfl rfl rfl rfl ?_; intro a F; (try simp only [List.cons_append, List.nil_append] at M))
    (repeat' (first | (refine sx_nil ?_; (try (replace F := F.filt [0, 1, 2] rfl))) | (refine sv1 F M (h := ?_); clear F a; intro a F) | refine pv1 (h := ?_) | (refine sv3 F M (h := ?_); clear M; intro w M) | (refine sv2 F M (h := ?_); clear F M a; intro nb a w F M) | refine pv3 (h := ?_) | (refine pv2 (h := ?_); intro nb) | ((first | refine svC F M (h := ?_) | refine svC0 F M (h := ?_) | refine pvC (h := ?_) | refine pvC0 (h := ?_)); (fail); (first | refine ⟨rvsA, ?_⟩ | (clear F M a; intro a w F M) | (clear M; intro w M))) | (refine svK F (h := ?_); clear F a; intro a F) | refine svK0 F (h := ?_) | ((refine sx_guardb F rfl (fun hg => ?_) (fun hg => ?_)) <;> (rw [hg] at F; (try (exact no hg)))) | (refine pvF (h := ?_); intro nb) | refine pvK (h := ?_) | refine pvK0 (h := ?_) | (refine pv_nil ?_; intro a w F M; (try (replace F := F.filt [0, 1, 2] rfl))) | ((fail_if_success (with_reducible first | refine isW ?_ | refine isP ?_ | refine isL ?_)); (first | with_reducible refine sx_region ?_ | ((with_reducible refine isK ?_); (first | refine svT F (h := ?_) | refine svF F (h := ?_) | ((refine svB F (fun hc => ?_) (fun hc => ?_)) <;> (try (exact no hc))))) | ((with_reducible refine isD ?_); fail) | with_reducible refine wp_scope_straight ?_ | with_reducible refine wp_label ?_ | go_step))))
    all_goals (first | refine svEnd F M ?_ | refine svRet F M ?_)
    all_goals exact ⟨_, _, rfl, ⟨by simp only [tupOf, e3, Od.get], rfl⟩, M.perms permsA⟩
  · (intro G w M; refine sx_enter (vs := ([opV ⟨k, ix, tg, am⟩] : List Value)) Tryd.func93 (n := 5) rfl rfl rfl rfl ?_; intro a F; (try simp only [List.cons_append, List.nil_append] at M))
    (repeat' (first | (refine sx_nil ?_; (try (replace F := F.filt [0, 1, 2] rfl))) | (refine sv1 F M (h := ?_); clear F a; intro a F) | refine pv1 (h := ?_) | (refine sv3 F M (h := ?_); clear M; intro w M) | (refine sv2 F M (h := ?_); clear F M a; intro nb a w F M) | refine pv3 (h := ?_) | (refine pv2 (h := ?_); intro nb) | ((first | refine svC F M (h := ?_) | refine svC0 F M (h := ?_) | refine pvC (h := ?_) | refine pvC0 (h := ?_)); (fail); (first | refine ⟨rvsA, ?_⟩ | (clear F M a; intro a w F M) | (clear M; intro w M))) | (refine svK F (h := ?_); clear F a; intro a F) | refine svK0 F (h := ?_) | ((refine sx_guardb F rfl (fun hg => ?_) (fun hg => ?_)) <;> (rw [hg] at F; (try (exact no hg)))) | (refine pvF (h := ?_); intro nb) | refine pvK (h := ?_) | refine pvK0 (h := ?_) | (refine pv_nil ?_; intro a w F M; (try (replace F := F.filt [0, 1, 2] rfl))) | ((fail_if_success (with_reducible first | refine isW ?_ | refine isP ?_ | refine isL ?_)); (first | with_reducible refine sx_region ?_ | ((with_reducible refine isK ?_); (first | refine svT F (h := ?_) | refine svF F (h := ?_) | ((refine svB F (fun hc => ?_) (fun hc => ?_)) <;> (try (exact no hc))))) | ((with_reducible refine isD ?_); fail) | with_reducible refine wp_scope_straight ?_ | with_reducible refine wp_label ?_ | go_step))))
    all_goals (first | refine svEnd F M ?_ | refine svRet F M ?_)
    all_goals exact ⟨_, _, rfl, ⟨by simp only [tupOf, e, Od.get], rfl⟩, M.perms permsA⟩
theorem set_spec (d : Od) (o : Opn) (b : Nat) (x : Nat) (hx : x < 256 ^ d.size) (R : List Asn) : Spec d.sf [ptr b, .int .u64 (x : Int)] (pt b (opL o) 24 :: R) fun u L' => L' = pt b (opL (d.set o x)) 24 :: R := by
  obtain ⟨k, ix, tg, am⟩ := o
  cases d
  · have e : IntKind.i64.wrap (x : Int) = x := IntWalk.i64_in _ ⟨by omega, by simp only [Od.size] at hx; omega⟩
    (intro G w M; refine sx_enter (vs := ([ptr b, .int .u64 (x : Int)] : List Value)) Tryd.func96 (n := 9) rfl rfl rfl rfl ?_; intro a F; (try simp only [List.cons_append, List.nil_append] at M))
    (repeat' (first | (refine sx_nil ?_; (try (replace F := F.filt [0, 1] rfl))) | (refine sv1 F M (h := ?_); clear F a; intro a F) | refine pv1 (h := ?_) | (refine sv3 F M (h := ?_); clear M; intro w M) | (refine sv2 F M (h := ?_); clear F M a; intro nb a w F M) | refine pv3 (h := ?_) | (refine pv2 (h := ?_); intro nb) | ((first | refine svC F M (h := ?_) | refine svC0 F M (h := ?_) | refine pvC (h := ?_) | refine pvC0 (h := ?_)); (fail); (first | refine ⟨rvsA, ?_⟩ | (clear F M a; intro a w F M) | (clear M; intro w M))) | (refine svK F (h := ?_); clear F a; intro a F) | refine svK0 F (h := ?_) | ((refine sx_guardb F rfl (fun hg => ?_) (fun hg => ?_)) <;> (rw [hg] at F; (try (exact no hg)))) | (refine pvF (h := ?_); intro nb) | refine pvK (h := ?_) | refine pvK0 (h := ?_) | (refine pv_nil ?_; intro a w F M; (try (replace F := F.filt [0, 1] rfl))) | ((fail_if_success (with_reducible first | refine isW ?_ | refine isP ?_ | refine isL ?_)); (first | with_reducible refine sx_region ?_ | ((with_reducible refine isK ?_); (first | refine svT F (h := ?_) | refine svF F (h := ?_) | ((refine svB F (fun hc => ?_) (fun hc => ?_)) <;> (try (exact no hc))))) | ((with_reducible refine isD ?_); fail) | with_reducible refine wp_scope_straight ?_ | with_reducible refine wp_label ?_ | go_step))))
    all_goals (try rw [e] at M)
    all_goals (first | refine svEnd F M ?_ | refine svRet F M ?_)
    all_goals exact ⟨_, _, rfl, rfl, M.perms permsA⟩
  · have e : IntKind.i64.wrap (x : Int) = x := IntWalk.i64_in _ ⟨by omega, by simp only [Od.size] at hx; omega⟩
    (intro G w M; refine sx_enter (vs := ([ptr b, .int .u64 (x : Int)] : List Value)) Tryd.func98 (n := 9) rfl rfl rfl rfl ?_; intro a F; (try simp only [List.cons_append, List.nil_append] at M))
    (repeat' (first | (refine sx_nil ?_; (try (replace F := F.filt [0, 1] rfl))) | (refine sv1 F M (h := ?_); clear F a; intro a F) | refine pv1 (h := ?_) | (refine sv3 F M (h := ?_); clear M; intro w M) | (refine sv2 F M (h := ?_); clear F M a; intro nb a w F M) | refine pv3 (h := ?_) | (refine pv2 (h := ?_); intro nb) | ((first | refine svC F M (h := ?_) | refine svC0 F M (h := ?_) | refine pvC (h := ?_) | refine pvC0 (h := ?_)); (fail); (first | refine ⟨rvsA, ?_⟩ | (clear F M a; intro a w F M) | (clear M; intro w M))) | (refine svK F (h := ?_); clear F a; intro a F) | refine svK0 F (h := ?_) | ((refine sx_guardb F rfl (fun hg => ?_) (fun hg => ?_)) <;> (rw [hg] at F; (try (exact no hg)))) | (refine pvF (h := ?_); intro nb) | refine pvK (h := ?_) | refine pvK0 (h := ?_) | (refine pv_nil ?_; intro a w F M; (try (replace F := F.filt [0, 1] rfl))) | ((fail_if_success (with_reducible first | refine isW ?_ | refine isP ?_ | refine isL ?_)); (first | with_reducible refine sx_region ?_ | ((with_reducible refine isK ?_); (first | refine svT F (h := ?_) | refine svF F (h := ?_) | ((refine svB F (fun hc => ?_) (fun hc => ?_)) <;> (try (exact no hc))))) | ((with_reducible refine isD ?_); fail) | with_reducible refine wp_scope_straight ?_ | with_reducible refine wp_label ?_ | go_step))))
    all_goals (try rw [e] at M)
    all_goals (first | refine svEnd F M ?_ | refine svRet F M ?_)
    all_goals exact ⟨_, _, rfl, rfl, M.perms permsA⟩
  · (intro G w M; refine sx_enter (vs := ([ptr b, .int .u64 (x : Int)] : List Value)) Tryd.func94 (n := 8) rfl rfl rfl rfl ?_; intro a F; (try simp only [List.cons_append, List.nil_append] at M))
    (repeat' (first | (refine sx_nil ?_; (try (replace F := F.filt [0, 1] rfl))) | (refine sv1 F M (h := ?_); clear F a; intro a F) | refine pv1 (h := ?_) | (refine sv3 F M (h := ?_); clear M; intro w M) | (refine sv2 F M (h := ?_); clear F M a; intro nb a w F M) | refine pv3 (h := ?_) | (refine pv2 (h := ?_); intro nb) | ((first | refine svC F M (h := ?_) | refine svC0 F M (h := ?_) | refine pvC (h := ?_) | refine pvC0 (h := ?_)); (fail); (first | refine ⟨rvsA, ?_⟩ | (clear F M a; intro a w F M) | (clear M; intro w M))) | (refine svK F (h := ?_); clear F a; intro a F) | refine svK0 F (h := ?_) | ((refine sx_guardb F rfl (fun hg => ?_) (fun hg => ?_)) <;> (rw [hg] at F; (try (exact no hg)))) | (refine pvF (h := ?_); intro nb) | refine pvK (h := ?_) | refine pvK0 (h := ?_) | (refine pv_nil ?_; intro a w F M; (try (replace F := F.filt [0, 1] rfl))) | ((fail_if_success (with_reducible first | refine isW ?_ | refine isP ?_ | refine isL ?_)); (first | with_reducible refine sx_region ?_ | ((with_reducible refine isK ?_); (first | refine svT F (h := ?_) | refine svF F (h := ?_) | ((refine svB F (fun hc => ?_) (fun hc => ?_)) <;> (try (exact no hc))))) | ((with_reducible refine isD ?_); fail) | with_reducible refine wp_scope_straight ?_ | with_reducible refine wp_label ?_ | go_step))))
    all_goals (first | refine svEnd F M ?_ | refine svRet F M ?_)
    all_goals exact ⟨_, _, rfl, rfl, M.perms permsA⟩
end Go.Proofs.YtaggjikjohamjaaDoor
end
section
namespace Go.Proofs.YtaggjikjohamjaaDoor
open Go.RowKit Go.Maps
set_option linter.unusedVariables false
set_option maxRecDepth 100000
set_option linter.unusedSimpArgs false
set_option maxHeartbeats 8000000
instance scGF (d : Od) : FK d.gf := by
  cases d
  · exact (inferInstance : FK 95)
  · exact (inferInstance : FK 97)
  · exact (inferInstance : FK 93)
instance scSF (d : Od) : FK d.sf := by
  cases d
  · exact (inferInstance : FK 96)
  · exact (inferInstance : FK 98)
  · exact (inferInstance : FK 94)
/-- A slice of bytes that can be read, and cut. -/
structure BG (L : List Asn) (h : SlH) (bs : List UInt8) : Prop where
  g : GS L 1 (sl h) bs.length (bs.flatMap u8L)
  n : h.n = bs.length
  c : bs.length ≤ h.c
theorem BG.tail {A : Asn} {L : List Asn} {h : SlH} {bs : List UInt8} (g : BG L h bs) : BG (A :: L) h bs := ⟨GS.tail g.g, g.n, g.c⟩
theorem BG.app {L : List Asn} {h : SlH} {bs : List UInt8} (g : BG L h bs) (G : List Asn) : BG (L ++ G) h bs := ⟨Gives.app g.g, g.n, g.c⟩
theorem BG.from {L : List Asn} {h : SlH} {bs : List UInt8} (g : BG L h bs) {j : Nat} (hj : j ≤ bs.length) : BG L (fromH h j 1) (bs.drop j) := by
  refine ⟨fun w M => ?_, by simp only [List.length_drop]; rw [g.n], by simp only [List.length_drop]; have := g.c; omega⟩
  have := (g.g w M).from hj g.c
  rw [flat_drop (f := u8L) (k := 1) (fun _ => rfl)] at this
  rw [List.length_drop]; exact this
theorem BG.to {L : List Asn} {h : SlH} {bs : List UInt8} (g : BG L h bs) {j : Nat} (hj : j ≤ bs.length) : BG L ⟨h.a, j, h.c⟩ (bs.take j) := by
  have hl : (bs.take j).length = j := by rw [List.length_take]; omega
  refine ⟨fun w M => ?_, by simp only [hl], by rw [hl]; exact Nat.le_trans hj g.c⟩
  have := (g.g w M).to hj
  rw [flat_take (f := u8L) (k := 1) (fun _ => rfl)] at this
  rw [hl]; exact this
theorem bg_own {L L' : List Asn} {h : SlH} {bs : List UInt8} {e : TypeId} {w : World} (M : Mem w L) (hp : Pull L (ownT e u8L 1 (sl h) bs) L') : BG L h bs := by
  obtain ⟨h1, h2, _, _⟩ := own_h (M.pull hp)
  exact ⟨gs_own hp, h1, h2⟩
theorem valB_snoc : ∀ (l : List UInt8) (a : Nat) (c : UInt8), valB a (l ++ [c]) = 256 * valB a l + c.toNat
  | [], a, c => rfl
  | x :: l, a, c => by rw [List.cons_append, valB, valB_snoc l]; rfl
theorem valB_le (l : List UInt8) {n : Nat} (h : l.length ≤ n) : valB 0 l < 256 ^ n := by
  have := valB_lt l 0
  have h2 : 256 ^ l.length ≤ 256 ^ n := Nat.pow_le_pow_right (by decide) h
  omega
theorem reader_spec (h : SlH) (R : List Asn) : Spec 61 [sl h] R fun u L' => ∃ b, u = .func (.func 77) #[] #[ptr b] ∧ L' = pt b [sl h] 36 :: R := by
  (intro G w M; refine sx_enter (vs := ([sl h] : List Value)) Tryd.func61 (n := 4) rfl rfl rfl rfl ?_; intro a F; (try simp only [List.cons_append, List.nil_append] at M))
  (repeat' (first | (refine sx_nil ?_; (try (replace F := F.filt [0, 1, 2] rfl))) | (refine sv1 F M (h := ?_); clear F a; intro a F) | refine pv1 (h := ?_) | (refine sv3 F M (h := ?_); clear M; intro w M) | (refine sv2 F M (h := ?_); clear F M a; intro nb a w F M) | refine pv3 (h := ?_) | (refine pv2 (h := ?_); intro nb) | ((first | refine svC F M (h := ?_) | refine svC0 F M (h := ?_) | refine pvC (h := ?_) | refine pvC0 (h := ?_)); (fail); (first | refine ⟨rvsA, ?_⟩ | (clear F M a; intro a w F M) | (clear M; intro w M))) | (refine svK F (h := ?_); clear F a; intro a F) | refine svK0 F (h := ?_) | ((refine sx_guardb F rfl (fun hg => ?_) (fun hg => ?_)) <;> (rw [hg] at F; (try (exact no hg)))) | (refine pvF (h := ?_); intro nb) | refine pvK (h := ?_) | refine pvK0 (h := ?_) | (refine pv_nil ?_; intro a w F M; (try (replace F := F.filt [0, 1, 2] rfl))) | ((fail_if_success (with_reducible first | refine isW ?_ | refine isP ?_ | refine isL ?_)); (first | with_reducible refine sx_region ?_ | ((with_reducible refine isK ?_); (first | refine svT F (h := ?_) | refine svF F (h := ?_) | ((refine svB F (fun hc => ?_) (fun hc => ?_)) <;> (try (exact no hc))))) | ((with_reducible refine isD ?_); fail) | with_reducible refine wp_scope_straight ?_ | with_reducible refine wp_label ?_ | go_step))))
  all_goals (first | refine svEnd F M ?_ | refine svRet F M ?_)
  all_goals exact ⟨_, _, rfl, ⟨_, rfl, rfl⟩, M.perms permsA⟩
theorem reader1_spec (b : Nat) (h : SlH) (bs : List UInt8) (n : Nat) (hn : n ≤ 8) (hl : n ≤ bs.length) (R : List Asn) (hg : BG R h bs) : Spec 77 [.int .i64 n, ptr b] (pt b [sl h] 36 :: R) fun u L' => u = .int .u64 (valB 0 (bs.take n) : Nat) ∧ L' = pt b [sl (fromH h n 1)] 36 :: R := by
  have hc := hg.c
  have hgn := hg.n
  (intro G w M; refine sx_enter (vs := ([.int .i64 (n : Int), ptr b] : List Value)) Tryd.func77 (n := 25) rfl rfl rfl rfl ?_; intro a F; (try simp only [List.cons_append, List.nil_append] at M))
  have g2 := (hg.app G).to hl
  have hl2 : (bs.take n).length = n := by rw [List.length_take]; omega
  have g3 := g2.g
  rw [hl2] at g3
  (repeat' (first | ((first | refine sv1 F M (h := ?_) (hr := by ((apply rt_to (h := h) (k := .i64) (j := n); (exact rfl); (exact rfl); (exact rfl); (exact inferInstance); (exact Nat.le_trans hl hc)))) | refine pv1 (h := ?_) (hr := by ((apply rt_to (h := h) (k := .i64) (j := n); (exact rfl); (exact rfl); (exact rfl); (exact inferInstance); (exact Nat.le_trans hl hc))))); (try (clear F a; intro a F))) | (refine sx_nil ?_; (try (replace F := F.filt [0, 1, 3, 4, 6, 9, 10, 11, 12] rfl))) | (refine sv1 F M (h := ?_); clear F a; intro a F) | refine pv1 (h := ?_) | (refine sv3 F M (h := ?_); clear M; intro w M) | (refine sv2 F M (h := ?_); clear F M a; intro nb a w F M) | refine pv3 (h := ?_) | (refine pv2 (h := ?_); intro nb) | ((first | refine svC F M (h := ?_) | refine svC0 F M (h := ?_) | refine pvC (h := ?_) | refine pvC0 (h := ?_)); (fail); (first | refine ⟨rvsA, ?_⟩ | (clear F M a; intro a w F M) | (clear M; intro w M))) | (refine svK F (h := ?_); clear F a; intro a F) | refine svK0 F (h := ?_) | ((refine sx_guardb F rfl (fun hg => ?_) (fun hg => ?_)) <;> (rw [hg] at F; (try (exact no hg)))) | (refine pvF (h := ?_); intro nb) | refine pvK (h := ?_) | refine pvK0 (h := ?_) | (refine pv_nil ?_; intro a w F M; (try (replace F := F.filt [0, 1, 3, 4, 6, 9, 10, 11, 12] rfl))) | ((fail_if_success (with_reducible first | refine isW ?_ | refine isP ?_ | refine isL ?_)); (first | with_reducible refine sx_region ?_ | ((with_reducible refine isK ?_); (first | refine svT F (h := ?_) | refine svF F (h := ?_) | ((refine svB F (fun hc => ?_) (fun hc => ?_)) <;> (try (exact no hc))))) | ((with_reducible refine isD ?_); fail) | with_reducible refine wp_scope_straight ?_ | with_reducible refine wp_label ?_ | go_step))))
  refine svLoop F M (0 : Nat) (fun j => [(11, .int .i64 j), (4, .int .u64 (valB 0 (bs.take j) : Nat))]) (fun _ => []) (fun j => j ≤ n) (fun j => n - j) [6] (Nat.zero_le _) ?_
  (rintro j q1 a w F M; (try simp only [List.cons_append, List.nil_append] at F M q1 ⊢))
  by_cases hj : j < n
  · obtain ⟨x, hx⟩ : ∃ x, bs[j]? = some x := ⟨bs[j]'(by omega), by rw [List.getElem?_eq_getElem]⟩
    have hx2 : (bs.take n)[j]? = some x := by rw [List.getElem?_take, if_pos hj, hx]
    have hx3 : x.toNat < 256 := x.toNat_lt
    have e1 : valB 0 (bs.take (j + 1)) = 256 * valB 0 (bs.take j) + x.toNat := by rw [List.take_add_one, hx]; exact valB_snoc _ _ _
    have hb : valB 0 (bs.take j) < 256 ^ 7 := valB_le _ (by rw [List.length_take]; omega)
    have hw : IntKind.u64.wrap (x.toNat : Int) = (x.toNat : Int) := by rw [IntKind.wrap_u64]; omega
    generalize valB 0 (bs.take j) = A at *
    have hA : A * 256 < 18446744073709551616 := by omega
    (repeat' (first | ((first | refine sv1 F M (h := ?_) (hr := by ((first | (apply rt_shl (m := A) (s := 8) (k := .u64); (exact rfl); (exact rfl); (exact rfl); decide; (exact hA)) | (apply rt_shl (m := A) (s := 8) (k := .u8); (exact rfl); (exact rfl); (exact rfl); decide; (exact hA)) | (apply rt_conv; (exact rfl); (exact rfl); (exact inferInstance); (exact inferInstance); (exact hw)) | (apply rt_or8 (m := A) (p := x.toNat); (exact rfl); (exact rfl); (exact rfl); (exact hx3); (exact hA))))) | refine pv1 (h := ?_) (hr := by ((first | (apply rt_shl (m := A) (s := 8) (k := .u64); (exact rfl); (exact rfl); (exact rfl); decide; (exact hA)) | (apply rt_shl (m := A) (s := 8) (k := .u8); (exact rfl); (exact rfl); (exact rfl); decide; (exact hA)) | (apply rt_conv; (exact rfl); (exact rfl); (exact inferInstance); (exact inferInstance); (exact hw)) | (apply rt_or8 (m := A) (p := x.toNat); (exact rfl); (exact rfl); (exact rfl); (exact hx3); (exact hA)))))); (try (clear F a; intro a F))) | (refine sx_nil ?_; (try (replace F := F.filt [0, 1, 3, 4, 6, 9, 10, 11, 12] rfl))) | (refine sv1 F M (h := ?_); clear F a; intro a F) | refine pv1 (h := ?_) | (refine sv3 F M (h := ?_); clear M; intro w M) | (refine sv2 F M (h := ?_); clear F M a; intro nb a w F M) | refine pv3 (h := ?_) | (refine pv2 (h := ?_); intro nb) | ((first | refine svC F M (h := ?_) | refine svC0 F M (h := ?_) | refine pvC (h := ?_) | refine pvC0 (h := ?_)); (fail); (first | refine ⟨rvsA, ?_⟩ | (clear F M a; intro a w F M) | (clear M; intro w M))) | (refine svK F (h := ?_); clear F a; intro a F) | refine svK0 F (h := ?_) | ((refine sx_guardb F rfl (fun hg => ?_) (fun hg => ?_)) <;> (rw [hg] at F; (try (exact no hg)))) | (refine pvF (h := ?_); intro nb) | refine pvK (h := ?_) | refine pvK0 (h := ?_) | (refine pv_nil ?_; intro a w F M; (try (replace F := F.filt [0, 1, 3, 4, 6, 9, 10, 11, 12] rfl))) | ((fail_if_success (with_reducible first | refine isW ?_ | refine isP ?_ | refine isL ?_)); (first | with_reducible refine sx_region ?_ | ((with_reducible refine isK ?_); (first | refine svT F (h := ?_) | refine svF F (h := ?_) | ((refine svB F (fun hc => ?_) (fun hc => ?_)) <;> (try (exact no hc))))) | ((with_reducible refine isD ?_); fail) | with_reducible refine wp_scope_straight ?_ | with_reducible refine wp_label ?_ | go_step))))
    rw [← e1] at F
    exact sv_again F M (j + 1) kpA permsA (by omega) (by omega)
  · obtain rfl : j = n := by omega
    (repeat' (first | ((first | refine sv1 F M (h := ?_) (hr := by ((apply rt_from (h := h) (k := .i64) (j := j); (exact rfl); (exact rfl); (exact rfl); (exact inferInstance); omega))) | refine pv1 (h := ?_) (hr := by ((apply rt_from (h := h) (k := .i64) (j := j); (exact rfl); (exact rfl); (exact rfl); (exact inferInstance); omega)))); (try (clear F a; intro a F))) | (refine sx_nil ?_; (try (replace F := F.filt [0, 1, 3, 4, 6, 9, 10, 11, 12] rfl))) | (refine sv1 F M (h := ?_); clear F a; intro a F) | refine pv1 (h := ?_) | (refine sv3 F M (h := ?_); clear M; intro w M) | (refine sv2 F M (h := ?_); clear F M a; intro nb a w F M) | refine pv3 (h := ?_) | (refine pv2 (h := ?_); intro nb) | ((first | refine svC F M (h := ?_) | refine svC0 F M (h := ?_) | refine pvC (h := ?_) | refine pvC0 (h := ?_)); (fail); (first | refine ⟨rvsA, ?_⟩ | (clear F M a; intro a w F M) | (clear M; intro w M))) | (refine svK F (h := ?_); clear F a; intro a F) | refine svK0 F (h := ?_) | ((refine sx_guardb F rfl (fun hg => ?_) (fun hg => ?_)) <;> (rw [hg] at F; (try (exact no hg)))) | (refine pvF (h := ?_); intro nb) | refine pvK (h := ?_) | refine pvK0 (h := ?_) | (refine pv_nil ?_; intro a w F M; (try (replace F := F.filt [0, 1, 3, 4, 6, 9, 10, 11, 12] rfl))) | ((fail_if_success (with_reducible first | refine isW ?_ | refine isP ?_ | refine isL ?_)); (first | with_reducible refine sx_region ?_ | ((with_reducible refine isK ?_); (first | refine svT F (h := ?_) | refine svF F (h := ?_) | ((refine svB F (fun hc => ?_) (fun hc => ?_)) <;> (try (exact no hc))))) | ((with_reducible refine isD ?_); fail) | with_reducible refine wp_scope_straight ?_ | with_reducible refine wp_label ?_ | go_step))))
    all_goals (first | refine svEnd F M ?_ | refine svRet F M ?_)
    all_goals exact ⟨_, _, rfl, ⟨rfl, rfl⟩, M.perms permsA⟩
theorem rd_drop {ds : List Od} {j : Nat} {d : Od} (h : ds[j]? = some d) (p : Opn) (r : List UInt8) : rdL (ds.drop j) p r = rdL (ds.drop (j + 1)) (d.set p (valB 0 (r.take d.size))) (r.drop d.size) := by
  rw [drop_cons h]; rfl
/-- A place in decoding. -/
structure DcZ where
  j : Nat
  p : Opn
  h : SlH
  r : List UInt8
theorem dec_spec (h : SlH) (bs : List UInt8) (q : Nat) (hq : q < bs.length) (hlen : bs.length ≤ 1000000) (R : List Asn) (hg : BG R h bs) : Spec 44 [sl h, .int .i64 q] R fun u L' => u = .tuple [opV (decM bs q).1, .int .i64 (decM bs q).2, .bool true].toArray ∧ L' = R := by
  obtain ⟨x, hx⟩ : ∃ x, bs[q]? = some x := ⟨bs[q], by rw [List.getElem?_eq_getElem]⟩
  have hgn := hg.n
  have hx3 : x.toNat < 256 := x.toNat_lt
  have hI : I64 (x.toNat : Int) := ⟨by omega, by omega⟩
  have hsz := fun R => size_spec (x.toNat : Int) hI R
  have hop := fun R => operands_spec (x.toNat : Int) hI R
  have hcv : IntKind.i64.wrap (x.toNat : Int) = (x.toNat : Int) := IntWalk.i64_in _ ⟨by omega, by omega⟩
  cases hd : odsOf (x.toNat : Int) with
  | none =>
    have e : decM bs q = (oz 0, q + 1) := by rw [decM, hx, Option.getD_some, hd]
    rw [szK, hd] at hsz
    rw [e]
    (intro G w M; refine sx_enter (vs := ([sl h, .int .i64 (q : Int)] : List Value)) Tryd.func44 (n := 78) rfl rfl rfl rfl ?_; intro a F; (try simp only [List.cons_append, List.nil_append] at M))
    have gg := (hg.app G).g
    (repeat' (first | ((first | refine sv1 F M (h := ?_) (hr := by ((apply rt_conv; (exact rfl); (exact rfl); (exact inferInstance); (exact inferInstance); (exact hcv)))) | refine pv1 (h := ?_) (hr := by ((apply rt_conv; (exact rfl); (exact rfl); (exact inferInstance); (exact inferInstance); (exact hcv))))); (try (clear F a; intro a F))) | (refine sx_nil ?_; (try (replace F := F.filt [0, 1, 4, 5, 6, 7, 8, 9, 10, 11, 14, 22, 31, 37, 59, 60, 61, 62] rfl))) | (refine sv1 F M (h := ?_); clear F a; intro a F) | refine pv1 (h := ?_) | (refine sv3 F M (h := ?_); clear M; intro w M) | (refine sv2 F M (h := ?_); clear F M a; intro nb a w F M) | refine pv3 (h := ?_) | (refine pv2 (h := ?_); intro nb) | ((first | refine svC F M (h := ?_) | refine svC0 F M (h := ?_) | refine pvC (h := ?_) | refine pvC0 (h := ?_)); (((refine acW (k := 60) (hsz _) ?_); rintro u L' ⟨rfl, rfl⟩)); (first | refine ⟨rvsA, ?_⟩ | (clear F M a; intro a w F M) | (clear M; intro w M))) | (refine svK F (h := ?_); clear F a; intro a F) | refine svK0 F (h := ?_) | ((refine sx_guardb F rfl (fun hg => ?_) (fun hg => ?_)) <;> (rw [hg] at F; (try (exact no hg)))) | (refine pvF (h := ?_); intro nb) | refine pvK (h := ?_) | refine pvK0 (h := ?_) | (refine pv_nil ?_; intro a w F M; (try (replace F := F.filt [0, 1, 4, 5, 6, 7, 8, 9, 10, 11, 14, 22, 31, 37, 59, 60, 61, 62] rfl))) | ((fail_if_success (with_reducible first | refine isW ?_ | refine isP ?_ | refine isL ?_)); (first | with_reducible refine sx_region ?_ | ((with_reducible refine isK ?_); (first | refine svT F (h := ?_) | refine svF F (h := ?_) | ((refine svB F (fun hc => ?_) (fun hc => ?_)) <;> (try (exact no hc))))) | ((with_reducible refine isD ?_); (first | (refine svDraw (id := 15) [5, 6] [] [(5, [0, 1])] [0, 1, 2, 3, 4, 5, 6] F M (h := ?_); clear F M a w) | (refine svDraw (id := 17) [3, 5] [] [(3, [0, 1]), (5, [1, 4])] [0, 1, 2, 3, 4, 5, 6, 7] F M (h := ?_); clear F M a w))) | with_reducible refine wp_scope_straight ?_ | with_reducible refine wp_label ?_ | go_step))))
    all_goals (first | refine svEnd F M ?_ | refine svRet F M ?_)
    all_goals exact ⟨_, _, rfl, ⟨rfl, rfl⟩, M.perms permsA⟩
  | some ds =>
    rw [szK, hd] at hsz
    rw [hd] at hop
    simp only [Option.isSome_some, Option.getD_some] at hop hsz
    obtain ⟨hl2, hz⟩ := ods_len hd
    by_cases hs : bs.length - q < 1 + szL ds
    · have e : decM bs q = (oz 0, bs.length) := by rw [decM, hx, Option.getD_some, hd]; simp only [if_pos hs]
      rw [e]
      (intro G w M; refine sx_enter (vs := ([sl h, .int .i64 (q : Int)] : List Value)) Tryd.func44 (n := 78) rfl rfl rfl rfl ?_; intro a F; (try simp only [List.cons_append, List.nil_append] at M))
      have gg := (hg.app G).g
      (repeat' (first | ((first | refine sv1 F M (h := ?_) (hr := by ((apply rt_conv; (exact rfl); (exact rfl); (exact inferInstance); (exact inferInstance); (exact hcv)))) | refine pv1 (h := ?_) (hr := by ((apply rt_conv; (exact rfl); (exact rfl); (exact inferInstance); (exact inferInstance); (exact hcv))))); (try (clear F a; intro a F))) | (refine sx_nil ?_; (try (replace F := F.filt [0, 1, 4, 5, 6, 7, 8, 9, 10, 11, 14, 22, 31, 37, 59, 60, 61, 62] rfl))) | (refine sv1 F M (h := ?_); clear F a; intro a F) | refine pv1 (h := ?_) | (refine sv3 F M (h := ?_); clear M; intro w M) | (refine sv2 F M (h := ?_); clear F M a; intro nb a w F M) | refine pv3 (h := ?_) | (refine pv2 (h := ?_); intro nb) | ((first | refine svC F M (h := ?_) | refine svC0 F M (h := ?_) | refine pvC (h := ?_) | refine pvC0 (h := ?_)); (((refine acW (k := 60) (hsz _) ?_); rintro u L' ⟨rfl, rfl⟩)); (first | refine ⟨rvsA, ?_⟩ | (clear F M a; intro a w F M) | (clear M; intro w M))) | (refine svK F (h := ?_); clear F a; intro a F) | refine svK0 F (h := ?_) | ((refine sx_guardb F rfl (fun hg => ?_) (fun hg => ?_)) <;> (rw [hg] at F; (try (exact no hg)))) | (refine pvF (h := ?_); intro nb) | refine pvK (h := ?_) | refine pvK0 (h := ?_) | (refine pv_nil ?_; intro a w F M; (try (replace F := F.filt [0, 1, 4, 5, 6, 7, 8, 9, 10, 11, 14, 22, 31, 37, 59, 60, 61, 62] rfl))) | ((fail_if_success (with_reducible first | refine isW ?_ | refine isP ?_ | refine isL ?_)); (first | with_reducible refine sx_region ?_ | ((with_reducible refine isK ?_); (first | refine svT F (h := ?_) | refine svF F (h := ?_) | ((refine svB F (fun hc => ?_) (fun hc => ?_)) <;> (try (exact no hc))))) | ((with_reducible refine isD ?_); (first | (refine svDraw (id := 15) [5, 6] [] [(5, [0, 1])] [0, 1, 2, 3, 4, 5, 6] F M (h := ?_); clear F M a w) | (refine svDraw (id := 17) [3, 5] [] [(3, [0, 1]), (5, [1, 4])] [0, 1, 2, 3, 4, 5, 6, 7] F M (h := ?_); clear F M a w))) | with_reducible refine wp_scope_straight ?_ | with_reducible refine wp_label ?_ | go_step))))
      all_goals (first | refine svEnd F M ?_ | refine svRet F M ?_)
      all_goals exact ⟨_, _, rfl, ⟨rfl, rfl⟩, M.perms permsA⟩
    · have e : decM bs q = (rdL ds (oz x.toNat) (bs.drop (q + 1)), q + (1 + szL ds)) := by rw [decM, hx, Option.getD_some, hd]; simp only [if_neg hs]
      rw [e]
      have hrd := fun R => reader_spec (fromH h (q + 1) 1) R
      have gb := hg.from (j := q + 1) (by omega)
      (intro G w M; refine sx_enter (vs := ([sl h, .int .i64 (q : Int)] : List Value)) Tryd.func44 (n := 78) rfl rfl rfl rfl ?_; intro a F; (try simp only [List.cons_append, List.nil_append] at M))
      have gg := (hg.app G).g
      have gb := gb.app G
      (repeat' (first | ((first | refine sv1 F M (h := ?_) (hr := by ((first | (apply rt_conv; (exact rfl); (exact rfl); (exact inferInstance); (exact inferInstance); (exact hcv)) | (apply rt_from (h := h) (k := .i64) (j := q + 1); (exact rfl); (exact rfl); (exact rfl); (exact inferInstance); omega)))) | refine pv1 (h := ?_) (hr := by ((first | (apply rt_conv; (exact rfl); (exact rfl); (exact inferInstance); (exact inferInstance); (exact hcv)) | (apply rt_from (h := h) (k := .i64) (j := q + 1); (exact rfl); (exact rfl); (exact rfl); (exact inferInstance); omega))))); (try (clear F a; intro a F))) | (refine sx_nil ?_; (try (replace F := F.filt [0, 1, 4, 5, 6, 7, 8, 9, 10, 11, 14, 22, 31, 37, 59, 60, 61, 62] rfl))) | (refine sv1 F M (h := ?_); clear F a; intro a F) | refine pv1 (h := ?_) | (refine sv3 F M (h := ?_); clear M; intro w M) | (refine sv2 F M (h := ?_); clear F M a; intro nb a w F M) | refine pv3 (h := ?_) | (refine pv2 (h := ?_); intro nb) | ((first | refine svC F M (h := ?_) | refine svC0 F M (h := ?_) | refine pvC (h := ?_) | refine pvC0 (h := ?_)); ((first | ((refine acW (k := 60) (hsz _) ?_); rintro u L' ⟨rfl, rfl⟩) | ((refine acW (k := 59) (hop _) ?_); rintro u L' ⟨ho, rfl, rfl⟩) | ((refine acW (k := 61) (hrd _) ?_); rintro u L' ⟨rb, rfl, rfl⟩))); (first | refine ⟨rvsA, ?_⟩ | (clear F M a; intro a w F M) | (clear M; intro w M))) | (refine svK F (h := ?_); clear F a; intro a F) | refine svK0 F (h := ?_) | ((refine sx_guardb F rfl (fun hg => ?_) (fun hg => ?_)) <;> (rw [hg] at F; (try (exact no hg)))) | (refine pvF (h := ?_); intro nb) | refine pvK (h := ?_) | refine pvK0 (h := ?_) | (refine pv_nil ?_; intro a w F M; (try (replace F := F.filt [0, 1, 4, 5, 6, 7, 8, 9, 10, 11, 14, 22, 31, 37, 59, 60, 61, 62] rfl))) | ((fail_if_success (with_reducible first | refine isW ?_ | refine isP ?_ | refine isL ?_)); (first | with_reducible refine sx_region ?_ | ((with_reducible refine isK ?_); (first | refine svT F (h := ?_) | refine svF F (h := ?_) | ((refine svB F (fun hc => ?_) (fun hc => ?_)) <;> (try (exact no hc))))) | ((with_reducible refine isD ?_); (first | (refine svDraw (id := 15) [5, 6] [] [(5, [0, 1])] [0, 1, 2, 3, 4, 5, 6] F M (h := ?_); clear F M a w) | (refine svDraw (id := 17) [3, 5] [] [(3, [0, 1]), (5, [1, 4])] [0, 1, 2, 3, 4, 5, 6, 7] F M (h := ?_); clear F M a w))) | with_reducible refine wp_scope_straight ?_ | with_reducible refine wp_label ?_ | go_step))))
      obtain ⟨b9, hb9⟩ : ∃ b9, b9 = nb := ⟨_, rfl⟩
      rw [← hb9] at F M
      refine svLoop F M (⟨0, oz x.toNat, fromH h (q + 1) 1, bs.drop (q + 1)⟩ : DcZ) (fun z => [(61, .int .i64 z.j)]) (fun z => [pt b9 (opL z.p) 24, pt rb [sl z.h] 36]) (fun z => z.j ≤ ds.length ∧ rdL (ds.drop z.j) z.p z.r = rdL ds (oz x.toNat) (bs.drop (q + 1)) ∧ szL (ds.drop z.j) ≤ z.r.length ∧ BG (R ++ G) z.h z.r) (fun z => ds.length - z.j) [14] ⟨Nat.zero_le _, rfl, by simp only [List.drop_zero, List.length_drop]; omega, gb⟩ ?_ (hR := by (repeat (first | exact Pulls.nil | (apply Pulls.cons; (focus ((repeat (first | exact Pull.here | apply Pull.there)); done))))))
      (rintro ⟨j, p, hh, r⟩ ⟨q1, q2, q3, q4⟩ a w F M; (try simp only [List.cons_append, List.nil_append] at F M q1 q2 q3 q4 ⊢))
      by_cases hj : j < ds.length
      · obtain ⟨d, hdj⟩ : ∃ d, ds[j]? = some d := ⟨ds[j], by simp [hj]⟩
        have hds := od_size d
        rw [drop_cons hdj, szL] at q3
        rw [rd_drop hdj] at q2
        have hr1 := fun R (hg : BG R hh r) => reader1_spec rb hh r d.size hds.1 (by omega) R hg
        have hst := fun R => set_spec d p b9 (valB 0 (r.take d.size)) (valB_le _ (by rw [List.length_take]; omega)) R
        have gr := q4.from (j := d.size) (by omega)
        (repeat' (first | ((first | refine sv1 F M (h := ?_) (hr := by ((first | (apply rt_conv; (exact rfl); (exact rfl); (exact inferInstance); (exact inferInstance); (exact hcv)) | (apply rt_from (h := h) (k := .i64) (j := q + 1); (exact rfl); (exact rfl); (exact rfl); (exact inferInstance); omega)))) | refine pv1 (h := ?_) (hr := by ((first | (apply rt_conv; (exact rfl); (exact rfl); (exact inferInstance); (exact inferInstance); (exact hcv)) | (apply rt_from (h := h) (k := .i64) (j := q + 1); (exact rfl); (exact rfl); (exact rfl); (exact inferInstance); omega))))); (try (clear F a; intro a F))) | (refine sx_nil ?_; (try (replace F := F.filt [0, 1, 4, 5, 6, 7, 8, 9, 10, 11, 14, 22, 31, 37, 59, 60, 61, 62] rfl))) | (refine sv1 F M (h := ?_); clear F a; intro a F) | refine pv1 (h := ?_) | (refine sv3 F M (h := ?_); clear M; intro w M) | (refine sv2 F M (h := ?_); clear F M a; intro nb a w F M) | refine pv3 (h := ?_) | (refine pv2 (h := ?_); intro nb) | ((first | refine svC F M (h := ?_) | refine svC0 F M (h := ?_) | refine pvC (h := ?_) | refine pvC0 (h := ?_)); ((first | (refine acK (L1 := pt rb [sl hh] 36 :: _) (k := 77) (hr1 _ ?_) ?_; (focus ((repeat (first | exact q4 | apply BG.tail)); done)); rintro u L' ⟨rfl, rfl⟩) | (refine acK (L1 := pt b9 (opL p) 24 :: _) (k := d.sf) (hst _) ?_; rintro u L' rfl))); (first | refine ⟨rvsA, ?_⟩ | (clear F M a; intro a w F M) | (clear M; intro w M))) | (refine svK F (h := ?_); clear F a; intro a F) | refine svK0 F (h := ?_) | ((refine sx_guardb F rfl (fun hg => ?_) (fun hg => ?_)) <;> (rw [hg] at F; (try (exact no hg)))) | (refine pvF (h := ?_); intro nb) | refine pvK (h := ?_) | refine pvK0 (h := ?_) | (refine pv_nil ?_; intro a w F M; (try (replace F := F.filt [0, 1, 4, 5, 6, 7, 8, 9, 10, 11, 14, 22, 31, 37, 59, 60, 61, 62] rfl))) | ((fail_if_success (with_reducible first | refine isW ?_ | refine isP ?_ | refine isL ?_)); (first | with_reducible refine sx_region ?_ | ((with_reducible refine isK ?_); (first | refine svT F (h := ?_) | refine svF F (h := ?_) | ((refine svB F (fun hc => ?_) (fun hc => ?_)) <;> (try (exact no hc))))) | ((with_reducible refine isD ?_); (first | (refine svDraw (id := 15) [5, 6] [] [(5, [0, 1])] [0, 1, 2, 3, 4, 5, 6] F M (h := ?_); clear F M a w) | (refine svDraw (id := 17) [3, 5] [] [(3, [0, 1]), (5, [1, 4])] [0, 1, 2, 3, 4, 5, 6, 7] F M (h := ?_); clear F M a w))) | with_reducible refine wp_scope_straight ?_ | with_reducible refine wp_label ?_ | go_step))))
        refine sv_again F M (⟨j + 1, d.set p (valB 0 (r.take d.size)), fromH hh d.size 1, r.drop d.size⟩ : DcZ) kpA permsA ⟨by simp only; omega, q2, by simp only [List.length_drop]; omega, gr⟩ (by simp only; omega)
      · obtain rfl : j = ds.length := by omega
        rw [List.drop_length] at q2
        have q2 : p = _ := q2
        subst q2
        (repeat' (first | ((first | refine sv1 F M (h := ?_) (hr := by ((first | (apply rt_conv; (exact rfl); (exact rfl); (exact inferInstance); (exact inferInstance); (exact hcv)) | (apply rt_from (h := h) (k := .i64) (j := q + 1); (exact rfl); (exact rfl); (exact rfl); (exact inferInstance); omega)))) | refine pv1 (h := ?_) (hr := by ((first | (apply rt_conv; (exact rfl); (exact rfl); (exact inferInstance); (exact inferInstance); (exact hcv)) | (apply rt_from (h := h) (k := .i64) (j := q + 1); (exact rfl); (exact rfl); (exact rfl); (exact inferInstance); omega))))); (try (clear F a; intro a F))) | (refine sx_nil ?_; (try (replace F := F.filt [0, 1, 4, 5, 6, 7, 8, 9, 10, 11, 14, 22, 31, 37, 59, 60, 61, 62] rfl))) | (refine sv1 F M (h := ?_); clear F a; intro a F) | refine pv1 (h := ?_) | (refine sv3 F M (h := ?_); clear M; intro w M) | (refine sv2 F M (h := ?_); clear F M a; intro nb a w F M) | refine pv3 (h := ?_) | (refine pv2 (h := ?_); intro nb) | ((first | refine svC F M (h := ?_) | refine svC0 F M (h := ?_) | refine pvC (h := ?_) | refine pvC0 (h := ?_)); (((refine acW (k := 60) (hsz _) ?_); rintro u L' ⟨rfl, rfl⟩)); (first | refine ⟨rvsA, ?_⟩ | (clear F M a; intro a w F M) | (clear M; intro w M))) | (refine svK F (h := ?_); clear F a; intro a F) | refine svK0 F (h := ?_) | ((refine sx_guardb F rfl (fun hg => ?_) (fun hg => ?_)) <;> (rw [hg] at F; (try (exact no hg)))) | (refine pvF (h := ?_); intro nb) | refine pvK (h := ?_) | refine pvK0 (h := ?_) | (refine pv_nil ?_; intro a w F M; (try (replace F := F.filt [0, 1, 4, 5, 6, 7, 8, 9, 10, 11, 14, 22, 31, 37, 59, 60, 61, 62] rfl))) | ((fail_if_success (with_reducible first | refine isW ?_ | refine isP ?_ | refine isL ?_)); (first | with_reducible refine sx_region ?_ | ((with_reducible refine isK ?_); (first | refine svT F (h := ?_) | refine svF F (h := ?_) | ((refine svB F (fun hc => ?_) (fun hc => ?_)) <;> (try (exact no hc))))) | ((with_reducible refine isD ?_); (first | (refine svDraw (id := 15) [5, 6] [] [(5, [0, 1])] [0, 1, 2, 3, 4, 5, 6] F M (h := ?_); clear F M a w) | (refine svDraw (id := 17) [3, 5] [] [(3, [0, 1]), (5, [1, 4])] [0, 1, 2, 3, 4, 5, 6, 7] F M (h := ?_); clear F M a w))) | with_reducible refine wp_scope_straight ?_ | with_reducible refine wp_label ?_ | go_step))))
        all_goals (first | refine svEnd F M ?_ | refine svRet F M ?_)
        all_goals exact ⟨_, _, rfl, ⟨rfl, rfl⟩, M.perms permsA⟩
end Go.Proofs.YtaggjikjohamjaaDoor
end
section
namespace Go.Proofs.YtaggjikjohamjaaDoor
open Go.RowKit Go.Maps
set_option linter.unusedVariables false
set_option maxRecDepth 100000
set_option linter.unusedSimpArgs false
set_option maxHeartbeats 8000000
instance scEQF : EQF opL [.int, .int, .int, .int] := ⟨fun x y => by
  obtain ⟨a, b, c, d⟩ := x; obtain ⟨e, f, g, h⟩ := y
  simp only [opL, cellsEq, scEq, if_true, Bool.and_true, Opn.mk.injEq, Option.some.injEq]
  rw [Bool.eq_iff_iff]; simp⟩
theorem byte_of (m : Nat) : IntKind.u8.wrap (m : Int) = ((UInt8.ofNat (m % 256)).toNat : Int) := by
  have h1 : (UInt8.ofNat (m % 256)).toNat = m % 256 := by
    rw [UInt8.toNat_ofNat']; omega
  rw [h1, IntKind.wrap_u8]; omega
theorem byte_k {k : Int} : IntKind.u8.wrap k = ((UInt8.ofNat (u64of k % 256)).toNat : Int) := by
  rw [← byte_of]
  unfold u64of
  rw [IntKind.wrap_u8, IntKind.wrap_u8]; omega
theorem pow_256 (m : Nat) : 2 ^ (8 * m) = 256 ^ m := by rw [Nat.pow_mul]
/-- A place in writing: the operand, the slice, the bytes. -/
structure WrZ where
  j : Nat
  h : SlH
  bs : List UInt8
theorem wrL_take {o : Opn} {ds : List Od} {j : Nat} {d : Od} (h : ds[j]? = some d) : wrL o (ds.take (j + 1)) = wrL o (ds.take j) ++ wrB o d := by
  rw [wrL, wrL, List.take_add_one, h, List.flatMap_append]; simp
theorem wrL_le (o : Opn) (ds : List Od) (h : ds.length ≤ 2) : (wrL o ds).length ≤ 17 := by
  rw [wrL_len]
  have : ∀ l : List Od, szL l ≤ 8 * l.length := fun l => by
    induction l with
    | nil => decide
    | cons d l ih => have := od_size d; rw [szL, List.length_cons]; omega
  have := this ds
  omega
theorem write_none (o : Opn) (hk : I64 o.k) (hd : odsOf o.k = none) (R : List Asn) : Spec 43 [opV o] R fun u L' => u = .tuple [.slice none 0 0, .bool false].toArray ∧ L' = R := by
  have hop := fun R => operands_spec o.k hk R
  rw [hd] at hop
  obtain ⟨k, ix, tg, am⟩ := o
  simp only [Option.isSome_none, Option.getD_none] at hop
  (intro G w M; refine sx_enter (vs := ([opV ⟨k, ix, tg, am⟩] : List Value)) Tryd.func43 (n := 48) rfl rfl rfl rfl ?_; intro a F; (try simp only [List.cons_append, List.nil_append] at M))
  (repeat' (first | (refine sx_nil ?_; (try (replace F := F.filt [0, 1, 2, 3, 4, 5, 6, 8, 9, 17, 22, 23, 24, 25, 32] rfl))) | (refine sv1 F M (h := ?_); clear F a; intro a F) | refine pv1 (h := ?_) | (refine sv3 F M (h := ?_); clear M; intro w M) | (refine sv2 F M (h := ?_); clear F M a; intro nb a w F M) | refine pv3 (h := ?_) | (refine pv2 (h := ?_); intro nb) | ((first | refine svC F M (h := ?_) | refine svC0 F M (h := ?_) | refine pvC (h := ?_) | refine pvC0 (h := ?_)); (((refine acW (k := 59) (hop _) ?_); rintro u L' ⟨ho, rfl, rfl⟩)); (first | refine ⟨rvsA, ?_⟩ | (clear F M a; intro a w F M) | (clear M; intro w M))) | (refine svK F (h := ?_); clear F a; intro a F) | refine svK0 F (h := ?_) | ((refine sx_guardb F rfl (fun hg => ?_) (fun hg => ?_)) <;> (rw [hg] at F; (try (exact no hg)))) | (refine pvF (h := ?_); intro nb) | refine pvK (h := ?_) | refine pvK0 (h := ?_) | (refine pv_nil ?_; intro a w F M; (try (replace F := F.filt [0, 1, 2, 3, 4, 5, 6, 8, 9, 17, 22, 23, 24, 25, 32] rfl))) | ((fail_if_success (with_reducible first | refine isW ?_ | refine isP ?_ | refine isL ?_)); (first | with_reducible refine sx_region ?_ | ((with_reducible refine isK ?_); (first | refine svT F (h := ?_) | refine svF F (h := ?_) | ((refine svB F (fun hc => ?_) (fun hc => ?_)) <;> (try (exact no hc))))) | ((with_reducible refine isD ?_); fail) | with_reducible refine wp_scope_straight ?_ | with_reducible refine wp_label ?_ | go_step))))
  all_goals (first | refine svEnd F M ?_ | refine svRet F M ?_)
  all_goals exact ⟨_, _, rfl, ⟨rfl, rfl⟩, M.perms permsA⟩
theorem write_some (o : Opn) (hk : I64 o.k) (ha : U64 o.am) (ds : List Od) (hd : odsOf o.k = some ds) (R : List Asn) : Spec 43 [opV o] R fun u L' => ∃ h, u = .tuple [sl h, .bool true].toArray ∧ L' = ownT 5 u8L 1 (sl h) (wrL o ds) :: R := by
  have hop := fun R => operands_spec o.k hk R
  rw [hd] at hop
  have hgt := fun (d : Od) R => get_spec d o ha R
  obtain ⟨hl2, hz⟩ := ods_len hd
  have hb0 : IntKind.u8.wrap o.k = _ := byte_k (k := o.k)
  have hwl : ∀ j, wrL o (ds.take j) = UInt8.ofNat (u64of o.k % 256) :: (ds.take j).flatMap (wrB o) := fun j => rfl
  have hwt := fun {j : Nat} {d : Od} (h : ds[j]? = some d) => wrL_take (o := o) h
  have hwn := fun j => wrL_le o (ds.take j) (by rw [List.length_take]; omega)
  have hwd : ∀ d, wrB o d = bigL (u64of (d.get o)) d.size := fun d => rfl
  obtain ⟨k, ix, tg, am⟩ := o
  simp only [Option.isSome_some, Option.getD_some] at hop hb0 hwl
  generalize hO : (⟨k, ix, tg, am⟩ : Opn) = O at hwl hwt hwn hwd ⊢
  have hgt : ∀ (d : Od) (R : List Asn), Spec d.gf [opV ⟨k, ix, tg, am⟩] R fun u L' => u = .int .u64 (u64of (d.get O) : Int) ∧ L' = R := by subst hO; exact hgt
  have hO2 : opV O = opV ⟨k, ix, tg, am⟩ := by rw [hO]
  rw [hO2]
  (intro G w M; refine sx_enter (vs := ([opV ⟨k, ix, tg, am⟩] : List Value)) Tryd.func43 (n := 48) rfl rfl rfl rfl ?_; intro a F; (try simp only [List.cons_append, List.nil_append] at M))
  (repeat' (first | ((first | refine sv1 F M (h := ?_) (hr := by ((apply rt_conv; (exact rfl); (exact rfl); (exact inferInstance); (exact inferInstance); (exact hb0)))) | refine pv1 (h := ?_) (hr := by ((apply rt_conv; (exact rfl); (exact rfl); (exact inferInstance); (exact inferInstance); (exact hb0))))); (try (clear F a; intro a F))) | (refine sx_nil ?_; (try (replace F := F.filt [0, 1, 2, 3, 4, 5, 6, 8, 9, 17, 22, 23, 24, 25, 32] rfl))) | (refine sv1 F M (h := ?_); clear F a; intro a F) | refine pv1 (h := ?_) | (refine sv3 F M (h := ?_); clear M; intro w M) | (refine sv2 F M (h := ?_); clear F M a; intro nb a w F M) | refine pv3 (h := ?_) | (refine pv2 (h := ?_); intro nb) | ((first | refine svC F M (h := ?_) | refine svC0 F M (h := ?_) | refine pvC (h := ?_) | refine pvC0 (h := ?_)); (((refine acW (k := 59) (hop _) ?_); rintro u L' ⟨ho, rfl, rfl⟩)); (first | refine ⟨rvsA, ?_⟩ | (clear F M a; intro a w F M) | (clear M; intro w M))) | (refine svK F (h := ?_); clear F a; intro a F) | refine svK0 F (h := ?_) | ((refine sx_guardb F rfl (fun hg => ?_) (fun hg => ?_)) <;> (rw [hg] at F; (try (exact no hg)))) | (refine pvF (h := ?_); intro nb) | refine pvK (h := ?_) | refine pvK0 (h := ?_) | (refine pv_nil ?_; intro a w F M; (try (replace F := F.filt [0, 1, 2, 3, 4, 5, 6, 8, 9, 17, 22, 23, 24, 25, 32] rfl))) | ((fail_if_success (with_reducible first | refine isW ?_ | refine isP ?_ | refine isL ?_)); (first | with_reducible refine sx_region ?_ | ((with_reducible refine isK ?_); (first | refine svT F (h := ?_) | refine svF F (h := ?_) | ((refine svB F (fun hc => ?_) (fun hc => ?_)) <;> (try (exact no hc))))) | ((with_reducible refine isD ?_); fail) | with_reducible refine wp_scope_straight ?_ | with_reducible refine wp_label ?_ | go_step))))
  obtain ⟨b1, hb1⟩ : ∃ b1, b1 = nb := ⟨_, rfl⟩
  refine svLoop F M (⟨0, ⟨some ⟨nb, 0, none⟩, 1, 1⟩, [UInt8.ofNat (u64of k % 256)]⟩ : WrZ) (fun z => [(24, .int .i64 z.j), (6, sl z.h)]) (fun z => [ownT 5 u8L 1 (sl z.h) z.bs]) (fun z => z.j ≤ ds.length ∧ z.bs = wrL O (ds.take z.j)) (fun z => ds.length - z.j) [8, 9] ⟨Nat.zero_le _, by rw [hwl]; rfl⟩ ?_ (hR := by (repeat (first | exact Pulls.nil | (apply Pulls.cons; (focus ((repeat (first | exact Pull.here | apply Pull.there)); done))))))
  (rintro ⟨j, h, bs⟩ ⟨q1, q2⟩ a w F M; (try simp only [List.cons_append, List.nil_append] at F M q1 q2 ⊢))
  by_cases hj : j < ds.length
  · obtain ⟨d, hdj⟩ : ∃ d, ds[j]? = some d := ⟨ds[j], by simp [hj]⟩
    have hds := od_size d
    have hw1 := hwt hdj
    have hw2 := hwn (j + 1)
    have hw3 := hwd d
    have hg1 := fun R => hgt d R
    generalize u64of (d.get O) = X at *
    rw [hw1, ← q2, hw3] at hw2
    rw [List.length_append, bigL_len] at hw2
    (repeat' (first | ((first | refine sv1 F M (h := ?_) (hr := by (fail)) | refine pv1 (h := ?_) (hr := by (fail))); (try (clear F a; intro a F))) | (refine sx_nil ?_; (try (replace F := F.filt [0, 1, 2, 3, 4, 5, 6, 8, 9, 17, 22, 23, 24, 25, 32] rfl))) | (refine sv1 F M (h := ?_); clear F a; intro a F) | refine pv1 (h := ?_) | (refine sv3 F M (h := ?_); clear M; intro w M) | (refine sv2 F M (h := ?_); clear F M a; intro nb a w F M) | refine pv3 (h := ?_) | (refine pv2 (h := ?_); intro nb) | ((first | refine svC F M (h := ?_) | refine svC0 F M (h := ?_) | refine pvC (h := ?_) | refine pvC0 (h := ?_)); (((refine acW (k := 59) (hop _) ?_); rintro u L' ⟨ho, rfl, rfl⟩)); (first | refine ⟨rvsA, ?_⟩ | (clear F M a; intro a w F M) | (clear M; intro w M))) | (refine svK F (h := ?_); clear F a; intro a F) | refine svK0 F (h := ?_) | ((refine sx_guardb F rfl (fun hg => ?_) (fun hg => ?_)) <;> (rw [hg] at F; (try (exact no hg)))) | (refine pvF (h := ?_); intro nb) | refine pvK (h := ?_) | refine pvK0 (h := ?_) | (refine pv_nil ?_; intro a w F M; (try (replace F := F.filt [0, 1, 2, 3, 4, 5, 6, 8, 9, 17, 22, 23, 24, 25, 32] rfl))) | ((fail_if_success (with_reducible first | refine isW ?_ | refine isP ?_ | refine isL ?_)); (first | with_reducible refine sx_region ?_ | ((with_reducible refine isK ?_); (first | refine svT F (h := ?_) | refine svF F (h := ?_) | ((refine svB F (fun hc => ?_) (fun hc => ?_)) <;> (try (exact no hc))))) | ((with_reducible refine isD ?_); fail) | with_reducible refine wp_scope_straight ?_ | with_reducible refine wp_label ?_ | go_step))))
    refine svLoop F M (⟨d.size, h, []⟩ : WrZ) (fun z => [(9, .int .i64 ((z.j : Int) - 1)), (6, sl z.h)]) (fun z => [ownT 5 u8L 1 (sl z.h) (bs ++ z.bs)]) (fun z => z.bs ++ bigL X z.j = bigL X d.size ∧ z.j ≤ d.size) (fun z => z.j) [] ⟨rfl, Nat.le_refl _⟩ ?_ (hR := by rw [List.append_nil]; (repeat (first | exact Pulls.nil | (apply Pulls.cons; (focus ((repeat (first | exact Pull.here | apply Pull.there)); done))))))
    (rintro ⟨m, h, T⟩ ⟨p1, p2⟩ a w F M; (try simp only [List.cons_append, List.nil_append] at F M p1 p2 ⊢))
    have hTl := congrArg List.length p1
    rw [List.length_append, bigL_len, bigL_len] at hTl
    cases m with
    | zero =>
      simp only [bigL, List.append_nil] at p1
      have ee : ((0 : Nat) : Int) - 1 = -1 := rfl
      rw [ee] at F
      subst p1
      (repeat' (first | ((first | refine sv1 F M (h := ?_) (hr := by (fail)) | refine pv1 (h := ?_) (hr := by (fail))); (try (clear F a; intro a F))) | (refine sx_nil ?_; (try (replace F := F.filt [0, 1, 2, 3, 4, 5, 6, 8, 9, 17, 22, 23, 24, 25, 32] rfl))) | (refine sv1 F M (h := ?_); clear F a; intro a F) | refine pv1 (h := ?_) | (refine sv3 F M (h := ?_); clear M; intro w M) | (refine sv2 F M (h := ?_); clear F M a; intro nb a w F M) | refine pv3 (h := ?_) | (refine pv2 (h := ?_); intro nb) | ((first | refine svC F M (h := ?_) | refine svC0 F M (h := ?_) | refine pvC (h := ?_) | refine pvC0 (h := ?_)); (fail); (first | refine ⟨rvsA, ?_⟩ | (clear F M a; intro a w F M) | (clear M; intro w M))) | (refine svK F (h := ?_); clear F a; intro a F) | refine svK0 F (h := ?_) | ((refine sx_guardb F rfl (fun hg => ?_) (fun hg => ?_)) <;> (rw [hg] at F; (try (exact no hg)))) | (refine pvF (h := ?_); intro nb) | refine pvK (h := ?_) | refine pvK0 (h := ?_) | (refine pv_nil ?_; intro a w F M; (try (replace F := F.filt [0, 1, 2, 3, 4, 5, 6, 8, 9, 17, 22, 23, 24, 25, 32] rfl))) | ((fail_if_success (with_reducible first | refine isW ?_ | refine isP ?_ | refine isL ?_)); (first | with_reducible refine sx_region ?_ | ((with_reducible refine isK ?_); (first | refine svT F (h := ?_) | refine svF F (h := ?_) | ((refine svB F (fun hc => ?_) (fun hc => ?_)) <;> (try (exact no hc))))) | ((with_reducible refine isD ?_); fail) | with_reducible refine wp_scope_straight ?_ | with_reducible refine wp_label ?_ | go_step))))
      refine sv_again F M (⟨j + 1, h, bs ++ bigL X d.size⟩ : WrZ) kpA permsA ⟨by simp only; omega, ?_⟩ (by simp only; omega)
      rw [hw1, q2, hw3]
    | succ m =>
      have ee : ((m + 1 : Nat) : Int) - 1 = m := by omega
      rw [ee] at F
      have hby : IntKind.u8.wrap ((X / 2 ^ (8 * m) : Nat) : Int) = ((UInt8.ofNat (X / 256 ^ m % 256)).toNat : Int) := by rw [pow_256]; exact byte_of _
      have e8 : (8 : Int) * (m : Int) = ((8 * m : Nat) : Int) := by omega
      (repeat' (first | ((first | refine sv1 F M (h := ?_) (hr := by ((first | (refine rt_shr (k := .i64) (m := X) (s := 8 * m) rfl rfl ?_ ?_; (rw [← e8]; exact rfl); omega) | (apply rt_conv; (exact rfl); (exact rfl); (exact inferInstance); (exact inferInstance); (exact hby))))) | refine pv1 (h := ?_) (hr := by ((first | (refine rt_shr (k := .i64) (m := X) (s := 8 * m) rfl rfl ?_ ?_; (rw [← e8]; exact rfl); omega) | (apply rt_conv; (exact rfl); (exact rfl); (exact inferInstance); (exact inferInstance); (exact hby)))))); (try (clear F a; intro a F))) | (refine sx_nil ?_; (try (replace F := F.filt [0, 1, 2, 3, 4, 5, 6, 8, 9, 17, 22, 23, 24, 25, 32] rfl))) | (refine sv1 F M (h := ?_); clear F a; intro a F) | refine pv1 (h := ?_) | (refine sv3 F M (h := ?_); clear M; intro w M) | (refine sv2 F M (h := ?_); clear F M a; intro nb a w F M) | refine pv3 (h := ?_) | (refine pv2 (h := ?_); intro nb) | ((first | refine svC F M (h := ?_) | refine svC0 F M (h := ?_) | refine pvC (h := ?_) | refine pvC0 (h := ?_)); ((first | ((refine acW (k := d.gf) (hg1 _) ?_); rintro u L' ⟨rfl, rfl⟩) | (refine ac_appendH (f := u8L) (xs := bs ++ T) (ys := [UInt8.ofNat (X / 256 ^ m % 256)]) rfl rfl inferInstance rfl rfl pullA inferInstance gsA rfl rfl (by simp; omega) ?_; intro nv))); (first | refine ⟨rvsA, ?_⟩ | (clear F M a; intro a w F M) | (clear M; intro w M))) | (refine svK F (h := ?_); clear F a; intro a F) | refine svK0 F (h := ?_) | ((refine sx_guardb F rfl (fun hg => ?_) (fun hg => ?_)) <;> (rw [hg] at F; (try (exact no hg)))) | (refine pvF (h := ?_); intro nb) | refine pvK (h := ?_) | refine pvK0 (h := ?_) | (refine pv_nil ?_; intro a w F M; (try (replace F := F.filt [0, 1, 2, 3, 4, 5, 6, 8, 9, 17, 22, 23, 24, 25, 32] rfl))) | ((fail_if_success (with_reducible first | refine isW ?_ | refine isP ?_ | refine isL ?_)); (first | with_reducible refine sx_region ?_ | ((with_reducible refine isK ?_); (first | refine svT F (h := ?_) | refine svF F (h := ?_) | ((refine svB F (fun hc => ?_) (fun hc => ?_)) <;> (try (exact no hc))))) | ((with_reducible refine isD ?_); fail) | with_reducible refine wp_scope_straight ?_ | with_reducible refine wp_label ?_ | go_step))))
      refine sv_again F M (⟨m, nv, T ++ [UInt8.ofNat (X / 256 ^ m % 256)]⟩ : WrZ) kpA (by rw [← List.append_assoc]; exact permsA) ⟨?_, by simp only; omega⟩ (by simp only; omega)
      rw [← p1, bigL]; simp
  · obtain rfl : j = ds.length := by omega
    rw [List.take_length] at q2
    subst q2
    (repeat' (first | (refine sx_nil ?_; (try (replace F := F.filt [0, 1, 2, 3, 4, 5, 6, 8, 9, 17, 22, 23, 24, 25, 32] rfl))) | (refine sv1 F M (h := ?_); clear F a; intro a F) | refine pv1 (h := ?_) | (refine sv3 F M (h := ?_); clear M; intro w M) | (refine sv2 F M (h := ?_); clear F M a; intro nb a w F M) | refine pv3 (h := ?_) | (refine pv2 (h := ?_); intro nb) | ((first | refine svC F M (h := ?_) | refine svC0 F M (h := ?_) | refine pvC (h := ?_) | refine pvC0 (h := ?_)); (fail); (first | refine ⟨rvsA, ?_⟩ | (clear F M a; intro a w F M) | (clear M; intro w M))) | (refine svK F (h := ?_); clear F a; intro a F) | refine svK0 F (h := ?_) | ((refine sx_guardb F rfl (fun hg => ?_) (fun hg => ?_)) <;> (rw [hg] at F; (try (exact no hg)))) | (refine pvF (h := ?_); intro nb) | refine pvK (h := ?_) | refine pvK0 (h := ?_) | (refine pv_nil ?_; intro a w F M; (try (replace F := F.filt [0, 1, 2, 3, 4, 5, 6, 8, 9, 17, 22, 23, 24, 25, 32] rfl))) | ((fail_if_success (with_reducible first | refine isW ?_ | refine isP ?_ | refine isL ?_)); (first | with_reducible refine sx_region ?_ | ((with_reducible refine isK ?_); (first | refine svT F (h := ?_) | refine svF F (h := ?_) | ((refine svB F (fun hc => ?_) (fun hc => ?_)) <;> (try (exact no hc))))) | ((with_reducible refine isD ?_); fail) | with_reducible refine wp_scope_straight ?_ | with_reducible refine wp_label ?_ | go_step))))
    all_goals (first | refine svEnd F M ?_ | refine svRet F M ?_)
    all_goals exact ⟨_, _, rfl, ⟨h, rfl, rfl⟩, M.perms permsA⟩
theorem valid_spec (o : Opn) (hk : I64 o.k) (hr : OpR o) (R : List Asn) : Spec 22 [opV o] R fun u L' => u = .bool (okM o) ∧ L' = R := by
  obtain ⟨r1, r2, r3⟩ := hr
  cases hd : odsOf o.k with
  | none =>
    have hw := fun R => write_none o hk hd R
    have e : okM o = false := by rw [okM, hd]
    rw [e]
    obtain ⟨k, ix, tg, am⟩ := o
    (intro G w M; refine sx_enter (vs := ([opV ⟨k, ix, tg, am⟩] : List Value)) Tryd.func22 (n := 24) rfl rfl rfl rfl ?_; intro a F; (try simp only [List.cons_append, List.nil_append] at M))
    (repeat' (first | (refine sx_nil ?_; (try (replace F := F.filt [0, 1, 2, 3, 4, 5, 14] rfl))) | (refine sv1 F M (h := ?_); clear F a; intro a F) | refine pv1 (h := ?_) | (refine sv3 F M (h := ?_); clear M; intro w M) | (refine sv2 F M (h := ?_); clear F M a; intro nb a w F M) | refine pv3 (h := ?_) | (refine pv2 (h := ?_); intro nb) | ((first | refine svC F M (h := ?_) | refine svC0 F M (h := ?_) | refine pvC (h := ?_) | refine pvC0 (h := ?_)); (((refine acW (k := 43) (hw _) ?_); rintro u L' ⟨rfl, rfl⟩)); (first | refine ⟨rvsA, ?_⟩ | (clear F M a; intro a w F M) | (clear M; intro w M))) | (refine svK F (h := ?_); clear F a; intro a F) | refine svK0 F (h := ?_) | ((refine sx_guardb F rfl (fun hg => ?_) (fun hg => ?_)) <;> (rw [hg] at F; (try (exact no hg)))) | (refine pvF (h := ?_); intro nb) | refine pvK (h := ?_) | refine pvK0 (h := ?_) | (refine pv_nil ?_; intro a w F M; (try (replace F := F.filt [0, 1, 2, 3, 4, 5, 14] rfl))) | ((fail_if_success (with_reducible first | refine isW ?_ | refine isP ?_ | refine isL ?_)); (first | with_reducible refine sx_region ?_ | ((with_reducible refine isK ?_); (first | refine svT F (h := ?_) | refine svF F (h := ?_) | ((refine svB F (fun hc => ?_) (fun hc => ?_)) <;> (try (exact no hc))))) | ((with_reducible refine isD ?_); fail) | with_reducible refine wp_scope_straight ?_ | with_reducible refine wp_label ?_ | go_step))))
    all_goals (first | refine svEnd F M ?_ | refine svRet F M ?_)
    all_goals exact ⟨_, _, rfl, ⟨rfl, rfl⟩, M.perms permsA⟩
  | some ds =>
    have hw := fun R => write_some o hk r3 ds hd R
    have hv := valid_iff o r1 r2 r3 ds hd
    have hl := wrL_len o ds
    obtain ⟨hl2, hz⟩ := ods_len hd
    have hdc := fun (h : SlH) R (hg : BG R h (wrL o ds)) => dec_spec h (wrL o ds) 0 (by omega) (by omega) R hg
    rw [← hv]
    obtain ⟨k, ix, tg, am⟩ := o
    generalize wrL ⟨k, ix, tg, am⟩ ds = W at *
    generalize decM W 0 = X at *
    obtain ⟨p, nx⟩ := X
    simp only at hdc ⊢
    (intro G w M; refine sx_enter (vs := ([opV ⟨k, ix, tg, am⟩] : List Value)) Tryd.func22 (n := 24) rfl rfl rfl rfl ?_; intro a F; (try simp only [List.cons_append, List.nil_append] at M))
    (repeat' (first | ((first | refine sv1 F M (h := ?_) (hr := by ((refine rt_eqlT (f := opL) (p := p) (q := ⟨k, ix, tg, am⟩) rfl rfl rfl inferInstance inferInstance))) | refine pv1 (h := ?_) (hr := by ((refine rt_eqlT (f := opL) (p := p) (q := ⟨k, ix, tg, am⟩) rfl rfl rfl inferInstance inferInstance)))); (try (clear F a; intro a F))) | (refine sx_nil ?_; (try (replace F := F.filt [0, 1, 2, 3, 4, 5, 14] rfl))) | (refine sv1 F M (h := ?_); clear F a; intro a F) | refine pv1 (h := ?_) | (refine sv3 F M (h := ?_); clear M; intro w M) | (refine sv2 F M (h := ?_); clear F M a; intro nb a w F M) | refine pv3 (h := ?_) | (refine pv2 (h := ?_); intro nb) | ((first | refine svC F M (h := ?_) | refine svC0 F M (h := ?_) | refine pvC (h := ?_) | refine pvC0 (h := ?_)); ((first | ((refine acW (k := 43) (hw _) ?_); rintro u L' ⟨h, rfl, rfl⟩) | ((refine acW (k := 44) (hdc h _ ?_) ?_); (exact bg_own M pullA); rintro u L' ⟨rfl, rfl⟩))); (first | refine ⟨rvsA, ?_⟩ | (clear F M a; intro a w F M) | (clear M; intro w M))) | (refine svK F (h := ?_); clear F a; intro a F) | refine svK0 F (h := ?_) | ((refine sx_guardb F rfl (fun hg => ?_) (fun hg => ?_)) <;> (rw [hg] at F; (try (exact no hg)))) | (refine pvF (h := ?_); intro nb) | refine pvK (h := ?_) | refine pvK0 (h := ?_) | (refine pv_nil ?_; intro a w F M; (try (replace F := F.filt [0, 1, 2, 3, 4, 5, 14] rfl))) | ((fail_if_success (with_reducible first | refine isW ?_ | refine isP ?_ | refine isL ?_)); (first | with_reducible refine sx_region ?_ | ((with_reducible refine isK ?_); (first | refine svT F (h := ?_) | refine svF F (h := ?_) | ((refine svB F (fun hc => ?_) (fun hc => ?_)) <;> (try (exact no hc))))) | ((with_reducible refine isD ?_); fail) | with_reducible refine wp_scope_straight ?_ | with_reducible refine wp_label ?_ | go_step))))
    all_goals (first | refine svEnd F M ?_ | refine svRet F M ?_)
    all_goals exact ⟨_, _, rfl, ⟨rfl, rfl⟩, M.perms permsA⟩
end Go.Proofs.YtaggjikjohamjaaDoor
end
section
namespace Go.Proofs.YtaggjikjohamjaaDoor
open Go.RowKit
set_option linter.unusedVariables false
set_option maxRecDepth 100000
set_option linter.unusedSimpArgs false
set_option maxHeartbeats 2000000
theorem opnames_spec {L : List Asn} : Spec 45 [] L fun u L' => ∃ h, u = sl h ∧ L' = ownT 9 strL 1 (sl h) names7 :: L := by
  (intro G w M; refine sx_enter (vs := []) Tryd.func45 (n := 2) rfl rfl rfl rfl ?_; intro a F; (try simp only [List.cons_append, List.nil_append] at M))
  (repeat' (first | (first | (refine sx_nil ?_; (try (replace F := F.filt [0] rfl))) | (refine sv1 F M (h := ?_) (hr := by fail); clear F a; intro a F) | (refine sv1 F M (h := ?_); clear F a; intro a F) | (refine sv3 F M (h := ?_); clear M; intro w M) | (refine sv2 F M (h := ?_); clear F M a; intro b a w F M) | (refine svC F M (h := ?_); fail; (clear F M a; intro a w F M)) | (refine svC0 F M (h := ?_); fail; (clear M; intro w M)) | (refine sv1 F M (h := ?_) (hr := by fail); clear F a; intro a F) | (refine svK F (h := ?_); clear F a; intro a F) | (refine svK0 F (h := ?_)) | ((refine sx_guardb F rfl (fun hg => ?_) (fun hg => ?_)) <;> (rw [hg] at F; (try (exact no hg))))) | (first | (refine pv1 (h := ?_) (hr := by fail)) | (refine pv1 (h := ?_)) | (refine pv3 (h := ?_)) | (refine pv2 (h := ?_); intro b) | (refine pvC (h := ?_); fail; (refine ⟨?_, ?_⟩; (exact rvsA))) | (refine pvC0 (h := ?_); fail; (refine ⟨?_, ?_⟩; (exact rvsA))) | (refine pv1 (h := ?_) (hr := by fail)) | (refine pvF (h := ?_); intro b) | (refine pvK (h := ?_)) | (refine pvK0 (h := ?_)) | (refine pv_nil ?_; intro a w F M; refine ql_open ?_) | (refine pv_nil ?_; intro a w F M; (try (replace F := F.filt [0] rfl)))) | ((fail_if_success (with_reducible show wpList _ _ _ _ _ _)); (fail_if_success (with_reducible show PW _ _ _ _ _ _ _ _ _ _)); (fail_if_success (with_reducible show Code.wp _ (Code.loop _) _ _ _)); (first | ((with_reducible show Code.wp _ (Code.region _ _ false) _ _ _); (refine sx_region ?_)) | ((with_reducible show Code.wp _ (Code.cond _ _ _) _ _ _); (first | (refine svT F (h := ?_)) | (refine svF F (h := ?_)) | ((refine svB F (fun hc => ?_) (fun hc => ?_)) <;> (try (exact no hc))))) | ((with_reducible show Code.wp _ (Code.region _ _ true) _ _ _); fail) | go_step))))
  (first | (refine svEnd F M ?_) | (refine svRet F M ?_))
  exact ⟨_, _, rfl, ⟨⟨_, _, _⟩, rfl, rfl⟩, M⟩
theorem rnames_spec {L : List Asn} : Spec 30 [] L fun u L' => ∃ h, u = sl h ∧ L' = ownT 9 strL 1 (sl h) names7 :: L := by
  (intro G w M; refine sx_enter (vs := []) Tryd.func30 (n := 2) rfl rfl rfl rfl ?_; intro a F; (try simp only [List.cons_append, List.nil_append] at M))
  (repeat' (first | (first | (refine sx_nil ?_; (try (replace F := F.filt [0] rfl))) | (refine sv1 F M (h := ?_) (hr := by fail); clear F a; intro a F) | (refine sv1 F M (h := ?_); clear F a; intro a F) | (refine sv3 F M (h := ?_); clear M; intro w M) | (refine sv2 F M (h := ?_); clear F M a; intro b a w F M) | (refine svC F M (h := ?_); fail; (clear F M a; intro a w F M)) | (refine svC0 F M (h := ?_); fail; (clear M; intro w M)) | (refine sv1 F M (h := ?_) (hr := by fail); clear F a; intro a F) | (refine svK F (h := ?_); clear F a; intro a F) | (refine svK0 F (h := ?_)) | ((refine sx_guardb F rfl (fun hg => ?_) (fun hg => ?_)) <;> (rw [hg] at F; (try (exact no hg))))) | (first | (refine pv1 (h := ?_) (hr := by fail)) | (refine pv1 (h := ?_)) | (refine pv3 (h := ?_)) | (refine pv2 (h := ?_); intro b) | (refine pvC (h := ?_); fail; (refine ⟨?_, ?_⟩; (exact rvsA))) | (refine pvC0 (h := ?_); fail; (refine ⟨?_, ?_⟩; (exact rvsA))) | (refine pv1 (h := ?_) (hr := by fail)) | (refine pvF (h := ?_); intro b) | (refine pvK (h := ?_)) | (refine pvK0 (h := ?_)) | (refine pv_nil ?_; intro a w F M; refine ql_open ?_) | (refine pv_nil ?_; intro a w F M; (try (replace F := F.filt [0] rfl)))) | ((fail_if_success (with_reducible show wpList _ _ _ _ _ _)); (fail_if_success (with_reducible show PW _ _ _ _ _ _ _ _ _ _)); (fail_if_success (with_reducible show Code.wp _ (Code.loop _) _ _ _)); (first | ((with_reducible show Code.wp _ (Code.region _ _ false) _ _ _); (refine sx_region ?_)) | ((with_reducible show Code.wp _ (Code.cond _ _ _) _ _ _); (first | (refine svT F (h := ?_)) | (refine svF F (h := ?_)) | ((refine svB F (fun hc => ?_) (fun hc => ?_)) <;> (try (exact no hc))))) | ((with_reducible show Code.wp _ (Code.region _ _ true) _ _ _); fail) | go_step))))
  (first | (refine svEnd F M ?_) | (refine svRet F M ?_))
  exact ⟨_, _, rfl, ⟨⟨_, _, _⟩, rfl, rfl⟩, M⟩
theorem gs_names {L L' : List Asn} {h : SlH} (hp : Pull L (ownT 9 strL 1 (sl h) names7) L') : GS L 1 (sl h) 7 (names7.flatMap strL) := gs_own hp
theorem name_reads (k : Int) (h0 : -9223372036854775808 ≤ k) (h1 : k ≤ 9223372036854775807) {L : List Asn} : Reads 23 [.int .i64 k] (str (nameOf k)) L := by
  (intro K hK w M; refine sx_enter (vs := [.int .i64 k]) Tryd.func23 (n := 16) rfl rfl rfl rfl ?_; intro a F)
  have e7 : names7.length = 7 := rfl
  by_cases hk : 1 ≤ k ∧ k ≤ 7
  · obtain ⟨hk1, hk2⟩ := hk
    have hnm := (names7_at hk1 hk2).1
    (repeat' (first | (first | (refine sx_nil ?_; (try (replace F := F.filt [0, 2, 10] rfl))) | (refine sv1 F M (h := ?_) (hr := by fail); clear F a; intro a F) | (refine sv1 F M (h := ?_); clear F a; intro a F) | (refine sv3 F M (h := ?_); clear M; intro w M) | (refine sv2 F M (h := ?_); clear F M a; intro b a w F M) | (refine svC F M (h := ?_); ((refine acCall (k := 45) ?_); refine Spec.mono opnames_spec ?_; rintro u L' ⟨hs, rfl, rfl⟩); (clear F M a; intro a w F M)) | (refine svC0 F M (h := ?_); ((refine acCall (k := 45) ?_); refine Spec.mono opnames_spec ?_; rintro u L' ⟨hs, rfl, rfl⟩); (clear M; intro w M)) | (refine sv1 F M (h := ?_) (hr := by ((apply rt_lenG; (exact rfl); (exact rfl); (exact rfl); (exact inferInstance); (exact gs_names pullA)))); clear F a; intro a F) | (refine svK F (h := ?_); clear F a; intro a F) | (refine svK0 F (h := ?_)) | ((refine sx_guardb F rfl (fun hg => ?_) (fun hg => ?_)) <;> (rw [hg] at F; (try (exact no hg))))) | (first | (refine pv1 (h := ?_) (hr := by fail)) | (refine pv1 (h := ?_)) | (refine pv3 (h := ?_)) | (refine pv2 (h := ?_); intro b) | (refine pvC (h := ?_); ((refine acCall (k := 45) ?_); refine Spec.mono opnames_spec ?_; rintro u L' ⟨hs, rfl, rfl⟩); (refine ⟨?_, ?_⟩; (exact rvsA))) | (refine pvC0 (h := ?_); ((refine acCall (k := 45) ?_); refine Spec.mono opnames_spec ?_; rintro u L' ⟨hs, rfl, rfl⟩); (refine ⟨?_, ?_⟩; (exact rvsA))) | (refine pv1 (h := ?_) (hr := by ((apply rt_lenG; (exact rfl); (exact rfl); (exact rfl); (exact inferInstance); (exact gs_names pullA))))) | (refine pvF (h := ?_); intro b) | (refine pvK (h := ?_)) | (refine pvK0 (h := ?_)) | (refine pv_nil ?_; intro a w F M; refine ql_open ?_) | (refine pv_nil ?_; intro a w F M; (try (replace F := F.filt [0, 2, 10] rfl)))) | ((fail_if_success (with_reducible show wpList _ _ _ _ _ _)); (fail_if_success (with_reducible show PW _ _ _ _ _ _ _ _ _ _)); (fail_if_success (with_reducible show Code.wp _ (Code.loop _) _ _ _)); (first | ((with_reducible show Code.wp _ (Code.region _ _ false) _ _ _); (refine sx_region ?_)) | ((with_reducible show Code.wp _ (Code.cond _ _ _) _ _ _); (first | (refine svT F (h := ?_)) | (refine svF F (h := ?_)) | ((refine svB F (fun hc => ?_) (fun hc => ?_)) <;> (try (exact no hc))))) | ((with_reducible show Code.wp _ (Code.region _ _ true) _ _ _); fail) | go_step))))
    (all_goals ((first | (refine svEnd F M ?_) | (refine svRet F M ?_)); refine ⟨?_, M.perms permsA⟩))
    rfl
  · have hn : nameOf k = [] := by rw [nameOf, if_pos (by omega)]
    by_cases h3 : k < 1
    · (repeat' (first | (first | (refine sx_nil ?_; (try (replace F := F.filt [0, 2, 10] rfl))) | (refine sv1 F M (h := ?_) (hr := by fail); clear F a; intro a F) | (refine sv1 F M (h := ?_); clear F a; intro a F) | (refine sv3 F M (h := ?_); clear M; intro w M) | (refine sv2 F M (h := ?_); clear F M a; intro b a w F M) | (refine svC F M (h := ?_); ((refine acCall (k := 45) ?_); refine Spec.mono opnames_spec ?_; rintro u L' ⟨hs, rfl, rfl⟩); (clear F M a; intro a w F M)) | (refine svC0 F M (h := ?_); ((refine acCall (k := 45) ?_); refine Spec.mono opnames_spec ?_; rintro u L' ⟨hs, rfl, rfl⟩); (clear M; intro w M)) | (refine sv1 F M (h := ?_) (hr := by ((apply rt_lenG; (exact rfl); (exact rfl); (exact rfl); (exact inferInstance); (exact gs_names pullA)))); clear F a; intro a F) | (refine svK F (h := ?_); clear F a; intro a F) | (refine svK0 F (h := ?_)) | ((refine sx_guardb F rfl (fun hg => ?_) (fun hg => ?_)) <;> (rw [hg] at F; (try (exact no hg))))) | (first | (refine pv1 (h := ?_) (hr := by fail)) | (refine pv1 (h := ?_)) | (refine pv3 (h := ?_)) | (refine pv2 (h := ?_); intro b) | (refine pvC (h := ?_); ((refine acCall (k := 45) ?_); refine Spec.mono opnames_spec ?_; rintro u L' ⟨hs, rfl, rfl⟩); (refine ⟨?_, ?_⟩; (exact rvsA))) | (refine pvC0 (h := ?_); ((refine acCall (k := 45) ?_); refine Spec.mono opnames_spec ?_; rintro u L' ⟨hs, rfl, rfl⟩); (refine ⟨?_, ?_⟩; (exact rvsA))) | (refine pv1 (h := ?_) (hr := by ((apply rt_lenG; (exact rfl); (exact rfl); (exact rfl); (exact inferInstance); (exact gs_names pullA))))) | (refine pvF (h := ?_); intro b) | (refine pvK (h := ?_)) | (refine pvK0 (h := ?_)) | (refine pv_nil ?_; intro a w F M; refine ql_open ?_) | (refine pv_nil ?_; intro a w F M; (try (replace F := F.filt [0, 2, 10] rfl)))) | ((fail_if_success (with_reducible show wpList _ _ _ _ _ _)); (fail_if_success (with_reducible show PW _ _ _ _ _ _ _ _ _ _)); (fail_if_success (with_reducible show Code.wp _ (Code.loop _) _ _ _)); (first | ((with_reducible show Code.wp _ (Code.region _ _ false) _ _ _); (refine sx_region ?_)) | ((with_reducible show Code.wp _ (Code.cond _ _ _) _ _ _); (first | (refine svT F (h := ?_)) | (refine svF F (h := ?_)) | ((refine svB F (fun hc => ?_) (fun hc => ?_)) <;> (try (exact no hc))))) | ((with_reducible show Code.wp _ (Code.region _ _ true) _ _ _); fail) | go_step))))
      (all_goals ((first | (refine svEnd F M ?_) | (refine svRet F M ?_)); refine ⟨?_, M.perms permsA⟩))
      rw [hn]; rfl
    · have h4 : ¬ (k ≤ 7) := by omega
      (repeat' (first | (first | (refine sx_nil ?_; (try (replace F := F.filt [0, 2, 10] rfl))) | (refine sv1 F M (h := ?_) (hr := by fail); clear F a; intro a F) | (refine sv1 F M (h := ?_); clear F a; intro a F) | (refine sv3 F M (h := ?_); clear M; intro w M) | (refine sv2 F M (h := ?_); clear F M a; intro b a w F M) | (refine svC F M (h := ?_); ((refine acCall (k := 45) ?_); refine Spec.mono opnames_spec ?_; rintro u L' ⟨hs, rfl, rfl⟩); (clear F M a; intro a w F M)) | (refine svC0 F M (h := ?_); ((refine acCall (k := 45) ?_); refine Spec.mono opnames_spec ?_; rintro u L' ⟨hs, rfl, rfl⟩); (clear M; intro w M)) | (refine sv1 F M (h := ?_) (hr := by ((apply rt_lenG; (exact rfl); (exact rfl); (exact rfl); (exact inferInstance); (exact gs_names pullA)))); clear F a; intro a F) | (refine svK F (h := ?_); clear F a; intro a F) | (refine svK0 F (h := ?_)) | ((refine sx_guardb F rfl (fun hg => ?_) (fun hg => ?_)) <;> (rw [hg] at F; (try (exact no hg))))) | (first | (refine pv1 (h := ?_) (hr := by fail)) | (refine pv1 (h := ?_)) | (refine pv3 (h := ?_)) | (refine pv2 (h := ?_); intro b) | (refine pvC (h := ?_); ((refine acCall (k := 45) ?_); refine Spec.mono opnames_spec ?_; rintro u L' ⟨hs, rfl, rfl⟩); (refine ⟨?_, ?_⟩; (exact rvsA))) | (refine pvC0 (h := ?_); ((refine acCall (k := 45) ?_); refine Spec.mono opnames_spec ?_; rintro u L' ⟨hs, rfl, rfl⟩); (refine ⟨?_, ?_⟩; (exact rvsA))) | (refine pv1 (h := ?_) (hr := by ((apply rt_lenG; (exact rfl); (exact rfl); (exact rfl); (exact inferInstance); (exact gs_names pullA))))) | (refine pvF (h := ?_); intro b) | (refine pvK (h := ?_)) | (refine pvK0 (h := ?_)) | (refine pv_nil ?_; intro a w F M; refine ql_open ?_) | (refine pv_nil ?_; intro a w F M; (try (replace F := F.filt [0, 2, 10] rfl)))) | ((fail_if_success (with_reducible show wpList _ _ _ _ _ _)); (fail_if_success (with_reducible show PW _ _ _ _ _ _ _ _ _ _)); (fail_if_success (with_reducible show Code.wp _ (Code.loop _) _ _ _)); (first | ((with_reducible show Code.wp _ (Code.region _ _ false) _ _ _); (refine sx_region ?_)) | ((with_reducible show Code.wp _ (Code.cond _ _ _) _ _ _); (first | (refine svT F (h := ?_)) | (refine svF F (h := ?_)) | ((refine svB F (fun hc => ?_) (fun hc => ?_)) <;> (try (exact no hc))))) | ((with_reducible show Code.wp _ (Code.region _ _ true) _ _ _); fail) | go_step))))
      (all_goals ((first | (refine svEnd F M ?_) | (refine svRet F M ?_)); refine ⟨?_, M.perms permsA⟩))
      rw [hn]; rfl
end Go.Proofs.YtaggjikjohamjaaDoor
end
section
namespace Go.Proofs.YtaggjikjohamjaaDoor
open Go.RowKit Go.Maps
set_option linter.unusedVariables false
set_option maxRecDepth 100000
set_option linter.unusedSimpArgs false
set_option maxHeartbeats 8000000
section
variable {o : Oper} {n : Nat} {l : List (Nat × Value)} {L : List Asn}
/-- s[i:j] -/
theorem rt_arithM {b : BinOp} {t ty : TypeId} {x y : Operand} (ho : o.op = .binOp b t x y ty) {k : IntKind} {m p : Int} (hx : evl l x = some (.int k m)) (hy : evl l y = some (.int k p)) {r r' : Int} (hr : arithR b m p = some r) (hw : k.wrap r = r') : RT o l L n (.int k r') := hw ▸ rt_arith ho hx hy hr
theorem rt_lh {t : TypeId} {x y y' : Operand} (ho : o.op = .slice t x (some y) (some y') none) {h : SlH} (hx : evl l x = some (sl h)) {k k' : IntKind} {i j : Nat} (hy : evl l y = some (.int k (i : Int))) (hy' : evl l y' = some (.int k' (j : Int))) {e : TypeId} {z : Value} {size bytes : Nat} (ht : ST t e z size bytes) (h0 : i ≤ j) (h1 : j ≤ h.c) : RT o l L n (sl (fromH ⟨h.a, j, h.c⟩ i size)) := fun a w F M => by
  unfold execOp
  rw [ho]
  obtain ⟨hu, _⟩ := ht.k
  have e2 : Tryd.prog.elem t = e := by simp [Program.elem, hu]
  have ht' : Tryd.prog.underlying t = some (.slice (Tryd.prog.elem t)) := by rw [e2]; exact hu
  have hr := run_sliceAt_slice (P := Tryd.prog) w t (sl h) (some (.int k i)) (some (.int k' j)) none ht'
  have hs := run_slice_lh (P := Tryd.prog) w t h.a h.n h.c ht' k k' i j (by omega) (by omega) (by omega)
  rw [e2, st_size ht] at hs
  simp only [Result.andThen_ok, sliced, Int.toNat_natCast] at hs
  simp [F.eval hx, F.eval hy, F.eval hy', hr, hs, sl]
end
def Od.ch : Od → UInt8
  | .i => 105
  | .t => 116
  | .a => 97
def odsS (k : Int) : List UInt8 := match odsOf k with
  | none => [63]
  | some ds => ds.map Od.ch
theorem rops_spec (k : Int) (R : List Asn) : Spec 31 [.int .i64 k] R fun u L' => u = str (odsS k) ∧ L' = R := by
  by_cases hk7 : k = 1 ∨ k = 2 ∨ k = 3 ∨ k = 4 ∨ k = 5 ∨ k = 6 ∨ k = 7
  · have e : ∃ ds, odsOf k = some ds := by rcases hk7 with rfl | rfl | rfl | rfl | rfl | rfl | rfl <;> exact ⟨_, rfl⟩
    obtain ⟨ds, e⟩ := e
    have e2 : odsS k = ds.map Od.ch := by rw [odsS, e]
    rw [e2]
    rcases ods_cases e with ⟨rfl, rfl⟩ | ⟨rfl, rfl⟩ | ⟨rfl, rfl⟩ | ⟨rfl, rfl⟩ | ⟨rfl, rfl⟩ | ⟨rfl, rfl⟩ | ⟨rfl, rfl⟩
    · (intro G w M; refine sx_enter (vs := ([.int .i64 1] : List Value)) Tryd.func31 (n := 16) rfl rfl rfl rfl ?_; intro a F; (try simp only [List.cons_append, List.nil_append] at M))
      (repeat' (first | (refine sx_nil ?_; (try (replace F := F.filt [0, 2, 3, 4, 6, 10, 12, 14] rfl))) | (refine sv1 F M (h := ?_); clear F a; intro a F) | refine pv1 (h := ?_) | (refine sv3 F M (h := ?_); clear M; intro w M) | (refine sv2 F M (h := ?_); clear F M a; intro nb a w F M) | refine pv3 (h := ?_) | (refine pv2 (h := ?_); intro nb) | ((first | refine svC F M (h := ?_) | refine svC0 F M (h := ?_) | refine pvC (h := ?_) | refine pvC0 (h := ?_)); (fail); (first | refine ⟨rvsA, ?_⟩ | (clear F M a; intro a w F M) | (clear M; intro w M))) | (refine svK F (h := ?_); clear F a; intro a F) | refine svK0 F (h := ?_) | ((refine sx_guardb F rfl (fun hg => ?_) (fun hg => ?_)) <;> (rw [hg] at F; (try (exact no hg)))) | (refine pvF (h := ?_); intro nb) | refine pvK (h := ?_) | refine pvK0 (h := ?_) | (refine pv_nil ?_; intro a w F M; (try (replace F := F.filt [0, 2, 3, 4, 6, 10, 12, 14] rfl))) | ((fail_if_success (with_reducible first | refine isW ?_ | refine isP ?_ | refine isL ?_)); (first | with_reducible refine sx_region ?_ | ((with_reducible refine isK ?_); (first | refine svT F (h := ?_) | refine svF F (h := ?_) | ((refine svB F (fun hc => ?_) (fun hc => ?_)) <;> (try (exact no hc))))) | ((with_reducible refine isD ?_); fail) | with_reducible refine wp_scope_straight ?_ | with_reducible refine wp_label ?_ | go_step))))
      (all_goals ((first | refine svEnd F M ?_ | refine svRet F M ?_); exact ⟨_, _, rfl, ⟨rfl, rfl⟩, M.perms permsA⟩))
    · (intro G w M; refine sx_enter (vs := ([.int .i64 2] : List Value)) Tryd.func31 (n := 16) rfl rfl rfl rfl ?_; intro a F; (try simp only [List.cons_append, List.nil_append] at M))
      (repeat' (first | (refine sx_nil ?_; (try (replace F := F.filt [0, 2, 3, 4, 6, 10, 12, 14] rfl))) | (refine sv1 F M (h := ?_); clear F a; intro a F) | refine pv1 (h := ?_) | (refine sv3 F M (h := ?_); clear M; intro w M) | (refine sv2 F M (h := ?_); clear F M a; intro nb a w F M) | refine pv3 (h := ?_) | (refine pv2 (h := ?_); intro nb) | ((first | refine svC F M (h := ?_) | refine svC0 F M (h := ?_) | refine pvC (h := ?_) | refine pvC0 (h := ?_)); (fail); (first | refine ⟨rvsA, ?_⟩ | (clear F M a; intro a w F M) | (clear M; intro w M))) | (refine svK F (h := ?_); clear F a; intro a F) | refine svK0 F (h := ?_) | ((refine sx_guardb F rfl (fun hg => ?_) (fun hg => ?_)) <;> (rw [hg] at F; (try (exact no hg)))) | (refine pvF (h := ?_); intro nb) | refine pvK (h := ?_) | refine pvK0 (h := ?_) | (refine pv_nil ?_; intro a w F M; (try (replace F := F.filt [0, 2, 3, 4, 6, 10, 12, 14] rfl))) | ((fail_if_success (with_reducible first | refine isW ?_ | refine isP ?_ | refine isL ?_)); (first | with_reducible refine sx_region ?_ | ((with_reducible refine isK ?_); (first | refine svT F (h := ?_) | refine svF F (h := ?_) | ((refine svB F (fun hc => ?_) (fun hc => ?_)) <;> (try (exact no hc))))) | ((with_reducible refine isD ?_); fail) | with_reducible refine wp_scope_straight ?_ | with_reducible refine wp_label ?_ | go_step))))
      (all_goals ((first | refine svEnd F M ?_ | refine svRet F M ?_); exact ⟨_, _, rfl, ⟨rfl, rfl⟩, M.perms permsA⟩))
    · (intro G w M; refine sx_enter (vs := ([.int .i64 3] : List Value)) Tryd.func31 (n := 16) rfl rfl rfl rfl ?_; intro a F; (try simp only [List.cons_append, List.nil_append] at M))
      (repeat' (first | (refine sx_nil ?_; (try (replace F := F.filt [0, 2, 3, 4, 6, 10, 12, 14] rfl))) | (refine sv1 F M (h := ?_); clear F a; intro a F) | refine pv1 (h := ?_) | (refine sv3 F M (h := ?_); clear M; intro w M) | (refine sv2 F M (h := ?_); clear F M a; intro nb a w F M) | refine pv3 (h := ?_) | (refine pv2 (h := ?_); intro nb) | ((first | refine svC F M (h := ?_) | refine svC0 F M (h := ?_) | refine pvC (h := ?_) | refine pvC0 (h := ?_)); (fail); (first | refine ⟨rvsA, ?_⟩ | (clear F M a; intro a w F M) | (clear M; intro w M))) | (refine svK F (h := ?_); clear F a; intro a F) | refine svK0 F (h := ?_) | ((refine sx_guardb F rfl (fun hg => ?_) (fun hg => ?_)) <;> (rw [hg] at F; (try (exact no hg)))) | (refine pvF (h := ?_); intro nb) | refine pvK (h := ?_) | refine pvK0 (h := ?_) | (refine pv_nil ?_; intro a w F M; (try (replace F := F.filt [0, 2, 3, 4, 6, 10, 12, 14] rfl))) | ((fail_if_success (with_reducible first | refine isW ?_ | refine isP ?_ | refine isL ?_)); (first | with_reducible refine sx_region ?_ | ((with_reducible refine isK ?_); (first | refine svT F (h := ?_) | refine svF F (h := ?_) | ((refine svB F (fun hc => ?_) (fun hc => ?_)) <;> (try (exact no hc))))) | ((with_reducible refine isD ?_); fail) | with_reducible refine wp_scope_straight ?_ | with_reducible refine wp_label ?_ | go_step))))
      (all_goals ((first | refine svEnd F M ?_ | refine svRet F M ?_); exact ⟨_, _, rfl, ⟨rfl, rfl⟩, M.perms permsA⟩))
    · (intro G w M; refine sx_enter (vs := ([.int .i64 4] : List Value)) Tryd.func31 (n := 16) rfl rfl rfl rfl ?_; intro a F; (try simp only [List.cons_append, List.nil_append] at M))
      (repeat' (first | (refine sx_nil ?_; (try (replace F := F.filt [0, 2, 3, 4, 6, 10, 12, 14] rfl))) | (refine sv1 F M (h := ?_); clear F a; intro a F) | refine pv1 (h := ?_) | (refine sv3 F M (h := ?_); clear M; intro w M) | (refine sv2 F M (h := ?_); clear F M a; intro nb a w F M) | refine pv3 (h := ?_) | (refine pv2 (h := ?_); intro nb) | ((first | refine svC F M (h := ?_) | refine svC0 F M (h := ?_) | refine pvC (h := ?_) | refine pvC0 (h := ?_)); (fail); (first | refine ⟨rvsA, ?_⟩ | (clear F M a; intro a w F M) | (clear M; intro w M))) | (refine svK F (h := ?_); clear F a; intro a F) | refine svK0 F (h := ?_) | ((refine sx_guardb F rfl (fun hg => ?_) (fun hg => ?_)) <;> (rw [hg] at F; (try (exact no hg)))) | (refine pvF (h := ?_); intro nb) | refine pvK (h := ?_) | refine pvK0 (h := ?_) | (refine pv_nil ?_; intro a w F M; (try (replace F := F.filt [0, 2, 3, 4, 6, 10, 12, 14] rfl))) | ((fail_if_success (with_reducible first | refine isW ?_ | refine isP ?_ | refine isL ?_)); (first | with_reducible refine sx_region ?_ | ((with_reducible refine isK ?_); (first | refine svT F (h := ?_) | refine svF F (h := ?_) | ((refine svB F (fun hc => ?_) (fun hc => ?_)) <;> (try (exact no hc))))) | ((with_reducible refine isD ?_); fail) | with_reducible refine wp_scope_straight ?_ | with_reducible refine wp_label ?_ | go_step))))
      (all_goals ((first | refine svEnd F M ?_ | refine svRet F M ?_); exact ⟨_, _, rfl, ⟨rfl, rfl⟩, M.perms permsA⟩))
    · (intro G w M; refine sx_enter (vs := ([.int .i64 5] : List Value)) Tryd.func31 (n := 16) rfl rfl rfl rfl ?_; intro a F; (try simp only [List.cons_append, List.nil_append] at M))
      (repeat' (first | (refine sx_nil ?_; (try (replace F := F.filt [0, 2, 3, 4, 6, 10, 12, 14] rfl))) | (refine sv1 F M (h := ?_); clear F a; intro a F) | refine pv1 (h := ?_) | (refine sv3 F M (h := ?_); clear M; intro w M) | (refine sv2 F M (h := ?_); clear F M a; intro nb a w F M) | refine pv3 (h := ?_) | (refine pv2 (h := ?_); intro nb) | ((first | refine svC F M (h := ?_) | refine svC0 F M (h := ?_) | refine pvC (h := ?_) | refine pvC0 (h := ?_)); (fail); (first | refine ⟨rvsA, ?_⟩ | (clear F M a; intro a w F M) | (clear M; intro w M))) | (refine svK F (h := ?_); clear F a; intro a F) | refine svK0 F (h := ?_) | ((refine sx_guardb F rfl (fun hg => ?_) (fun hg => ?_)) <;> (rw [hg] at F; (try (exact no hg)))) | (refine pvF (h := ?_); intro nb) | refine pvK (h := ?_) | refine pvK0 (h := ?_) | (refine pv_nil ?_; intro a w F M; (try (replace F := F.filt [0, 2, 3, 4, 6, 10, 12, 14] rfl))) | ((fail_if_success (with_reducible first | refine isW ?_ | refine isP ?_ | refine isL ?_)); (first | with_reducible refine sx_region ?_ | ((with_reducible refine isK ?_); (first | refine svT F (h := ?_) | refine svF F (h := ?_) | ((refine svB F (fun hc => ?_) (fun hc => ?_)) <;> (try (exact no hc))))) | ((with_reducible refine isD ?_); fail) | with_reducible refine wp_scope_straight ?_ | with_reducible refine wp_label ?_ | go_step))))
      (all_goals ((first | refine svEnd F M ?_ | refine svRet F M ?_); exact ⟨_, _, rfl, ⟨rfl, rfl⟩, M.perms permsA⟩))
    · (intro G w M; refine sx_enter (vs := ([.int .i64 6] : List Value)) Tryd.func31 (n := 16) rfl rfl rfl rfl ?_; intro a F; (try simp only [List.cons_append, List.nil_append] at M))
      (repeat' (first | (refine sx_nil ?_; (try (replace F := F.filt [0, 2, 3, 4, 6, 10, 12, 14] rfl))) | (refine sv1 F M (h := ?_); clear F a; intro a F) | refine pv1 (h := ?_) | (refine sv3 F M (h := ?_); clear M; intro w M) | (refine sv2 F M (h := ?_); clear F M a; intro nb a w F M) | refine pv3 (h := ?_) | (refine pv2 (h := ?_); intro nb) | ((first | refine svC F M (h := ?_) | refine svC0 F M (h := ?_) | refine pvC (h := ?_) | refine pvC0 (h := ?_)); (fail); (first | refine ⟨rvsA, ?_⟩ | (clear F M a; intro a w F M) | (clear M; intro w M))) | (refine svK F (h := ?_); clear F a; intro a F) | refine svK0 F (h := ?_) | ((refine sx_guardb F rfl (fun hg => ?_) (fun hg => ?_)) <;> (rw [hg] at F; (try (exact no hg)))) | (refine pvF (h := ?_); intro nb) | refine pvK (h := ?_) | refine pvK0 (h := ?_) | (refine pv_nil ?_; intro a w F M; (try (replace F := F.filt [0, 2, 3, 4, 6, 10, 12, 14] rfl))) | ((fail_if_success (with_reducible first | refine isW ?_ | refine isP ?_ | refine isL ?_)); (first | with_reducible refine sx_region ?_ | ((with_reducible refine isK ?_); (first | refine svT F (h := ?_) | refine svF F (h := ?_) | ((refine svB F (fun hc => ?_) (fun hc => ?_)) <;> (try (exact no hc))))) | ((with_reducible refine isD ?_); fail) | with_reducible refine wp_scope_straight ?_ | with_reducible refine wp_label ?_ | go_step))))
      (all_goals ((first | refine svEnd F M ?_ | refine svRet F M ?_); exact ⟨_, _, rfl, ⟨rfl, rfl⟩, M.perms permsA⟩))
    · (intro G w M; refine sx_enter (vs := ([.int .i64 7] : List Value)) Tryd.func31 (n := 16) rfl rfl rfl rfl ?_; intro a F; (try simp only [List.cons_append, List.nil_append] at M))
      (repeat' (first | (refine sx_nil ?_; (try (replace F := F.filt [0, 2, 3, 4, 6, 10, 12, 14] rfl))) | (refine sv1 F M (h := ?_); clear F a; intro a F) | refine pv1 (h := ?_) | (refine sv3 F M (h := ?_); clear M; intro w M) | (refine sv2 F M (h := ?_); clear F M a; intro nb a w F M) | refine pv3 (h := ?_) | (refine pv2 (h := ?_); intro nb) | ((first | refine svC F M (h := ?_) | refine svC0 F M (h := ?_) | refine pvC (h := ?_) | refine pvC0 (h := ?_)); (fail); (first | refine ⟨rvsA, ?_⟩ | (clear F M a; intro a w F M) | (clear M; intro w M))) | (refine svK F (h := ?_); clear F a; intro a F) | refine svK0 F (h := ?_) | ((refine sx_guardb F rfl (fun hg => ?_) (fun hg => ?_)) <;> (rw [hg] at F; (try (exact no hg)))) | (refine pvF (h := ?_); intro nb) | refine pvK (h := ?_) | refine pvK0 (h := ?_) | (refine pv_nil ?_; intro a w F M; (try (replace F := F.filt [0, 2, 3, 4, 6, 10, 12, 14] rfl))) | ((fail_if_success (with_reducible first | refine isW ?_ | refine isP ?_ | refine isL ?_)); (first | with_reducible refine sx_region ?_ | ((with_reducible refine isK ?_); (first | refine svT F (h := ?_) | refine svF F (h := ?_) | ((refine svB F (fun hc => ?_) (fun hc => ?_)) <;> (try (exact no hc))))) | ((with_reducible refine isD ?_); fail) | with_reducible refine wp_scope_straight ?_ | with_reducible refine wp_label ?_ | go_step))))
      (all_goals ((first | refine svEnd F M ?_ | refine svRet F M ?_); exact ⟨_, _, rfl, ⟨rfl, rfl⟩, M.perms permsA⟩))
  · have e : odsS k = [63] := by
      unfold odsS odsOf
      repeat rw [if_neg (by omega)]
    rw [e]
    (intro G w M; refine sx_enter (vs := ([.int .i64 k] : List Value)) Tryd.func31 (n := 16) rfl rfl rfl rfl ?_; intro a F; (try simp only [List.cons_append, List.nil_append] at M))
    (repeat' (first | (refine sx_nil ?_; (try (replace F := F.filt [0, 2, 3, 4, 6, 10, 12, 14] rfl))) | (refine sv1 F M (h := ?_); clear F a; intro a F) | refine pv1 (h := ?_) | (refine sv3 F M (h := ?_); clear M; intro w M) | (refine sv2 F M (h := ?_); clear F M a; intro nb a w F M) | refine pv3 (h := ?_) | (refine pv2 (h := ?_); intro nb) | ((first | refine svC F M (h := ?_) | refine svC0 F M (h := ?_) | refine pvC (h := ?_) | refine pvC0 (h := ?_)); (fail); (first | refine ⟨rvsA, ?_⟩ | (clear F M a; intro a w F M) | (clear M; intro w M))) | (refine svK F (h := ?_); clear F a; intro a F) | refine svK0 F (h := ?_) | ((refine sx_guardb F rfl (fun hg => ?_) (fun hg => ?_)) <;> (rw [hg] at F; (try (exact no hg)))) | (refine pvF (h := ?_); intro nb) | refine pvK (h := ?_) | refine pvK0 (h := ?_) | (refine pv_nil ?_; intro a w F M; (try (replace F := F.filt [0, 2, 3, 4, 6, 10, 12, 14] rfl))) | ((fail_if_success (with_reducible first | refine isW ?_ | refine isP ?_ | refine isL ?_)); (first | with_reducible refine sx_region ?_ | ((with_reducible refine isK ?_); (first | refine svT F (h := ?_) | refine svF F (h := ?_) | ((refine svB F (fun hc => ?_) (fun hc => ?_)) <;> (try (exact no hc))))) | ((with_reducible refine isD ?_); fail) | with_reducible refine wp_scope_straight ?_ | with_reducible refine wp_label ?_ | go_step))))
    (all_goals ((first | refine svEnd F M ?_ | refine svRet F M ?_); exact ⟨_, _, rfl, ⟨rfl, rfl⟩, M.perms permsA⟩))
theorem odsS_some {k : Int} {ds : List Od} (h : odsOf k = some ds) : odsS k = ds.map Od.ch ∧ odsS k ≠ [63] := by
  have e : odsS k = ds.map Od.ch := by rw [odsS, h]
  refine ⟨e, ?_⟩
  rw [e]
  rcases ods_cases h with ⟨_, rfl⟩ | ⟨_, rfl⟩ | ⟨_, rfl⟩ | ⟨_, rfl⟩ | ⟨_, rfl⟩ | ⟨_, rfl⟩ | ⟨_, rfl⟩ <;> decide
theorem odsS_len (k : Int) : (odsS k).length ≤ 2 := by
  unfold odsS
  cases h : odsOf k with
  | none => decide
  | some ds => simp only [List.length_map]; exact (ods_len h).1
def usesM (k : Int) (c : UInt8) : Bool := (odsS k).any fun x => decide (x = c)
theorem u8_int {x c : UInt8} : ((x.toNat : Int) = (c.toNat : Int)) ↔ x = c := by
  constructor
  · intro h; exact UInt8.toNat_inj.1 (by omega)
  · intro h; rw [h]
theorem ruses_spec (k : Int) (c : UInt8) (R : List Asn) : Spec 34 [.int .i64 k, .int .u8 (c.toNat : Int)] R fun u L' => u = .bool (usesM k c) ∧ L' = R := by
  have hop := fun R => rops_spec k R
  have hl := odsS_len k
  unfold usesM
  generalize odsS k = S at *
  generalize hX : (S.any fun x => decide (x = c)) = X
  (intro G w M; refine sx_enter (vs := ([.int .i64 k, .int .u8 (c.toNat : Int)] : List Value)) Tryd.func34 (n := 20) rfl rfl rfl rfl ?_; intro a F; (try simp only [List.cons_append, List.nil_append] at M))
  (repeat' (first | (refine sx_nil ?_; (try (replace F := F.filt [0, 1, 4, 5, 6, 12, 19] rfl))) | (refine sv1 F M (h := ?_); clear F a; intro a F) | refine pv1 (h := ?_) | (refine sv3 F M (h := ?_); clear M; intro w M) | (refine sv2 F M (h := ?_); clear F M a; intro nb a w F M) | refine pv3 (h := ?_) | (refine pv2 (h := ?_); intro nb) | ((first | refine svC F M (h := ?_) | refine svC0 F M (h := ?_) | refine pvC (h := ?_) | refine pvC0 (h := ?_)); (((refine acW (k := 31) (hop _) ?_); rintro u L' ⟨rfl, rfl⟩)); (first | refine ⟨rvsA, ?_⟩ | (clear F M a; intro a w F M) | (clear M; intro w M))) | (refine svK F (h := ?_); clear F a; intro a F) | refine svK0 F (h := ?_) | ((refine sx_guardb F rfl (fun hg => ?_) (fun hg => ?_)) <;> (rw [hg] at F; (try (exact no hg)))) | (refine pvF (h := ?_); intro nb) | refine pvK (h := ?_) | refine pvK0 (h := ?_) | (refine pv_nil ?_; intro a w F M; (try (replace F := F.filt [0, 1, 4, 5, 6, 12, 19] rfl))) | ((fail_if_success (with_reducible first | refine isW ?_ | refine isP ?_ | refine isL ?_)); (first | with_reducible refine sx_region ?_ | ((with_reducible refine isK ?_); (first | refine svT F (h := ?_) | refine svF F (h := ?_) | ((refine svB F (fun hc => ?_) (fun hc => ?_)) <;> (try (exact no hc))))) | ((with_reducible refine isD ?_); fail) | with_reducible refine wp_scope_straight ?_ | with_reducible refine wp_label ?_ | go_step))))
  refine svLoop F M (0 : Nat) (fun j => [(6, .int .i64 j)]) (fun _ => []) (fun j => j ≤ S.length ∧ ((S.drop j).any fun x => decide (x = c)) = X) (fun j => S.length - j) [] ⟨Nat.zero_le _, hX⟩ ?_
  (rintro j ⟨q1, q2⟩ a w F M; (try simp only [List.cons_append, List.nil_append] at F M q1 q2 ⊢))
  by_cases hj : j < S.length
  · obtain ⟨x, hx⟩ : ∃ x, S[j]? = some x := ⟨S[j], by simp [hj]⟩
    rw [drop_cons hx, List.any_cons] at q2
    by_cases hxc : x = c
    · have d2 : (x.toNat : Int) = (c.toNat : Int) := u8_int.2 hxc
      rw [decide_eq_true hxc, Bool.true_or] at q2
      (repeat' (first | (refine sx_nil ?_; (try (replace F := F.filt [0, 1, 4, 5, 6, 12, 19] rfl))) | (refine sv1 F M (h := ?_); clear F a; intro a F) | refine pv1 (h := ?_) | (refine sv3 F M (h := ?_); clear M; intro w M) | (refine sv2 F M (h := ?_); clear F M a; intro nb a w F M) | refine pv3 (h := ?_) | (refine pv2 (h := ?_); intro nb) | ((first | refine svC F M (h := ?_) | refine svC0 F M (h := ?_) | refine pvC (h := ?_) | refine pvC0 (h := ?_)); (((refine acW (k := 31) (hop _) ?_); rintro u L' ⟨rfl, rfl⟩)); (first | refine ⟨rvsA, ?_⟩ | (clear F M a; intro a w F M) | (clear M; intro w M))) | (refine svK F (h := ?_); clear F a; intro a F) | refine svK0 F (h := ?_) | ((refine sx_guardb F rfl (fun hg => ?_) (fun hg => ?_)) <;> (rw [hg] at F; (try (exact no hg)))) | (refine pvF (h := ?_); intro nb) | refine pvK (h := ?_) | refine pvK0 (h := ?_) | (refine pv_nil ?_; intro a w F M; (try (replace F := F.filt [0, 1, 4, 5, 6, 12, 19] rfl))) | ((fail_if_success (with_reducible first | refine isW ?_ | refine isP ?_ | refine isL ?_)); (first | with_reducible refine sx_region ?_ | ((with_reducible refine isK ?_); (first | refine svT F (h := ?_) | refine svF F (h := ?_) | ((refine svB F (fun hc => ?_) (fun hc => ?_)) <;> (try (exact no hc))))) | ((with_reducible refine isD ?_); fail) | with_reducible refine wp_scope_straight ?_ | with_reducible refine wp_label ?_ | go_step))))
      all_goals (first | refine svEnd F M ?_ | refine svRet F M ?_)
      all_goals (rw [← q2]; exact ⟨_, _, rfl, ⟨rfl, rfl⟩, M.perms permsA⟩)
    · have d1 : decide ((x.toNat : Int) = (c.toNat : Int)) = false := by rw [decide_eq_false_iff_not]; exact fun h => hxc (u8_int.1 h)
      have d2 : ¬ ((x.toNat : Int) = (c.toNat : Int)) := fun h => hxc (u8_int.1 h)
      rw [decide_eq_false hxc, Bool.false_or] at q2
      (repeat' (first | (refine sx_nil ?_; (try (replace F := F.filt [0, 1, 4, 5, 6, 12, 19] rfl))) | (refine sv1 F M (h := ?_); clear F a; intro a F) | refine pv1 (h := ?_) | (refine sv3 F M (h := ?_); clear M; intro w M) | (refine sv2 F M (h := ?_); clear F M a; intro nb a w F M) | refine pv3 (h := ?_) | (refine pv2 (h := ?_); intro nb) | ((first | refine svC F M (h := ?_) | refine svC0 F M (h := ?_) | refine pvC (h := ?_) | refine pvC0 (h := ?_)); (((refine acW (k := 31) (hop _) ?_); rintro u L' ⟨rfl, rfl⟩)); (first | refine ⟨rvsA, ?_⟩ | (clear F M a; intro a w F M) | (clear M; intro w M))) | (refine svK F (h := ?_); clear F a; intro a F) | refine svK0 F (h := ?_) | ((refine sx_guardb F rfl (fun hg => ?_) (fun hg => ?_)) <;> (rw [hg] at F; (try (exact no hg)))) | (refine pvF (h := ?_); intro nb) | refine pvK (h := ?_) | refine pvK0 (h := ?_) | (refine pv_nil ?_; intro a w F M; (try (replace F := F.filt [0, 1, 4, 5, 6, 12, 19] rfl))) | ((fail_if_success (with_reducible first | refine isW ?_ | refine isP ?_ | refine isL ?_)); (first | with_reducible refine sx_region ?_ | ((with_reducible refine isK ?_); (first | refine svT F (h := ?_) | refine svF F (h := ?_) | ((refine svB F (fun hc => ?_) (fun hc => ?_)) <;> (try (exact no hc))))) | ((with_reducible refine isD ?_); fail) | with_reducible refine wp_scope_straight ?_ | with_reducible refine wp_label ?_ | go_step))))
      exact sv_again F M (j + 1) kpA permsA ⟨by omega, q2⟩ (by omega)
  · obtain rfl : j = S.length := by omega
    rw [List.drop_length] at q2
    have q2 : false = X := q2
    subst q2
    (repeat' (first | (refine sx_nil ?_; (try (replace F := F.filt [0, 1, 4, 5, 6, 12, 19] rfl))) | (refine sv1 F M (h := ?_); clear F a; intro a F) | refine pv1 (h := ?_) | (refine sv3 F M (h := ?_); clear M; intro w M) | (refine sv2 F M (h := ?_); clear F M a; intro nb a w F M) | refine pv3 (h := ?_) | (refine pv2 (h := ?_); intro nb) | ((first | refine svC F M (h := ?_) | refine svC0 F M (h := ?_) | refine pvC (h := ?_) | refine pvC0 (h := ?_)); (((refine acW (k := 31) (hop _) ?_); rintro u L' ⟨rfl, rfl⟩)); (first | refine ⟨rvsA, ?_⟩ | (clear F M a; intro a w F M) | (clear M; intro w M))) | (refine svK F (h := ?_); clear F a; intro a F) | refine svK0 F (h := ?_) | ((refine sx_guardb F rfl (fun hg => ?_) (fun hg => ?_)) <;> (rw [hg] at F; (try (exact no hg)))) | (refine pvF (h := ?_); intro nb) | refine pvK (h := ?_) | refine pvK0 (h := ?_) | (refine pv_nil ?_; intro a w F M; (try (replace F := F.filt [0, 1, 4, 5, 6, 12, 19] rfl))) | ((fail_if_success (with_reducible first | refine isW ?_ | refine isP ?_ | refine isL ?_)); (first | with_reducible refine sx_region ?_ | ((with_reducible refine isK ?_); (first | refine svT F (h := ?_) | refine svF F (h := ?_) | ((refine svB F (fun hc => ?_) (fun hc => ?_)) <;> (try (exact no hc))))) | ((with_reducible refine isD ?_); fail) | with_reducible refine wp_scope_straight ?_ | with_reducible refine wp_label ?_ | go_step))))
    all_goals (first | refine svEnd F M ?_ | refine svRet F M ?_)
    all_goals exact ⟨_, _, rfl, ⟨rfl, rfl⟩, M.perms permsA⟩
theorem uses_od {k : Int} {ds : List Od} (h : odsOf k = some ds) (d : Od) : usesM k d.ch = decide (d ∈ ds) := by
  unfold usesM
  rw [(odsS_some h).1]
  rcases ods_cases h with ⟨_, rfl⟩ | ⟨_, rfl⟩ | ⟨_, rfl⟩ | ⟨_, rfl⟩ | ⟨_, rfl⟩ | ⟨_, rfl⟩ | ⟨_, rfl⟩ <;> cases d <;> decide
theorem rindex_spec (n : Int) (b : Bool) (R : List Asn) : Spec 33 [.int .i64 n, .bool b] R fun u L' => u = .bool (decide (if b = true then 0 ≤ n ∧ n ≤ 65535 else n = 0)) ∧ L' = R := by
  (intro G w M; refine sx_enter (vs := ([.int .i64 n, .bool b] : List Value)) Tryd.func33 (n := 18) rfl rfl rfl rfl ?_; intro a F; (try simp only [List.cons_append, List.nil_append] at M))
  cases b
  · by_cases h0 : n = 0
    · have d0 : decide (n = 0) = true := by simpa using h0
      (repeat' (first | (refine sx_nil ?_; (try (replace F := F.filt [0, 1, 4] rfl))) | (refine sv1 F M (h := ?_); clear F a; intro a F) | refine pv1 (h := ?_) | (refine sv3 F M (h := ?_); clear M; intro w M) | (refine sv2 F M (h := ?_); clear F M a; intro nb a w F M) | refine pv3 (h := ?_) | (refine pv2 (h := ?_); intro nb) | ((first | refine svC F M (h := ?_) | refine svC0 F M (h := ?_) | refine pvC (h := ?_) | refine pvC0 (h := ?_)); (fail); (first | refine ⟨rvsA, ?_⟩ | (clear F M a; intro a w F M) | (clear M; intro w M))) | (refine svK F (h := ?_); clear F a; intro a F) | refine svK0 F (h := ?_) | ((refine sx_guardb F rfl (fun hg => ?_) (fun hg => ?_)) <;> (rw [hg] at F; (try (exact no hg)))) | (refine pvF (h := ?_); intro nb) | refine pvK (h := ?_) | refine pvK0 (h := ?_) | (refine pv_nil ?_; intro a w F M; (try (replace F := F.filt [0, 1, 4] rfl))) | ((fail_if_success (with_reducible first | refine isW ?_ | refine isP ?_ | refine isL ?_)); (first | with_reducible refine sx_region ?_ | ((with_reducible refine isK ?_); (first | refine svT F (h := ?_) | refine svF F (h := ?_) | ((refine svB F (fun hc => ?_) (fun hc => ?_)) <;> (try (exact no hc))))) | ((with_reducible refine isD ?_); fail) | with_reducible refine wp_scope_straight ?_ | with_reducible refine wp_label ?_ | go_step))))
      all_goals (first | refine svEnd F M ?_ | refine svRet F M ?_)
      all_goals (refine ⟨_, _, rfl, ⟨?_, rfl⟩, M.perms permsA⟩; simp [tupOf, h0])
    · have d0 : decide (n = 0) = false := by simpa using h0
      (repeat' (first | (refine sx_nil ?_; (try (replace F := F.filt [0, 1, 4] rfl))) | (refine sv1 F M (h := ?_); clear F a; intro a F) | refine pv1 (h := ?_) | (refine sv3 F M (h := ?_); clear M; intro w M) | (refine sv2 F M (h := ?_); clear F M a; intro nb a w F M) | refine pv3 (h := ?_) | (refine pv2 (h := ?_); intro nb) | ((first | refine svC F M (h := ?_) | refine svC0 F M (h := ?_) | refine pvC (h := ?_) | refine pvC0 (h := ?_)); (fail); (first | refine ⟨rvsA, ?_⟩ | (clear F M a; intro a w F M) | (clear M; intro w M))) | (refine svK F (h := ?_); clear F a; intro a F) | refine svK0 F (h := ?_) | ((refine sx_guardb F rfl (fun hg => ?_) (fun hg => ?_)) <;> (rw [hg] at F; (try (exact no hg)))) | (refine pvF (h := ?_); intro nb) | refine pvK (h := ?_) | refine pvK0 (h := ?_) | (refine pv_nil ?_; intro a w F M; (try (replace F := F.filt [0, 1, 4] rfl))) | ((fail_if_success (with_reducible first | refine isW ?_ | refine isP ?_ | refine isL ?_)); (first | with_reducible refine sx_region ?_ | ((with_reducible refine isK ?_); (first | refine svT F (h := ?_) | refine svF F (h := ?_) | ((refine svB F (fun hc => ?_) (fun hc => ?_)) <;> (try (exact no hc))))) | ((with_reducible refine isD ?_); fail) | with_reducible refine wp_scope_straight ?_ | with_reducible refine wp_label ?_ | go_step))))
      all_goals (first | refine svEnd F M ?_ | refine svRet F M ?_)
      all_goals (refine ⟨_, _, rfl, ⟨?_, rfl⟩, M.perms permsA⟩; simp [tupOf, h0])
  · by_cases h0 : n = 0
    · have d0 : decide (n = 0) = true := by simpa using h0
      (repeat' (first | (refine sx_nil ?_; (try (replace F := F.filt [0, 1, 4] rfl))) | (refine sv1 F M (h := ?_); clear F a; intro a F) | refine pv1 (h := ?_) | (refine sv3 F M (h := ?_); clear M; intro w M) | (refine sv2 F M (h := ?_); clear F M a; intro nb a w F M) | refine pv3 (h := ?_) | (refine pv2 (h := ?_); intro nb) | ((first | refine svC F M (h := ?_) | refine svC0 F M (h := ?_) | refine pvC (h := ?_) | refine pvC0 (h := ?_)); (fail); (first | refine ⟨rvsA, ?_⟩ | (clear F M a; intro a w F M) | (clear M; intro w M))) | (refine svK F (h := ?_); clear F a; intro a F) | refine svK0 F (h := ?_) | ((refine sx_guardb F rfl (fun hg => ?_) (fun hg => ?_)) <;> (rw [hg] at F; (try (exact no hg)))) | (refine pvF (h := ?_); intro nb) | refine pvK (h := ?_) | refine pvK0 (h := ?_) | (refine pv_nil ?_; intro a w F M; (try (replace F := F.filt [0, 1, 4] rfl))) | ((fail_if_success (with_reducible first | refine isW ?_ | refine isP ?_ | refine isL ?_)); (first | with_reducible refine sx_region ?_ | ((with_reducible refine isK ?_); (first | refine svT F (h := ?_) | refine svF F (h := ?_) | ((refine svB F (fun hc => ?_) (fun hc => ?_)) <;> (try (exact no hc))))) | ((with_reducible refine isD ?_); fail) | with_reducible refine wp_scope_straight ?_ | with_reducible refine wp_label ?_ | go_step))))
      all_goals (first | refine svEnd F M ?_ | refine svRet F M ?_)
      all_goals (refine ⟨_, _, rfl, ⟨?_, rfl⟩, M.perms permsA⟩; simp [tupOf, h0])
    · have d0 : decide (n = 0) = false := by simpa using h0
      by_cases h1 : 0 < n
      · have d1 : decide (0 < n) = true := by simpa using h1
        (repeat' (first | (refine sx_nil ?_; (try (replace F := F.filt [0, 1, 4] rfl))) | (refine sv1 F M (h := ?_); clear F a; intro a F) | refine pv1 (h := ?_) | (refine sv3 F M (h := ?_); clear M; intro w M) | (refine sv2 F M (h := ?_); clear F M a; intro nb a w F M) | refine pv3 (h := ?_) | (refine pv2 (h := ?_); intro nb) | ((first | refine svC F M (h := ?_) | refine svC0 F M (h := ?_) | refine pvC (h := ?_) | refine pvC0 (h := ?_)); (fail); (first | refine ⟨rvsA, ?_⟩ | (clear F M a; intro a w F M) | (clear M; intro w M))) | (refine svK F (h := ?_); clear F a; intro a F) | refine svK0 F (h := ?_) | ((refine sx_guardb F rfl (fun hg => ?_) (fun hg => ?_)) <;> (rw [hg] at F; (try (exact no hg)))) | (refine pvF (h := ?_); intro nb) | refine pvK (h := ?_) | refine pvK0 (h := ?_) | (refine pv_nil ?_; intro a w F M; (try (replace F := F.filt [0, 1, 4] rfl))) | ((fail_if_success (with_reducible first | refine isW ?_ | refine isP ?_ | refine isL ?_)); (first | with_reducible refine sx_region ?_ | ((with_reducible refine isK ?_); (first | refine svT F (h := ?_) | refine svF F (h := ?_) | ((refine svB F (fun hc => ?_) (fun hc => ?_)) <;> (try (exact no hc))))) | ((with_reducible refine isD ?_); fail) | with_reducible refine wp_scope_straight ?_ | with_reducible refine wp_label ?_ | go_step))))
        all_goals (first | refine svEnd F M ?_ | refine svRet F M ?_)
        all_goals (refine ⟨_, _, rfl, ⟨?_, rfl⟩, M.perms permsA⟩; simp [tupOf, h0, h1]; try omega)
      · have d1 : decide (0 < n) = false := by simpa using h1
        (repeat' (first | (refine sx_nil ?_; (try (replace F := F.filt [0, 1, 4] rfl))) | (refine sv1 F M (h := ?_); clear F a; intro a F) | refine pv1 (h := ?_) | (refine sv3 F M (h := ?_); clear M; intro w M) | (refine sv2 F M (h := ?_); clear F M a; intro nb a w F M) | refine pv3 (h := ?_) | (refine pv2 (h := ?_); intro nb) | ((first | refine svC F M (h := ?_) | refine svC0 F M (h := ?_) | refine pvC (h := ?_) | refine pvC0 (h := ?_)); (fail); (first | refine ⟨rvsA, ?_⟩ | (clear F M a; intro a w F M) | (clear M; intro w M))) | (refine svK F (h := ?_); clear F a; intro a F) | refine svK0 F (h := ?_) | ((refine sx_guardb F rfl (fun hg => ?_) (fun hg => ?_)) <;> (rw [hg] at F; (try (exact no hg)))) | (refine pvF (h := ?_); intro nb) | refine pvK (h := ?_) | refine pvK0 (h := ?_) | (refine pv_nil ?_; intro a w F M; (try (replace F := F.filt [0, 1, 4] rfl))) | ((fail_if_success (with_reducible first | refine isW ?_ | refine isP ?_ | refine isL ?_)); (first | with_reducible refine sx_region ?_ | ((with_reducible refine isK ?_); (first | refine svT F (h := ?_) | refine svF F (h := ?_) | ((refine svB F (fun hc => ?_) (fun hc => ?_)) <;> (try (exact no hc))))) | ((with_reducible refine isD ?_); fail) | with_reducible refine wp_scope_straight ?_ | with_reducible refine wp_label ?_ | go_step))))
        all_goals (first | refine svEnd F M ?_ | refine svRet F M ?_)
        all_goals (refine ⟨_, _, rfl, ⟨?_, rfl⟩, M.perms permsA⟩; simp [tupOf, h0, h1]; try omega)
theorem rvalue_spec (h : SlH) (bs : List UInt8) (hl : bs.length ≤ 8) (R : List Asn) (hg : BG R h bs) : Spec 57 [sl h] R fun u L' => u = .int .u64 (valB 0 bs : Nat) ∧ L' = R := by
  (intro G w M; refine sx_enter (vs := ([sl h] : List Value)) Tryd.func57 (n := 20) rfl rfl rfl rfl ?_; intro a F; (try simp only [List.cons_append, List.nil_append] at M))
  have gg := (hg.app G).g
  (repeat' (first | (refine sx_nil ?_; (try (replace F := F.filt [0, 2, 3, 4, 8] rfl))) | (refine sv1 F M (h := ?_); clear F a; intro a F) | refine pv1 (h := ?_) | (refine sv3 F M (h := ?_); clear M; intro w M) | (refine sv2 F M (h := ?_); clear F M a; intro nb a w F M) | refine pv3 (h := ?_) | (refine pv2 (h := ?_); intro nb) | ((first | refine svC F M (h := ?_) | refine svC0 F M (h := ?_) | refine pvC (h := ?_) | refine pvC0 (h := ?_)); (fail); (first | refine ⟨rvsA, ?_⟩ | (clear F M a; intro a w F M) | (clear M; intro w M))) | (refine svK F (h := ?_); clear F a; intro a F) | refine svK0 F (h := ?_) | ((refine sx_guardb F rfl (fun hg => ?_) (fun hg => ?_)) <;> (rw [hg] at F; (try (exact no hg)))) | (refine pvF (h := ?_); intro nb) | refine pvK (h := ?_) | refine pvK0 (h := ?_) | (refine pv_nil ?_; intro a w F M; (try (replace F := F.filt [0, 2, 3, 4, 8] rfl))) | ((fail_if_success (with_reducible first | refine isW ?_ | refine isP ?_ | refine isL ?_)); (first | with_reducible refine sx_region ?_ | ((with_reducible refine isK ?_); (first | refine svT F (h := ?_) | refine svF F (h := ?_) | ((refine svB F (fun hc => ?_) (fun hc => ?_)) <;> (try (exact no hc))))) | ((with_reducible refine isD ?_); fail) | with_reducible refine wp_scope_straight ?_ | with_reducible refine wp_label ?_ | go_step))))
  refine svLoop F M (0 : Nat) (fun j => [(4, .int .i64 j), (3, .int .u64 (valB 0 (bs.take j) : Nat))]) (fun _ => []) (fun j => j ≤ bs.length) (fun j => bs.length - j) [] (Nat.zero_le _) ?_
  (rintro j q1 a w F M; (try simp only [List.cons_append, List.nil_append] at F M q1 ⊢))
  by_cases hj : j < bs.length
  · obtain ⟨x, hx⟩ : ∃ x, bs[j]? = some x := ⟨bs[j], by simp [hj]⟩
    have hx3 : x.toNat < 256 := x.toNat_lt
    have e1 : valB 0 (bs.take (j + 1)) = 256 * valB 0 (bs.take j) + x.toNat := by rw [List.take_add_one, hx]; exact valB_snoc _ _ _
    have hb : valB 0 (bs.take j) < 256 ^ 7 := valB_le _ (by rw [List.length_take]; omega)
    have hw : IntKind.u64.wrap (x.toNat : Int) = (x.toNat : Int) := by rw [IntKind.wrap_u64]; omega
    generalize valB 0 (bs.take j) = A at *
    have hm : IntKind.u64.wrap (256 * (A : Int)) = 256 * (A : Int) := by rw [IntKind.wrap_u64]; omega
    have e2 : 256 * (A : Int) + (x.toNat : Int) = ((valB 0 (bs.take (j + 1)) : Nat) : Int) := by omega
    (repeat' (first | ((first | refine sv1 F M (h := ?_) (hr := by ((first | (apply rt_conv; (exact rfl); (exact rfl); (exact inferInstance); (exact inferInstance); (exact hw)) | (refine rt_arithM rfl rfl rfl rfl hm)))) | refine pv1 (h := ?_) (hr := by ((first | (apply rt_conv; (exact rfl); (exact rfl); (exact inferInstance); (exact inferInstance); (exact hw)) | (refine rt_arithM rfl rfl rfl rfl hm))))); (try (clear F a; intro a F))) | (refine sx_nil ?_; (try (replace F := F.filt [0, 2, 3, 4, 8] rfl))) | (refine sv1 F M (h := ?_); clear F a; intro a F) | refine pv1 (h := ?_) | (refine sv3 F M (h := ?_); clear M; intro w M) | (refine sv2 F M (h := ?_); clear F M a; intro nb a w F M) | refine pv3 (h := ?_) | (refine pv2 (h := ?_); intro nb) | ((first | refine svC F M (h := ?_) | refine svC0 F M (h := ?_) | refine pvC (h := ?_) | refine pvC0 (h := ?_)); (fail); (first | refine ⟨rvsA, ?_⟩ | (clear F M a; intro a w F M) | (clear M; intro w M))) | (refine svK F (h := ?_); clear F a; intro a F) | refine svK0 F (h := ?_) | ((refine sx_guardb F rfl (fun hg => ?_) (fun hg => ?_)) <;> (rw [hg] at F; (try (exact no hg)))) | (refine pvF (h := ?_); intro nb) | refine pvK (h := ?_) | refine pvK0 (h := ?_) | (refine pv_nil ?_; intro a w F M; (try (replace F := F.filt [0, 2, 3, 4, 8] rfl))) | ((fail_if_success (with_reducible first | refine isW ?_ | refine isP ?_ | refine isL ?_)); (first | with_reducible refine sx_region ?_ | ((with_reducible refine isK ?_); (first | refine svT F (h := ?_) | refine svF F (h := ?_) | ((refine svB F (fun hc => ?_) (fun hc => ?_)) <;> (try (exact no hc))))) | ((with_reducible refine isD ?_); fail) | with_reducible refine wp_scope_straight ?_ | with_reducible refine wp_label ?_ | go_step))))
    rw [e2] at F
    exact sv_again F M (j + 1) kpA permsA (by omega) (by omega)
  · obtain rfl : j = bs.length := by omega
    rw [List.take_length] at F
    (repeat' (first | (refine sx_nil ?_; (try (replace F := F.filt [0, 2, 3, 4, 8] rfl))) | (refine sv1 F M (h := ?_); clear F a; intro a F) | refine pv1 (h := ?_) | (refine sv3 F M (h := ?_); clear M; intro w M) | (refine sv2 F M (h := ?_); clear F M a; intro nb a w F M) | refine pv3 (h := ?_) | (refine pv2 (h := ?_); intro nb) | ((first | refine svC F M (h := ?_) | refine svC0 F M (h := ?_) | refine pvC (h := ?_) | refine pvC0 (h := ?_)); (fail); (first | refine ⟨rvsA, ?_⟩ | (clear F M a; intro a w F M) | (clear M; intro w M))) | (refine svK F (h := ?_); clear F a; intro a F) | refine svK0 F (h := ?_) | ((refine sx_guardb F rfl (fun hg => ?_) (fun hg => ?_)) <;> (rw [hg] at F; (try (exact no hg)))) | (refine pvF (h := ?_); intro nb) | refine pvK (h := ?_) | refine pvK0 (h := ?_) | (refine pv_nil ?_; intro a w F M; (try (replace F := F.filt [0, 2, 3, 4, 8] rfl))) | ((fail_if_success (with_reducible first | refine isW ?_ | refine isP ?_ | refine isL ?_)); (first | with_reducible refine sx_region ?_ | ((with_reducible refine isK ?_); (first | refine svT F (h := ?_) | refine svF F (h := ?_) | ((refine svB F (fun hc => ?_) (fun hc => ?_)) <;> (try (exact no hc))))) | ((with_reducible refine isD ?_); fail) | with_reducible refine wp_scope_straight ?_ | with_reducible refine wp_label ?_ | go_step))))
    all_goals (first | refine svEnd F M ?_ | refine svRet F M ?_)
    all_goals exact ⟨_, _, rfl, ⟨rfl, rfl⟩, M.perms permsA⟩
end Go.Proofs.YtaggjikjohamjaaDoor
end
section
namespace Go.Proofs.YtaggjikjohamjaaDoor
open Go.RowKit Go.Maps
set_option linter.unusedVariables false
set_option maxRecDepth 100000
set_option linter.unusedSimpArgs false
set_option maxHeartbeats 8000000
theorem okM_rules (o : Opn) (ds : List Od) (h : odsOf o.k = some ds) : okM o = (decide (if usesM o.k 105 = true then 0 ≤ o.ix ∧ o.ix ≤ 65535 else o.ix = 0) && (decide (if usesM o.k 116 = true then 0 ≤ o.tg ∧ o.tg ≤ 65535 else o.tg = 0) && (decide (o.am = 0) || usesM o.k 97))) := by
  have u1 : usesM o.k 105 = _ := uses_od h .i
  have u2 : usesM o.k 116 = _ := uses_od h .t
  have u3 : usesM o.k 97 = _ := uses_od h .a
  rw [u1, u2, u3]
  unfold okM
  rw [h]
  simp only [decide_eq_true_eq, Bool.and_assoc]
  congr 1
  congr 1
  by_cases ha : Od.a ∈ ds <;> simp [ha]
theorem rvalid_spec (o : Opn) (R : List Asn) : Spec 11 [opV o] R fun u L' => u = .bool (okM o) ∧ L' = R := by
  have hop := fun R => rops_spec o.k R
  have hu1 := fun R => ruses_spec o.k 105 R
  have hu2 := fun R => ruses_spec o.k 116 R
  have hu3 := fun R => ruses_spec o.k 97 R
  have hi := fun R => rindex_spec o.ix (usesM o.k 105) R
  have ht := fun R => rindex_spec o.tg (usesM o.k 116) R
  cases hd : odsOf o.k with
  | none =>
    have e : okM o = false := by rw [okM, hd]
    have e2 : odsS o.k = [63] := by rw [odsS, hd]
    rw [e]
    rw [e2] at hop
    obtain ⟨k, ix, tg, am⟩ := o
    have dS : decide (([63] : List UInt8) ≠ [63]) = false := by decide
    (intro G w M; refine sx_enter (vs := ([opV ⟨k, ix, tg, am⟩] : List Value)) Tryd.func11 (n := 33) rfl rfl rfl rfl ?_; intro a F; (try simp only [List.cons_append, List.nil_append] at M))
    (repeat' (first | (refine sx_nil ?_; (try (replace F := F.filt [0, 1, 2] rfl))) | (refine sv1 F M (h := ?_); clear F a; intro a F) | refine pv1 (h := ?_) | (refine sv3 F M (h := ?_); clear M; intro w M) | (refine sv2 F M (h := ?_); clear F M a; intro nb a w F M) | refine pv3 (h := ?_) | (refine pv2 (h := ?_); intro nb) | ((first | refine svC F M (h := ?_) | refine svC0 F M (h := ?_) | refine pvC (h := ?_) | refine pvC0 (h := ?_)); (((refine acW (k := 31) (hop _) ?_); rintro u L' ⟨rfl, rfl⟩)); (first | refine ⟨rvsA, ?_⟩ | (clear F M a; intro a w F M) | (clear M; intro w M))) | (refine svK F (h := ?_); clear F a; intro a F) | refine svK0 F (h := ?_) | ((refine sx_guardb F rfl (fun hg => ?_) (fun hg => ?_)) <;> (rw [hg] at F; (try (exact no hg)))) | (refine pvF (h := ?_); intro nb) | refine pvK (h := ?_) | refine pvK0 (h := ?_) | (refine pv_nil ?_; intro a w F M; (try (replace F := F.filt [0, 1, 2] rfl))) | ((fail_if_success (with_reducible first | refine isW ?_ | refine isP ?_ | refine isL ?_)); (first | with_reducible refine sx_region ?_ | ((with_reducible refine isK ?_); (first | refine svT F (h := ?_) | refine svF F (h := ?_) | ((refine svB F (fun hc => ?_) (fun hc => ?_)) <;> (try (exact no hc))))) | ((with_reducible refine isD ?_); (first | (refine svDraw (id := 1) [2, 9, 10, 17, 18, 27] [] [(9, [5, 6]), (17, [13, 14])] [0, 1, 2, 3, 4, 5, 6, 7, 8, 9, 10, 11, 12, 13, 14, 15, 16, 17, 18, 19, 20, 21, 22, 23, 24, 25, 26, 27, 28, 29, 30] F M (h := ?_); clear F M a w))) | with_reducible refine wp_scope_straight ?_ | with_reducible refine wp_label ?_ | go_step))))
    try rw [dS]
    (repeat' (first | (refine sx_nil ?_; (try (replace F := F.filt [0, 1, 2] rfl))) | (refine sv1 F M (h := ?_); clear F a; intro a F) | refine pv1 (h := ?_) | (refine sv3 F M (h := ?_); clear M; intro w M) | (refine sv2 F M (h := ?_); clear F M a; intro nb a w F M) | refine pv3 (h := ?_) | (refine pv2 (h := ?_); intro nb) | ((first | refine svC F M (h := ?_) | refine svC0 F M (h := ?_) | refine pvC (h := ?_) | refine pvC0 (h := ?_)); (((refine acW (k := 31) (hop _) ?_); rintro u L' ⟨rfl, rfl⟩)); (first | refine ⟨rvsA, ?_⟩ | (clear F M a; intro a w F M) | (clear M; intro w M))) | (refine svK F (h := ?_); clear F a; intro a F) | refine svK0 F (h := ?_) | ((refine sx_guardb F rfl (fun hg => ?_) (fun hg => ?_)) <;> (rw [hg] at F; (try (exact no hg)))) | (refine pvF (h := ?_); intro nb) | refine pvK (h := ?_) | refine pvK0 (h := ?_) | (refine pv_nil ?_; intro a w F M; (try (replace F := F.filt [0, 1, 2] rfl))) | ((fail_if_success (with_reducible first | refine isW ?_ | refine isP ?_ | refine isL ?_)); (first | with_reducible refine sx_region ?_ | ((with_reducible refine isK ?_); (first | refine svT F (h := ?_) | refine svF F (h := ?_) | ((refine svB F (fun hc => ?_) (fun hc => ?_)) <;> (try (exact no hc))))) | ((with_reducible refine isD ?_); (first | (refine svDraw (id := 1) [2, 9, 10, 17, 18, 27] [] [(9, [5, 6]), (17, [13, 14])] [0, 1, 2, 3, 4, 5, 6, 7, 8, 9, 10, 11, 12, 13, 14, 15, 16, 17, 18, 19, 20, 21, 22, 23, 24, 25, 26, 27, 28, 29, 30] F M (h := ?_); clear F M a w))) | with_reducible refine wp_scope_straight ?_ | with_reducible refine wp_label ?_ | go_step))))
    all_goals (first | refine svEnd F M ?_ | refine svRet F M ?_)
    all_goals exact ⟨_, _, rfl, ⟨rfl, rfl⟩, M.perms permsA⟩
  | some ds =>
    rw [okM_rules o ds hd]
    have hne := (odsS_some hd).2
    have dS : decide (odsS o.k ≠ [63]) = true := by simpa using hne
    obtain ⟨k, ix, tg, am⟩ := o
    simp only at hop hu1 hu2 hu3 hi ht dS ⊢
    generalize decide (if usesM k 105 = true then 0 ≤ ix ∧ ix ≤ 65535 else ix = 0) = A at *
    generalize decide (if usesM k 116 = true then 0 ≤ tg ∧ tg ≤ 65535 else tg = 0) = B at *
    generalize usesM k 105 = U1 at *
    generalize usesM k 116 = U2 at *
    generalize usesM k 97 = U3 at *
    generalize odsS k = S at *
    generalize hD : decide (am = 0) = D
    (intro G w M; refine sx_enter (vs := ([opV ⟨k, ix, tg, am⟩] : List Value)) Tryd.func11 (n := 33) rfl rfl rfl rfl ?_; intro a F; (try simp only [List.cons_append, List.nil_append] at M))
    (repeat' (first | (refine sx_nil ?_; (try (replace F := F.filt [0, 1, 2] rfl))) | (refine sv1 F M (h := ?_); clear F a; intro a F) | refine pv1 (h := ?_) | (refine sv3 F M (h := ?_); clear M; intro w M) | (refine sv2 F M (h := ?_); clear F M a; intro nb a w F M) | refine pv3 (h := ?_) | (refine pv2 (h := ?_); intro nb) | ((first | refine svC F M (h := ?_) | refine svC0 F M (h := ?_) | refine pvC (h := ?_) | refine pvC0 (h := ?_)); ((first | ((refine acW (k := 31) (hop _) ?_); rintro u L' ⟨rfl, rfl⟩) | ((refine acW (k := 34) (hu1 _) ?_); rintro u L' ⟨rfl, rfl⟩) | ((refine acW (k := 34) (hu2 _) ?_); rintro u L' ⟨rfl, rfl⟩) | ((refine acW (k := 34) (hu3 _) ?_); rintro u L' ⟨rfl, rfl⟩) | ((refine acW (k := 33) (hi _) ?_); rintro u L' ⟨rfl, rfl⟩) | ((refine acW (k := 33) (ht _) ?_); rintro u L' ⟨rfl, rfl⟩))); (first | refine ⟨rvsA, ?_⟩ | (clear F M a; intro a w F M) | (clear M; intro w M))) | (refine svK F (h := ?_); clear F a; intro a F) | refine svK0 F (h := ?_) | ((refine sx_guardb F rfl (fun hg => ?_) (fun hg => ?_)) <;> (rw [hg] at F; (try (exact no hg)))) | (refine pvF (h := ?_); intro nb) | refine pvK (h := ?_) | refine pvK0 (h := ?_) | (refine pv_nil ?_; intro a w F M; (try (replace F := F.filt [0, 1, 2] rfl))) | ((fail_if_success (with_reducible first | refine isW ?_ | refine isP ?_ | refine isL ?_)); (first | with_reducible refine sx_region ?_ | ((with_reducible refine isK ?_); (first | refine svT F (h := ?_) | refine svF F (h := ?_) | ((refine svB F (fun hc => ?_) (fun hc => ?_)) <;> (try (exact no hc))))) | ((with_reducible refine isD ?_); (first | (refine svDraw (id := 1) [2, 9, 10, 17, 18, 27] [] [(9, [5, 6]), (17, [13, 14])] [0, 1, 2, 3, 4, 5, 6, 7, 8, 9, 10, 11, 12, 13, 14, 15, 16, 17, 18, 19, 20, 21, 22, 23, 24, 25, 26, 27, 28, 29, 30] F M (h := ?_); clear F M a w))) | with_reducible refine wp_scope_straight ?_ | with_reducible refine wp_label ?_ | go_step))))
    rw [dS]
    (repeat' (first | (refine sx_nil ?_; (try (replace F := F.filt [0, 1, 2] rfl))) | (refine sv1 F M (h := ?_); clear F a; intro a F) | refine pv1 (h := ?_) | (refine sv3 F M (h := ?_); clear M; intro w M) | (refine sv2 F M (h := ?_); clear F M a; intro nb a w F M) | refine pv3 (h := ?_) | (refine pv2 (h := ?_); intro nb) | ((first | refine svC F M (h := ?_) | refine svC0 F M (h := ?_) | refine pvC (h := ?_) | refine pvC0 (h := ?_)); ((first | ((refine acW (k := 31) (hop _) ?_); rintro u L' ⟨rfl, rfl⟩) | ((refine acW (k := 34) (hu1 _) ?_); rintro u L' ⟨rfl, rfl⟩) | ((refine acW (k := 34) (hu2 _) ?_); rintro u L' ⟨rfl, rfl⟩) | ((refine acW (k := 34) (hu3 _) ?_); rintro u L' ⟨rfl, rfl⟩) | ((refine acW (k := 33) (hi _) ?_); rintro u L' ⟨rfl, rfl⟩) | ((refine acW (k := 33) (ht _) ?_); rintro u L' ⟨rfl, rfl⟩))); (first | refine ⟨rvsA, ?_⟩ | (clear F M a; intro a w F M) | (clear M; intro w M))) | (refine svK F (h := ?_); clear F a; intro a F) | refine svK0 F (h := ?_) | ((refine sx_guardb F rfl (fun hg => ?_) (fun hg => ?_)) <;> (rw [hg] at F; (try (exact no hg)))) | (refine pvF (h := ?_); intro nb) | refine pvK (h := ?_) | refine pvK0 (h := ?_) | (refine pv_nil ?_; intro a w F M; (try (replace F := F.filt [0, 1, 2] rfl))) | ((fail_if_success (with_reducible first | refine isW ?_ | refine isP ?_ | refine isL ?_)); (first | with_reducible refine sx_region ?_ | ((with_reducible refine isK ?_); (first | refine svT F (h := ?_) | refine svF F (h := ?_) | ((refine svB F (fun hc => ?_) (fun hc => ?_)) <;> (try (exact no hc))))) | ((with_reducible refine isD ?_); (first | (refine svDraw (id := 1) [2, 9, 10, 17, 18, 27] [] [(9, [5, 6]), (17, [13, 14])] [0, 1, 2, 3, 4, 5, 6, 7, 8, 9, 10, 11, 12, 13, 14, 15, 16, 17, 18, 19, 20, 21, 22, 23, 24, 25, 26, 27, 28, 29, 30] F M (h := ?_); clear F M a w))) | with_reducible refine wp_scope_straight ?_ | with_reducible refine wp_label ?_ | go_step))))
    all_goals cases A
    all_goals (repeat' (first | (refine sx_nil ?_; (try (replace F := F.filt [0, 1, 2] rfl))) | (refine sv1 F M (h := ?_); clear F a; intro a F) | refine pv1 (h := ?_) | (refine sv3 F M (h := ?_); clear M; intro w M) | (refine sv2 F M (h := ?_); clear F M a; intro nb a w F M) | refine pv3 (h := ?_) | (refine pv2 (h := ?_); intro nb) | ((first | refine svC F M (h := ?_) | refine svC0 F M (h := ?_) | refine pvC (h := ?_) | refine pvC0 (h := ?_)); ((first | ((refine acW (k := 31) (hop _) ?_); rintro u L' ⟨rfl, rfl⟩) | ((refine acW (k := 34) (hu1 _) ?_); rintro u L' ⟨rfl, rfl⟩) | ((refine acW (k := 34) (hu2 _) ?_); rintro u L' ⟨rfl, rfl⟩) | ((refine acW (k := 34) (hu3 _) ?_); rintro u L' ⟨rfl, rfl⟩) | ((refine acW (k := 33) (hi _) ?_); rintro u L' ⟨rfl, rfl⟩) | ((refine acW (k := 33) (ht _) ?_); rintro u L' ⟨rfl, rfl⟩))); (first | refine ⟨rvsA, ?_⟩ | (clear F M a; intro a w F M) | (clear M; intro w M))) | (refine svK F (h := ?_); clear F a; intro a F) | refine svK0 F (h := ?_) | ((refine sx_guardb F rfl (fun hg => ?_) (fun hg => ?_)) <;> (rw [hg] at F; (try (exact no hg)))) | (refine pvF (h := ?_); intro nb) | refine pvK (h := ?_) | refine pvK0 (h := ?_) | (refine pv_nil ?_; intro a w F M; (try (replace F := F.filt [0, 1, 2] rfl))) | ((fail_if_success (with_reducible first | refine isW ?_ | refine isP ?_ | refine isL ?_)); (first | with_reducible refine sx_region ?_ | ((with_reducible refine isK ?_); (first | refine svT F (h := ?_) | refine svF F (h := ?_) | ((refine svB F (fun hc => ?_) (fun hc => ?_)) <;> (try (exact no hc))))) | ((with_reducible refine isD ?_); (first | (refine svDraw (id := 1) [2, 9, 10, 17, 18, 27] [] [(9, [5, 6]), (17, [13, 14])] [0, 1, 2, 3, 4, 5, 6, 7, 8, 9, 10, 11, 12, 13, 14, 15, 16, 17, 18, 19, 20, 21, 22, 23, 24, 25, 26, 27, 28, 29, 30] F M (h := ?_); clear F M a w))) | with_reducible refine wp_scope_straight ?_ | with_reducible refine wp_label ?_ | go_step))))
    all_goals cases B
    all_goals (repeat' (first | (refine sx_nil ?_; (try (replace F := F.filt [0, 1, 2] rfl))) | (refine sv1 F M (h := ?_); clear F a; intro a F) | refine pv1 (h := ?_) | (refine sv3 F M (h := ?_); clear M; intro w M) | (refine sv2 F M (h := ?_); clear F M a; intro nb a w F M) | refine pv3 (h := ?_) | (refine pv2 (h := ?_); intro nb) | ((first | refine svC F M (h := ?_) | refine svC0 F M (h := ?_) | refine pvC (h := ?_) | refine pvC0 (h := ?_)); ((first | ((refine acW (k := 31) (hop _) ?_); rintro u L' ⟨rfl, rfl⟩) | ((refine acW (k := 34) (hu1 _) ?_); rintro u L' ⟨rfl, rfl⟩) | ((refine acW (k := 34) (hu2 _) ?_); rintro u L' ⟨rfl, rfl⟩) | ((refine acW (k := 34) (hu3 _) ?_); rintro u L' ⟨rfl, rfl⟩) | ((refine acW (k := 33) (hi _) ?_); rintro u L' ⟨rfl, rfl⟩) | ((refine acW (k := 33) (ht _) ?_); rintro u L' ⟨rfl, rfl⟩))); (first | refine ⟨rvsA, ?_⟩ | (clear F M a; intro a w F M) | (clear M; intro w M))) | (refine svK F (h := ?_); clear F a; intro a F) | refine svK0 F (h := ?_) | ((refine sx_guardb F rfl (fun hg => ?_) (fun hg => ?_)) <;> (rw [hg] at F; (try (exact no hg)))) | (refine pvF (h := ?_); intro nb) | refine pvK (h := ?_) | refine pvK0 (h := ?_) | (refine pv_nil ?_; intro a w F M; (try (replace F := F.filt [0, 1, 2] rfl))) | ((fail_if_success (with_reducible first | refine isW ?_ | refine isP ?_ | refine isL ?_)); (first | with_reducible refine sx_region ?_ | ((with_reducible refine isK ?_); (first | refine svT F (h := ?_) | refine svF F (h := ?_) | ((refine svB F (fun hc => ?_) (fun hc => ?_)) <;> (try (exact no hc))))) | ((with_reducible refine isD ?_); (first | (refine svDraw (id := 1) [2, 9, 10, 17, 18, 27] [] [(9, [5, 6]), (17, [13, 14])] [0, 1, 2, 3, 4, 5, 6, 7, 8, 9, 10, 11, 12, 13, 14, 15, 16, 17, 18, 19, 20, 21, 22, 23, 24, 25, 26, 27, 28, 29, 30] F M (h := ?_); clear F M a w))) | with_reducible refine wp_scope_straight ?_ | with_reducible refine wp_label ?_ | go_step))))
    all_goals (try rw [hD])
    all_goals cases D
    all_goals (repeat' (first | (refine sx_nil ?_; (try (replace F := F.filt [0, 1, 2] rfl))) | (refine sv1 F M (h := ?_); clear F a; intro a F) | refine pv1 (h := ?_) | (refine sv3 F M (h := ?_); clear M; intro w M) | (refine sv2 F M (h := ?_); clear F M a; intro nb a w F M) | refine pv3 (h := ?_) | (refine pv2 (h := ?_); intro nb) | ((first | refine svC F M (h := ?_) | refine svC0 F M (h := ?_) | refine pvC (h := ?_) | refine pvC0 (h := ?_)); ((first | ((refine acW (k := 31) (hop _) ?_); rintro u L' ⟨rfl, rfl⟩) | ((refine acW (k := 34) (hu1 _) ?_); rintro u L' ⟨rfl, rfl⟩) | ((refine acW (k := 34) (hu2 _) ?_); rintro u L' ⟨rfl, rfl⟩) | ((refine acW (k := 34) (hu3 _) ?_); rintro u L' ⟨rfl, rfl⟩) | ((refine acW (k := 33) (hi _) ?_); rintro u L' ⟨rfl, rfl⟩) | ((refine acW (k := 33) (ht _) ?_); rintro u L' ⟨rfl, rfl⟩))); (first | refine ⟨rvsA, ?_⟩ | (clear F M a; intro a w F M) | (clear M; intro w M))) | (refine svK F (h := ?_); clear F a; intro a F) | refine svK0 F (h := ?_) | ((refine sx_guardb F rfl (fun hg => ?_) (fun hg => ?_)) <;> (rw [hg] at F; (try (exact no hg)))) | (refine pvF (h := ?_); intro nb) | refine pvK (h := ?_) | refine pvK0 (h := ?_) | (refine pv_nil ?_; intro a w F M; (try (replace F := F.filt [0, 1, 2] rfl))) | ((fail_if_success (with_reducible first | refine isW ?_ | refine isP ?_ | refine isL ?_)); (first | with_reducible refine sx_region ?_ | ((with_reducible refine isK ?_); (first | refine svT F (h := ?_) | refine svF F (h := ?_) | ((refine svB F (fun hc => ?_) (fun hc => ?_)) <;> (try (exact no hc))))) | ((with_reducible refine isD ?_); (first | (refine svDraw (id := 1) [2, 9, 10, 17, 18, 27] [] [(9, [5, 6]), (17, [13, 14])] [0, 1, 2, 3, 4, 5, 6, 7, 8, 9, 10, 11, 12, 13, 14, 15, 16, 17, 18, 19, 20, 21, 22, 23, 24, 25, 26, 27, 28, 29, 30] F M (h := ?_); clear F M a w))) | with_reducible refine wp_scope_straight ?_ | with_reducible refine wp_label ?_ | go_step))))
    all_goals (first | refine svEnd F M ?_ | refine svRet F M ?_)
    all_goals exact ⟨_, _, rfl, ⟨rfl, rfl⟩, M.perms permsA⟩
end Go.Proofs.YtaggjikjohamjaaDoor
end
section
namespace Go.Proofs.YtaggjikjohamjaaDoor
open Go.RowKit Go.Maps
set_option linter.unusedVariables false
set_option maxRecDepth 100000
set_option linter.unusedSimpArgs false
set_option maxHeartbeats 8000000
theorem szL_le8 : ∀ l : List Od, szL l ≤ 8 * l.length
  | [] => by decide
  | d :: l => by have := od_size d; have := szL_le8 l; rw [szL, List.length_cons]; omega
theorem rsize_spec (k : Int) (R : List Asn) : Spec 56 [.int .i64 k] R fun u L' => u = .int .i64 (szK k) ∧ L' = R := by
  have hop := fun R => rops_spec k R
  cases hd : odsOf k with
  | none =>
    have e : szK k = 0 := by rw [szK, hd]
    have e2 : odsS k = [63] := by rw [odsS, hd]
    rw [e2] at hop
    rw [e]
    have dS : decide (([63] : List UInt8) = [63]) = true := by decide
    (intro G w M; refine sx_enter (vs := ([.int .i64 k] : List Value)) Tryd.func56 (n := 25) rfl rfl rfl rfl ?_; intro a F; (try simp only [List.cons_append, List.nil_append] at M))
    (repeat' (first | (refine sx_nil ?_; (try (replace F := F.filt [0, 2, 3, 4, 5, 9, 13, 19] rfl))) | (refine sv1 F M (h := ?_); clear F a; intro a F) | refine pv1 (h := ?_) | (refine sv3 F M (h := ?_); clear M; intro w M) | (refine sv2 F M (h := ?_); clear F M a; intro nb a w F M) | refine pv3 (h := ?_) | (refine pv2 (h := ?_); intro nb) | ((first | refine svC F M (h := ?_) | refine svC0 F M (h := ?_) | refine pvC (h := ?_) | refine pvC0 (h := ?_)); (((refine acW (k := 31) (hop _) ?_); rintro u L' ⟨rfl, rfl⟩)); (first | refine ⟨rvsA, ?_⟩ | (clear F M a; intro a w F M) | (clear M; intro w M))) | (refine svK F (h := ?_); clear F a; intro a F) | refine svK0 F (h := ?_) | ((refine sx_guardb F rfl (fun hg => ?_) (fun hg => ?_)) <;> (rw [hg] at F; (try (exact no hg)))) | (refine pvF (h := ?_); intro nb) | refine pvK (h := ?_) | refine pvK0 (h := ?_) | (refine pv_nil ?_; intro a w F M; (try (replace F := F.filt [0, 2, 3, 4, 5, 9, 13, 19] rfl))) | ((fail_if_success (with_reducible first | refine isW ?_ | refine isP ?_ | refine isL ?_)); (first | with_reducible refine sx_region ?_ | ((with_reducible refine isK ?_); (first | refine svT F (h := ?_) | refine svF F (h := ?_) | ((refine svB F (fun hc => ?_) (fun hc => ?_)) <;> (try (exact no hc))))) | ((with_reducible refine isD ?_); fail) | with_reducible refine wp_scope_straight ?_ | with_reducible refine wp_label ?_ | go_step))))
    all_goals (first | refine svEnd F M ?_ | refine svRet F M ?_)
    all_goals exact ⟨_, _, rfl, ⟨rfl, rfl⟩, M.perms permsA⟩
  | some ds =>
    have e : szK k = 1 + szL ds := by rw [szK, hd]
    obtain ⟨e2, e3⟩ := odsS_some hd
    have dS : ¬ ds.map Od.ch = [63] := by rw [← e2]; exact e3
    obtain ⟨hl2, hz⟩ := ods_len hd
    rw [e2] at hop
    rw [e]
    (intro G w M; refine sx_enter (vs := ([.int .i64 k] : List Value)) Tryd.func56 (n := 25) rfl rfl rfl rfl ?_; intro a F; (try simp only [List.cons_append, List.nil_append] at M))
    (repeat' (first | (refine sx_nil ?_; (try (replace F := F.filt [0, 2, 3, 4, 5, 9, 13, 19] rfl))) | (refine sv1 F M (h := ?_); clear F a; intro a F) | refine pv1 (h := ?_) | (refine sv3 F M (h := ?_); clear M; intro w M) | (refine sv2 F M (h := ?_); clear F M a; intro nb a w F M) | refine pv3 (h := ?_) | (refine pv2 (h := ?_); intro nb) | ((first | refine svC F M (h := ?_) | refine svC0 F M (h := ?_) | refine pvC (h := ?_) | refine pvC0 (h := ?_)); (((refine acW (k := 31) (hop _) ?_); rintro u L' ⟨rfl, rfl⟩)); (first | refine ⟨rvsA, ?_⟩ | (clear F M a; intro a w F M) | (clear M; intro w M))) | (refine svK F (h := ?_); clear F a; intro a F) | refine svK0 F (h := ?_) | ((refine sx_guardb F rfl (fun hg => ?_) (fun hg => ?_)) <;> (rw [hg] at F; (try (exact no hg)))) | (refine pvF (h := ?_); intro nb) | refine pvK (h := ?_) | refine pvK0 (h := ?_) | (refine pv_nil ?_; intro a w F M; (try (replace F := F.filt [0, 2, 3, 4, 5, 9, 13, 19] rfl))) | ((fail_if_success (with_reducible first | refine isW ?_ | refine isP ?_ | refine isL ?_)); (first | with_reducible refine sx_region ?_ | ((with_reducible refine isK ?_); (first | refine svT F (h := ?_) | refine svF F (h := ?_) | ((refine svB F (fun hc => ?_) (fun hc => ?_)) <;> (try (exact no hc))))) | ((with_reducible refine isD ?_); fail) | with_reducible refine wp_scope_straight ?_ | with_reducible refine wp_label ?_ | go_step))))
    refine svLoop F M (0 : Nat) (fun j => [(5, .int .i64 j), (4, .int .i64 ((1 + szL (ds.take j) : Nat) : Int))]) (fun _ => []) (fun j => j ≤ ds.length) (fun j => ds.length - j) [] (Nat.zero_le _) ?_
    (rintro j q1 a w F M; (try simp only [List.cons_append, List.nil_append] at F M q1 ⊢))
    have hml : (ds.map Od.ch).length = ds.length := List.length_map ..
    by_cases hj : j < ds.length
    · obtain ⟨d, hdj⟩ : ∃ d, ds[j]? = some d := ⟨ds[j], by simp [hj]⟩
      have hch : (ds.map Od.ch)[j]? = some d.ch := by rw [List.getElem?_map, hdj]; rfl
      have hs := szL_take hdj
      have hb : szL (ds.take j) ≤ 100 := by
        have := szL_le8 (ds.take j)
        rw [List.length_take] at this; omega
      generalize szL (ds.take j) = A at *
      have e5 : ((1 + A : Nat) : Int) + (d.size : Int) = ((1 + szL (ds.take (j + 1)) : Nat) : Int) := by omega
      cases d
      all_goals (repeat' (first | (refine sx_nil ?_; (try (replace F := F.filt [0, 2, 3, 4, 5, 9, 13, 19] rfl))) | (refine sv1 F M (h := ?_); clear F a; intro a F) | refine pv1 (h := ?_) | (refine sv3 F M (h := ?_); clear M; intro w M) | (refine sv2 F M (h := ?_); clear F M a; intro nb a w F M) | refine pv3 (h := ?_) | (refine pv2 (h := ?_); intro nb) | ((first | refine svC F M (h := ?_) | refine svC0 F M (h := ?_) | refine pvC (h := ?_) | refine pvC0 (h := ?_)); (((refine acW (k := 31) (hop _) ?_); rintro u L' ⟨rfl, rfl⟩)); (first | refine ⟨rvsA, ?_⟩ | (clear F M a; intro a w F M) | (clear M; intro w M))) | (refine svK F (h := ?_); clear F a; intro a F) | refine svK0 F (h := ?_) | ((refine sx_guardb F rfl (fun hg => ?_) (fun hg => ?_)) <;> (rw [hg] at F; (try (exact no hg)))) | (refine pvF (h := ?_); intro nb) | refine pvK (h := ?_) | refine pvK0 (h := ?_) | (refine pv_nil ?_; intro a w F M; (try (replace F := F.filt [0, 2, 3, 4, 5, 9, 13, 19] rfl))) | ((fail_if_success (with_reducible first | refine isW ?_ | refine isP ?_ | refine isL ?_)); (first | with_reducible refine sx_region ?_ | ((with_reducible refine isK ?_); (first | refine svT F (h := ?_) | refine svF F (h := ?_) | ((refine svB F (fun hc => ?_) (fun hc => ?_)) <;> (try (exact no hc))))) | ((with_reducible refine isD ?_); fail) | with_reducible refine wp_scope_straight ?_ | with_reducible refine wp_label ?_ | go_step))))
      all_goals (simp only [Od.size] at e5)
      all_goals (first | rw [show ((1 + A : Nat) : Int) + 2 = _ from e5] at F | rw [show ((1 + A : Nat) : Int) + 8 = _ from e5] at F)
      all_goals exact sv_again F M (j + 1) kpA permsA (by omega) (by omega)
    · obtain rfl : j = ds.length := by omega
      rw [List.take_length] at F
      (repeat' (first | (refine sx_nil ?_; (try (replace F := F.filt [0, 2, 3, 4, 5, 9, 13, 19] rfl))) | (refine sv1 F M (h := ?_); clear F a; intro a F) | refine pv1 (h := ?_) | (refine sv3 F M (h := ?_); clear M; intro w M) | (refine sv2 F M (h := ?_); clear F M a; intro nb a w F M) | refine pv3 (h := ?_) | (refine pv2 (h := ?_); intro nb) | ((first | refine svC F M (h := ?_) | refine svC0 F M (h := ?_) | refine pvC (h := ?_) | refine pvC0 (h := ?_)); (((refine acW (k := 31) (hop _) ?_); rintro u L' ⟨rfl, rfl⟩)); (first | refine ⟨rvsA, ?_⟩ | (clear F M a; intro a w F M) | (clear M; intro w M))) | (refine svK F (h := ?_); clear F a; intro a F) | refine svK0 F (h := ?_) | ((refine sx_guardb F rfl (fun hg => ?_) (fun hg => ?_)) <;> (rw [hg] at F; (try (exact no hg)))) | (refine pvF (h := ?_); intro nb) | refine pvK (h := ?_) | refine pvK0 (h := ?_) | (refine pv_nil ?_; intro a w F M; (try (replace F := F.filt [0, 2, 3, 4, 5, 9, 13, 19] rfl))) | ((fail_if_success (with_reducible first | refine isW ?_ | refine isP ?_ | refine isL ?_)); (first | with_reducible refine sx_region ?_ | ((with_reducible refine isK ?_); (first | refine svT F (h := ?_) | refine svF F (h := ?_) | ((refine svB F (fun hc => ?_) (fun hc => ?_)) <;> (try (exact no hc))))) | ((with_reducible refine isD ?_); fail) | with_reducible refine wp_scope_straight ?_ | with_reducible refine wp_label ?_ | go_step))))
      all_goals (first | refine svEnd F M ?_ | refine svRet F M ?_)
      all_goals exact ⟨_, _, rfl, ⟨rfl, rfl⟩, M.perms permsA⟩
theorem rdec_spec (h : SlH) (bs : List UInt8) (q : Nat) (hq : q < bs.length) (hlen : bs.length ≤ 1000000) (R : List Asn) (hg : BG R h bs) : Spec 41 [sl h, .int .i64 q] R fun u L' => u = .tuple [opV (decM bs q).1, .int .i64 (decM bs q).2, .bool true].toArray ∧ L' = R := by
  obtain ⟨x, hx⟩ : ∃ x, bs[q]? = some x := ⟨bs[q], by rw [List.getElem?_eq_getElem]⟩
  have hgn := hg.n
  have hx3 : x.toNat < 256 := x.toNat_lt
  have hsz := fun R => rsize_spec (x.toNat : Int) R
  have hop := fun R => rops_spec (x.toNat : Int) R
  have hcv : IntKind.i64.wrap (x.toNat : Int) = (x.toNat : Int) := IntWalk.i64_in _ ⟨by omega, by omega⟩
  cases hd : odsOf (x.toNat : Int) with
  | none =>
    have e : decM bs q = (oz 0, q + 1) := by rw [decM, hx, Option.getD_some, hd]
    rw [szK, hd] at hsz
    rw [e]
    (intro G w M; refine sx_enter (vs := ([sl h, .int .i64 (q : Int)] : List Value)) Tryd.func41 (n := 93) rfl rfl rfl rfl ?_; intro a F; (try simp only [List.cons_append, List.nil_append] at M))
    have gg := (hg.app G).g
    (repeat' (first | ((first | refine sv1 F M (h := ?_) (hr := by ((apply rt_conv; (exact rfl); (exact rfl); (exact inferInstance); (exact inferInstance); (exact hcv)))) | refine pv1 (h := ?_) (hr := by ((apply rt_conv; (exact rfl); (exact rfl); (exact inferInstance); (exact inferInstance); (exact hcv))))); (try (clear F a; intro a F))) | (refine sx_nil ?_; (try (replace F := F.filt [0, 1, 4, 5, 6, 7, 8, 9, 10, 11, 12, 20, 30, 39, 52, 57, 67, 79] rfl))) | (refine sv1 F M (h := ?_); clear F a; intro a F) | refine pv1 (h := ?_) | (refine sv3 F M (h := ?_); clear M; intro w M) | (refine sv2 F M (h := ?_); clear F M a; intro nb a w F M) | refine pv3 (h := ?_) | (refine pv2 (h := ?_); intro nb) | ((first | refine svC F M (h := ?_) | refine svC0 F M (h := ?_) | refine pvC (h := ?_) | refine pvC0 (h := ?_)); (((refine acW (k := 56) (hsz _) ?_); rintro u L' ⟨rfl, rfl⟩)); (first | refine ⟨rvsA, ?_⟩ | (clear F M a; intro a w F M) | (clear M; intro w M))) | (refine svK F (h := ?_); clear F a; intro a F) | refine svK0 F (h := ?_) | ((refine sx_guardb F rfl (fun hg => ?_) (fun hg => ?_)) <;> (rw [hg] at F; (try (exact no hg)))) | (refine pvF (h := ?_); intro nb) | refine pvK (h := ?_) | refine pvK0 (h := ?_) | (refine pv_nil ?_; intro a w F M; (try (replace F := F.filt [0, 1, 4, 5, 6, 7, 8, 9, 10, 11, 12, 20, 30, 39, 52, 57, 67, 79] rfl))) | ((fail_if_success (with_reducible first | refine isW ?_ | refine isP ?_ | refine isL ?_)); (first | with_reducible refine sx_region ?_ | ((with_reducible refine isK ?_); (first | refine svT F (h := ?_) | refine svF F (h := ?_) | ((refine svB F (fun hc => ?_) (fun hc => ?_)) <;> (try (exact no hc))))) | ((with_reducible refine isD ?_); fail) | with_reducible refine wp_scope_straight ?_ | with_reducible refine wp_label ?_ | go_step))))
    all_goals (first | refine svEnd F M ?_ | refine svRet F M ?_)
    all_goals exact ⟨_, _, rfl, ⟨rfl, rfl⟩, M.perms permsA⟩
  | some ds =>
    rw [szK, hd] at hsz
    obtain ⟨e2, e3⟩ := odsS_some hd
    rw [e2] at hop
    simp only at hsz
    obtain ⟨hl2, hz⟩ := ods_len hd
    by_cases hs : bs.length - q < 1 + szL ds
    · have e : decM bs q = (oz 0, bs.length) := by rw [decM, hx, Option.getD_some, hd]; simp only [if_pos hs]
      rw [e]
      (intro G w M; refine sx_enter (vs := ([sl h, .int .i64 (q : Int)] : List Value)) Tryd.func41 (n := 93) rfl rfl rfl rfl ?_; intro a F; (try simp only [List.cons_append, List.nil_append] at M))
      have gg := (hg.app G).g
      (repeat' (first | ((first | refine sv1 F M (h := ?_) (hr := by ((apply rt_conv; (exact rfl); (exact rfl); (exact inferInstance); (exact inferInstance); (exact hcv)))) | refine pv1 (h := ?_) (hr := by ((apply rt_conv; (exact rfl); (exact rfl); (exact inferInstance); (exact inferInstance); (exact hcv))))); (try (clear F a; intro a F))) | (refine sx_nil ?_; (try (replace F := F.filt [0, 1, 4, 5, 6, 7, 8, 9, 10, 11, 12, 20, 30, 39, 52, 57, 67, 79] rfl))) | (refine sv1 F M (h := ?_); clear F a; intro a F) | refine pv1 (h := ?_) | (refine sv3 F M (h := ?_); clear M; intro w M) | (refine sv2 F M (h := ?_); clear F M a; intro nb a w F M) | refine pv3 (h := ?_) | (refine pv2 (h := ?_); intro nb) | ((first | refine svC F M (h := ?_) | refine svC0 F M (h := ?_) | refine pvC (h := ?_) | refine pvC0 (h := ?_)); (((refine acW (k := 56) (hsz _) ?_); rintro u L' ⟨rfl, rfl⟩)); (first | refine ⟨rvsA, ?_⟩ | (clear F M a; intro a w F M) | (clear M; intro w M))) | (refine svK F (h := ?_); clear F a; intro a F) | refine svK0 F (h := ?_) | ((refine sx_guardb F rfl (fun hg => ?_) (fun hg => ?_)) <;> (rw [hg] at F; (try (exact no hg)))) | (refine pvF (h := ?_); intro nb) | refine pvK (h := ?_) | refine pvK0 (h := ?_) | (refine pv_nil ?_; intro a w F M; (try (replace F := F.filt [0, 1, 4, 5, 6, 7, 8, 9, 10, 11, 12, 20, 30, 39, 52, 57, 67, 79] rfl))) | ((fail_if_success (with_reducible first | refine isW ?_ | refine isP ?_ | refine isL ?_)); (first | with_reducible refine sx_region ?_ | ((with_reducible refine isK ?_); (first | refine svT F (h := ?_) | refine svF F (h := ?_) | ((refine svB F (fun hc => ?_) (fun hc => ?_)) <;> (try (exact no hc))))) | ((with_reducible refine isD ?_); fail) | with_reducible refine wp_scope_straight ?_ | with_reducible refine wp_label ?_ | go_step))))
      all_goals (first | refine svEnd F M ?_ | refine svRet F M ?_)
      all_goals exact ⟨_, _, rfl, ⟨rfl, rfl⟩, M.perms permsA⟩
    · have e : decM bs q = (rdL ds (oz x.toNat) (bs.drop (q + 1)), q + (1 + szL ds)) := by rw [decM, hx, Option.getD_some, hd]; simp only [if_neg hs]
      rw [e]
      have hml : (ds.map Od.ch).length = ds.length := List.length_map ..
      (intro G w M; refine sx_enter (vs := ([sl h, .int .i64 (q : Int)] : List Value)) Tryd.func41 (n := 93) rfl rfl rfl rfl ?_; intro a F; (try simp only [List.cons_append, List.nil_append] at M))
      have gg := (hg.app G).g
      have gb := hg.app G
      (repeat' (first | ((first | refine sv1 F M (h := ?_) (hr := by ((apply rt_conv; (exact rfl); (exact rfl); (exact inferInstance); (exact inferInstance); (exact hcv)))) | refine pv1 (h := ?_) (hr := by ((apply rt_conv; (exact rfl); (exact rfl); (exact inferInstance); (exact inferInstance); (exact hcv))))); (try (clear F a; intro a F))) | (refine sx_nil ?_; (try (replace F := F.filt [0, 1, 4, 5, 6, 7, 8, 9, 10, 11, 12, 20, 30, 39, 52, 57, 67, 79] rfl))) | (refine sv1 F M (h := ?_); clear F a; intro a F) | refine pv1 (h := ?_) | (refine sv3 F M (h := ?_); clear M; intro w M) | (refine sv2 F M (h := ?_); clear F M a; intro nb a w F M) | refine pv3 (h := ?_) | (refine pv2 (h := ?_); intro nb) | ((first | refine svC F M (h := ?_) | refine svC0 F M (h := ?_) | refine pvC (h := ?_) | refine pvC0 (h := ?_)); ((first | ((refine acW (k := 56) (hsz _) ?_); rintro u L' ⟨rfl, rfl⟩) | ((refine acW (k := 31) (hop _) ?_); rintro u L' ⟨rfl, rfl⟩))); (first | refine ⟨rvsA, ?_⟩ | (clear F M a; intro a w F M) | (clear M; intro w M))) | (refine svK F (h := ?_); clear F a; intro a F) | refine svK0 F (h := ?_) | ((refine sx_guardb F rfl (fun hg => ?_) (fun hg => ?_)) <;> (rw [hg] at F; (try (exact no hg)))) | (refine pvF (h := ?_); intro nb) | refine pvK (h := ?_) | refine pvK0 (h := ?_) | (refine pv_nil ?_; intro a w F M; (try (replace F := F.filt [0, 1, 4, 5, 6, 7, 8, 9, 10, 11, 12, 20, 30, 39, 52, 57, 67, 79] rfl))) | ((fail_if_success (with_reducible first | refine isW ?_ | refine isP ?_ | refine isL ?_)); (first | with_reducible refine sx_region ?_ | ((with_reducible refine isK ?_); (first | refine svT F (h := ?_) | refine svF F (h := ?_) | ((refine svB F (fun hc => ?_) (fun hc => ?_)) <;> (try (exact no hc))))) | ((with_reducible refine isD ?_); fail) | with_reducible refine wp_scope_straight ?_ | with_reducible refine wp_label ?_ | go_step))))
      obtain ⟨b9, hb9⟩ : ∃ b9, b9 = nb := ⟨_, rfl⟩
      rw [← hb9] at F M
      refine svLoop F M ((0, oz x.toNat) : Nat × Opn) (fun z => [(12, .int .i64 z.1), (10, .int .i64 ((q + 1 + szL (ds.take z.1) : Nat) : Int))]) (fun z => [pt b9 (opL z.2) 24]) (fun z => z.1 ≤ ds.length ∧ rdL (ds.drop z.1) z.2 (bs.drop (q + 1 + szL (ds.take z.1))) = rdL ds (oz x.toNat) (bs.drop (q + 1)) ∧ q + 1 + szL (ds.take z.1) + szL (ds.drop z.1) ≤ bs.length) (fun z => ds.length - z.1) [] ⟨Nat.zero_le _, rfl, by simp only [List.take_zero, List.drop_zero, szL]; omega⟩ ?_ (hR := by (repeat (first | exact Pulls.nil | (apply Pulls.cons; (focus ((repeat (first | exact Pull.here | apply Pull.there)); done))))))
      (rintro ⟨j, p⟩ ⟨q1, q2, q3⟩ a w F M; (try simp only [List.cons_append, List.nil_append] at F M q1 q2 q3 ⊢))
      by_cases hj : j < ds.length
      · obtain ⟨d, hdj⟩ : ∃ d, ds[j]? = some d := ⟨ds[j], by simp [hj]⟩
        have hch : (ds.map Od.ch)[j]? = some d.ch := by rw [List.getElem?_map, hdj]; rfl
        have hst := szL_take hdj
        rw [drop_cons hdj, szL] at q3
        rw [rd_drop hdj, List.drop_drop] at q2
        generalize hA : q + 1 + szL (ds.take j) = A at *
        have hA2 : q + 1 + szL (ds.take (j + 1)) = A + d.size := by omega
        have gv := (gb.to (j := A + d.size) (by omega)).from (j := A) (by rw [List.length_take]; omega)
        have hvl : ((bs.take (A + d.size)).drop A) = (bs.drop A).take d.size := by rw [List.drop_take]; congr 1; omega
        rw [hvl] at gv
        have hlv : ((bs.drop A).take d.size).length ≤ 8 := by have := od_size d; rw [List.length_take]; omega
        have hval := fun R hg => rvalue_spec (fromH ⟨h.a, A + d.size, h.c⟩ A 1) ((bs.drop A).take d.size) hlv R hg
        have hvb : valB 0 ((bs.drop A).take d.size) < 256 ^ d.size := valB_le _ (by rw [List.length_take]; omega)
        have hc := gb.c
        have e5 : (A : Int) + (d.size : Int) = ((q + 1 + szL (ds.take (j + 1)) : Nat) : Int) := by omega
        have hAj : ((A + d.size : Nat) : Int) = (A : Int) + (d.size : Int) := by omega
        generalize valB 0 ((bs.drop A).take d.size) = X at *
        cases d
        all_goals simp only [Od.size] at *
        all_goals (repeat' (first | ((first | refine sv1 F M (h := ?_) (hr := by ((first | (apply rt_conv; (exact rfl); (exact rfl); (exact inferInstance); (exact inferInstance); (exact IntWalk.i64_in _ ⟨by omega, by omega⟩)) | (refine rt_lh (k := .i64) (k' := .i64) (h := h) (i := A) (j := A + 2) rfl rfl rfl ?_ inferInstance ?_ ?_; (rw [hAj]; exact rfl); omega; omega) | (refine rt_lh (k := .i64) (k' := .i64) (h := h) (i := A) (j := A + 8) rfl rfl rfl ?_ inferInstance ?_ ?_; (rw [hAj]; exact rfl); omega; omega)))) | refine pv1 (h := ?_) (hr := by ((first | (apply rt_conv; (exact rfl); (exact rfl); (exact inferInstance); (exact inferInstance); (exact IntWalk.i64_in _ ⟨by omega, by omega⟩)) | (refine rt_lh (k := .i64) (k' := .i64) (h := h) (i := A) (j := A + 2) rfl rfl rfl ?_ inferInstance ?_ ?_; (rw [hAj]; exact rfl); omega; omega) | (refine rt_lh (k := .i64) (k' := .i64) (h := h) (i := A) (j := A + 8) rfl rfl rfl ?_ inferInstance ?_ ?_; (rw [hAj]; exact rfl); omega; omega))))); (try (clear F a; intro a F))) | (refine sx_nil ?_; (try (replace F := F.filt [0, 1, 4, 5, 6, 7, 8, 9, 10, 11, 12, 20, 30, 39, 52, 57, 67, 79] rfl))) | (refine sv1 F M (h := ?_); clear F a; intro a F) | refine pv1 (h := ?_) | (refine sv3 F M (h := ?_); clear M; intro w M) | (refine sv2 F M (h := ?_); clear F M a; intro nb a w F M) | refine pv3 (h := ?_) | (refine pv2 (h := ?_); intro nb) | ((first | refine svC F M (h := ?_) | refine svC0 F M (h := ?_) | refine pvC (h := ?_) | refine pvC0 (h := ?_)); (((refine acW (k := 57) (hval _ ?_) ?_); (focus ((repeat (first | exact gv | apply BG.tail)); done)); rintro u L' ⟨rfl, rfl⟩)); (first | refine ⟨rvsA, ?_⟩ | (clear F M a; intro a w F M) | (clear M; intro w M))) | (refine svK F (h := ?_); clear F a; intro a F) | refine svK0 F (h := ?_) | ((refine sx_guardb F rfl (fun hg => ?_) (fun hg => ?_)) <;> (rw [hg] at F; (try (exact no hg)))) | (refine pvF (h := ?_); intro nb) | refine pvK (h := ?_) | refine pvK0 (h := ?_) | (refine pv_nil ?_; intro a w F M; (try (replace F := F.filt [0, 1, 4, 5, 6, 7, 8, 9, 10, 11, 12, 20, 30, 39, 52, 57, 67, 79] rfl))) | ((fail_if_success (with_reducible first | refine isW ?_ | refine isP ?_ | refine isL ?_)); (first | with_reducible refine sx_region ?_ | ((with_reducible refine isK ?_); (first | refine svT F (h := ?_) | refine svF F (h := ?_) | ((refine svB F (fun hc => ?_) (fun hc => ?_)) <;> (try (exact no hc))))) | ((with_reducible refine isD ?_); fail) | with_reducible refine wp_scope_straight ?_ | with_reducible refine wp_label ?_ | go_step))))
        all_goals (first | rw [show (A : Int) + 2 = _ from e5] at F | rw [show (A : Int) + 8 = _ from e5] at F)
        · exact sv_again F M ((j + 1, Od.set p X .i) : Nat × Opn) kpA permsA ⟨by simp only; omega, by simp only; rw [hA2]; exact q2, by simp only; omega⟩ (by simp only; omega)
        · exact sv_again F M ((j + 1, Od.set p X .t) : Nat × Opn) kpA permsA ⟨by simp only; omega, by simp only; rw [hA2]; exact q2, by simp only; omega⟩ (by simp only; omega)
        · exact sv_again F M ((j + 1, Od.set p X .a) : Nat × Opn) kpA permsA ⟨by simp only; omega, by simp only; rw [hA2]; exact q2, by simp only; omega⟩ (by simp only; omega)
      · obtain rfl : j = ds.length := by omega
        rw [List.drop_length] at q2
        have q2 : p = _ := q2
        subst q2
        rw [List.take_length] at F
        have e6 : ((q + 1 + szL ds : Nat) : Int) = ((q + (1 + szL ds) : Nat) : Int) := by omega
        rw [e6] at F
        (repeat' (first | ((first | refine sv1 F M (h := ?_) (hr := by (fail)) | refine pv1 (h := ?_) (hr := by (fail))); (try (clear F a; intro a F))) | (refine sx_nil ?_; (try (replace F := F.filt [0, 1, 4, 5, 6, 7, 8, 9, 10, 11, 12, 20, 30, 39, 52, 57, 67, 79] rfl))) | (refine sv1 F M (h := ?_); clear F a; intro a F) | refine pv1 (h := ?_) | (refine sv3 F M (h := ?_); clear M; intro w M) | (refine sv2 F M (h := ?_); clear F M a; intro nb a w F M) | refine pv3 (h := ?_) | (refine pv2 (h := ?_); intro nb) | ((first | refine svC F M (h := ?_) | refine svC0 F M (h := ?_) | refine pvC (h := ?_) | refine pvC0 (h := ?_)); (fail); (first | refine ⟨rvsA, ?_⟩ | (clear F M a; intro a w F M) | (clear M; intro w M))) | (refine svK F (h := ?_); clear F a; intro a F) | refine svK0 F (h := ?_) | ((refine sx_guardb F rfl (fun hg => ?_) (fun hg => ?_)) <;> (rw [hg] at F; (try (exact no hg)))) | (refine pvF (h := ?_); intro nb) | refine pvK (h := ?_) | refine pvK0 (h := ?_) | (refine pv_nil ?_; intro a w F M; (try (replace F := F.filt [0, 1, 4, 5, 6, 7, 8, 9, 10, 11, 12, 20, 30, 39, 52, 57, 67, 79] rfl))) | ((fail_if_success (with_reducible first | refine isW ?_ | refine isP ?_ | refine isL ?_)); (first | with_reducible refine sx_region ?_ | ((with_reducible refine isK ?_); (first | refine svT F (h := ?_) | refine svF F (h := ?_) | ((refine svB F (fun hc => ?_) (fun hc => ?_)) <;> (try (exact no hc))))) | ((with_reducible refine isD ?_); fail) | with_reducible refine wp_scope_straight ?_ | with_reducible refine wp_label ?_ | go_step))))
        all_goals (first | refine svEnd F M ?_ | refine svRet F M ?_)
        all_goals exact ⟨_, _, rfl, ⟨rfl, rfl⟩, M.perms permsA⟩
end Go.Proofs.YtaggjikjohamjaaDoor
end
section
namespace Go.Proofs.YtaggjikjohamjaaDoor
open Go.RowKit
set_option linter.unusedVariables false
set_option maxRecDepth 100000
set_option linter.unusedSimpArgs false
set_option maxHeartbeats 1000000
/-- An act with more calls deferred. -/
def sh (D : List Deferred) (a : Act) : Act := { a with defers := a.defers ++ D }
theorem sh_put (D : List Deferred) (a : Act) (d : Option Tmp) (v : Value) : (sh D a).put d v = sh D (a.put d v) := by cases d <;> rfl
section
variable {P : Program} {ops : Array Oper} {Q : Exit → Act → World → Prop} {D : List Deferred}
theorem upon_sh {o : Oper} {a : Act} {next : Act → World → Prop} {r : Result Next} (h : o.upon P a (fun a w => next (sh D a) w) (fun e a w => Q e (sh D a) w) r) : o.upon P (sh D a) next Q r := by
  cases r with
  | ok x w =>
    cases x <;> simp only [Oper.upon, sh_put] at h ⊢ <;> first | exact h | skip
    · exact h.mono fun e w' he => by cases e <;> first | exact he | (obtain ⟨a', w'', h'⟩ := he; exact ⟨_, _, h'⟩)
    · rename_i d
      have e : ({ sh D a with defers := d :: (sh D a).defers } : Act) = sh D { a with defers := d :: a.defers } := rfl
      rw [e, sh_put]; exact h
  | halt x w => cases x <;> simp only [Oper.upon] at h ⊢ <;> exact h
theorem wp_sh {o : Oper} {a : Act} {w : World} {next : Act → World → Prop} (h : o.wp P a w (fun a w => next (sh D a) w) (fun e a w => Q e (sh D a) w)) : o.wp P (sh D a) w next Q := upon_sh h
theorem outs_sh (h : LetsOut fun e a w => Q e (sh D a) w) : LetsOut Q := by obtain ⟨a, w, h⟩ := h; exact ⟨_, w, h⟩
theorem wpList_sh : ∀ (rest : List Oper) (a : Act) (w : World), wpList P ops (fun e a w => Q e (sh D a) w) rest a w → wpList P ops Q rest (sh D a) w
  | [], a, w, h => h
  | o :: rest, a, w, h => by
    simp only [wpList] at h ⊢
    have e : yielded ops (sh D a).tmps = yielded ops a.tmps := rfl
    rw [e]
    split at h
    · rename_i hw
      rw [if_pos hw]
      rcases h with h | ⟨h1, h2⟩
      · exact .inl (wp_sh (Oper.wp_mono (fun a w h => wpList_sh rest a w h) h))
      · exact .inr ⟨h1, outs_sh h2⟩
    · rename_i hw
      rw [if_neg hw, sh_put]
      exact wpList_sh rest _ w h
theorem regL_sh {id : Nat} {os : List Oper} {a : Act} {w : World} (h : wpList P os.toArray (fun e a w => Q e (sh D a) w) os a w) : (Code.region id os.toArray false).wp P Q (sh D a) w := wp_region_lit (wpList_sh os a w h)
end
section
variable {ops : Array Oper} {Q : Exit → Act → World → Prop} {D : List Deferred} {a : Act} {w : World} {n : Nat} {l : List (Nat × Value)} {L : List Asn}
end
end Go.Proofs.YtaggjikjohamjaaDoor
end
