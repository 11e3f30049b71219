/- Receipts: the line of a receipt. -/
import Derived.Test.YtffmcnaaaojgpaaDoorRcpE
import Derived.Test.YtffmcnaaaojgpaaDoorNames
namespace Go.Proofs.YtffmcnaaaojgpaaDoor
open Go.RowKit
set_option linter.unusedVariables false
set_option maxRecDepth 100000
set_option linter.unusedSimpArgs false
set_option maxHeartbeats 2000000
def I64 (m : Int) : Prop := -9223372036854775808 ≤ m ∧ m ≤ 9223372036854775807
theorem decimal_reads (m : Int) (h : I64 m) {L : List Asn} : Reads 49 [.int .i64 m] (str (Lib.itoa m)) L := by
  (intro K hK w M; refine sx_enter (vs := [.int .i64 m]) Tryd.func49 (n := 13) rfl rfl rfl rfl ?_; intro a F)
  have hm1 := h.1; have hm2 := h.2
  by_cases hn : m < 0
  · have e1 : IntKind.u64.wrap (-(IntKind.u64.wrap m)) = -m := by rw [IntKind.wrap_u64, IntKind.wrap_u64]; omega
    have hl : (Lib.decDigits (-m).toNat).length ≤ 20 := dec_len _ (by omega)
    rw [itoa_neg m hn]
    have H : ∀ L, Reads 50 [.int .u64 (IntKind.u64.wrap (-(IntKind.u64.wrap m)))] (str (Lib.decDigits (-m).toNat)) L := fun L => by rw [e1]; exact rfmt_int (-m) (by omega) (by omega)
    (repeat' (first | (first | (refine sx_nil ?_; (try (replace F := F.filt [0, 2, 4] rfl))) | (refine sv1 F M (h := ?_) (hr := by fail); clear F a; intro a F) | (refine sv1 F M (h := ?_); clear F a; intro a F) | (refine sv3 F M (h := ?_); clear M; intro w M) | (refine sv2 F M (h := ?_); clear F M a; intro b a w F M) | (refine svC F M (h := ?_); ((refine acCall (k := 50) ?_); (refine Spec.of_reads (H _) rfl ?_)); (clear F M a; intro a w F M)) | (refine svC0 F M (h := ?_); ((refine acCall (k := 50) ?_); (refine Spec.of_reads (H _) rfl ?_)); (clear M; intro w M)) | (refine sv1 F M (h := ?_) (hr := by (first | (apply rt_conv; (exact rfl); (exact rfl); (exact inferInstance); (exact inferInstance); (exact rfl)))); clear F a; intro a F) | (refine svK F (h := ?_); clear F a; intro a F) | (refine svK0 F (h := ?_)) | ((refine sx_guardb F rfl (fun hg => ?_) (fun hg => ?_)) <;> (rw [hg] at F; (try (exact no hg))))) | (first | (refine pv1 (h := ?_) (hr := by fail)) | (refine pv1 (h := ?_)) | (refine pv3 (h := ?_)) | (refine pv2 (h := ?_); intro b) | (refine pvC (h := ?_); ((refine acCall (k := 50) ?_); (refine Spec.of_reads (H _) rfl ?_)); (refine ⟨?_, ?_⟩; (exact rvsA))) | (refine pvC0 (h := ?_); ((refine acCall (k := 50) ?_); (refine Spec.of_reads (H _) rfl ?_)); (refine ⟨?_, ?_⟩; (exact rvsA))) | (refine pv1 (h := ?_) (hr := by (first | (apply rt_conv; (exact rfl); (exact rfl); (exact inferInstance); (exact inferInstance); (exact rfl))))) | (refine pvF (h := ?_); intro b) | (refine pvK (h := ?_)) | (refine pvK0 (h := ?_)) | (refine pv_nil ?_; intro a w F M; refine ql_open ?_) | (refine pv_nil ?_; intro a w F M; (try (replace F := F.filt [0, 2, 4] rfl)))) | ((fail_if_success (with_reducible show wpList _ _ _ _ _ _)); (fail_if_success (with_reducible show PW _ _ _ _ _ _ _ _ _ _)); (fail_if_success (with_reducible show Code.wp _ (Code.loop _) _ _ _)); (first | ((with_reducible show Code.wp _ (Code.region _ _ false) _ _ _); (refine sx_region ?_)) | ((with_reducible show Code.wp _ (Code.cond _ _ _) _ _ _); (first | (refine svT F (h := ?_)) | (refine svF F (h := ?_)) | ((refine svB F (fun hc => ?_) (fun hc => ?_)) <;> (try (exact no hc))))) | ((with_reducible show Code.wp _ (Code.region _ _ true) _ _ _); fail) | go_step))))
    (all_goals ((first | (refine svEnd F M ?_) | (refine svRet F M ?_)); refine ⟨?_, M.perms permsA⟩))
    rfl
  · have e1 : IntKind.u64.wrap m = m := by rw [IntKind.wrap_u64]; omega
    rw [itoa_nat m (by omega)]
    (repeat' (first | (first | (refine sx_nil ?_; (try (replace F := F.filt [0, 2, 4] rfl))) | (refine sv1 F M (h := ?_) (hr := by fail); clear F a; intro a F) | (refine sv1 F M (h := ?_); clear F a; intro a F) | (refine sv3 F M (h := ?_); clear M; intro w M) | (refine sv2 F M (h := ?_); clear F M a; intro b a w F M) | (refine svC F M (h := ?_); ((refine acCall (k := 50) ?_); (refine Spec.of_reads (rfmt_int m (by omega) (by omega)) rfl ?_)); (clear F M a; intro a w F M)) | (refine svC0 F M (h := ?_); ((refine acCall (k := 50) ?_); (refine Spec.of_reads (rfmt_int m (by omega) (by omega)) rfl ?_)); (clear M; intro w M)) | (refine sv1 F M (h := ?_) (hr := by (apply rt_conv; (exact rfl); (exact rfl); (exact inferInstance); (exact inferInstance); (exact e1))); clear F a; intro a F) | (refine svK F (h := ?_); clear F a; intro a F) | (refine svK0 F (h := ?_)) | ((refine sx_guardb F rfl (fun hg => ?_) (fun hg => ?_)) <;> (rw [hg] at F; (try (exact no hg))))) | (first | (refine pv1 (h := ?_) (hr := by fail)) | (refine pv1 (h := ?_)) | (refine pv3 (h := ?_)) | (refine pv2 (h := ?_); intro b) | (refine pvC (h := ?_); ((refine acCall (k := 50) ?_); (refine Spec.of_reads (rfmt_int m (by omega) (by omega)) rfl ?_)); (refine ⟨?_, ?_⟩; (exact rvsA))) | (refine pvC0 (h := ?_); ((refine acCall (k := 50) ?_); (refine Spec.of_reads (rfmt_int m (by omega) (by omega)) rfl ?_)); (refine ⟨?_, ?_⟩; (exact rvsA))) | (refine pv1 (h := ?_) (hr := by (apply rt_conv; (exact rfl); (exact rfl); (exact inferInstance); (exact inferInstance); (exact e1)))) | (refine pvF (h := ?_); intro b) | (refine pvK (h := ?_)) | (refine pvK0 (h := ?_)) | (refine pv_nil ?_; intro a w F M; refine ql_open ?_) | (refine pv_nil ?_; intro a w F M; (try (replace F := F.filt [0, 2, 4] rfl)))) | ((fail_if_success (with_reducible show wpList _ _ _ _ _ _)); (fail_if_success (with_reducible show PW _ _ _ _ _ _ _ _ _ _)); (fail_if_success (with_reducible show Code.wp _ (Code.loop _) _ _ _)); (first | ((with_reducible show Code.wp _ (Code.region _ _ false) _ _ _); (refine sx_region ?_)) | ((with_reducible show Code.wp _ (Code.cond _ _ _) _ _ _); (first | (refine svT F (h := ?_)) | (refine svF F (h := ?_)) | ((refine svB F (fun hc => ?_) (fun hc => ?_)) <;> (try (exact no hc))))) | ((with_reducible show Code.wp _ (Code.region _ _ true) _ _ _); fail) | go_step))))
    (all_goals ((first | (refine svEnd F M ?_) | (refine svRet F M ?_)); refine ⟨?_, M.perms permsA⟩))
    rfl
/-- A part of the line: a word and a number. -/
theorem put_spec (b : Nat) (p : Option Addr) (hp : p = none ∨ p = some ⟨b, 0, none⟩) (v : Value) (s r : List UInt8) (m : Int) (hm : I64 m) (hb : s.length + r.length ≤ 1000000) (L : List Asn) (hT : Gives L Tens) :
    Spec 41 [str r, .int .i64 m, ptr b] (pt b [.pointer p, v] 71 :: ownT 5 u8L 1 v s :: L) fun u L' => u = .tuple #[] ∧ ∃ v', L' = pt b [ptr b, sl v'] 71 :: ownT 5 u8L 1 (sl v') (s ++ r ++ Lib.itoa m) :: L := by
  (intro G w M; refine sx_enter (vs := [str r, .int .i64 m, ptr b]) Tryd.func41 (n := 10) rfl rfl rfl rfl ?_; intro a F; (try simp only [List.cons_append, List.nil_append] at M))
  have hl := Lib.itoa_length_le m hm.1 hm.2
  (repeat' (first | (first | (refine sx_nil ?_; (try (replace F := F.filt [0, 1, 2] rfl))) | (refine sv1 F M (h := ?_) (hr := by fail); clear F a; intro a F) | (refine sv1 F M (h := ?_); clear F a; intro a F) | (refine sv3 F M (h := ?_); clear M; intro w M) | (refine sv2 F M (h := ?_); clear F M a; intro b a w F M) | (refine svC F M (h := ?_); (first | ((refine acCall (k := 42) ?_); (first | (refine Spec.mono (writeString_spec b p hp v s r (by omega) _) ?_) | (refine Spec.mono (writeString_spec b _ (.inr rfl) _ (s ++ r) (Lib.itoa m) (by simp; omega) _) ?_)); (rintro u L' ⟨rfl, v', rfl⟩)) | ((refine acCall (k := 43) ?_); (refine Spec.of_below_g (itoa_any m hm.1 hm.2) gvA rfl ?_))); (clear F M a; intro a w F M)) | (refine svC0 F M (h := ?_); (first | ((refine acCall (k := 42) ?_); (first | (refine Spec.mono (writeString_spec b p hp v s r (by omega) _) ?_) | (refine Spec.mono (writeString_spec b _ (.inr rfl) _ (s ++ r) (Lib.itoa m) (by simp; omega) _) ?_)); (rintro u L' ⟨rfl, v', rfl⟩)) | ((refine acCall (k := 43) ?_); (refine Spec.of_below_g (itoa_any m hm.1 hm.2) gvA rfl ?_))); (clear M; intro w M)) | (refine sv1 F M (h := ?_) (hr := by fail); clear F a; intro a F) | (refine svK F (h := ?_); clear F a; intro a F) | (refine svK0 F (h := ?_)) | ((refine sx_guardb F rfl (fun hg => ?_) (fun hg => ?_)) <;> (rw [hg] at F; (try (exact no hg))))) | (first | (refine pv1 (h := ?_) (hr := by fail)) | (refine pv1 (h := ?_)) | (refine pv3 (h := ?_)) | (refine pv2 (h := ?_); intro b) | (refine pvC (h := ?_); (first | ((refine acCall (k := 42) ?_); (first | (refine Spec.mono (writeString_spec b p hp v s r (by omega) _) ?_) | (refine Spec.mono (writeString_spec b _ (.inr rfl) _ (s ++ r) (Lib.itoa m) (by simp; omega) _) ?_)); (rintro u L' ⟨rfl, v', rfl⟩)) | ((refine acCall (k := 43) ?_); (refine Spec.of_below_g (itoa_any m hm.1 hm.2) gvA rfl ?_))); (refine ⟨?_, ?_⟩; (exact rvsA))) | (refine pvC0 (h := ?_); (first | ((refine acCall (k := 42) ?_); (first | (refine Spec.mono (writeString_spec b p hp v s r (by omega) _) ?_) | (refine Spec.mono (writeString_spec b _ (.inr rfl) _ (s ++ r) (Lib.itoa m) (by simp; omega) _) ?_)); (rintro u L' ⟨rfl, v', rfl⟩)) | ((refine acCall (k := 43) ?_); (refine Spec.of_below_g (itoa_any m hm.1 hm.2) gvA rfl ?_))); (refine ⟨?_, ?_⟩; (exact rvsA))) | (refine pv1 (h := ?_) (hr := by fail)) | (refine pvF (h := ?_); intro b) | (refine pvK (h := ?_)) | (refine pvK0 (h := ?_)) | (refine pv_nil ?_; intro a w F M; refine ql_open ?_) | (refine pv_nil ?_; intro a w F M; (try (replace F := F.filt [0, 1, 2] rfl)))) | ((fail_if_success (with_reducible show wpList _ _ _ _ _ _)); (fail_if_success (with_reducible show PW _ _ _ _ _ _ _ _ _ _)); (fail_if_success (with_reducible show Code.wp _ (Code.loop _) _ _ _)); (first | ((with_reducible show Code.wp _ (Code.region _ _ false) _ _ _); (refine sx_region ?_)) | ((with_reducible show Code.wp _ (Code.cond _ _ _) _ _ _); (first | (refine svT F (h := ?_)) | (refine svF F (h := ?_)) | ((refine svB F (fun hc => ?_) (fun hc => ?_)) <;> (try (exact no hc))))) | ((with_reducible show Code.wp _ (Code.region _ _ true) _ _ _); fail) | go_step))))
  (first | (refine svEnd F M ?_) | (refine svRet F M ?_))
  exact ⟨_, _, rfl, ⟨rfl, v', rfl⟩, M⟩
def fmtA (x : Asg) : List UInt8 := [32] ++ Lib.itoa x.ix ++ ((if x.cl = 0 then [102] else [118]) ++ [64] ++ Lib.itoa x.ep)
def fmtP (x : Pm) : List UInt8 := [32] ++ Lib.itoa x.ix ++ ([43] ++ Lib.decDigits x.am.toNat) ++ (if x.fl then [33] else [])
def malf : List UInt8 := [109, 97, 108, 102, 111, 114, 109, 101, 100]
def nameM (k : Int) : List UInt8 := if nameOf k = [] then malf else nameOf k
/-- The line of a receipt. -/
def fmtR (r : Rc) : List UInt8 :=
  if r.c ≠ 0 then nameM r.k ++ [32, 101, 114, 114, 111, 114, 32] ++ Lib.itoa r.c
  else if r.k ≠ 7 then (if r.dl ≠ -1 then nameM r.k ++ [32, 111, 107, 32] ++ Lib.itoa r.ix ++ [32, 98, 121, 32] ++ Lib.itoa r.dl else nameM r.k ++ [32, 111, 107, 32] ++ Lib.itoa r.ix)
  else nameM r.k ++ [32, 98, 108, 111, 99, 107, 32] ++ Lib.itoa r.bk ++ [32, 101, 112, 111, 99, 104, 32] ++ Lib.itoa r.ep ++ [32, 118, 105, 115, 105, 116, 115, 32] ++ Lib.itoa r.vi ++ r.asg.flatMap fmtA ++ r.pms.flatMap fmtP
structure Rc.wf (x : Rc) : Prop where
  k : I64 x.k
  c : I64 x.c
  ix : I64 x.ix
  bk : I64 x.bk
  ep : I64 x.ep
  dl : I64 x.dl
  vi : I64 x.vi
  asg : ∀ y ∈ x.asg, I64 y.ix ∧ I64 y.cl ∧ I64 y.ep
  pms : ∀ y ∈ x.pms, I64 y.ix ∧ U64 y.am
theorem fmtA_len {x : Asg} (h : I64 x.ix ∧ I64 x.cl ∧ I64 x.ep) : (fmtA x).length ≤ 50 := by
  have h1 := Lib.itoa_length_le _ h.1.1 h.1.2
  have h2 := Lib.itoa_length_le _ h.2.2.1 h.2.2.2
  unfold fmtA
  split <;> (simp; omega)
theorem fmtP_len {x : Pm} (h : I64 x.ix ∧ U64 x.am) : (fmtP x).length ≤ 50 := by
  have h1 := Lib.itoa_length_le _ h.1.1 h.1.2
  have h2 := dec_len x.am.toNat (by have := h.2.2; have := h.2.1; omega)
  unfold fmtP
  split <;> (simp; omega)
theorem flat_len_le {α : Type} {f : α → List UInt8} {m : Nat} : ∀ (l : List α), (∀ x ∈ l, (f x).length ≤ m) → (l.flatMap f).length ≤ m * l.length
  | [], _ => by simp
  | x :: r, h => by
    have h1 := h x (by simp)
    have h2 := flat_len_le r fun y hy => h y (by simp [hy])
    rw [List.flatMap_cons, List.length_append, List.length_cons, Nat.mul_succ]
    omega
theorem take_flat {α : Type} {f : α → List UInt8} {l : List α} {j : Nat} {y : α} (h : l[j]? = some y) : (l.take (j + 1)).flatMap f = (l.take j).flatMap f ++ f y := by
  rw [List.take_add_one, h]; simp
theorem nameM_ne (k : Int) : nameM k ≠ [] ∧ (nameM k).length ≤ 11 := by
  unfold nameM
  split
  · exact ⟨by decide, by decide⟩
  · rename_i h
    refine ⟨h, ?_⟩
    by_cases hk : 1 ≤ k ∧ k ≤ 7
    · exact (names7_at hk.1 hk.2).2.1
    · rw [nameOf, if_pos (by omega)]; simp
end Go.Proofs.YtffmcnaaaojgpaaDoor
