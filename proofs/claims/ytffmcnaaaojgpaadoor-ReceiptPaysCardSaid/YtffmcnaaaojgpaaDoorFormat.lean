/- Numbers as decimal strings: internal/strconv.FormatUint, strconv.FormatUint, gwei.Format. -/
import Derived.Test.YtffmcnaaaojgpaaDoorTaw
import Derived.Test.YtffmcnaaaojgpaaDoorSa
import Derived.Test.YtffmcnaaaojgpaaDoorShelf
import Derived.Lib.ItoaMem
namespace Go.Proofs.YtffmcnaaaojgpaaDoor
open Go.RowKit
set_option linter.unusedVariables false
set_option maxRecDepth 100000
set_option linter.unusedSimpArgs false
set_option maxHeartbeats 2000000
/-- The table of powers of ten is as the program's text lays it. -/
def Tens (w : World) : Prop := Lib.TabIs Tryd.prog w "internal/strconv.uint64pow10" .u64 Lib.pow10Tab
theorem tens_glob : ∃ g, Tryd.prog.globalNamed "internal/strconv.uint64pow10" = some g ∧ g = 1 := ⟨_, by kernel_rfl, rfl⟩
theorem Tens.below {w w' : World} (h : Tens w) (hb : Below w.heap.size w w') : Tens w' := by
  obtain ⟨g, hg, _⟩ := tens_glob
  unfold Tens Lib.TabIs World.var? at *
  rw [hg] at h ⊢
  simp only [Option.bind_some] at h ⊢
  have hlt : g < w.heap.size := by
    rcases Nat.lt_or_ge g w.heap.size with h1 | h1
    · exact h1
    · have : w.heap[g]? = none := Array.getElem?_eq_none h1
      rw [this] at h; simp at h
  rw [hb.block g hlt]; exact h
theorem Old.tens {w0 : World} (h : Tens w0) {L L' : List Asn} (hp : Pull L (Old w0) L') : Gives L Tens := fun w M => h.below (M.below hp)
theorem dec_len (u : Nat) (h : u < 18446744073709551616) : (Lib.decDigits u).length ≤ 20 := by
  rw [Lib.decDigits_length]
  rcases Nat.eq_zero_or_pos u with h0 | h0
  · subst h0; decide +kernel
  · have := Lib.numDigits_eq u h0 h; split at this <;> omega
def zs24 : List Value := [.int .u8 0, .int .u8 0, .int .u8 0, .int .u8 0, .int .u8 0, .int .u8 0, .int .u8 0, .int .u8 0, .int .u8 0, .int .u8 0, .int .u8 0, .int .u8 0, .int .u8 0, .int .u8 0, .int .u8 0, .int .u8 0, .int .u8 0, .int .u8 0, .int .u8 0, .int .u8 0, .int .u8 0, .int .u8 0, .int .u8 0, .int .u8 0]
theorem zs24_at : ∀ j, j < 24 → zs24[j]? = some (.int .u8 0) := fun j hj => by
  have e : zs24 = List.replicate 24 (.int .u8 0) := rfl
  rw [e, List.getElem?_replicate, if_pos hj]
theorem fmt10_spec (u : Nat) (hu : u < 18446744073709551616) (b : Nat) (t : TypeId) (L : List Asn) :
    Spec 109 [.slice (some ⟨b, 0, none⟩) (Lib.nDigits u) 24, .int .u64 u] (pt b zs24 t :: L)
      fun v L' => v = .tuple #[] ∧ ∃ cs, L' = pt b cs t :: L ∧ ∀ j (h : j < (Lib.decDigits u).length), cs[j]? = some (.int .u8 ((Lib.decDigits u)[j].toNat : Int)) := fun G w M => by
  have hb : w.heap[b]? = some (.cells zs24.toArray t (0, 0)) := Mem.pt M Pull.here
  have hnd : Lib.nDigits u ≤ 20 := by have := dec_len u hu; rwa [Lib.decDigits_length] at this
  have hH : Sort.Holds (fun (b : UInt8) => Value.int .u8 (b.toNat : Int)) w b 0 (Array.replicate (Lib.nDigits u) (0 : UInt8)) := fun j hj => by
    have hj' : j < Lib.nDigits u := by simpa using hj
    have hj2 : j < 24 := by omega
    refine ⟨?_, by simp [World.frozen?, hb]⟩
    rw [getElem!_pos _ j hj]
    simp [World.cell?, hb, zs24_at j hj2]
  have h := Tryd.internal_strconv_formatBase10 b 0 24 u (Array.replicate (Lib.nDigits u) (0 : UInt8)) w hH (by rw [Array.size_replicate]; exact Lib.lt_pow_nDigits u) hu (by rw [Array.size_replicate]; omega)
  rw [Array.size_replicate] at h
  refine Calls.mono h fun e w' ⟨he, k, v', dk, hw, hF⟩ => ?_
  subst hw
  refine ⟨_, _, he, ⟨rfl, ((Sort.putCells (fun (b : UInt8) => Value.int .u8 (b.toNat : Int)) 0 dk zs24.toArray).toList), rfl, fun j hj => ?_⟩, ?_⟩
  · have hj2 : j < Lib.nDigits u := by rw [Lib.decDigits_length] at hj; exact hj
    have hj3 : j < 24 := by omega
    rw [Lib.row_is_numeral hF j hj]
    have hs : dk.size = Lib.nDigits u := hF.size
    have hz' := zs24_at j hj3
    obtain ⟨hjl, hjv⟩ := List.getElem?_eq_some_iff.1 hz'
    simp [Sort.putCells, hjl, hs, hj2]
  · have M' : Mem ((Sort.putRow (fun (b : UInt8) => Value.int .u8 (b.toNat : Int)) w b 0 dk)) (pt b (Sort.putCells (fun (b : UInt8) => Value.int .u8 (b.toNat : Int)) 0 dk zs24.toArray).toList t :: (L ++ G)) := by
      refine Mem.change M fun s hs => ?_
      obtain ⟨rfl, _⟩ := hs.now
      refine ⟨⟨rfl, rfl, rfl, by simp [Sort.putRow, Sort.mapBlock], fun k _ hk => ?_⟩, [b], ok_pt ?_, fun x hx => .inl hx⟩
      · have : b ≠ k := fun e => hk (by simp [e])
        simp [Sort.putRow, Sort.mapBlock, Array.getElem?_modify, this]
      · simp [Sort.putRow, Sort.mapBlock, Array.getElem?_modify, hb, Sort.onCells]
    exact M'.same ⟨rfl, rfl, rfl, Nat.le_refl _, fun _ _ _ => rfl⟩
theorem gives_bytes {b : Nat} {cs : List Value} {t : TypeId} {L L' : List Asn} {r : List UInt8} (h : ∀ j (hj : j < r.length), cs[j]? = some (.int .u8 (r[j].toNat : Int))) (hp : Pull L (pt b cs t) L') : Gives L fun w => ∀ j (hj : j < r.length), w.cell? ⟨b, 0 + j, none⟩ = some (.int .u8 (r[j].toNat : Int)) := fun w M j hj => by
  rw [Nat.zero_add]
  have := M.pt hp
  simp [World.cell?, this, h j hj]
theorem ifmt_any (u : Nat) (hu : u < 18446744073709551616) (w0 : World) (ht : Tens w0) :
    Calls Tryd.prog 93 [.int .u64 u, .int .i64 10].toArray w0 fun e w' => e = .returned (str (Lib.decDigits u)) ∧ Below w0.heap.size w0 w' := by
  refine sx_enter Tryd.func93 (n := 32) rfl rfl rfl rfl ?_
  (intro a F; refine sv_start ?_; intro w M)
  by_cases hs : u < 100
  · have HS : ∀ w, Calls Tryd.prog 107 [.int .i64 u].toArray w fun e w' => e = .returned (str (Lib.decDigits u)) ∧ w = w' := fun w => (Tryd.internal_strconv_small u hs w).mono fun e w' ⟨h1, h2⟩ => ⟨h1, h2.symm⟩
    (repeat' (first | (first | (refine sx_nil ?_; (try (replace F := F.filt [0, 1, 4, 5, 6, 8, 10, 12] rfl))) | (refine sv1 F M (h := ?_) (hr := by fail); clear F a; intro a F) | (refine sv1 F M (h := ?_); clear F a; intro a F) | (refine sv3 F M (h := ?_); clear M; intro w M) | (refine sv2 F M (h := ?_); clear F M a; intro b a w F M) | (refine svC F M (h := ?_); ((refine acCall (k := 107) ?_); refine Spec.of_quiet HS ?_); (clear F M a; intro a w F M)) | (refine svC0 F M (h := ?_); ((refine acCall (k := 107) ?_); refine Spec.of_quiet HS ?_); (clear M; intro w M)) | (refine sv1 F M (h := ?_) (hr := by fail); clear F a; intro a F) | (refine svK F (h := ?_); clear F a; intro a F) | (refine svK0 F (h := ?_)) | ((refine sx_guardb F rfl (fun hg => ?_) (fun hg => ?_)) <;> (rw [hg] at F; (try (exact no hg))))) | (first | (refine pv1 (h := ?_) (hr := by fail)) | (refine pv1 (h := ?_)) | (refine pv3 (h := ?_)) | (refine pv2 (h := ?_); intro b) | (refine pvC (h := ?_); ((refine acCall (k := 107) ?_); refine Spec.of_quiet HS ?_); (refine ⟨?_, ?_⟩; (exact rvsA))) | (refine pvC0 (h := ?_); ((refine acCall (k := 107) ?_); refine Spec.of_quiet HS ?_); (refine ⟨?_, ?_⟩; (exact rvsA))) | (refine pv1 (h := ?_) (hr := by fail)) | (refine pvF (h := ?_); intro b) | (refine pvK (h := ?_)) | (refine pvK0 (h := ?_)) | (refine pv_nil ?_; intro a w F M; refine ql_open ?_) | (refine pv_nil ?_; intro a w F M; (try (replace F := F.filt [0, 1, 4, 5, 6, 8, 10, 12] rfl)))) | ((fail_if_success (with_reducible show wpList _ _ _ _ _ _)); (fail_if_success (with_reducible show PW _ _ _ _ _ _ _ _ _ _)); (fail_if_success (with_reducible show Code.wp _ (Code.loop _) _ _ _)); (first | ((with_reducible show Code.wp _ (Code.region _ _ false) _ _ _); (refine sx_region ?_)) | ((with_reducible show Code.wp _ (Code.cond _ _ _) _ _ _); (first | (refine svT F (h := ?_)) | (refine svF F (h := ?_)) | ((refine svB F (fun hc => ?_) (fun hc => ?_)) <;> (try (exact no hc))))) | ((with_reducible show Code.wp _ (Code.region _ _ true) _ _ _); fail) | go_step))))
    (all_goals ((first | (refine svEnd F M ?_) | (refine svRet F M ?_)); refine ⟨?_, M.below (by (focus ((repeat (first | exact Pull.here | apply Pull.there)); done)))⟩))
    all_goals rfl
  · have hnd : Lib.nDigits u ≤ 20 := by have := dec_len u hu; rwa [Lib.decDigits_length] at this
    have HN : ∀ w, Tens w → Calls Tryd.prog 108 [.int .u64 u].toArray w fun e w' => e = .returned (.int .i64 (Lib.nDigits u)) ∧ w = w' := fun w ht => (Tryd.internal_strconv_numDigits u (by omega) hu w ht).mono fun e w' ⟨h1, h2⟩ => ⟨h1, h2.symm⟩
    have hsu : ¬ ((u : Int) < 100) := by omega
    (repeat' (first | (first | (refine sx_nil ?_; (try (replace F := F.filt [0, 1, 4, 5, 6, 8, 10, 12] rfl))) | (refine sv1 F M (h := ?_) (hr := by fail); clear F a; intro a F) | (refine sv1 F M (h := ?_); clear F a; intro a F) | (refine sv3 F M (h := ?_); clear M; intro w M) | (refine sv2 F M (h := ?_); clear F M a; intro b a w F M) | (refine svC F M (h := ?_); ((first | ((refine acCall (k := 108) ?_); (refine Spec.of_quiet_g HN (Old.tens ht (by (focus ((repeat (first | exact Pull.here | apply Pull.there)); done)))) rfl ?_)) | ((refine acCall (k := 109) ?_); (refine Spec.of_eq (Spec.mono (Spec.pre (fmt10_spec u hu b _ _) permsA) ?_) rfl); (rintro v L' ⟨rfl, cs, rfl, hcs⟩)))); (clear F M a; intro a w F M)) | (refine svC0 F M (h := ?_); ((first | ((refine acCall (k := 108) ?_); (refine Spec.of_quiet_g HN (Old.tens ht (by (focus ((repeat (first | exact Pull.here | apply Pull.there)); done)))) rfl ?_)) | ((refine acCall (k := 109) ?_); (refine Spec.of_eq (Spec.mono (Spec.pre (fmt10_spec u hu b _ _) permsA) ?_) rfl); (rintro v L' ⟨rfl, cs, rfl, hcs⟩)))); (clear M; intro w M)) | (refine sv1 F M (h := ?_) (hr := by (apply rt_string; (exact rfl); (exact rfl); (exact inferInstance); (exact inferInstance); (exact inferInstance); (exact (Lib.decDigits_length u).symm); (exact gives_bytes hcs (by (focus ((repeat (first | exact Pull.here | apply Pull.there)); done)))))); clear F a; intro a F) | (refine svK F (h := ?_); clear F a; intro a F) | (refine svK0 F (h := ?_)) | ((refine sx_guardb F rfl (fun hg => ?_) (fun hg => ?_)) <;> (rw [hg] at F; (try (exact no hg))))) | (first | (refine pv1 (h := ?_) (hr := by fail)) | (refine pv1 (h := ?_)) | (refine pv3 (h := ?_)) | (refine pv2 (h := ?_); intro b) | (refine pvC (h := ?_); ((first | ((refine acCall (k := 108) ?_); (refine Spec.of_quiet_g HN (Old.tens ht (by (focus ((repeat (first | exact Pull.here | apply Pull.there)); done)))) rfl ?_)) | ((refine acCall (k := 109) ?_); (refine Spec.of_eq (Spec.mono (Spec.pre (fmt10_spec u hu b _ _) permsA) ?_) rfl); (rintro v L' ⟨rfl, cs, rfl, hcs⟩)))); (refine ⟨?_, ?_⟩; (exact rvsA))) | (refine pvC0 (h := ?_); ((first | ((refine acCall (k := 108) ?_); (refine Spec.of_quiet_g HN (Old.tens ht (by (focus ((repeat (first | exact Pull.here | apply Pull.there)); done)))) rfl ?_)) | ((refine acCall (k := 109) ?_); (refine Spec.of_eq (Spec.mono (Spec.pre (fmt10_spec u hu b _ _) permsA) ?_) rfl); (rintro v L' ⟨rfl, cs, rfl, hcs⟩)))); (refine ⟨?_, ?_⟩; (exact rvsA))) | (refine pv1 (h := ?_) (hr := by (apply rt_string; (exact rfl); (exact rfl); (exact inferInstance); (exact inferInstance); (exact inferInstance); (exact (Lib.decDigits_length u).symm); (exact gives_bytes hcs (by (focus ((repeat (first | exact Pull.here | apply Pull.there)); done))))))) | (refine pvF (h := ?_); intro b) | (refine pvK (h := ?_)) | (refine pvK0 (h := ?_)) | (refine pv_nil ?_; intro a w F M; refine ql_open ?_) | (refine pv_nil ?_; intro a w F M; (try (replace F := F.filt [0, 1, 4, 5, 6, 8, 10, 12] rfl)))) | ((fail_if_success (with_reducible show wpList _ _ _ _ _ _)); (fail_if_success (with_reducible show PW _ _ _ _ _ _ _ _ _ _)); (fail_if_success (with_reducible show Code.wp _ (Code.loop _) _ _ _)); (first | ((with_reducible show Code.wp _ (Code.region _ _ false) _ _ _); (refine sx_region ?_)) | ((with_reducible show Code.wp _ (Code.cond _ _ _) _ _ _); (first | (refine svT F (h := ?_)) | (refine svF F (h := ?_)) | ((refine svB F (fun hc => ?_) (fun hc => ?_)) <;> (try (exact no hc))))) | ((with_reducible show Code.wp _ (Code.region _ _ true) _ _ _); fail) | go_step))))
    (all_goals ((first | (refine svEnd F M ?_) | (refine svRet F M ?_)); refine ⟨?_, M.below (by (focus ((repeat (first | exact Pull.here | apply Pull.there)); done)))⟩))
    all_goals rfl
theorem fmtUint_any (u : Nat) (hu : u < 18446744073709551616) (w0 : World) (ht : Tens w0) :
    Calls Tryd.prog 77 [.int .u64 u, .int .i64 10].toArray w0 fun e w' => e = .returned (str (Lib.decDigits u)) ∧ Below w0.heap.size w0 w' := by
  refine sx_enter Tryd.func77 (n := 8) rfl rfl rfl rfl ?_
  (intro a F; refine sv_start ?_; intro w M)
  (repeat' (first | (first | (refine sx_nil ?_; (try (replace F := F.filt [0, 1, 4] rfl))) | (refine sv1 F M (h := ?_) (hr := by fail); clear F a; intro a F) | (refine sv1 F M (h := ?_); clear F a; intro a F) | (refine sv3 F M (h := ?_); clear M; intro w M) | (refine sv2 F M (h := ?_); clear F M a; intro b a w F M) | (refine svC F M (h := ?_); (((refine acCall (k := 93) ?_); (refine Spec.of_below_g (ifmt_any u hu) (Old.tens ht (by (focus ((repeat (first | exact Pull.here | apply Pull.there)); done)))) rfl ?_))); (clear F M a; intro a w F M)) | (refine svC0 F M (h := ?_); (((refine acCall (k := 93) ?_); (refine Spec.of_below_g (ifmt_any u hu) (Old.tens ht (by (focus ((repeat (first | exact Pull.here | apply Pull.there)); done)))) rfl ?_))); (clear M; intro w M)) | (refine sv1 F M (h := ?_) (hr := by fail); clear F a; intro a F) | (refine svK F (h := ?_); clear F a; intro a F) | (refine svK0 F (h := ?_)) | ((refine sx_guardb F rfl (fun hg => ?_) (fun hg => ?_)) <;> (rw [hg] at F; (try (exact no hg))))) | (first | (refine pv1 (h := ?_) (hr := by fail)) | (refine pv1 (h := ?_)) | (refine pv3 (h := ?_)) | (refine pv2 (h := ?_); intro b) | (refine pvC (h := ?_); (((refine acCall (k := 93) ?_); (refine Spec.of_below_g (ifmt_any u hu) (Old.tens ht (by (focus ((repeat (first | exact Pull.here | apply Pull.there)); done)))) rfl ?_))); (refine ⟨?_, ?_⟩; (exact rvsA))) | (refine pvC0 (h := ?_); (((refine acCall (k := 93) ?_); (refine Spec.of_below_g (ifmt_any u hu) (Old.tens ht (by (focus ((repeat (first | exact Pull.here | apply Pull.there)); done)))) rfl ?_))); (refine ⟨?_, ?_⟩; (exact rvsA))) | (refine pv1 (h := ?_) (hr := by fail)) | (refine pvF (h := ?_); intro b) | (refine pvK (h := ?_)) | (refine pvK0 (h := ?_)) | (refine pv_nil ?_; intro a w F M; refine ql_open ?_) | (refine pv_nil ?_; intro a w F M; (try (replace F := F.filt [0, 1, 4] rfl)))) | ((fail_if_success (with_reducible show wpList _ _ _ _ _ _)); (fail_if_success (with_reducible show PW _ _ _ _ _ _ _ _ _ _)); (fail_if_success (with_reducible show Code.wp _ (Code.loop _) _ _ _)); (first | ((with_reducible show Code.wp _ (Code.region _ _ false) _ _ _); (refine sx_region ?_)) | ((with_reducible show Code.wp _ (Code.cond _ _ _) _ _ _); (first | (refine svT F (h := ?_)) | (refine svF F (h := ?_)) | ((refine svB F (fun hc => ?_) (fun hc => ?_)) <;> (try (exact no hc))))) | ((with_reducible show Code.wp _ (Code.region _ _ true) _ _ _); fail) | go_step))))
  (all_goals ((first | (refine svEnd F M ?_) | (refine svRet F M ?_)); refine ⟨?_, M.below (by (focus ((repeat (first | exact Pull.here | apply Pull.there)); done)))⟩))
  all_goals rfl
theorem gfmt_any (u : Nat) (hu : u < 18446744073709551616) (w0 : World) (ht : Tens w0) :
    Calls Tryd.prog 46 [.int .u64 u].toArray w0 fun e w' => e = .returned (str (Lib.decDigits u)) ∧ Below w0.heap.size w0 w' := by
  refine sx_enter Tryd.func46 (n := 5) rfl rfl rfl rfl ?_
  (intro a F; refine sv_start ?_; intro w M)
  (repeat' (first | (first | (refine sx_nil ?_; (try (replace F := F.filt [0, 2] rfl))) | (refine sv1 F M (h := ?_) (hr := by fail); clear F a; intro a F) | (refine sv1 F M (h := ?_); clear F a; intro a F) | (refine sv3 F M (h := ?_); clear M; intro w M) | (refine sv2 F M (h := ?_); clear F M a; intro b a w F M) | (refine svC F M (h := ?_); (((refine acCall (k := 77) ?_); (refine Spec.of_below_g (fmtUint_any u hu) (Old.tens ht (by (focus ((repeat (first | exact Pull.here | apply Pull.there)); done)))) rfl ?_))); (clear F M a; intro a w F M)) | (refine svC0 F M (h := ?_); (((refine acCall (k := 77) ?_); (refine Spec.of_below_g (fmtUint_any u hu) (Old.tens ht (by (focus ((repeat (first | exact Pull.here | apply Pull.there)); done)))) rfl ?_))); (clear M; intro w M)) | (refine sv1 F M (h := ?_) (hr := by fail); clear F a; intro a F) | (refine svK F (h := ?_); clear F a; intro a F) | (refine svK0 F (h := ?_)) | ((refine sx_guardb F rfl (fun hg => ?_) (fun hg => ?_)) <;> (rw [hg] at F; (try (exact no hg))))) | (first | (refine pv1 (h := ?_) (hr := by fail)) | (refine pv1 (h := ?_)) | (refine pv3 (h := ?_)) | (refine pv2 (h := ?_); intro b) | (refine pvC (h := ?_); (((refine acCall (k := 77) ?_); (refine Spec.of_below_g (fmtUint_any u hu) (Old.tens ht (by (focus ((repeat (first | exact Pull.here | apply Pull.there)); done)))) rfl ?_))); (refine ⟨?_, ?_⟩; (exact rvsA))) | (refine pvC0 (h := ?_); (((refine acCall (k := 77) ?_); (refine Spec.of_below_g (fmtUint_any u hu) (Old.tens ht (by (focus ((repeat (first | exact Pull.here | apply Pull.there)); done)))) rfl ?_))); (refine ⟨?_, ?_⟩; (exact rvsA))) | (refine pv1 (h := ?_) (hr := by fail)) | (refine pvF (h := ?_); intro b) | (refine pvK (h := ?_)) | (refine pvK0 (h := ?_)) | (refine pv_nil ?_; intro a w F M; refine ql_open ?_) | (refine pv_nil ?_; intro a w F M; (try (replace F := F.filt [0, 2] rfl)))) | ((fail_if_success (with_reducible show wpList _ _ _ _ _ _)); (fail_if_success (with_reducible show PW _ _ _ _ _ _ _ _ _ _)); (fail_if_success (with_reducible show Code.wp _ (Code.loop _) _ _ _)); (first | ((with_reducible show Code.wp _ (Code.region _ _ false) _ _ _); (refine sx_region ?_)) | ((with_reducible show Code.wp _ (Code.cond _ _ _) _ _ _); (first | (refine svT F (h := ?_)) | (refine svF F (h := ?_)) | ((refine svB F (fun hc => ?_) (fun hc => ?_)) <;> (try (exact no hc))))) | ((with_reducible show Code.wp _ (Code.region _ _ true) _ _ _); fail) | go_step))))
  (all_goals ((first | (refine svEnd F M ?_) | (refine svRet F M ?_)); refine ⟨?_, M.below (by (focus ((repeat (first | exact Pull.here | apply Pull.there)); done)))⟩))
  all_goals rfl
end Go.Proofs.YtffmcnaaaojgpaaDoor
