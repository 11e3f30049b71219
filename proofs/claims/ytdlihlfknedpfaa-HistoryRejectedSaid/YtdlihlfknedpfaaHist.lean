/- History: records and the log; of, begin, pay. -/
import Derived.Test.YtdlihlfknedpfaaMp
import Derived.Test.YtdlihlfknedpfaaRcT
namespace Go.Proofs.Ytdlihlfknedpfaa
open Go.RowKit Go.Maps
set_option linter.unusedVariables false
set_option maxRecDepth 100000
set_option linter.unusedSimpArgs false
set_option maxHeartbeats 2000000
def intL (z : Int) : List Value := [.int .i64 z]
instance : EL intL 1 := ⟨fun _ => rfl, fun x u h => by simp [intL] at h; subst h; rfl⟩
abbrev ptr (b : Nat) : Value := .pointer (some ⟨b, 0, none⟩)
instance : MT 74 3 81 := ⟨by kernel_rfl, int_keyed (q := .i64) (by kernel_rfl)⟩
instance : ZV 81 (.pointer none) := ⟨by kernel_rfl⟩
theorem intKey {i : Int} (h : I64 i) : keyOf Try.prog 3 (.int .i64 i) = some (.int .i64 i) := keyOf_int_mk (q := .i64) (by kernel_rfl) (by
  have := h.1; have := h.2; simp [Lit.wf, IntKind.min, IntKind.max, IntKind.signed, IntKind.bits]; omega)
/-- An exit; a record. -/
structure Ex where
  cl : Int
  rq : Int
  dl : Int
  asg : Int
  sl : Int
  pd : Int
  am : Int
deriving DecidableEq
def exL (x : Ex) : List Value := [.int .i64 x.cl, .int .i64 x.rq, .int .i64 x.dl, .int .i64 x.asg, .int .i64 x.sl, .int .i64 x.pd, .int .u64 x.am]
structure Rd where
  ex : Ex
  rd : Bool
  pays : List Pm
  asd : Bool
  sld : Bool
  fu : Bool
deriving DecidableEq
def r0 : Rd := ⟨⟨0, 0, 0, -1, -1, -1, 0⟩, false, [], false, false, false⟩
def recL (r : Rd) (h : SlH) : List Value := [.int .i64 r.ex.cl, .int .i64 r.ex.rq, .int .i64 r.ex.dl, .int .i64 r.ex.asg, .int .i64 r.ex.sl, .int .i64 r.ex.pd, .int .u64 r.ex.am, .bool r.rd, sl h, .bool r.asd, .bool r.sld, .bool r.fu]
abbrev recP (b : Nat) (r : Rd) (h : SlH) : List Asn := [pt b (recL r h) 80, ownT 46 pmL 3 (sl h) r.pays]
def recA (b : Nat) (r : Rd) : Asn := exA (recP b r)
abbrev AL := List (Int × Nat × Rd)
def ptrs (al : AL) : List (Value × Value) := al.map fun x => (.int .i64 x.1, ptr x.2.1)
def recsA (al : AL) : List Asn := al.map fun x => recA x.2.1 x.2.2
def restA (al : AL) : Asn := exA fun _ : Unit => recsA al
def abs (al : AL) : List (Int × Rd) := al.map fun x => (x.1, x.2.2)
def getR (i : Int) : List (Int × Rd) → Rd
  | [] => r0
  | (j, r) :: t => if j = i then r else getR i t
def setR (i : Int) (r : Rd) : List (Int × Rd) → List (Int × Rd)
  | [] => [(i, r)]
  | (j, q) :: t => if j = i then (j, r) :: t else (j, q) :: setR i r t
theorem abs_split (i : Int) : ∀ (al : AL), (∃ l1 b l2, al = l1 ++ (i, b, getR i (abs al)) :: l2 ∧ ∀ r', abs (l1 ++ (i, b, r') :: l2) = setR i r' (abs al)) ∨ ((∀ x ∈ al, x.1 ≠ i) ∧ getR i (abs al) = r0 ∧ ∀ b r', abs (al ++ [(i, b, r')]) = setR i r' (abs al))
  | [] => .inr ⟨by simp, rfl, fun b r' => rfl⟩
  | (j, b, r) :: t => by
    by_cases h : j = i
    · subst h
      exact .inl ⟨[], b, t, by simp [abs, getR], fun r' => by simp [abs, setR]⟩
    · rcases abs_split i t with ⟨l1, c, l2, h1, h2⟩ | ⟨h1, h2, h3⟩
      · refine .inl ⟨(j, b, r) :: l1, c, l2, ?_, fun r' => ?_⟩
        · have : getR i (abs ((j, b, r) :: t)) = getR i (abs t) := by simp [abs, getR, h]
          rw [this, List.cons_append, ← h1]
        · have e := h2 r'
          simp only [abs, List.cons_append, List.map_cons, setR, h, if_false] at e ⊢
          rw [e]
      · refine .inr ⟨fun x hx => ?_, by simpa [abs, getR, h] using h2, fun c r' => ?_⟩
        · rcases List.mem_cons.1 hx with rfl | hx
          · exact h
          · exact h1 x hx
        · have e := h3 c r'
          simp only [abs, List.cons_append, List.map_cons, setR, h, if_false] at e ⊢
          rw [e]
theorem ptrs_last (al : AL) (i : Int) (b : Nat) (r : Rd) : (Value.int .i64 i, ptr b) ∈ ptrs (al ++ [(i, b, r)]) := by simp [ptrs]
theorem ptrs_set (l1 l2 : AL) (i : Int) (b : Nat) (r r' : Rd) : ptrs (l1 ++ (i, b, r) :: l2) = ptrs (l1 ++ (i, b, r') :: l2) := by simp [ptrs]
section
variable {w : World} {L : List Asn}
theorem rest_open {l1 l2 : AL} {x : Int × Nat × Rd} (M : Mem w (restA (l1 ++ x :: l2) :: L)) : Mem w (recA x.2.1 x.2.2 :: restA (l1 ++ l2) :: L) := by
  obtain ⟨_, M⟩ := M.exo
  simp only [recsA, List.map_append, List.map_cons, List.append_assoc, List.cons_append] at M
  have M := M.front
  rw [← List.append_assoc, ← List.map_append] at M
  exact (Mem.exc (f := fun _ : Unit => recsA (l1 ++ l2)) () (L := recA x.2.1 x.2.2 :: L) M.back).swap
theorem rest_close {l1 l2 : AL} {x : Int × Nat × Rd} (M : Mem w (recA x.2.1 x.2.2 :: restA (l1 ++ l2) :: L)) : Mem w (restA (l1 ++ x :: l2) :: L) := by
  obtain ⟨_, M⟩ := M.swap.exo
  have M := M.front
  rw [recsA, List.map_append, List.append_assoc] at M
  have M := M.back
  refine Mem.exc (f := fun _ : Unit => recsA (l1 ++ x :: l2)) () ?_
  simp only [recsA, List.map_append, List.map_cons, List.append_assoc, List.cons_append]
  exact M
theorem rest_nil (M : Mem w L) : Mem w (restA [] :: L) := Mem.exc (f := fun _ : Unit => recsA []) () M
end
theorem of_spec (b m : Nat) (t : TypeId) (cs : List Value) (i : Int) (hi : I64 i) (al : AL) : Spec 39 [ptr b, .int .i64 i] [pt b (.map (some m) :: cs) t, mp m 3 (ptrs al), restA al]
    fun u L' => ∃ l1 br l2 h, u = ptr br ∧ (∀ r', abs (l1 ++ (i, br, r') :: l2) = setR i r' (abs al)) ∧ L' = [pt b (.map (some m) :: cs) t, mp m 3 (ptrs (l1 ++ (i, br, r0) :: l2)), pt br (recL (getR i (abs al)) h) 80, ownT 46 pmL 3 (sl h) (getR i (abs al)).pays, restA (l1 ++ l2)] := by
  (intro G w M; refine sx_enter (vs := [ptr b, .int .i64 i]) Try.func39 (n := 26) rfl rfl rfl rfl ?_; intro a F; (try simp only [List.cons_append, List.nil_append] at M))
  rcases abs_split i al with ⟨l1, br, l2, h1, h2⟩ | ⟨h1, h2, h3⟩
  · have hin : (Value.int .i64 i, ptr br) ∈ ptrs al := by rw [h1]; simp [ptrs]
    (repeat' (first | (first | (refine sx_nil ?_; (try (replace F := F.filt [0, 1, 4, 11] rfl))) | (refine sv1 F M (h := ?_) (hr := by fail); clear F a; intro a F) | (refine sv1 F M (h := ?_); clear F a; intro a F) | (refine sv3 F M (h := ?_); clear M; intro w M) | (refine sv2 F M (h := ?_); clear F M a; intro b a w F M) | (refine svC F M (h := ?_); fail; (clear F M a; intro a w F M)) | (refine svC0 F M (h := ?_); fail; (clear M; intro w M)) | (refine sv1 F M (h := ?_) (hr := by (first | (apply rt_hit1; (exact rfl); (exact rfl); (exact rfl); (exact inferInstance); (exact gives_mp pullA); (exact intKey hi); (first | assumption | exact ptrs_last _ _ _ _)) | (apply rt_miss1; (exact rfl); (exact rfl); (exact rfl); (exact inferInstance); (exact gives_mp pullA); (exact intKey hi); (assumption); (exact inferInstance)) | (apply rt_nilp; (exact rfl); (exact rfl); (exact rfl); (exact inferInstance)))); clear F a; intro a F) | (refine svK F (h := ?_); clear F a; intro a F) | (refine svK0 F (h := ?_)) | ((refine sx_guardb F rfl (fun hg => ?_) (fun hg => ?_)) <;> (rw [hg] at F; (try (exact no hg))))) | (first | (refine pv1 (h := ?_) (hr := by fail)) | (refine pv1 (h := ?_)) | (refine pv3 (h := ?_)) | (refine pv2 (h := ?_); intro b) | (refine pvC (h := ?_); fail; (refine ⟨?_, ?_⟩; (exact rvsA))) | (refine pvC0 (h := ?_); fail; (refine ⟨?_, ?_⟩; (exact rvsA))) | (refine pv1 (h := ?_) (hr := by (first | (apply rt_hit1; (exact rfl); (exact rfl); (exact rfl); (exact inferInstance); (exact gives_mp pullA); (exact intKey hi); (first | assumption | exact ptrs_last _ _ _ _)) | (apply rt_miss1; (exact rfl); (exact rfl); (exact rfl); (exact inferInstance); (exact gives_mp pullA); (exact intKey hi); (assumption); (exact inferInstance)) | (apply rt_nilp; (exact rfl); (exact rfl); (exact rfl); (exact inferInstance))))) | (refine pvF (h := ?_); intro b) | (refine pvK (h := ?_)) | (refine pvK0 (h := ?_)) | (refine pv_nil ?_; intro a w F M; refine ql_open ?_) | (refine pv_nil ?_; intro a w F M; (try (replace F := F.filt [0, 1, 4, 11] rfl)))) | ((fail_if_success (with_reducible show wpList _ _ _ _ _ _)); (fail_if_success (with_reducible show PW _ _ _ _ _ _ _ _ _ _)); (fail_if_success (with_reducible show Code.wp _ (Code.loop _) _ _ _)); (first | ((with_reducible show Code.wp _ (Code.region _ _ false) _ _ _); (refine sx_region ?_)) | ((with_reducible show Code.wp _ (Code.cond _ _ _) _ _ _); (first | (refine svT F (h := ?_)) | (refine svF F (h := ?_)) | ((refine svB F (fun hc => ?_) (fun hc => ?_)) <;> (try (exact no hc))))) | ((with_reducible show Code.wp _ (Code.region _ _ true) _ _ _); fail) | go_step))))
    all_goals (first | (refine svEnd F M ?_) | (refine svRet F M ?_))
    have M := M.perms (permsA : Perms _ (restA al :: pt b (.map (some m) :: cs) t :: mp m 3 (ptrs al) :: G))
    rw [h1] at M
    obtain ⟨h, M⟩ := (rest_open M).exo
    refine ⟨_, _, rfl, ⟨l1, br, l2, h, rfl, h2, rfl⟩, ?_⟩
    rw [ptrs_set l1 l2 i br r0 (getR i (abs al))]
    try simp only [List.cons_append, List.nil_append] at M ⊢
    simp only [← h1] at M ⊢
    exact M.perms permsA
  · have hno : ∀ p ∈ ptrs al, p.1 ≠ .int .i64 i := fun p hp => by
      obtain ⟨x, hx, rfl⟩ := List.mem_map.1 hp
      have := h1 x hx
      simpa using this
    (repeat' (first | (first | (refine sx_nil ?_; (try (replace F := F.filt [0, 1, 4, 11] rfl))) | (refine sv1 F M (h := ?_) (hr := by fail); clear F a; intro a F) | (refine sv1 F M (h := ?_); clear F a; intro a F) | (refine sv3 F M (h := ?_); clear M; intro w M) | (refine sv2 F M (h := ?_); clear F M a; intro b a w F M) | (refine svC F M (h := ?_); (refine ac_mapNew (P' := ptrs (al ++ [(i, _, r0)])) rfl rfl rfl rfl inferInstance (intKey hi) (by (repeat (first | exact Rep.here | apply Rep.there))) hno (by simpa [ptrs] using (List.perm_append_singleton _ _).symm) ?_); (clear F M a; intro a w F M)) | (refine svC0 F M (h := ?_); (refine ac_mapNew (P' := ptrs (al ++ [(i, _, r0)])) rfl rfl rfl rfl inferInstance (intKey hi) (by (repeat (first | exact Rep.here | apply Rep.there))) hno (by simpa [ptrs] using (List.perm_append_singleton _ _).symm) ?_); (clear M; intro w M)) | (refine sv1 F M (h := ?_) (hr := by (first | (apply rt_hit1; (exact rfl); (exact rfl); (exact rfl); (exact inferInstance); (exact gives_mp pullA); (exact intKey hi); (first | assumption | exact ptrs_last _ _ _ _)) | (apply rt_miss1; (exact rfl); (exact rfl); (exact rfl); (exact inferInstance); (exact gives_mp pullA); (exact intKey hi); (assumption); (exact inferInstance)) | (apply rt_nilp; (exact rfl); (exact rfl); (exact rfl); (exact inferInstance)))); clear F a; intro a F) | (refine svK F (h := ?_); clear F a; intro a F) | (refine svK0 F (h := ?_)) | ((refine sx_guardb F rfl (fun hg => ?_) (fun hg => ?_)) <;> (rw [hg] at F; (try (exact no hg))))) | (first | (refine pv1 (h := ?_) (hr := by fail)) | (refine pv1 (h := ?_)) | (refine pv3 (h := ?_)) | (refine pv2 (h := ?_); intro b) | (refine pvC (h := ?_); (refine ac_mapNew (P' := ptrs (al ++ [(i, _, r0)])) rfl rfl rfl rfl inferInstance (intKey hi) (by (repeat (first | exact Rep.here | apply Rep.there))) hno (by simpa [ptrs] using (List.perm_append_singleton _ _).symm) ?_); (refine ⟨?_, ?_⟩; (exact rvsA))) | (refine pvC0 (h := ?_); (refine ac_mapNew (P' := ptrs (al ++ [(i, _, r0)])) rfl rfl rfl rfl inferInstance (intKey hi) (by (repeat (first | exact Rep.here | apply Rep.there))) hno (by simpa [ptrs] using (List.perm_append_singleton _ _).symm) ?_); (refine ⟨?_, ?_⟩; (exact rvsA))) | (refine pv1 (h := ?_) (hr := by (first | (apply rt_hit1; (exact rfl); (exact rfl); (exact rfl); (exact inferInstance); (exact gives_mp pullA); (exact intKey hi); (first | assumption | exact ptrs_last _ _ _ _)) | (apply rt_miss1; (exact rfl); (exact rfl); (exact rfl); (exact inferInstance); (exact gives_mp pullA); (exact intKey hi); (assumption); (exact inferInstance)) | (apply rt_nilp; (exact rfl); (exact rfl); (exact rfl); (exact inferInstance))))) | (refine pvF (h := ?_); intro b) | (refine pvK (h := ?_)) | (refine pvK0 (h := ?_)) | (refine pv_nil ?_; intro a w F M; refine ql_open ?_) | (refine pv_nil ?_; intro a w F M; (try (replace F := F.filt [0, 1, 4, 11] rfl)))) | ((fail_if_success (with_reducible show wpList _ _ _ _ _ _)); (fail_if_success (with_reducible show PW _ _ _ _ _ _ _ _ _ _)); (fail_if_success (with_reducible show Code.wp _ (Code.loop _) _ _ _)); (first | ((with_reducible show Code.wp _ (Code.region _ _ false) _ _ _); (refine sx_region ?_)) | ((with_reducible show Code.wp _ (Code.cond _ _ _) _ _ _); (first | (refine svT F (h := ?_)) | (refine svF F (h := ?_)) | ((refine svB F (fun hc => ?_) (fun hc => ?_)) <;> (try (exact no hc))))) | ((with_reducible show Code.wp _ (Code.region _ _ true) _ _ _); fail) | go_step))))
    all_goals (first | (refine svEnd F M ?_) | (refine svRet F M ?_))
    replace M := rest_nil (M.own_nil 46 3)
    refine ⟨_, _, rfl, ⟨al, b, [], ⟨none, 0, 0⟩, rfl, h3 _, rfl⟩, ?_⟩
    rw [h2, List.append_nil]
    simp only [List.cons_append, List.nil_append]
    exact M.perms permsA
theorem rec_close {w : World} {L : List Asn} {l1 l2 : AL} {i : Int} {br : Nat} {r : Rd} {h : SlH} (M : Mem w (pt br (recL r h) 80 :: ownT 46 pmL 3 (sl h) r.pays :: restA (l1 ++ l2) :: L)) : Mem w (restA (l1 ++ (i, br, r) :: l2) :: L) :=
  rest_close (x := (i, br, r)) (Mem.exc (f := recP br r) h M)
def beginR (cl ep dl : Int) (r : Rd) : Rd := if r.rd = true then r else { r with rd := true, ex := { r.ex with cl := cl, rq := ep, dl := dl } }
def beginO (i : Int) (r : Rd) (o : List Int) : List Int := if r.rd = true then o else o ++ [i]
theorem begin_spec (b m : Nat) (v2 v3 v4 : Value) (i cl : Int) (hi : I64 i) (al : AL) (o : List Int) (ord : SlH) (x : Rc) (s p : SlH) (hb : o.length ≤ 1000000) :
    Spec 41 [ptr b, .int .i64 i, .int .i64 cl, rcV x s p] [pt b [.map (some m), sl ord, v2, v3, v4] 78, mp m 3 (ptrs al), ownT 3 intL 1 (sl ord) o, restA al]
    fun u L' => u = .tuple #[] ∧ ∃ al' ord', abs al' = setR i (beginR cl x.ep x.dl (getR i (abs al))) (abs al) ∧ L' = [pt b [.map (some m), sl ord', v2, v3, v4] 78, mp m 3 (ptrs al'), ownT 3 intL 1 (sl ord') (beginO i (getR i (abs al)) o), restA al'] := by
  (intro G w M; refine sx_enter (vs := [ptr b, .int .i64 i, .int .i64 cl, rcV x s p]) Try.func41 (n := 46) rfl rfl rfl rfl ?_; intro a F; (try simp only [List.cons_append, List.nil_append] at M))
  obtain ⟨r, hr⟩ : ∃ r, getR i (abs al) = r := ⟨_, rfl⟩
  have hof := of_spec b m 78 [sl ord, v2, v3, v4] i hi al
  rw [hr] at hof ⊢
  obtain ⟨⟨e1, e2, e3, e4, e5, e6, e7⟩, rd, ps, ra, rs, rf⟩ := r
  cases rd
  all_goals (repeat' (first | (first | (refine sx_nil ?_; (try (replace F := F.filt [0, 1, 2, 3, 7, 8, 15] rfl))) | (refine sv1 F M (h := ?_) (hr := by fail); clear F a; intro a F) | (refine sv1 F M (h := ?_); clear F a; intro a F) | (refine sv3 F M (h := ?_); clear M; intro w M) | (refine sv2 F M (h := ?_); clear F M a; intro b a w F M) | (refine svC F M (h := ?_); (first | ((refine acCall (k := 39) ?_); refine Spec.mono (Spec.pre (Spec.fr hof _) (by simp only [List.cons_append, List.nil_append]; exact permsA)) ?_; rintro u L' ⟨L2, ⟨l1, br, l2, h, rfl, hs, rfl⟩, rfl⟩; (simp only [List.cons_append, List.nil_append])) | (refine ac_appendH (f := intL) (xs := o) (ys := [i]) rfl rfl inferInstance rfl rfl (by (focus ((repeat (first | exact Pull.here | apply Pull.there)); done))) inferInstance (gs_own (by (focus ((repeat (first | exact Pull.here | apply Pull.there)); done)))) rfl rfl (by simp; omega) ?_; intro v')); (clear F M a; intro a w F M)) | (refine svC0 F M (h := ?_); (first | ((refine acCall (k := 39) ?_); refine Spec.mono (Spec.pre (Spec.fr hof _) (by simp only [List.cons_append, List.nil_append]; exact permsA)) ?_; rintro u L' ⟨L2, ⟨l1, br, l2, h, rfl, hs, rfl⟩, rfl⟩; (simp only [List.cons_append, List.nil_append])) | (refine ac_appendH (f := intL) (xs := o) (ys := [i]) rfl rfl inferInstance rfl rfl (by (focus ((repeat (first | exact Pull.here | apply Pull.there)); done))) inferInstance (gs_own (by (focus ((repeat (first | exact Pull.here | apply Pull.there)); done)))) rfl rfl (by simp; omega) ?_; intro v')); (clear M; intro w M)) | (refine sv1 F M (h := ?_) (hr := by fail); clear F a; intro a F) | (refine svK F (h := ?_); clear F a; intro a F) | (refine svK0 F (h := ?_)) | ((refine sx_guardb F rfl (fun hg => ?_) (fun hg => ?_)) <;> (rw [hg] at F; (try (exact no hg))))) | (first | (refine pv1 (h := ?_) (hr := by fail)) | (refine pv1 (h := ?_)) | (refine pv3 (h := ?_)) | (refine pv2 (h := ?_); intro b) | (refine pvC (h := ?_); (first | ((refine acCall (k := 39) ?_); refine Spec.mono (Spec.pre (Spec.fr hof _) (by simp only [List.cons_append, List.nil_append]; exact permsA)) ?_; rintro u L' ⟨L2, ⟨l1, br, l2, h, rfl, hs, rfl⟩, rfl⟩; (simp only [List.cons_append, List.nil_append])) | (refine ac_appendH (f := intL) (xs := o) (ys := [i]) rfl rfl inferInstance rfl rfl (by (focus ((repeat (first | exact Pull.here | apply Pull.there)); done))) inferInstance (gs_own (by (focus ((repeat (first | exact Pull.here | apply Pull.there)); done)))) rfl rfl (by simp; omega) ?_; intro v')); (refine ⟨?_, ?_⟩; (exact rvsA))) | (refine pvC0 (h := ?_); (first | ((refine acCall (k := 39) ?_); refine Spec.mono (Spec.pre (Spec.fr hof _) (by simp only [List.cons_append, List.nil_append]; exact permsA)) ?_; rintro u L' ⟨L2, ⟨l1, br, l2, h, rfl, hs, rfl⟩, rfl⟩; (simp only [List.cons_append, List.nil_append])) | (refine ac_appendH (f := intL) (xs := o) (ys := [i]) rfl rfl inferInstance rfl rfl (by (focus ((repeat (first | exact Pull.here | apply Pull.there)); done))) inferInstance (gs_own (by (focus ((repeat (first | exact Pull.here | apply Pull.there)); done)))) rfl rfl (by simp; omega) ?_; intro v')); (refine ⟨?_, ?_⟩; (exact rvsA))) | (refine pv1 (h := ?_) (hr := by fail)) | (refine pvF (h := ?_); intro b) | (refine pvK (h := ?_)) | (refine pvK0 (h := ?_)) | (refine pv_nil ?_; intro a w F M; refine ql_open ?_) | (refine pv_nil ?_; intro a w F M; (try (replace F := F.filt [0, 1, 2, 3, 7, 8, 15] rfl)))) | ((fail_if_success (with_reducible show wpList _ _ _ _ _ _)); (fail_if_success (with_reducible show PW _ _ _ _ _ _ _ _ _ _)); (fail_if_success (with_reducible show Code.wp _ (Code.loop _) _ _ _)); (first | ((with_reducible show Code.wp _ (Code.region _ _ false) _ _ _); (refine sx_region ?_)) | ((with_reducible show Code.wp _ (Code.cond _ _ _) _ _ _); (first | (refine svT F (h := ?_)) | (refine svF F (h := ?_)) | ((refine svB F (fun hc => ?_) (fun hc => ?_)) <;> (try (exact no hc))))) | ((with_reducible show Code.wp _ (Code.region _ _ true) _ _ _); (first | (refine svDraw (id := 4) [11, 15, 19] [] [(11, [1, 2, 4, 5, 6, 7]), (15, [2, 6, 7])] [0, 1, 2, 3, 4, 5, 6, 7, 8, 9, 10, 11, 12, 13, 14, 15, 16, 17, 18, 19] F M (h := ?_); clear F M a w))) | go_step))))
  · (first | (refine svEnd F M ?_) | (refine svRet F M ?_))
    have M := rec_close (i := i) (M.perms (permsA : Perms _ (pt br (recL ⟨⟨cl, x.ep, x.dl, e4, e5, e6, e7⟩, true, ps, ra, rs, rf⟩ h) 80 :: ownT 46 pmL 3 (sl h) ps :: restA (l1 ++ l2) :: pt _ [.map (some m), sl v', v2, v3, v4] 78 :: mp m 3 (ptrs (l1 ++ (i, br, r0) :: l2)) :: ownT 3 intL 1 (sl v') (o ++ [i]) :: G)))
    rw [ptrs_set l1 l2 i br r0 ⟨⟨cl, x.ep, x.dl, e4, e5, e6, e7⟩, true, ps, ra, rs, rf⟩] at M
    exact ⟨_, _, rfl, ⟨rfl, _, v', hs _, rfl⟩, M.perms permsA⟩
  · (first | (refine svEnd F M ?_) | (refine svRet F M ?_))
    have M := rec_close (i := i) (M.perms (permsA : Perms _ (pt br (recL ⟨⟨e1, e2, e3, e4, e5, e6, e7⟩, true, ps, ra, rs, rf⟩ h) 80 :: ownT 46 pmL 3 (sl h) ps :: restA (l1 ++ l2) :: pt _ [.map (some m), sl ord, v2, v3, v4] 78 :: mp m 3 (ptrs (l1 ++ (i, br, r0) :: l2)) :: ownT 3 intL 1 (sl ord) o :: G)))
    rw [ptrs_set l1 l2 i br r0 ⟨⟨e1, e2, e3, e4, e5, e6, e7⟩, true, ps, ra, rs, rf⟩] at M
    exact ⟨_, _, rfl, ⟨rfl, _, ord, hs _, rfl⟩, M.perms permsA⟩
def payR (p : Pm) (ep : Int) (r : Rd) : Rd := if p.fl = true ∧ r.fu = false then { r with pays := r.pays ++ [p], fu := true, ex := { r.ex with pd := ep, am := p.am } } else { r with pays := r.pays ++ [p] }
theorem pay_spec (b m : Nat) (t : TypeId) (cs : List Value) (q : Pm) (ep : Int) (hi : I64 q.ix) (al : AL) (hb : (getR q.ix (abs al)).pays.length ≤ 1000000) :
    Spec 40 [ptr b, .agg (pmL q).toArray, .int .i64 ep] [pt b (.map (some m) :: cs) t, mp m 3 (ptrs al), restA al]
    fun u L' => u = .tuple #[] ∧ ∃ al', abs al' = setR q.ix (payR q ep (getR q.ix (abs al))) (abs al) ∧ L' = [pt b (.map (some m) :: cs) t, mp m 3 (ptrs al'), restA al'] := by
  (intro G w M; refine sx_enter (vs := [ptr b, .agg (pmL q).toArray, .int .i64 ep]) Try.func40 (n := 44) rfl rfl rfl rfl ?_; intro a F; (try simp only [List.cons_append, List.nil_append] at M))
  obtain ⟨r, hr⟩ : ∃ r, getR q.ix (abs al) = r := ⟨_, rfl⟩
  have hof := of_spec b m t cs q.ix hi al
  rw [hr] at hof hb ⊢
  obtain ⟨⟨e1, e2, e3, e4, e5, e6, e7⟩, rd, ps, ra, rs, rf⟩ := r
  obtain ⟨i, am, fl⟩ := q
  try simp only at hof hb hr hi ⊢
  cases fl <;> cases rf
  all_goals (repeat' (first | (first | (refine sx_nil ?_; (try (replace F := F.filt [0, 1, 2, 4, 6, 29] rfl))) | (refine sv1 F M (h := ?_) (hr := by fail); clear F a; intro a F) | (refine sv1 F M (h := ?_); clear F a; intro a F) | (refine sv3 F M (h := ?_); clear M; intro w M) | (refine sv2 F M (h := ?_); clear F M a; intro b a w F M) | (refine svC F M (h := ?_); (first | ((refine acCall (k := 39) ?_); refine Spec.mono (Spec.pre (Spec.fr hof _) (by simp only [List.cons_append, List.nil_append]; exact permsA)) ?_; rintro u L' ⟨L2, ⟨l1, br, l2, h, rfl, hs, rfl⟩, rfl⟩; (simp only [List.cons_append, List.nil_append])) | (refine ac_appendH (f := pmL) (xs := ps) (ys := [⟨i, am, _⟩]) rfl rfl inferInstance rfl rfl (by (focus ((repeat (first | exact Pull.here | apply Pull.there)); done))) inferInstance (gs_own (by (focus ((repeat (first | exact Pull.here | apply Pull.there)); done)))) rfl rfl (by simp; omega) ?_; intro v')); (clear F M a; intro a w F M)) | (refine svC0 F M (h := ?_); (first | ((refine acCall (k := 39) ?_); refine Spec.mono (Spec.pre (Spec.fr hof _) (by simp only [List.cons_append, List.nil_append]; exact permsA)) ?_; rintro u L' ⟨L2, ⟨l1, br, l2, h, rfl, hs, rfl⟩, rfl⟩; (simp only [List.cons_append, List.nil_append])) | (refine ac_appendH (f := pmL) (xs := ps) (ys := [⟨i, am, _⟩]) rfl rfl inferInstance rfl rfl (by (focus ((repeat (first | exact Pull.here | apply Pull.there)); done))) inferInstance (gs_own (by (focus ((repeat (first | exact Pull.here | apply Pull.there)); done)))) rfl rfl (by simp; omega) ?_; intro v')); (clear M; intro w M)) | (refine sv1 F M (h := ?_) (hr := by fail); clear F a; intro a F) | (refine svK F (h := ?_); clear F a; intro a F) | (refine svK0 F (h := ?_)) | ((refine sx_guardb F rfl (fun hg => ?_) (fun hg => ?_)) <;> (rw [hg] at F; (try (exact no hg))))) | (first | (refine pv1 (h := ?_) (hr := by fail)) | (refine pv1 (h := ?_)) | (refine pv3 (h := ?_)) | (refine pv2 (h := ?_); intro b) | (refine pvC (h := ?_); (first | ((refine acCall (k := 39) ?_); refine Spec.mono (Spec.pre (Spec.fr hof _) (by simp only [List.cons_append, List.nil_append]; exact permsA)) ?_; rintro u L' ⟨L2, ⟨l1, br, l2, h, rfl, hs, rfl⟩, rfl⟩; (simp only [List.cons_append, List.nil_append])) | (refine ac_appendH (f := pmL) (xs := ps) (ys := [⟨i, am, _⟩]) rfl rfl inferInstance rfl rfl (by (focus ((repeat (first | exact Pull.here | apply Pull.there)); done))) inferInstance (gs_own (by (focus ((repeat (first | exact Pull.here | apply Pull.there)); done)))) rfl rfl (by simp; omega) ?_; intro v')); (refine ⟨?_, ?_⟩; (exact rvsA))) | (refine pvC0 (h := ?_); (first | ((refine acCall (k := 39) ?_); refine Spec.mono (Spec.pre (Spec.fr hof _) (by simp only [List.cons_append, List.nil_append]; exact permsA)) ?_; rintro u L' ⟨L2, ⟨l1, br, l2, h, rfl, hs, rfl⟩, rfl⟩; (simp only [List.cons_append, List.nil_append])) | (refine ac_appendH (f := pmL) (xs := ps) (ys := [⟨i, am, _⟩]) rfl rfl inferInstance rfl rfl (by (focus ((repeat (first | exact Pull.here | apply Pull.there)); done))) inferInstance (gs_own (by (focus ((repeat (first | exact Pull.here | apply Pull.there)); done)))) rfl rfl (by simp; omega) ?_; intro v')); (refine ⟨?_, ?_⟩; (exact rvsA))) | (refine pv1 (h := ?_) (hr := by fail)) | (refine pvF (h := ?_); intro b) | (refine pvK (h := ?_)) | (refine pvK0 (h := ?_)) | (refine pv_nil ?_; intro a w F M; refine ql_open ?_) | (refine pv_nil ?_; intro a w F M; (try (replace F := F.filt [0, 1, 2, 4, 6, 29] rfl)))) | ((fail_if_success (with_reducible show wpList _ _ _ _ _ _)); (fail_if_success (with_reducible show PW _ _ _ _ _ _ _ _ _ _)); (fail_if_success (with_reducible show Code.wp _ (Code.loop _) _ _ _)); (first | ((with_reducible show Code.wp _ (Code.region _ _ false) _ _ _); (refine sx_region ?_)) | ((with_reducible show Code.wp _ (Code.cond _ _ _) _ _ _); (first | (refine svT F (h := ?_)) | (refine svF F (h := ?_)) | ((refine svB F (fun hc => ?_) (fun hc => ?_)) <;> (try (exact no hc))))) | ((with_reducible show Code.wp _ (Code.region _ _ true) _ _ _); (first | (refine svDraw (id := 2) [6, 7, 10] [] [(6, [0, 1, 2, 3, 4]), (7, [0])] [0, 1, 2, 3, 4, 5, 6, 7, 8, 9, 10] F M (h := ?_); clear F M a w) | (refine svDraw (id := 5) [8, 12] [] [(8, [1, 3, 4])] [0, 1, 2, 3, 4, 5, 6, 7, 8, 9, 10, 11, 12] F M (h := ?_); clear F M a w))) | go_step))))
  all_goals (first | (refine svEnd F M ?_) | (refine svRet F M ?_))
  all_goals first
    | (have M := rec_close (i := i) (M.perms (permsA : Perms _ (pt br (recL ⟨⟨e1, e2, e3, e4, e5, e6, e7⟩, rd, ps ++ [_], ra, rs, _⟩ v') 80 :: ownT 46 pmL 3 (sl v') (ps ++ [_]) :: restA (l1 ++ l2) :: pt _ (.map (some m) :: cs) t :: mp m 3 (ptrs (l1 ++ (i, br, r0) :: l2)) :: G)))
       rw [ptrs_set l1 l2 i br r0 _] at M
       exact ⟨_, _, rfl, ⟨rfl, _, hs _, rfl⟩, M.perms permsA⟩)
    | (have M := rec_close (i := i) (M.perms (permsA : Perms _ (pt br (recL ⟨⟨e1, e2, e3, e4, e5, ep, am⟩, rd, ps ++ [_], ra, rs, true⟩ v') 80 :: ownT 46 pmL 3 (sl v') (ps ++ [_]) :: restA (l1 ++ l2) :: pt _ (.map (some m) :: cs) t :: mp m 3 (ptrs (l1 ++ (i, br, r0) :: l2)) :: G)))
       rw [ptrs_set l1 l2 i br r0 _] at M
       exact ⟨_, _, rfl, ⟨rfl, _, hs _, rfl⟩, M.perms permsA⟩)
end Go.Proofs.Ytdlihlfknedpfaa
