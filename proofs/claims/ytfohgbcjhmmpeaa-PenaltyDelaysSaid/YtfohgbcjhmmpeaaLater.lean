/- Contracts of clock.Later and clock.Max. -/
import Derived.Test.YtfohgbcjhmmpeaaBase
namespace Go.Proofs.Ytfohgbcjhmmpeaa
open Go.RowKit
def laterGo : Int → List Int → Int × Bool
  | s, [] => (s, true)
  | s, n :: t => if n < 0 ∨ n > 1099511627776 - s then (0, false) else laterGo (s + n) t
def laterF (a : Int) (l : List Int) : Int := (laterGo 0 (a :: l)).1
def laterB (a : Int) (l : List Int) : Bool := (laterGo 0 (a :: l)).2
theorem elemInt : ElemT Try.prog 60 3 (.int .i64 0) 1 8 := ⟨Try.underlying60, by kernel_rfl, rfl, by decide⟩
theorem drop_get {zs : List Int} {k : Nat} (h : k < zs.length) : zs.drop k = zs[k] :: zs.drop (k + 1) := List.drop_eq_getElem_cons h
theorem ret_ib {k : IntKind} {x y : Int} {p q : Bool} (h : x = y) (h' : p = q) : Ending.returned (.tuple #[.int k x, .bool p]) = .returned (.tuple #[.int k y, .bool q]) := by rw [h, h']
theorem pair1 {α β : Type} {p : α × β} {a b : α} {c d : β} (h : p = (a, c)) (k : p = (b, d)) : a = b := by rw [h] at k; exact (Prod.mk.inj k).1
theorem pair2 {α β : Type} {p : α × β} {a b : α} {c d : β} (h : p = (a, c)) (k : p = (b, d)) : c = d := by rw [h] at k; exact (Prod.mk.inj k).2
set_option maxHeartbeats 1000000 in
theorem later_any (a : Int) (v : Value) (by' : List Int) (w : World) (hv : SlR w 1 v by'.length (ints by')) (hl : by'.length ≤ 1000000) (ha : -9223372036854775808 ≤ a ∧ a ≤ 9223372036854775807) (hr : ∀ z ∈ by', -9223372036854775808 ≤ z ∧ z ≤ 9223372036854775807) :
    Calls Try.prog 34 #[.int .i64 a, v] w fun e w' => e = .returned (.tuple #[.int .i64 (laterF a by'), .bool (laterB a by')]) ∧ Below w.heap.size w w' := by
  have o0 : (w.alloc (.cells #[.int .i64 a] 3)).ownsRow w.heap.size 3 1 (.slice (some ⟨w.heap.size, 0, none⟩) 1 1) 1 [.int .i64 a] := World.ownsRow_lit w #[.int .i64 a] 1 (Nat.le_refl _) (by decide) rfl
  have s0 := hv.below_all ((Below.refl w.heap.size w).alloc (Nat.le_refl _) (.cells #[.int .i64 a] 3))
  have c1 : 1 + by'.length ≤ maxLen := by unfold maxLen; omega
  have c2 : (1 + by'.length) * 8 ≤ 140737488355328 := by omega
  have c3 : w.heap.size ≤ (w.alloc (.cells #[.int .i64 a] 3)).heap.size := by simp
  go_enter Try.func34, Try.ntmps34
  go_wp2_with (at_builtin; go_must (refine wpList_append_sl _ rfl _ _ _ rfl elemInt o0 rfl s0 rfl (ints_one by') c1 c2 c3 ?_); intro v1 w1 hown hgr _; have hs := ownsRow_SlR hown; obtain ⟨b, off, cap, rfl, hb, hc⟩ := hs.openSome (by omega); clear o0 s0)
  have hcell : ∀ j (h : j < (a :: by').length), w1.cell? ⟨b, off + j, none⟩ = some (.int .i64 (a :: by')[j]) := fun j h => hc j _ (by rw [show [Value.int .i64 a] ++ ints by' = ints (a :: by') from rfl]; exact ints_get h)
  have hbel : Below w.heap.size w w1 := ((Below.refl _ _).alloc (Nat.le_refl _) _).grown hgr (by simp) (by simp [Value.ownBlock])
  have hfin : laterGo 0 (a :: by') = (laterF a by', laterB a by') := rfl
  have hlen : (a :: by').length = 1 + by'.length := by simp; omega
  have hrng : ∀ z ∈ a :: by', -9223372036854775808 ≤ z ∧ z ≤ 9223372036854775807 := by
    intro z hz
    rcases List.mem_cons.1 hz with rfl | hz
    · exact ha
    · exact hr z hz
  have HF := Lib.hid hfin
  have HL := Lib.hid hlen
  have HR := Lib.hid hrng
  clear hc hgr hs hown hfin hlen hrng hr hv
  generalize a :: by' = zs at *
  go_loop [6, 8, 14] (fun s _ i => ∃ (k : Nat) (x : Int), k ≤ zs.length ∧ 0 ≤ x ∧ x ≤ 1099511627776 ∧ i = .int .i64 k ∧ s = .int .i64 x ∧ laterGo 0 zs = laterGo x (zs.drop k)) (fun _ _ i => (zs.length - (intOf i).toNat))
  case atStart => exact ⟨0, 0, by omega, by omega, by omega, rfl, rfl, rfl⟩
  case round =>
    obtain ⟨k, x, hk, hx0, hx1, rfl, rfl, hinv⟩ := hrel
    by_cases hlt : k < zs.length
    · have hcl := hcell k hlt
      have hz := HR.out zs[k] (List.getElem_mem hlt)
      rw [drop_get hlt, laterGo] at hinv
      have hlt' : k < 1 + by'.length := by rw [← HL.out]; exact hlt
      clear hcell
      generalize zs[k] = z at *
      by_cases h1 : z < 0
      · rw [if_pos (.inl h1)] at hinv
        have HI := Lib.hid hinv
        clear hinv
        go_wp2
        go_ret2
        exact ⟨ret_ib (pair1 HI.out HF.out) (pair2 HI.out HF.out), hbel⟩
      · by_cases h2 : 1099511627776 - x < z
        · rw [if_pos (.inr h2)] at hinv
          have HI := Lib.hid hinv
          clear hinv
          go_wp2
          go_ret2
          exact ⟨ret_ib (pair1 HI.out HF.out) (pair2 HI.out HF.out), hbel⟩
        · rw [if_neg (by omega)] at hinv
          have HI := Lib.hid hinv
          clear hinv
          go_wp2
          go_round
          case rel => exact ⟨k + 1, x + z, by omega, by omega, by omega, by go_num, rfl, HI.out⟩
          case measure => simp [intOf]; omega
    · have hge : 1 + by'.length ≤ k := by rw [← HL.out]; omega
      rw [List.drop_of_length_le (by omega), laterGo] at hinv
      have HI := Lib.hid hinv
      clear hinv hcell
      go_wp2
      go_ret2
      exact ⟨ret_ib (pair1 HI.out HF.out) (pair2 HI.out HF.out), hbel⟩
def laterR (a : Int) (l : List Int) : Int × Bool := if a < 0 ∨ 1099511627776 < a then (0, false) else laterGo a l
theorem laterR_eq (a : Int) (l : List Int) : laterR a l = laterGo 0 (a :: l) := by
  unfold laterR
  rw [laterGo]
  by_cases h : a < 0 ∨ 1099511627776 < a
  · rw [if_pos h, if_pos (by omega)]
  · rw [if_neg h, if_neg (by omega), Int.zero_add]
def maxGo : Int → List Int → Int
  | x, [] => x
  | x, n :: t => maxGo (if x < n then n else x) t
def maxF : List Int → Int
  | [] => -1
  | n :: t => maxGo n t
set_option maxHeartbeats 1000000 in
theorem slicesMax_any (z : Int) (zs : List Int) (v : Value) (w : World) (hv : SlR w 1 v (z :: zs).length (ints (z :: zs))) (hl : (z :: zs).length ≤ 1000000) :
    Calls Try.prog 50 #[v] w fun e w' => e = .returned (.int .i64 (maxF (z :: zs))) ∧ w = w' := by
  obtain ⟨b, off, cap, rfl, hb, hc⟩ := hv.openSome (by simp)
  have hcell : ∀ j (h : j < (z :: zs).length), w.cell? ⟨b, off + j, none⟩ = some (.int .i64 (z :: zs)[j]) := fun j h => hc j _ (ints_get h)
  have h0 : w.cell? ⟨b, off, none⟩ = some (.int .i64 z) := hcell 0 (by simp)
  have hfin : maxF (z :: zs) = maxGo z ((z :: zs).drop 1) := rfl
  have hpos : 1 ≤ (z :: zs).length := by simp
  have HF := Lib.hid hfin
  clear hc hv hfin
  generalize z :: zs = l at *
  generalize maxF l = r at *
  go_enter Try.func50, Try.ntmps50
  go_wp2
  go_loop [3, 4] (fun m i => ∃ (k : Nat) (x : Int), 1 ≤ k ∧ k ≤ l.length ∧ i = .int .i64 k ∧ m = .int .i64 x ∧ r = maxGo x (l.drop k)) (fun _ i => (l.length - (intOf i).toNat))
  case atStart => exact ⟨1, z, by omega, by omega, rfl, rfl, HF.out⟩
  case round =>
    obtain ⟨k, x, hk1, hk, rfl, rfl, hinv⟩ := hrel
    by_cases hlt : k < l.length
    · have hcl := hcell k hlt
      rw [drop_get hlt, maxGo] at hinv
      have HI := Lib.hid hinv
      clear hcell hinv
      generalize l[k] = n at *
      go_wp2
      go_round
      case rel => exact ⟨k + 1, _, by omega, by omega, by go_num, rfl, HI.out⟩
      case measure => simp [intOf]; omega
    · rw [List.drop_of_length_le (by omega), maxGo] at hinv
      have HI := Lib.hid hinv
      clear hinv hcell
      go_wp2
      go_ret
      exact ⟨by rw [HI.out]; rfl, rfl⟩
set_option maxHeartbeats 1000000 in
theorem max_any (zs : List Int) (v : Value) (w : World) (hv : SlR w 1 v zs.length (ints zs)) (hl : zs.length ≤ 1000000) :
    Calls Try.prog 45 #[v] w fun e w' => e = .returned (.int .i64 (maxF zs)) ∧ w = w' := by
  cases zs with
  | nil =>
    obtain ⟨⟨_, _, rfl⟩, _, _⟩ | ⟨b, off, cap, rfl, hb, _, hc⟩ := hv.parts
    all_goals
      go_enter Try.func45, Try.ntmps45
      go_wp2
      go_ret
      exact ⟨rfl, rfl⟩
  | cons z zs =>
    have hc := fun w' hw => slicesMax_any z zs v w' hw hl
    obtain ⟨b, off, cap, rfl, hb, _⟩ := hv.openSome (by simp)
    have hpos : 1 ≤ (z :: zs).length := by simp
    generalize z :: zs = l at *
    generalize maxF l = r at *
    go_enter Try.func45, Try.ntmps45
    go_wp2_with (go_at_call 50; refine (hc _ hv).mono ?_; rintro e w' ⟨rfl, rfl⟩)
    go_ret
    exact ⟨rfl, rfl⟩
end Go.Proofs.Ytfohgbcjhmmpeaa
