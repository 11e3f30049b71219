/- What arguments that can be read hold: numbers, bools, strings, slices of elements. -/
import Derived.Test.YtdlihlfknedpfaaSw
import Derived.Test.YtdlihlfknedpfaaShape
namespace Go.Proofs.Ytdlihlfknedpfaa
open Go.RowKit
theorem shb_cons {w : World} {s : Sh} {ss : List Sh} {l : List Value} (h : HasSh w (.agg (s :: ss)) l) : ∃ c r, l = c ++ r ∧ HasSh w s c ∧ HasSh w (.agg ss) r := by
  cases h with
  | cons s ss c r h1 h2 => exact ⟨c, r, rfl, h1, h2⟩
theorem shb_nil {w : World} {l : List Value} (h : HasSh w (.agg []) l) : l = [] := by cases h; rfl
theorem shb_int {w : World} {k : IntKind} {l : List Value} (h : HasSh w (.int k) l) : ∃ n, l = [.int k n] ∧ (Lit.int k n).wf = true := by cases h with | int _ n hn => exact ⟨n, rfl, hn⟩
theorem shb_bool {w : World} {l : List Value} (h : HasSh w .bool l) : ∃ b, l = [.bool b] := by cases h with | bool b => exact ⟨b, rfl⟩
theorem shb_str {w : World} {l : List Value} (h : HasSh w .str l) : ∃ s : List UInt8, l = [str s] ∧ s.length ≤ maxLen := by
  cases h with
  | str s hs => exact ⟨s.data.toList, by simp [str], by simpa using hs⟩
theorem i64_wf {n : Int} (h : (Lit.int .i64 n).wf = true) : -9223372036854775808 ≤ n ∧ n ≤ 9223372036854775807 := by
  simp [Lit.wf, IntKind.min, IntKind.max, IntKind.signed, IntKind.bits] at h
  omega
theorem u64_wf {n : Int} (h : (Lit.int .u64 n).wf = true) : 0 ≤ n ∧ n ≤ 18446744073709551615 := by
  simp [Lit.wf, IntKind.min, IntKind.max, IntKind.signed, IntKind.bits] at h
  omega
/-- The elements of a slice that can be read. -/
theorem slice_of_sh {α : Type} {f : α → List Value} {P : α → Prop} {w : World} {size : Nat} {e : Sh} (hd : ∀ cs, HasSh w e cs → ∃ x, cs = f x ∧ P x) {v : Value} (h : HasSh w (.slice size e) [v]) : ∃ xs : List α, SlT w f size v xs ∧ ∀ x ∈ xs, P x := by
  cases h with
  | slice size e sa n cap xss hl h1 h2 h3 h4 hr =>
    have key : ∀ (xss : List (List Value)), (∀ x ∈ xss, HasSh w e x) → ∃ xs : List α, xss.flatten = xs.flatMap f ∧ xss.length = xs.length ∧ ∀ x ∈ xs, P x := by
      intro xss
      induction xss with
      | nil => exact fun _ => ⟨[], rfl, rfl, by simp⟩
      | cons c r ih =>
        intro hx
        obtain ⟨xs, e1, e2, e3⟩ := ih fun x hx' => hx x (by simp [hx'])
        obtain ⟨m, rfl, hm⟩ := hd c (hx c (by simp))
        refine ⟨m :: xs, by simp [e1], by simp [e2], ?_⟩
        intro z hz
        rcases List.mem_cons.1 hz with rfl | hz
        · exact hm
        · exact e3 z hz
    obtain ⟨xs, e1, e2, e3⟩ := key xss h2
    refine ⟨xs, ?_, e3⟩
    unfold SlT
    rw [← e1, ← e2, hl]; exact hr
end Go.Proofs.Ytdlihlfknedpfaa
