/- Decimal strings: what gwei.Parse and its reference find. Plain. -/
import Derived.Lib.ItoaNum
import Derived.Lib.ParseIntBCases
namespace Go.Proofs.YthogepcblloaiaaDoor
set_option linter.unusedVariables false
set_option linter.unusedSimpArgs false
def pGo (acc : Nat) : List UInt8 → Option Nat
  | [] => some acc
  | c :: r => if 48 ≤ c.toNat ∧ c.toNat ≤ 57 then (if (18446744073709551615 - (c.toNat - 48)) / 10 < acc then none else pGo (10 * acc + (c.toNat - 48)) r) else none
def pU (s : List UInt8) : Option Nat := if s = [] ∨ (2 ≤ s.length ∧ s.head? = some 48) then none else pGo 0 s
def okOf {α : Type} : Lib.NumEnd α → Option α
  | .ok v => some v
  | _ => none
theorem pGo_eq : ∀ (l : List UInt8) (acc : Nat), pGo acc l = okOf (Lib.parseUint10 acc l)
  | [], acc => rfl
  | c :: r, acc => by
    simp only [pGo, Lib.parseUint10]
    split
    · rename_i h
      by_cases h1 : (18446744073709551615 - (c.toNat - 48)) / 10 < acc
      · rw [if_pos h1]
        split
        · rfl
        · rw [if_pos (by omega)]; rfl
      · rw [if_neg h1, if_neg (by omega), if_neg (by omega), pGo_eq r, Nat.mul_comm]
    · rfl
theorem decDigits_snoc {a d : Nat} (h : 1 ≤ a) (hd : d < 10) : Lib.decDigits (a * 10 + d) = Lib.decDigits a ++ [UInt8.ofNat (48 + d)] := by
  conv => lhs; rw [Lib.decDigits]
  rw [dif_neg (by omega), show (a * 10 + d) / 10 = a by omega, show (a * 10 + d) % 10 = d by omega]
theorem u8_of {c : UInt8} (h : 48 ≤ c.toNat ∧ c.toNat ≤ 57) : UInt8.ofNat (48 + (c.toNat - 48)) = c := by
  rw [show 48 + (c.toNat - 48) = c.toNat by omega]; simp
theorem parse_dec : ∀ (l : List UInt8) (acc u : Nat), 1 ≤ acc → Lib.parseUint10 acc l = .ok u → Lib.decDigits u = Lib.decDigits acc ++ l
  | [], acc, u, _, h => by
    simp only [Lib.parseUint10] at h
    injection h with h
    simp [h]
  | c :: r, acc, u, ha, h => by
    simp only [Lib.parseUint10] at h
    split at h
    · rename_i hc
      split at h
      · cases h
      · split at h
        · cases h
        · rw [parse_dec r _ u (by omega) h, decDigits_snoc ha (by omega), u8_of hc]; simp
    · cases h
/-- No numeral of two digits or more begins with 0. -/
theorem dec_head (u : Nat) : 2 ≤ (Lib.decDigits u).length → (Lib.decDigits u).head? ≠ some 48 := by
  induction u using Nat.strongRecOn with
  | _ u ih =>
    intro h
    have key : ∀ d, d < 10 → 1 ≤ d → UInt8.ofNat (48 + d) ≠ 48 := by decide
    rw [Lib.decDigits] at h ⊢
    split at h
    · simp at h
    · rename_i hu
      rw [dif_neg hu]
      have ih := ih (u / 10) (by omega)
      by_cases h10 : u / 10 < 10
      · rw [Lib.decDigits, dif_pos h10]
        intro hh
        exact key _ h10 (by omega) (Option.some.inj hh)
      · have h2 : 2 ≤ (Lib.decDigits (u / 10)).length := by
          rw [Lib.decDigits, dif_neg h10]
          have : 1 ≤ (Lib.decDigits (u / 10 / 10)).length := by
            rw [Lib.decDigits]; split <;> simp
          simp; omega
        have := ih h2
        cases hd : Lib.decDigits (u / 10) with
        | nil => rw [hd] at h2; simp at h2
        | cons c r => rw [hd] at this; simpa using this
theorem dec_ne (u : Nat) : Lib.decDigits u ≠ [] := by rw [Lib.decDigits]; split <;> simp
/-- What the program's Parse finds. -/
theorem pU_parse (s : List UInt8) : pU s = (match Lib.parseUintB 64 s with | .ok u => if Lib.decDigits u = s then some u else none | _ => none) := by
  rw [Lib.parseUintB_64]
  unfold pU Lib.parseMag
  cases s with
  | nil => simp
  | cons c r =>
    simp only [List.cons_ne_nil, false_or, if_false, List.head?_cons]
    by_cases h0 : 2 ≤ (c :: r).length ∧ some c = some (48 : UInt8)
    · rw [if_pos h0]
      split
      · rename_i u hu
        rw [if_neg]
        intro he
        have := dec_head u (by rw [he]; exact h0.1)
        rw [he] at this
        exact this h0.2
      · rfl
    · rw [if_neg h0, pGo_eq]
      by_cases hc : 48 ≤ c.toNat ∧ c.toNat ≤ 57
      · by_cases hz : c = 48
        · subst hz
          have : r = [] := by
            cases r with
            | nil => rfl
            | cons d r => exact absurd ⟨by simp, rfl⟩ h0
          subst this
          have e : Lib.parseUint10 0 [48] = .ok 0 := by rfl
          have e2 : Lib.decDigits 0 = [48] := by rw [Lib.decDigits, dif_pos (by omega)]; rfl
          rw [e]
          simp [okOf, e2]
        · have h1 : 1 ≤ c.toNat - 48 := by
            rcases Nat.eq_or_lt_of_le hc.1 with h | h
            · exfalso; apply hz
              have := u8_of hc
              rw [← h] at this; exact this.symm
            · omega
          have e : Lib.parseUint10 0 (c :: r) = Lib.parseUint10 (c.toNat - 48) r := by
            simp only [Lib.parseUint10]
            rw [if_pos hc, if_neg (by omega), if_neg (by omega)]
            simp
          rw [e]
          cases h : Lib.parseUint10 (c.toNat - 48) r with
          | ok u =>
            have := parse_dec r _ u h1 h
            rw [show Lib.decDigits (c.toNat - 48) = [c] from by rw [Lib.decDigits, dif_pos (by omega), u8_of hc]] at this
            simp [okOf, this]
          | _ => rfl
      · simp only [Lib.parseUint10]
        rw [if_neg hc]; rfl
theorem parse_app : ∀ (l : List UInt8) (acc u : Nat) (c : UInt8), Lib.parseUint10 acc l = .ok u → 48 ≤ c.toNat ∧ c.toNat ≤ 57 → u * 10 + (c.toNat - 48) < 18446744073709551616 → Lib.parseUint10 acc (l ++ [c]) = .ok (u * 10 + (c.toNat - 48))
  | [], acc, u, c, h, hc, hu => by
    simp only [Lib.parseUint10] at h
    injection h with h
    subst h
    simp only [List.nil_append, Lib.parseUint10]
    rw [if_pos hc, if_neg (by omega), if_neg (by omega)]
  | d :: r, acc, u, c, h, hc, hu => by
    simp only [List.cons_append, Lib.parseUint10] at h ⊢
    split at h
    · rename_i hd
      rw [if_pos hd]
      split at h
      · cases h
      · rename_i h1
        rw [if_neg h1]
        split at h
        · cases h
        · rename_i h2
          rw [if_neg h2]
          exact parse_app r _ u c h hc hu
    · cases h
theorem parse_of_dec (a : Nat) : a < 18446744073709551616 → Lib.parseUint10 0 (Lib.decDigits a) = .ok a := by
  induction a using Nat.strongRecOn with
  | _ a ih =>
    intro ha
    have key : ∀ d, d < 10 → (48 ≤ (UInt8.ofNat (48 + d)).toNat ∧ (UInt8.ofNat (48 + d)).toNat ≤ 57) ∧ (UInt8.ofNat (48 + d)).toNat - 48 = d := by decide
    rw [Lib.decDigits]
    split
    · rename_i h
      simp only [Lib.parseUint10]
      rw [if_pos (key a h).1, if_neg (by omega), (key a h).2, if_neg (by omega)]
      simp
    · rename_i h
      have := parse_app _ 0 (a / 10) (UInt8.ofNat (48 + a % 10)) (ih (a / 10) (by omega) (by omega)) (key _ (by omega)).1 (by rw [(key (a % 10) (by omega)).2]; omega)
      rw [this, (key (a % 10) (by omega)).2]
      congr 1; omega
theorem pU_dec (a : Nat) (ha : a < 18446744073709551616) : pU (Lib.decDigits a) = some a := by
  unfold pU
  rw [if_neg, pGo_eq, parse_of_dec a ha]; · rfl
  rintro (h | ⟨h1, h2⟩)
  · exact dec_ne a h
  · exact dec_head a h1 h2
theorem pU_lt {s : List UInt8} {u : Nat} (h : pU s = some u) : u < 18446744073709551616 ∧ Lib.decDigits u = s := by
  rw [pU_parse] at h
  split at h
  · rename_i v hv
    split at h
    · rename_i he
      injection h with h
      subst h
      have := Lib.parseUintB_le hv
      exact ⟨by omega, he⟩
    · cases h
  · cases h
end Go.Proofs.YthogepcblloaiaaDoor
