/- slices.Sort at ints. -/
import Derived.Test.YtdlihlfknedpfaaHist
import Derived.Test.YtdlihlfknedpfaaUt
import Derived.Test.YtdlihlfknedpfaaShelf
namespace Go.Proofs.Ytdlihlfknedpfaa
open Go.RowKit Go.Sort
set_option linter.unusedVariables false
set_option maxRecDepth 100000
set_option linter.unusedSimpArgs false


def sortI (xs : List Int) : List Int := xs.mergeSort fun x y => decide (x ≤ y)
theorem flat_intL (xs : List Int) : xs.flatMap intL = xs.map (Value.int .i64) := by
  induction xs with
  | nil => rfl
  | cons x r ih => simp only [List.flatMap_cons, List.map_cons, ih]; rfl
theorem putRow_heap {w : World} {g : Nat} {c : Array Value} {e : TypeId} {enc : Int → Value} {d : Array Int} {n : Nat} {os : Array Obj} (h : w.heap[g]? = some (.cells c e (0, 0))) :
    (grow (putRow enc (Sort.ahead w n) g 0 d) os).heap[g]? = some (.cells (putCells enc 0 d c) e (0, 0)) := by
  have hs := (Array.getElem?_eq_some_iff.1 h).1
  simp only [grow, putRow, mapBlock, Sort.ahead]
  rw [Array.getElem?_append_left (by simpa using hs), Array.getElem?_modify, if_pos rfl, h]
  rfl
theorem putRow_chg {w : World} {g : Nat} {enc : Int → Value} {d : Array Int} {n : Nat} {os : Array Obj} : Chg [g] w (grow (putRow enc (Sort.ahead w n) g 0 d) os) := by
  refine ⟨rfl, rfl, rfl, ?_, fun k hk hg => ?_⟩
  · simp [grow, putRow, mapBlock, Sort.ahead]
  · simp only [grow, putRow, mapBlock, Sort.ahead]
    rw [Array.getElem?_append_left (by simpa using hk), Array.getElem?_modify, if_neg (by simpa using Ne.symm (by simpa using hg : k ≠ g))]
theorem putCells_take (enc : Int → Value) (d : List Int) (c : Array Value) (h : d.length ≤ c.size) : (putCells enc 0 d.toArray c).toList.take d.length = d.map enc := by
  apply List.ext_getElem?
  intro k
  rw [List.getElem?_take]
  by_cases hk : k < d.length
  · rw [if_pos hk, Array.getElem?_toList]
    simp only [putCells, Array.getElem?_mapIdx, List.getElem?_map]
    rw [Array.getElem?_eq_getElem (by omega), List.getElem?_eq_getElem hk]
    simp only [Option.map_some]
    rw [if_pos ⟨by omega, by simpa using hk⟩]
    simp [hk]
  · rw [if_neg hk]
    rw [List.getElem?_eq_none (by simpa using hk)]
theorem sort_spec (h : SlH) (xs : List Int) (hb : xs.length ≤ 1000000) (R : List Asn) : Spec 10 [sl h] (ownT 3 intL 1 (sl h) xs :: R) fun u L' => u = .tuple #[] ∧ L' = ownT 3 intL 1 (sl h) (sortI xs) :: R := by
  intro G w M
  have M : Mem w (ownT 3 intL 1 (sl h) xs :: (R ++ G)) := M
  obtain ⟨s, hs, _⟩ := M.head
  have hls : (sortI xs).length = xs.length := List.length_mergeSort xs
  rcases hs.2 with ⟨h2, h3, h4⟩ | ⟨g, cap, cur, h2, h8, h3, h4, h5, h6, h7⟩
  · obtain ⟨a, n, c⟩ := h
    simp only [sl, Value.slice.injEq] at h2
    obtain ⟨rfl, rfl, rfl⟩ := h2
    refine (Try.slices_Sort_int_none none 0 w).mono ?_
    rintro e w' ⟨h1, rfl⟩
    have hx : xs = [] := List.eq_nil_of_length_eq_zero h3
    subst hx
    exact ⟨_, _, h1, ⟨rfl, rfl⟩, by rw [show sortI [] = [] by simp [sortI]]; exact M⟩
  · obtain ⟨a, n, c⟩ := h
    simp only [sl, Value.slice.injEq] at h2
    obtain ⟨rfl, rfl, rfl⟩ := h2
    have h4' : xs.length ≤ c := h4
    rw [Nat.mul_one] at h6
    rw [Nat.mul_one, flat_intL] at h7
    have hg := (Array.getElem?_eq_some_iff.1 h3).1
    have hH : Holds (Value.int .i64) w g 0 xs.toArray := fun j hj => by
      have hj : j < xs.length := by simpa using hj
      have hc : cur[j]? = some (.int .i64 xs[j]) := by
        have := congrArg (·[j]?) h7
        simp only [List.getElem?_take, if_pos hj, List.getElem?_map, List.getElem?_eq_getElem hj, Option.map_some, Array.getElem?_toList] at this
        exact this
      refine ⟨?_, by simp [World.frozen?, h3]⟩
      simp [World.cell?, h3, hc, hj]
    refine (Try.slices_Sort_int g 0 c xs w hH hg (by omega)).mono ?_
    rintro e w' ⟨h1, n', os, rfl⟩
    refine ⟨_, _, h1, ⟨rfl, rfl⟩, ?_⟩
    show Mem _ (ownT 3 intL 1 _ (sortI xs) :: (R ++ G))
    refine M.change fun s' hs' => ?_
    obtain ⟨_, h9 | ⟨g2, cap2, cur2, h9, rfl, _⟩⟩ := hs'.now
    · simp at h9
    simp only [Value.slice.injEq, Option.some.injEq, Addr.mk.injEq] at h9
    obtain ⟨⟨rfl, _⟩, _⟩ := h9
    refine ⟨putRow_chg, [g], ?_, fun x hx => .inl hx⟩
    unfold ownT
    rw [show xs.length = (sortI xs).length from hls.symm]
    refine ok_own (by rw [flat_intL, List.length_map, Nat.mul_one]) (putRow_heap h3) (by show (sortI xs).length ≤ c; omega) h5 ?_ ?_
    · simp [putCells, h6]
    · rw [Nat.mul_one, flat_intL]
      exact putCells_take _ _ _ (by omega)
theorem sortI_perm (xs : List Int) : (sortI xs).Perm xs := List.mergeSort_perm xs _
theorem sortI_sorted (xs : List Int) : (sortI xs).Pairwise (· ≤ ·) := by
  have := List.pairwise_mergeSort (le := fun x y : Int => decide (x ≤ y)) (fun a b c h1 h2 => by simp at *; omega) (fun a b => by simp; omega) xs
  exact this.imp (by simp)
end Go.Proofs.Ytdlihlfknedpfaa
