/- Plain lemmas on lists of strings: sorted, without repetition; nothing of the program. -/
import Derived.Sort.Walk0
import Derived.Lib.SlicesCompact
namespace Go.Proofs.Ytbmochegfdljfaa.Srt
open Go.Lib
set_option linter.unusedVariables false
set_option linter.unusedSimpArgs false

abbrev Str := List UInt8
theorem lt_irr (a : Str) : ¬ a < a := List.lt_irrefl a
theorem lt_tr {a b c : Str} (h : a < b) (k : b < c) : a < c := List.lt_trans h k
theorem lt_as {a b : Str} (h : a < b) : ¬ b < a := fun k => lt_irr _ (lt_tr h k)
theorem tri (a b : Str) : a < b ∨ a = b ∨ b < a := by
  by_cases h : a < b
  · exact .inl h
  · by_cases k : b < a
    · exact .inr (.inr k)
    · exact .inr (.inl (List.le_antisymm (List.not_lt.1 k) (List.not_lt.1 h)))
theorem lt_or_eq {a b : Str} (h : a ≤ b) : a < b ∨ a = b := by
  rcases tri a b with k | k | k
  · exact .inl k
  · exact .inr k
  · exact absurd k (List.not_lt.2 h)
theorem le_of {a b : Str} (h : a < b ∨ a = b) : a ≤ b := by
  rw [← List.not_lt]
  rcases h with h | rfl
  · exact lt_as h
  · exact lt_irr _
theorem sorted_ext : ∀ {l m : List Str}, l.Pairwise (· < ·) → m.Pairwise (· < ·) → (∀ x, x ∈ l ↔ x ∈ m) → l = m
  | [], [], _, _, _ => rfl
  | [], y :: m, _, _, h => absurd ((h y).2 (by simp)) (by simp)
  | x :: l, [], _, _, h => absurd ((h x).1 (by simp)) (by simp)
  | x :: l, y :: m, hl, hm, h => by
    rw [List.pairwise_cons] at hl hm
    have hxy : x = y := by
      rcases List.mem_cons.1 ((h x).1 (by simp)) with e | e
      · exact e
      · rcases List.mem_cons.1 ((h y).2 (by simp)) with e' | e'
        · exact e'.symm
        · exact absurd (hm.1 x e) (lt_as (hl.1 y e'))
    subst hxy
    congr 1
    refine sorted_ext hl.2 hm.2 (fun z => ⟨fun hz => ?_, fun hz => ?_⟩)
    · rcases List.mem_cons.1 ((h z).1 (by simp [hz])) with e | e
      · subst e; exact absurd (hl.1 z hz) (lt_irr z)
      · exact e
    · rcases List.mem_cons.1 ((h z).2 (by simp [hz])) with e | e
      · subst e; exact absurd (hm.1 z hz) (lt_irr z)
      · exact e
/-- Of a sorted list 'compact' leaves a strictly sorted one of the same elements. -/
theorem compactUpTo_spec {d : Array Str} (hd : ∀ i j, i < j → j < d.size → d[i]! ≤ d[j]!) : ∀ m, m ≤ d.size →
    (compactUpTo d m).Pairwise (· < ·) ∧ (∀ x, x ∈ compactUpTo d m ↔ ∃ j, j < m ∧ d[j]! = x)
  | 0, _ => ⟨by simp [compactUpTo], fun x => by simp [compactUpTo]⟩
  | m + 1, hm => by
    obtain ⟨h1, h2⟩ := compactUpTo_spec hd m (by omega)
    rw [compactUpTo_succ]
    by_cases hk : keeps d m = true
    · rw [if_pos hk]
      refine ⟨?_, fun x => ?_⟩
      · rw [List.pairwise_append]
        refine ⟨h1, by simp, fun x hx y hy => ?_⟩
        obtain rfl := List.mem_singleton.1 hy
        obtain ⟨j, hj, rfl⟩ := (h2 x).1 hx
        have hne : d[m]! ≠ d[m - 1]! := by
          have hk' := of_decide_eq_true hk
          rcases hk' with h | h
          · omega
          · exact h
        have hle : d[j]! ≤ d[m - 1]! := by
          by_cases e : j = m - 1
          · subst e; exact le_of (.inr rfl)
          · exact hd j (m - 1) (by omega) (by omega)
        have hlt : d[m - 1]! < d[m]! := by
          rcases lt_or_eq (hd (m - 1) m (by omega) (by omega)) with h | h
          · exact h
          · exact absurd h.symm hne
        rcases lt_or_eq hle with h | h
        · exact lt_tr h hlt
        · rw [h]; exact hlt
      · rw [List.mem_append, h2, List.mem_singleton]
        constructor
        · rintro (⟨j, hj, e⟩ | e)
          · exact ⟨j, by omega, e⟩
          · exact ⟨m, by omega, e.symm⟩
        · rintro ⟨j, hj, e⟩
          by_cases ej : j = m
          · subst ej; exact .inr e.symm
          · exact .inl ⟨j, by omega, e⟩
    · rw [if_neg hk, List.append_nil]
      refine ⟨h1, fun x => ?_⟩
      rw [h2]
      have hm0 : m ≠ 0 ∧ d[m]! = d[m - 1]! := by
        have : ¬ (m = 0 ∨ d[m]! ≠ d[m - 1]!) := fun h => hk (decide_eq_true h)
        exact ⟨fun h => this (.inl h), Classical.not_not.1 fun h => this (.inr h)⟩
      constructor
      · rintro ⟨j, hj, e⟩; exact ⟨j, by omega, e⟩
      · rintro ⟨j, hj, e⟩
        by_cases ej : j = m
        · subst ej; exact ⟨j - 1, by omega, by rw [← hm0.2]; exact e⟩
        · exact ⟨j, by omega, e⟩
theorem compact_spec {zs : List Str} (h : zs.Pairwise (· ≤ ·)) : (compact zs).Pairwise (· < ·) ∧ ∀ x, x ∈ compact zs ↔ x ∈ zs := by
  have hd : ∀ i j, i < j → j < zs.toArray.size → zs.toArray[i]! ≤ zs.toArray[j]! := fun i j hij hj => by
    have hj' : j < zs.length := by simpa using hj
    have := List.pairwise_iff_getElem.1 h i j (by omega) hj' hij
    simpa [getElem!_pos, hj', show i < zs.length by omega] using this
  obtain ⟨h1, h2⟩ := compactUpTo_spec hd zs.length (by simp)
  refine ⟨h1, fun x => ?_⟩
  show x ∈ compactUpTo zs.toArray zs.length ↔ _
  rw [h2, List.mem_iff_getElem]
  constructor
  · rintro ⟨j, hj, e⟩; exact ⟨j, hj, by simpa [getElem!_pos, hj] using e⟩
  · rintro ⟨j, hj, e⟩; exact ⟨j, hj, by simpa [getElem!_pos, hj] using e⟩
theorem sort_spec (zs : List Str) : (zs.mergeSort fun x y => decide (x ≤ y)).Pairwise (· ≤ ·) ∧ ∀ x, x ∈ (zs.mergeSort fun x y => decide (x ≤ y)) ↔ x ∈ zs := by
  refine ⟨?_, fun x => (List.mergeSort_perm zs _).mem_iff⟩
  have := List.pairwise_mergeSort (le := fun x y : Str => decide (x ≤ y)) (fun a b c h k => by
      have h := of_decide_eq_true h; have k := of_decide_eq_true k
      exact decide_eq_true (List.le_trans h k)) (fun a b => by
      rcases tri a b with h | h | h
      · simp [le_of (.inl h)]
      · simp [le_of (.inr h)]
      · simp [le_of (a := b) (.inl h)]) zs
  exact this.imp (fun h => of_decide_eq_true h)
end Go.Proofs.Ytbmochegfdljfaa.Srt
