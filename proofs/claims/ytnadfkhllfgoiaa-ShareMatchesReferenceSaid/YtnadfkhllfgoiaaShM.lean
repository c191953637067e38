/- The mathematics of fair divisions: plain lists of whole numbers; nothing of the program. -/
import Derived.Test.YtnadfkhllfgoiaaAid
namespace Go.Proofs.Ytnadfkhllfgoiaa.ShM
open Go.Proofs.Ytnadfkhllfgoiaa.Aid
set_option linter.unusedVariables false
set_option linter.unusedSimpArgs false

def at_ (l : List Int) (i : Nat) : Int := l.getD i 0
theorem at_lt {l : List Int} {i : Nat} (h : i < l.length) : at_ l i = l[i] := by simp [at_, List.getD_eq_getElem?_getD, h]
theorem at_zero (x : Int) (l : List Int) : at_ (x :: l) 0 = x := rfl
theorem at_succ (x : Int) (l : List Int) (i : Nat) : at_ (x :: l) (i + 1) = at_ l i := by simp [at_]
theorem sum_le {a b : List Int} (hl : a.length = b.length) (h : ∀ i, i < a.length → at_ a i ≤ at_ b i) : a.sum ≤ b.sum := by
  induction a generalizing b with
  | nil => cases b with | nil => simp | cons y b => simp at hl
  | cons x a ih =>
    cases b with
    | nil => simp at hl
    | cons y b =>
      have h0 := h 0 (by simp)
      have h1 := ih (b := b) (by simpa using hl) fun i hi => by have := h (i + 1) (by simpa using hi); simpa [at_succ] using this
      simp only [at_zero] at h0
      simp only [List.sum_cons]; omega
theorem sum_lt {a b : List Int} (hl : a.length = b.length) (h : ∀ i, i < a.length → at_ a i ≤ at_ b i) (j : Nat) (hj : j < a.length) (hlt : at_ a j < at_ b j) : a.sum < b.sum := by
  induction a generalizing b j with
  | nil => simp at hj
  | cons x a ih =>
    cases b with
    | nil => simp at hl
    | cons y b =>
      have h0 := h 0 (by simp)
      have hs : ∀ i, i < a.length → at_ a i ≤ at_ b i := fun i hi => by have := h (i + 1) (by simpa using hi); simpa [at_succ] using this
      have h1 := sum_le (b := b) (by simpa using hl) hs
      simp only [at_zero] at h0
      simp only [List.sum_cons]
      cases j with
      | zero => simp only [at_zero] at hlt; omega
      | succ j =>
        have := ih (b := b) (by simpa using hl) hs j (by simpa using hj) (by simpa [at_succ] using hlt)
        omega
/-- Where one entry is more and the sum is not, another is less. -/
theorem other_less {a b : List Int} (hl : a.length = b.length) (hs : a.sum ≤ b.sum) {i : Nat} (hi : i < a.length) (h : at_ b i < at_ a i) : ∃ k, k < a.length ∧ at_ a k < at_ b k := by
  rcases Classical.em (∃ k, k < a.length ∧ at_ a k < at_ b k) with hk | hk
  · exact hk
  · have h2 := sum_lt (a := b) (b := a) hl.symm (fun j hj => Int.not_lt.1 fun hlt => hk ⟨j, by omega, hlt⟩) i (by omega) h
    omega
theorem ext_at {a b : List Int} (hl : a.length = b.length) (h : ∀ i, i < a.length → at_ a i = at_ b i) : a = b := by
  apply List.ext_getElem hl
  intro i h1 h2
  have := h i h1
  rwa [at_lt h1, at_lt h2] at this
theorem sum_eq_of_le {a b : List Int} (hl : a.length = b.length) (h : ∀ i, i < a.length → at_ a i ≤ at_ b i) (hs : b.sum ≤ a.sum) : a = b := by
  apply ext_at hl
  intro i hi
  rcases Int.lt_or_le (at_ a i) (at_ b i) with hlt | hle
  · have := sum_lt hl h i hi hlt; omega
  · have := h i hi; omega

/-- The rank of parts: nobody has more than one who is not served, but for a cent, and then by place. -/
def Level (l m : List Int) : Prop := ∀ i k, i < l.length → k < l.length → at_ m k < at_ l k → at_ m i ≤ at_ m k ∨ (at_ m i = at_ m k + 1 ∧ i < k)
structure Fairly (t : Int) (l m : List Int) : Prop where
  len : m.length = l.length
  bd : ∀ i, i < l.length → 0 ≤ at_ m i ∧ at_ m i ≤ at_ l i
  level : Level l m
  sum : m.sum = min t l.sum

theorem cross {l x a c : List Int} {i j : Nat} (hil : i < l.length) (hjl : j < l.length) (hix : i < x.length) (hjx : j < x.length) (ha : Level l a) (hc : Level x c) (h1 : at_ a i < at_ c i) (h2 : at_ a i < at_ l i)
    (h3 : at_ c j < at_ a j) (h4 : at_ c j < at_ x j) : False := by
  have e1 := ha j i hjl hil h2
  have e2 := hc i j hix hjx h4
  omega
theorem Fairly.unique {t : Int} {l m m' : List Int} (h : Fairly t l m) (h' : Fairly t l m') : m = m' := by
  have hl : m.length = m'.length := by rw [h.len, h'.len]
  have hs : m.sum = m'.sum := by rw [h.sum, h'.sum]
  apply ext_at hl
  intro i hi
  have key : ∀ {a b : List Int}, Fairly t l a → Fairly t l b → ∀ i, i < l.length → ¬ at_ a i < at_ b i := by
    intro a b ha hb i hi hlt
    have hl' : b.length = a.length := by rw [ha.len, hb.len]
    obtain ⟨k, hk, hk2⟩ := other_less (a := b) (b := a) hl' (by rw [ha.sum, hb.sum]; exact Int.le_refl _) (by rw [hb.len]; exact hi) hlt
    rw [hb.len] at hk
    have b1 := hb.bd i hi
    have b2 := ha.bd k hk
    exact cross hi hk hi hk ha.level hb.level hlt (by omega) hk2 (by omega)
  have hi' : i < l.length := by rw [← h.len]; exact hi
  have k1 := key h h' i hi'
  have k2 := key h' h i hi'
  omega
theorem Fairly.grows {t t' : Int} {l a b : List Int} (h : Fairly t l a) (h' : Fairly t' l b) (ht : t ≤ t') (i : Nat) (hi : i < l.length) : at_ a i ≤ at_ b i := by
  rcases Int.lt_or_le (at_ b i) (at_ a i) with hlt | hle
  · obtain ⟨k, hk, hk2⟩ := other_less (a := a) (b := b) (by rw [h.len, h'.len]) (by rw [h.sum, h'.sum]; omega) (by rw [h.len]; exact hi) hlt
    rw [h.len] at hk
    have b1 := h.bd i hi
    have b2 := h'.bd k hk
    exact (cross hk hi hk hi h.level h'.level hk2 (by omega) hlt (by omega)).elim
  · exact hle
/-- One claim grows. -/
theorem Fairly.claim {t : Int} {l x a c : List Int} {k : Nat} (h : Fairly t l a) (h' : Fairly t x c) (hx : x.length = l.length) (hk : k < l.length) (hk1 : at_ l k ≤ at_ x k) (ho : ∀ i, i < l.length → i ≠ k → at_ x i = at_ l i) (i : Nat) (hi : i < l.length) :
    (i = k → at_ a i ≤ at_ c i) ∧ (i ≠ k → at_ c i ≤ at_ a i) := by
  have hxl : ∀ j, j < l.length → at_ l j ≤ at_ x j := fun j hj => by
    by_cases e : j = k
    · subst e; exact hk1
    · rw [ho j hj e]; exact Int.le_refl _
  have hS : l.sum ≤ x.sum := sum_le hx.symm hxl
  refine ⟨fun e => ?_, fun e => ?_⟩
  · subst e
    rcases Int.lt_or_le (at_ c i) (at_ a i) with hlt | hle
    · obtain ⟨j, hj, hj2⟩ := other_less (a := a) (b := c) (by rw [h.len, h'.len, hx]) (by rw [h.sum, h'.sum]; omega) (by rw [h.len]; exact hi) hlt
      rw [h.len] at hj
      have b1 := h.bd i hi
      have b2 := h'.bd j (by omega)
      have hne : j ≠ i := fun e => by subst e; omega
      have e2 := ho j hj hne
      exact (cross hj hi (by omega) (by omega) h.level h'.level hj2 (by omega) hlt (by omega)).elim
    · exact hle
  · rcases Int.lt_or_le (at_ a i) (at_ c i) with hlt | hle
    · have b1 := h.bd i hi
      have b2 := h'.bd i (by omega)
      have e2 := ho i hi e
      have hlt2 : a.sum < l.sum := sum_lt h.len (fun j hj => (h.bd j (by rw [← h.len]; exact hj)).2) i (by rw [h.len]; exact hi) (by omega)
      have hle : c.sum ≤ a.sum := by have := h.sum; have := h'.sum; omega
      obtain ⟨j, hj, hj2⟩ := other_less (a := c) (b := a) (by rw [h.len, h'.len, hx]) hle (by rw [h'.len]; omega) hlt
      rw [h'.len] at hj
      have b3 := h.bd j (by omega)
      have b4 := hxl j (by omega)
      exact (cross hi (by omega) (by omega) (by omega) h.level h'.level hlt (by omega) hj2 (by omega)).elim
    · exact hle

/-- A claim that is served with its part, and removed. -/
theorem at_erase (l : List Int) (k i : Nat) : at_ (l.eraseIdx k) i = if i < k then at_ l i else at_ l (i + 1) := by
  unfold at_
  rw [List.getD_eq_getElem?_getD, List.getElem?_eraseIdx]
  split <;> simp [List.getD_eq_getElem?_getD]
theorem sum_erase {l : List Int} {k : Nat} (hk : k < l.length) : (l.eraseIdx k).sum = l.sum - at_ l k := by
  induction l generalizing k with
  | nil => simp at hk
  | cons x l ih =>
    cases k with
    | zero => simp [at_zero]; omega
    | succ k =>
      rw [List.eraseIdx_cons_succ, List.sum_cons, List.sum_cons, at_succ, ih (by simpa using hk)]; omega
theorem Fairly.others {t : Int} {l a : List Int} {k : Nat} (h : Fairly t l a) (hk : k < l.length) : Fairly (t - at_ a k) (l.eraseIdx k) (a.eraseIdx k) := by
  have hll : (l.eraseIdx k).length = l.length - 1 := List.length_eraseIdx_of_lt hk
  have hla : (a.eraseIdx k).length = l.length - 1 := by rw [List.length_eraseIdx_of_lt (by rw [h.len]; exact hk), h.len]
  have hb := h.bd k hk
  refine ⟨by omega, fun i hi => ?_, fun i j hi hj hlt => ?_, ?_⟩
  · rw [at_erase, at_erase]; rw [hll] at hi
    split
    · exact h.bd i (by omega)
    · exact h.bd (i + 1) (by omega)
  · rw [hll] at hi hj
    rw [at_erase, at_erase] at hlt
    rw [at_erase, at_erase]
    by_cases h1 : i < k <;> by_cases h2 : j < k <;> simp only [h1, h2, if_true, if_false] at hlt ⊢
    · exact h.level i j (by omega) (by omega) hlt
    · have := h.level i (j + 1) (by omega) (by omega) hlt; omega
    · have := h.level (i + 1) j (by omega) (by omega) hlt; omega
    · have := h.level (i + 1) (j + 1) (by omega) (by omega) hlt; omega
  · rw [sum_erase (by rw [h.len]; exact hk), sum_erase hk]
    have hs := h.sum
    have hle : a.sum - at_ a k ≤ l.sum - at_ l k := by
      rw [← sum_erase hk, ← sum_erase (l := a) (by rw [h.len]; exact hk)]
      apply sum_le (by omega)
      intro i hi
      rw [hla] at hi
      rw [at_erase, at_erase]
      split
      · exact (h.bd i (by omega)).2
      · exact (h.bd (i + 1) (by omega)).2
    rcases Int.le_total t l.sum with ht | ht
    · rw [Int.min_eq_left ht] at hs
      rw [Int.min_eq_left (by omega)]; omega
    · rw [Int.min_eq_right ht] at hs
      have e : a = l := sum_eq_of_le h.len (fun i hi => (h.bd i (by rw [← h.len]; exact hi)).2) (by omega)
      subst e
      rw [Int.min_eq_right (by omega)]
end Go.Proofs.Ytnadfkhllfgoiaa.ShM
