/- Plain lemmas on whole numbers and lists; nothing of the program. -/
import Derived.Test.YteapeglolkfimaaWMore
namespace Go.Proofs.Yteapeglolkfimaa.Aid
open Go.RowKit Go.Proofs.YteapeglolkfimaaW.PrintWords Go.Proofs.YteapeglolkfimaaW.PrintLast Go.Proofs.YteapeglolkfimaaW.PrintMore
set_option linter.unusedVariables false
set_option linter.unusedSimpArgs false

theorem w64 {n : Int} (h0 : -9223372036854775808 ≤ n) (h1 : n ≤ 9223372036854775807) : wrap64 n = n := by unfold wrap64; omega
theorem rd_nat {l : List Int} {i : Nat} (h : i < l.length) : rd l (i : Int) = l[i] := by
  simp [rd, List.getD_eq_getElem?_getD, h]
theorem rd_out {l : List Int} {i : Nat} (h : l.length ≤ i) : rd l (i : Int) = 0 := by
  simp [rd, List.getD_eq_getElem?_getD, List.getElem?_eq_none h]
theorem mn_min (a b : Int) : mn a b = min a b := by unfold mn; omega
theorem mx_max (a b : Int) : mx a b = max a b := by unfold mx; omega
theorem take_snoc {α : Type} (l : List α) (i : Nat) (h : i < l.length) : l.take (i + 1) = l.take i ++ [l[i]] := by
  rw [List.take_succ_eq_append_getElem h]
theorem set_take {α : Type} (l : List α) (i : Nat) (v : α) (h : i < l.length) : (l.set i v).take (i + 1) = l.take i ++ [v] := by
  rw [take_snoc _ _ (by simpa using h), List.take_set_of_le (Nat.le_refl _)]; simp
theorem sum_snoc (l : List Int) (x : Int) : (l ++ [x]).sum = l.sum + x := by simp
theorem sum_bd {l : List Int} {M : Int} (h : ∀ x ∈ l, 0 ≤ x ∧ x ≤ M) : 0 ≤ l.sum ∧ l.sum ≤ M * l.length := by
  induction l with
  | nil => simp
  | cons x l ih =>
    have h1 := h x (by simp)
    have h2 := ih fun y hy => h y (by simp [hy])
    simp only [List.sum_cons, List.length_cons]
    refine ⟨by omega, ?_⟩
    rw [show ((l.length + 1 : Nat) : Int) = (l.length : Int) + 1 from by omega, Int.mul_add]
    omega
theorem sum_bd' {l : List Int} {M : Int} {n : Nat} (hM : 0 ≤ M) (hn : l.length ≤ n) (h : ∀ x ∈ l, 0 ≤ x ∧ x ≤ M) : 0 ≤ l.sum ∧ l.sum ≤ M * n := by
  have h1 := sum_bd h
  have h2 : M * (l.length : Int) ≤ M * (n : Int) := Int.mul_le_mul_of_nonneg_left (by omega) hM
  exact ⟨h1.1, by omega⟩
theorem sum_mono {α : Type} (l : List α) (f g : α → Int) (h : ∀ x ∈ l, f x ≤ g x) : (l.map f).sum ≤ (l.map g).sum := by
  induction l with
  | nil => simp
  | cons x l ih =>
    have h1 := h x (by simp)
    have h2 := ih fun y hy => h y (by simp [hy])
    simp only [List.map_cons, List.sum_cons]; omega
theorem mem_take {α : Type} {l : List α} {i : Nat} {x : α} (h : x ∈ l.take i) : x ∈ l := List.mem_of_mem_take h

/-- The binary search of package sort. -/
def bs (p : Int → Bool) : Nat → Int → Int → Int
  | 0, i, _ => i
  | k + 1, i, j => if i < j then (if p ((i + j) / 2) = true then bs p k i ((i + j) / 2) else bs p k ((i + j) / 2 + 1) j) else i
theorem bs_done (p : Int → Bool) (k : Nat) (i j : Int) (h : ¬ i < j) : bs p k i j = i := by
  cases k with
  | zero => rfl
  | succ k => simp [bs, h]
/-- What the search finds: a place behind which the predicate turns. -/
theorem bs_spec (p : Int → Bool) (n : Int) : ∀ (k : Nat) (i j : Int), 0 ≤ i → i ≤ j → j ≤ n → j - i < 2 ^ k → (0 < i → p (i - 1) = false) → (j < n → p j = true) →
    i ≤ bs p k i j ∧ bs p k i j ≤ j ∧ (0 < bs p k i j → p (bs p k i j - 1) = false) ∧ (bs p k i j < n → p (bs p k i j) = true) := by
  intro k
  induction k with
  | zero =>
    intro i j h0 h1 h2 h3 h4 h5
    have : i = j := by simp at h3; omega
    subst this
    exact ⟨Int.le_refl _, h1, h4, h5⟩
  | succ k ih =>
    intro i j h0 h1 h2 h3 h4 h5
    rw [Int.pow_succ] at h3
    by_cases hlt : i < j
    · simp only [bs, if_pos hlt]
      by_cases hp : p ((i + j) / 2) = true
      · rw [if_pos hp]
        have := ih i ((i + j) / 2) h0 (by omega) (by omega) (by omega) h4 (fun _ => hp)
        exact ⟨this.1, by omega, this.2.2⟩
      · rw [if_neg hp]
        have := ih ((i + j) / 2 + 1) j (by omega) (by omega) h2 (by omega) (fun _ => by rw [show (i + j) / 2 + 1 - 1 = (i + j) / 2 from by omega]; simpa using hp) h5
        exact ⟨by omega, this.2.1, this.2.2⟩
    · have : i = j := by omega
      subst this
      simp only [bs, if_neg hlt]
      exact ⟨Int.le_refl _, h1, h4, h5⟩
end Go.Proofs.Yteapeglolkfimaa.Aid
