/- A row of structs told by its cells, and the same row behind slices.SortFunc. -/
import Derived.Shelf.GgSortFunc.InsertionK
import Derived.Test.YteapeglolkfimaaKdF
namespace Go.Proofs.Yteapeglolkfimaa.SrK
open Go Go.RowKit Go.Lib Go.Sort Go.Proofs Go.Proofs.Yteapeglolkfimaa.KdF
set_option linter.unusedVariables false
set_option linter.unusedSimpArgs false
variable {α : Type} [Inhabited α]

theorem flat_get {f : α → List Value} {k : Nat} (hf : ∀ x, (f x).length = k) : ∀ (ds : List α) (t : Nat), t < ds.length * k → (ds.flatMap f)[t]? = (f (ds.getD (t / k) default))[t % k]?
  | [], t, h => by simp at h
  | x :: ds, t, h => by
    have hk : 0 < k := by rcases Nat.eq_zero_or_pos k with e | e; · subst e; simp at h
                          exact e
    rw [List.flatMap_cons]
    by_cases ht : t < k
    · rw [List.getElem?_append_left (by rw [hf]; exact ht), Nat.div_eq_of_lt ht, Nat.mod_eq_of_lt ht]; rfl
    · obtain ⟨q, rfl⟩ : ∃ q, t = q + k := ⟨t - k, by omega⟩
      rw [List.getElem?_append_right (by rw [hf]; omega), hf, Nat.add_sub_cancel, flat_get hf ds q (by rw [List.length_cons, Nat.add_mul, Nat.one_mul] at h; omega), Nat.add_div_right _ hk, Nat.add_mod_right]
      rfl
theorem flatK_list {f : α → List Value} {k : Nat} (hf : ∀ x, (f x).length = k) (ds : List α) : (flatK f k ds.toArray).toList = ds.flatMap f := by
  apply List.ext_getElem?
  intro t
  by_cases ht : t < ds.length * k
  · have hk : 0 < k := by rcases Nat.eq_zero_or_pos k with e | e; · subst e; simp at ht
                          exact e
    have hd : t / k < ds.length := (Nat.div_lt_iff_lt_mul hk).2 ht
    have hm : t % k < (f ds[t / k]).length := by rw [hf]; exact Nat.mod_lt _ hk
    rw [flat_get hf ds t ht, Array.getElem?_toList, List.getD_eq_getElem?_getD, List.getElem?_eq_getElem hd, Option.getD_some, List.getElem?_eq_getElem hm]
    have hs : t < (flatK f k ds.toArray).size := by simpa using ht
    rw [Array.getElem?_eq_getElem hs]
    have := get_flatK f k ds.toArray t (by simpa using ht)
    rw [getElem!_pos _ t hs] at this
    rw [this, getElem!_pos ds.toArray _ (by simpa using hd)]
    simp [getElem!_pos, hm]
  · rw [List.getElem?_eq_none (by simp; omega), List.getElem?_eq_none (by rw [flat_length hf]; omega)]
section
variable {f : α → List Value} {k : Nat} (hf : ∀ x, (f x).length = k)
include hf
theorem holds_of_own {w : World} {base g e n cap : Nat} {ds : List α} (h : w.ownsRow base e k (.slice (some ⟨g, 0, none⟩) n cap) n (ds.flatMap f)) (hn : n = ds.length) (h0 : 0 < n) :
    base ≤ g ∧ g < w.heap.size ∧ HoldsK f k w g 0 ds.toArray ∧ n ≤ cap := by
  rcases h.2 with ⟨e1, _⟩ | ⟨g', cap', cur, e1, hb, hg, h1, h2, h3, h4⟩
  · cases e1
  · cases e1
    refine ⟨hb, (Array.getElem?_eq_some_iff.1 hg).1, fun j hj => ?_, h1⟩
    have hj' : j < ds.length * k := by simpa using hj
    refine ⟨?_, by simp [World.frozen?, hg]⟩
    have e4 : (cur.toList.take (n * k))[j]? = (ds.flatMap f)[j]? := by rw [h4]
    rw [List.getElem?_take_of_lt (by rw [hn]; exact hj'), ← flatK_list hf ds] at e4
    simp only [World.cell?, hg, Nat.zero_add]
    simp only [Option.isSome_none, Bool.false_eq_true, if_false]
    rw [← Array.getElem?_toList, e4, Array.getElem?_toList, Array.getElem?_eq_getElem (by simpa using hj'), getElem!_pos _ j (by simpa using hj')]
    rfl
theorem own_of_sorted {w : World} {base g e n cap m : Nat} {os : Array Obj} {ds ts : List α} (h : w.ownsRow base e k (.slice (some ⟨g, 0, none⟩) n cap) n (ds.flatMap f)) (hn : n = ts.length) :
    (sortWorldK f k w g 0 m ts.toArray os).ownsRow base e k (.slice (some ⟨g, 0, none⟩) n cap) n (ts.flatMap f) ∧ w.grownBy (sortWorldK f k w g 0 m ts.toArray os) (some g) := by
  have hgr : w.grownBy (sortWorldK f k w g 0 m ts.toArray os) (some g) := by
    refine ⟨rfl, rfl, rfl, by simp [sortWorldK, putRowK], fun j hj hne => ?_⟩
    unfold sortWorldK putRowK
    rw [heap_grow_old _ _ (by simpa using hj)]
    have : g ≠ j := fun e => hne (by rw [e])
    simp [putRow, mapBlock, Sort.ahead, Array.getElem?_modify, this]
  refine ⟨?_, hgr⟩
  rcases h.2 with ⟨e1, _⟩ | ⟨g', cap', cur, e1, hb, hg, h1, h2, h3, h4⟩
  · cases e1
  · cases e1
    have hgs : g < w.heap.size := (Array.getElem?_eq_some_iff.1 hg).1
    have hheap : (sortWorldK f k w g 0 m ts.toArray os).heap[g]? = some (.cells (putCells id 0 (flatK f k ts.toArray) cur) e (0, 0)) := by
      unfold sortWorldK putRowK
      rw [heap_grow_old _ _ (by simpa using hgs)]
      simp [putRow, mapBlock, Sort.ahead, Array.getElem?_modify, hg, onCells]
    have hle : ts.length * k ≤ cur.size := by rw [h3, ← hn]; exact Nat.mul_le_mul_right _ h1
    refine ⟨by rw [flat_length hf, hn], .inr ⟨g, cap, _, rfl, hb, hheap, h1, h2, by simp [putCells, h3], ?_⟩⟩
    rw [hn, ← flatK_list hf ts]
    apply List.ext_getElem?
    intro j
    by_cases hj : j < ts.length * k
    · rw [List.getElem?_take_of_lt hj, Array.getElem?_toList, Array.getElem?_toList]
      simp [putCells, hj, show j < cur.size by omega]
    · rw [List.getElem?_take_eq_none (by omega), List.getElem?_eq_none (by simp; omega)]
end
theorem grown_sorted (f : α → List Value) (k : Nat) (w : World) (g m : Nat) (dk : Array α) (os : Array Obj) : w.grownBy (sortWorldK f k w g 0 m dk os) (some g) := by
  refine ⟨rfl, rfl, rfl, by simp [sortWorldK, putRowK], fun j hj hne => ?_⟩
  unfold sortWorldK putRowK
  rw [heap_grow_old _ _ (by simpa using hj)]
  have : g ≠ j := fun e => hne (by rw [e])
  simp [putRow, mapBlock, Sort.ahead, Array.getElem?_modify, this]
theorem perm_of {d d' : Array α} (h : PermIn 0 d.size d d') : d'.toList.Perm d.toList := by
  have h3 := h.2.2
  have e1 : d'.extract 0 d.size = d' := by rw [← h.1]; exact Array.extract_size
  rw [e1, Array.extract_size] at h3
  exact h3
theorem sorted_of {lt : α → α → Bool} {d : Array α} {n : Nat} (hn : n = d.size) (h : SortedIn lt 0 n d) : d.toList.Pairwise fun x y => lt y x = false := by
  rw [List.pairwise_iff_getElem]
  intro i j hi hj hij
  have := h i j (Nat.zero_le _) hij (by rw [hn]; simpa using hj)
  simpa [getElem!_pos, show i < d.size by simpa using hi, show j < d.size by simpa using hj] using this
end Go.Proofs.Yteapeglolkfimaa.SrK
