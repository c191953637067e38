/- A row of structs without memory of their own, told by its cells, is a row of the print's, and the other way. -/
import Derived.Test.YteapeglolkfimaaKdX
namespace Go.Proofs.Yteapeglolkfimaa.KdF
open Go.RowKit Go.Proofs.YteapeglolkfimaaW.PrintWords Go.Proofs.YteapeglolkfimaaW.PrintLast Go.Proofs.YteapeglolkfimaaW.PrintMore
set_option linter.unusedVariables false
variable {α : Type}
theorem flat_length {f : α → List Value} {s : Nat} (hf : ∀ x, (f x).length = s) : ∀ xs : List α, (xs.flatMap f).length = xs.length * s
  | [] => by simp
  | x :: xs => by rw [List.flatMap_cons, List.length_append, hf, flat_length hf xs, List.length_cons, Nat.add_mul, Nat.one_mul, Nat.add_comm]
theorem reps_flat {f : α → List Value} {s : Nat} {M : α → List Value → Prop} (hf : ∀ x, (f x).length = s) (hM : ∀ x, M x (f x)) (xs : List α) : Reps M s xs (xs.flatMap f) := by
  have : ∀ n, Reps M s (xs.take n) ((xs.take n).flatMap f) := by
    intro n
    induction n with
    | zero => simpa using Reps.none M s
    | succ n ih =>
      by_cases h : n < xs.length
      · rw [List.take_succ_eq_append_getElem h, List.flatMap_append, List.flatMap_cons, List.flatMap_nil, List.append_nil]
        exact ih.snoc (hM _) (hf _)
      · rw [List.take_of_length_le (by omega)] at ih
        rw [List.take_of_length_le (by omega)]; exact ih
  have h := this xs.length
  rwa [List.take_of_length_le (Nat.le_refl _)] at h
theorem flat_reps {f : α → List Value} {s : Nat} {M : α → List Value → Prop} (hf : ∀ x, (f x).length = s) (hM : ∀ x cs, M x cs → cs = f x) : ∀ (xs : List α) (inner : List Value), Reps M s xs inner → inner = xs.flatMap f
  | [], inner, h => by have := h.1; simp at this; simpa using this
  | x :: xs, inner, h => by
    have h0 := hM _ _ (h.2 0 x rfl)
    rw [Nat.zero_mul, List.drop_zero] at h0
    have h1 : Reps M s xs (inner.drop s) := by
      refine ⟨by rw [List.length_drop, h.1, List.length_cons, Nat.add_mul, Nat.one_mul]; omega, fun j p hj => ?_⟩
      have := h.2 (j + 1) p (by simpa using hj)
      rwa [Nat.add_mul, Nat.one_mul, Nat.add_comm, ← List.drop_drop] at this
    rw [List.flatMap_cons, ← flat_reps hf hM xs _ h1, ← h0, List.take_append_drop]
theorem own_R {d : Kd α} {f : α → List Value} {e : Nat} {w : World} {base : Nat} {v : Value} {xs : List α} (hf : ∀ x, (f x).length = d.sz) (hM : ∀ ok x, d.M w base ok x (f x)) (h : w.ownsRow base e d.sz v xs.length (xs.flatMap f)) :
    Kd.R d e w base (fun _ => True) v xs := ⟨fun _ _ => trivial, _, h, reps_flat hf (hM _) xs⟩
theorem R_own {d : Kd α} {f : α → List Value} {e : Nat} {w : World} {base : Nat} {ok : Nat → Prop} {v : Value} {xs : List α} (hf : ∀ x, (f x).length = d.sz) (hM : ∀ ok x cs, d.M w base ok x cs → cs = f x) (h : Kd.R d e w base ok v xs) :
    w.ownsRow base e d.sz v xs.length (xs.flatMap f) := by
  obtain ⟨_, inner, ho, hr⟩ := h
  rw [← flat_reps hf (hM _) xs inner hr]; exact ho
theorem cells_new (w : World) (cs : Array Value) (t : TypeId) (j : Nat) (u : Value) (hu : cs.toList[j]? = some u) : (w.alloc (.cells cs t)).cell? ((⟨w.heap.size, 0, none⟩ : Addr).add j) = some u := by
  rw [add_plain, cell_of_row (w.alloc (.cells cs t)) w.heap.size _ cs t (0, 0) (blk_new w _)]
  simpa using hu
theorem grown_none {w w' : World} (h : Below w.heap.size w w') : w.grownBy w' none := ⟨h.os, h.tape, h.output, h.size, fun j hj _ => h.block j hj⟩
theorem kept_none {w w' : World} {base e s n : Nat} {v : Value} {xs : List Value} (h : w.ownsRow base e s v n xs) (hb : Below w.heap.size w w') : w'.ownsRow base e s v n xs :=
  h.kept (grown_none hb) (by cases hv : v.ownBlock <;> simp)
theorem own_base {w : World} {base base' e s n : Nat} {v : Value} {xs : List Value} (h : w.ownsRow base e s v n xs) (hb : base' ≤ base) : w.ownsRow base' e s v n xs :=
  ⟨h.1, h.2.imp id fun ⟨g, cap, cur, e1, h1, r⟩ => ⟨g, cap, cur, e1, Nat.le_trans hb h1, r⟩⟩
theorem below_append {n0 e s k : Nat} {w0 W w1 : World} {tmp : Obj} {v : Value} {xs : List Value} (hB : Below n0 w0 W) (hn : n0 ≤ W.heap.size) (hr : W.ownsRow n0 e s v k xs) (hg : (W.alloc tmp).grownBy w1 v.ownBlock) : Below n0 w0 w1 := by
  refine (hB.alloc hn tmp).grown hg (by simp; omega) (fun j ej => ?_)
  rcases hr.2 with ⟨e1, _⟩ | ⟨g, cap, cur, e1, hb, _⟩
  · rw [e1] at ej; simp [Value.ownBlock] at ej
  · rw [e1] at ej; obtain rfl : g = j := by simpa [Value.ownBlock] using ej
    exact hb
/-- A block of cells of another type lies as it lay behind an append to a row. -/
theorem blk_append {n0 e s k b t : Nat} {W w1 : World} {tmp : Obj} {v : Value} {xs : List Value} {cs : Array Value} (h : W.heap[b]? = some (.cells cs t (0, 0))) (ht : t ≠ e) (hr : W.ownsRow n0 e s v k xs) (hg : (W.alloc tmp).grownBy w1 v.ownBlock) : w1.heap[b]? = some (.cells cs t (0, 0)) := by
  have hb : b < W.heap.size := (Array.getElem?_eq_some_iff.1 h).1
  refine (hg.block b (by simp; omega) (fun e' => ?_)).trans ((Below.heap_alloc _ _ _ hb).trans h)
  rcases hr.2 with ⟨e1, _⟩ | ⟨g, cap, cur, e1, _, hgb, _⟩
  · rw [e1] at e'; simp [Value.ownBlock] at e'
  · rw [e1] at e'
    have : b = g := by simpa [Value.ownBlock] using e'
    rw [← this, h] at hgb
    simp only [Option.some.injEq, Obj.cells.injEq] at hgb
    exact ht hgb.2.1
theorem own_set_other {n0 e s k b o t : Nat} {W : World} {v u : Value} {xs : List Value} {cs : Array Value} (hr : W.ownsRow n0 e s v k xs) (h : W.heap[b]? = some (.cells cs t (0, 0))) (ht : t ≠ e) : (W.setCell ⟨b, o, none⟩ u).ownsRow n0 e s v k xs := by
  refine hr.kept (row := some b) ⟨rfl, rfl, rfl, by simp, fun j hj hne => Below.heap_setCell _ _ _ _ (fun e => hne (by rw [e]))⟩ ?_
  rcases hr.2 with ⟨e1, _⟩ | ⟨g, cap, cur, e1, _, hgb, _⟩
  · exact .inl (by rw [e1]; rfl)
  · refine .inr (fun e' => ?_)
    rw [e1] at e'
    have : g = b := by simpa [Value.ownBlock] using e'
    rw [this, h] at hgb
    simp only [Option.some.injEq, Obj.cells.injEq] at hgb
    exact ht hgb.2.1
theorem own_drew {n0 e s k : Nat} {W : World} {v : Value} {xs : List Value} (hr : W.ownsRow n0 e s v k xs) : W.drew.ownsRow n0 e s v k xs := hr
theorem own_drewN {n0 e s k : Nat} {W : World} {v : Value} {xs : List Value} (hr : W.ownsRow n0 e s v k xs) (n : Nat) : (W.drewN n).ownsRow n0 e s v k xs := hr
end Go.Proofs.Yteapeglolkfimaa.KdF
