import Derived.Test.YtnadfkhllfgoiaaMyx19
import Derived.Test.YtnadfkhllfgoiaaShM
namespace Go.Proofs.Ytnadfkhllfgoiaa.ShP
open Go.RowKit Go.Proofs.Ytnadfkhllfgoiaa.My Go.Proofs.Ytnadfkhllfgoiaa.Aid Go.Proofs.Ytnadfkhllfgoiaa.ShM Go.Proofs.YtnadfkhllfgoiaaW.PrintWords Go.Proofs.YtnadfkhllfgoiaaW.PrintLast Go.Proofs.YtnadfkhllfgoiaaW.PrintMore
set_option linter.unusedVariables false
set_option linter.unusedSimpArgs false

theorem dist_spec (ps : List Int) : ∀ (d : Int) (cs : List Int), 0 ≤ d → ps.length = cs.length → (∀ i, i < ps.length → at_ ps i ≤ at_ cs i) →
    (∀ i, i < ps.length → at_ ps i ≤ at_ (dist d ps cs) i ∧ at_ (dist d ps cs) i ≤ at_ ps i + 1 ∧ at_ (dist d ps cs) i ≤ at_ cs i) ∧
    (∀ i k, i < ps.length → k < ps.length → at_ (dist d ps cs) i = at_ ps i + 1 → at_ ps k < at_ cs k → at_ (dist d ps cs) k = at_ ps k → i < k) ∧
    (dist d ps cs).sum ≤ ps.sum + d ∧ ((dist d ps cs).sum = ps.sum + d ∨ ∀ k, k < ps.length → at_ ps k < at_ cs k → at_ (dist d ps cs) k = at_ ps k + 1) := by
  induction ps with
  | nil =>
    intro d cs hd hl h
    have e : dist d [] cs = [] := by cases cs <;> rfl
    rw [e]
    refine ⟨fun i hi => by simp at hi, fun i k hi => by simp at hi, by simp; omega, .inr fun k hk => by simp at hk⟩
  | cons p ps ih =>
    intro d cs hd hl h
    cases cs with
    | nil => simp at hl
    | cons c cs =>
      have h0 := h 0 (by simp)
      simp only [at_zero] at h0
      have ht : ∀ i, i < ps.length → at_ ps i ≤ at_ cs i := fun i hi => by have := h (i + 1) (by simpa using hi); simpa [at_succ] using this
      by_cases hz : d = 0
      · subst hz
        rw [dist_zero]
        refine ⟨fun i hi => ⟨Int.le_refl _, by omega, h i hi⟩, fun i k hi hk e => by omega, by omega, .inl (by omega)⟩
      · by_cases hp : p < c
        · have e : dist d (p :: ps) (c :: cs) = (p + 1) :: dist (d - 1) ps cs := by simp [dist, hz, hp]
          rw [e]
          obtain ⟨i1, i2, i3, i4⟩ := ih (d - 1) cs (by omega) (by simpa using hl) ht
          refine ⟨fun i hi => ?_, fun i k hi hk => ?_, ?_, ?_⟩
          · cases i with
            | zero => simp only [at_zero]; omega
            | succ i => simp only [at_succ]; exact i1 i (by simpa using hi)
          · cases i with
            | zero =>
              cases k with
              | zero => simp only [at_zero]; omega
              | succ k => intros; omega
            | succ i =>
              cases k with
              | zero => simp only [at_zero]; omega
              | succ k =>
                simp only [at_succ]
                intro a b c
                have := i2 i k (by simpa using hi) (by simpa using hk) a b c
                omega
          · simp only [List.sum_cons]; omega
          · rcases i4 with i4 | i4
            · exact .inl (by simp only [List.sum_cons]; omega)
            · refine .inr fun k hk => ?_
              cases k with
              | zero => intro hh; simp only [at_zero] at hh ⊢ <;> omega
              | succ k => simp only [at_succ]; exact i4 k (by simpa using hk)
        · have e : dist d (p :: ps) (c :: cs) = p :: dist d ps cs := by simp [dist, hz, hp]
          rw [e]
          obtain ⟨i1, i2, i3, i4⟩ := ih d cs hd (by simpa using hl) ht
          refine ⟨fun i hi => ?_, fun i k hi hk => ?_, ?_, ?_⟩
          · cases i with
            | zero => simp only [at_zero]; omega
            | succ i => simp only [at_succ]; exact i1 i (by simpa using hi)
          · cases i with
            | zero => simp only [at_zero]; omega
            | succ i =>
              cases k with
              | zero => simp only [at_zero]; omega
              | succ k =>
                simp only [at_succ]
                intro a b c
                have := i2 i k (by simpa using hi) (by simpa using hk) a b c
                omega
          · simp only [List.sum_cons]; omega
          · rcases i4 with i4 | i4
            · exact .inl (by simp only [List.sum_cons]; omega)
            · refine .inr fun k hk => ?_
              cases k with
              | zero => intro hh; simp only [at_zero] at hh ⊢ <;> omega
              | succ k => simp only [at_succ]; exact i4 k (by simpa using hk)
theorem at_map (f : Int → Int) (l : List Int) (i : Nat) (h : i < l.length) : at_ (l.map f) i = f (at_ l i) := by
  rw [at_lt (by simpa using h), at_lt h]; simp
theorem mem_at {l : List Int} {i : Nat} (h : i < l.length) : at_ l i ∈ l := by rw [at_lt h]; exact List.getElem_mem h
structure Ok (t : Int) (l : List Int) : Prop where
  len : l.length ≤ 64
  t0 : 0 ≤ t
  t1 : t ≤ 1000000000000
  c : ∀ x ∈ l, 0 ≤ x ∧ x ≤ 1000000000000
theorem Ok.at_ {t : Int} {l : List Int} (h : Ok t l) (i : Nat) (hi : i < l.length) : 0 ≤ at_ l i ∧ at_ l i ≤ 1000000000000 := h.c _ (mem_at hi)
theorem Ok.wrong {t : Int} {l : List Int} (h : Ok t l) : share_wrong.f t l = some 0 := by
  obtain ⟨h1, h2, h3, h4⟩ := h
  unfold share_wrong.f
  have a1 : l.any (fun x => decide (x < 0)) = false := by rw [List.any_eq_false]; intro x hx; have := h4 x hx; simp; omega
  have a2 : l.any (fun x => decide (1000000000000 < x)) = false := by rw [List.any_eq_false]; intro x hx; have := h4 x hx; simp; omega
  rw [a1, a2, if_neg (by omega), if_neg (by omega), if_neg (by simp), if_neg (by omega), if_neg (by simp)]
theorem Ok.of_wrong {t : Int} {l : List Int} (h : share_wrong.f t l = some 0) : Ok t l := by
  obtain ⟨h1, h2, h3, h4⟩ := share_wrong_ok h
  exact ⟨h1, h2, h3, h4⟩
theorem Ok.fair {t : Int} {l : List Int} (h : Ok t l) : share_Fair.f t l = some (fairl t l, 0) := by
  unfold share_Fair.f; rw [h.wrong]; rfl
theorem flev_spec {t : Int} {l : List Int} (h : Ok t l) : 0 ≤ flev t l ∧ lsum l (flev t l) ≤ t ∧ (flev t l < 1000000000000 → t < lsum l (flev t l + 1)) := by
  have hb := bs_spec (fun x => decide (t < lsum l x)) 1000000000001 64 0 1000000000001 (by omega) (by omega) (by omega) (by omega) (fun h => by omega) (fun h => by omega)
  unfold flev
  generalize bs (fun x => decide (t < lsum l x)) 64 0 1000000000001 = q at hb
  obtain ⟨h1, h2, h3, h4⟩ := hb
  have hq1 : 1 ≤ q := by
    rcases Int.lt_or_le q 1 with hq | hq
    · have e : q = 0 := by omega
      subst e
      have := h4 (by omega)
      rw [lsum_zero h.c] at this
      have := h.t0
      simp at *; omega
    · exact hq
  have e : mx (q - 1) 0 = q - 1 := by unfold mx; omega
  rw [e]
  refine ⟨by omega, ?_, fun hq => ?_⟩
  · have := h3 (by omega)
    simp at this; omega
  · have := h4 (by omega)
    rw [show q - 1 + 1 = q from by omega]
    simpa using this
theorem fairl_fairly {t : Int} {l : List Int} (h : Ok t l) : Fairly t l (fairl t l) := by
  obtain ⟨hL, h1, h2⟩ := flev_spec h
  unfold fairl
  generalize flev t l = L at *
  have hpl : (l.map fun c => mn c L).length = l.length := by simp
  have hp : ∀ i, i < l.length → at_ (l.map fun c => mn c L) i = mn (at_ l i) L := fun i hi => at_map _ l i hi
  obtain ⟨a1, a2, a3, a4⟩ := dist_spec (l.map fun c => mn c L) (t - lsum l L) l (by omega) hpl (fun i hi => by rw [hp i (by omega)]; unfold mn; omega)
  have hs : (l.map fun c => mn c L).sum = lsum l L := rfl
  rw [hs] at a3 a4
  have hlen : (dist (t - lsum l L) (l.map fun c => mn c L) l).length = l.length := by rw [dist_length, hpl]
  generalize dist (t - lsum l L) (l.map fun c => mn c L) l = r at *
  rw [hpl] at a1 a2 a4
  refine ⟨hlen, fun i hi => ?_, fun i k hi hk hlt => ?_, ?_⟩
  · have b1 := a1 i hi
    have b2 := h.at_ i hi
    rw [hp i hi] at b1
    unfold mn at b1; omega
  · have b1 := a1 i hi
    have b2 := a1 k hk
    have b3 := a2 i k hi hk
    rw [hp i hi] at b1 b3
    rw [hp k hk] at b2 b3
    unfold mn at b1 b2 b3
    omega
  · rcases a4 with a4 | a4
    · have hle : r.sum ≤ l.sum := sum_le hlen (fun i hi => (a1 i (by omega)).2.2)
      rw [a4] at hle ⊢
      omega
    · rcases Int.lt_or_le L 1000000000000 with hLt | hLe
      · have h2 := h2 hLt
        have e : r = l.map fun c => mn c (L + 1) := by
          apply ext_at (by rw [hlen]; simp)
          intro i hi
          have b1 := a1 i (by omega)
          have b2 := a4 i (by omega)
          rw [at_map _ l i (by omega)]
          rw [hp i (by omega)] at b1 b2
          unfold mn at *
          omega
        have : r.sum = lsum l (L + 1) := by rw [e]; rfl
        omega
      · have e : r = l := by
          apply ext_at hlen
          intro i hi
          have b1 := a1 i (by omega)
          have b2 := h.at_ i (by omega)
          rw [hp i (by omega)] at b1
          unfold mn at *
          omega
        subst e
        omega
end Go.Proofs.Ytnadfkhllfgoiaa.ShP
