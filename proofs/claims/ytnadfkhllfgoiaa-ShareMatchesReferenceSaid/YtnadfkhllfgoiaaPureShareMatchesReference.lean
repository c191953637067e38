/- For every total and list, share.Fair and share.Check return what the reference returns. -/
import Derived.Test.YtnadfkhllfgoiaaMyx3
import Derived.Test.YtnadfkhllfgoiaaShR
namespace Go.Proofs.Ytnadfkhllfgoiaa.Pure
open Go.RowKit Go.Proofs.Ytnadfkhllfgoiaa.My Go.Proofs.Ytnadfkhllfgoiaa.Aid Go.Proofs.Ytnadfkhllfgoiaa.EvA Go.Proofs.Ytnadfkhllfgoiaa.ShM Go.Proofs.Ytnadfkhllfgoiaa.ShP Go.Proofs.Ytnadfkhllfgoiaa.ShE Go.Proofs.Ytnadfkhllfgoiaa.ShR Go.Proofs.YtnadfkhllfgoiaaW.PrintWords Go.Proofs.YtnadfkhllfgoiaaW.PrintLast Go.Proofs.YtnadfkhllfgoiaaW.PrintMore
set_option linter.unusedVariables false
set_option linter.unusedSimpArgs false

def Al (p : Nat → Prop) : Prop := ∃ K, ∀ k, K ≤ k → p k
theorem Al.and {p q : Nat → Prop} (h : Al p) (h' : Al q) : Al (fun k => p k ∧ q k) := by
  obtain ⟨K, hK⟩ := h
  obtain ⟨L, hL⟩ := h'
  exact ⟨K + L, fun k hk => ⟨hK k (by omega), hL k (by omega)⟩⟩
theorem Al.all {α : Type} {p : α → Nat → Prop} : ∀ (l : List α), (∀ x ∈ l, Al (p x)) → Al (fun k => ∀ x ∈ l, p x k)
  | [], _ => ⟨0, fun _ _ x hx => by simp at hx⟩
  | a :: l, h => by
    obtain ⟨K, hK⟩ := h a (by simp)
    obtain ⟨L, hL⟩ := Al.all l (fun x hx => h x (by simp [hx]))
    refine ⟨K + L, fun k hk x hx => ?_⟩
    rcases List.mem_cons.1 hx with rfl | hx
    · exact hK k (by omega)
    · exact hL k (by omega) x hx
theorem Al.of {α : Type} {g : Nat → Option α} {r : α} (h : Ev g r) : Al (fun k => g k = some r) := h
theorem Al.mono {p q : Nat → Prop} (h : Al p) (hpq : ∀ k, p k → q k) : Al q := by
  obtain ⟨K, hK⟩ := h
  exact ⟨K, fun k hk => hpq k (hK k hk)⟩
theorem body_al (t : Int) (x m : List Int) (hx : x.length ≤ 70) (hm : m.length ≤ 70) : Al (fun k => wageofficelaw32_ShareMatchesReference.Body k t x m) := by
  obtain ⟨r, e, b, h1, h2, h3, h4, h5, h6⟩ := both_ev t x m hx hm
  exact ((Al.of h2).and ((Al.of h3).and ((Al.of h4).and ((Al.of h5).and (Al.of h6))))).mono fun k h => ⟨r, e, b, h1, h.1, h.2.1, h.2.2.1, h.2.2.2.1, h.2.2.2.2⟩
theorem ShareMatchesReference : wageofficelaw32_ShareMatchesReference.Pure := by
  intro a0 l1 l2 a3 h0 h1 h2 h3
  have w0 := wf64 h0
  have w3 := wf64 h3
  have hp1 := pickv_bd a3 (n := 40) (by omega)
  have hlt : (l1.take 70).length ≤ 70 := List.length_take_le _ _
  have hwt : ∀ x ∈ l1.take 70, (Lit.int .i64 x).wf = true := fun x hx => h1.2 x (List.mem_of_mem_take hx)
  have hfew := amounts_ev (l1.take 70) (1 + pickv a3 40) (by omega) (by omega) (by omega) hwt
  have ham := amounts_ev (l1.take 70) 1000000000000 (by omega) (by omega) (by omega) hwt
  have fl := amt_length (l1.take 70) (1 + pickv a3 40)
  have fb := amt_bd (l1.take 70) (lim := 1 + pickv a3 40) (by omega)
  have hs := sum_ev (l := amt (l1.take 70) (1 + pickv a3 40)) fl (fun x hx => by have := fb x hx; omega)
  have sb := sum_bd' (M := 1000000000000) (n := 64) (by omega) fl (fun x hx => by have := fb x hx; omega)
  have hB := Al.all [l1.take 70, amt (l1.take 70) 1000000000000, amt (l1.take 70) (1 + pickv a3 40)] (p := fun x k => ∀ t ∈ [a0, pickv a0 1000000000001, pickv a0 ((amt (l1.take 70) (1 + pickv a3 40)).sum + 3)], wageofficelaw32_ShareMatchesReference.Body k t x (l2.take 70)) (by
    intro x hx
    refine Al.all _ (fun t _ => body_al t x _ ?_ (List.length_take_le _ _))
    simp only [List.mem_cons, List.not_mem_nil, or_false] at hx
    rcases hx with rfl | rfl | rfl
    · exact hlt
    · have := amt_length (l1.take 70) 1000000000000; omega
    · omega)
  obtain ⟨K, hK⟩ := (Al.of head_ev).and ((Al.of hfew).and ((Al.of ham).and ((Al.of hs).and hB)))
  obtain ⟨g1, g2, g3, g4, g5⟩ := hK K (Nat.le_refl _)
  refine ⟨K, pickv a3 40, pickv a0 1000000000001, pickv a0 ((amt (l1.take 70) (1 + pickv a3 40)).sum + 3), (amt (l1.take 70) (1 + pickv a3 40)).sum, amt (l1.take 70) (1 + pickv a3 40), amt (l1.take 70) 1000000000000, g1, pick_eval w3.1 w3.2 (by omega), ?_, g3, pick_eval w0.1 w0.2 (by omega), g4, ?_, g5⟩
  · rw [w64 (by omega) (by omega)]; exact g2
  · rw [w64 (by omega) (by omega)]; exact pick_eval w0.1 w0.2 (by omega)
end Go.Proofs.Ytnadfkhllfgoiaa.Pure
