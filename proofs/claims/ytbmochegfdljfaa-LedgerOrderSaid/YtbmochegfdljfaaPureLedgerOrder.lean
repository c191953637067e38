/- Two entries that are booked on one day can be posted in either order, with the same balances. -/
import Derived.Test.YtbmochegfdljfaaStaLedgerOrder
import Derived.Test.YtbmochegfdljfaaLdE
namespace Go.Proofs.Ytbmochegfdljfaa.Pure
set_option linter.unusedVariables false
set_option linter.unusedSimpArgs false
open Go.RowKit Go.Proofs.Ytbmochegfdljfaa.My Go.Proofs.Ytbmochegfdljfaa.Aid Go.Proofs.Ytbmochegfdljfaa.EvA Go.Proofs.Ytbmochegfdljfaa.LdE Go.Proofs.YtbmochegfdljfaaW.PrintWords Go.Proofs.YtbmochegfdljfaaW.PrintLast Go.Proofs.YtbmochegfdljfaaW.PrintMore


theorem order_j2 {X Y : List S26} {a : ByteArray} {d b : Int} (hX : X.all szB = true) (hY : Y.all szB = true) (vX : Vl X) (vY : Vl Y) (hb : balF X a d b = balF Y a d b) (hm : ∀ x, x ∈ X ↔ x ∈ Y) :
    Ev (fun k => wageofficelaw39_LedgerOrder.j2 k a d b true 0 0 false X Y) true := by
  refine ev_up ?_
  simp only [wageofficelaw39_LedgerOrder.j2]
  refine ev_no (by simp) (ev_yes (by simp) ?_)
  simp only [bal_eval hX, bal_eval hY, acc_eval hX, acc_eval hY, Option.bind_some]
  rw [if_pos (valid_iff.2 vX), if_pos (valid_iff.2 vY)]
  refine ev_yes (by rw [bal_eq vX, bal_eq vY]; exact hb) (ev_bnd (strings_ev _ _ (acc_same hm) ?_) (ev_ret _))
  have := acc_len X; have := vX.len; omega
theorem order_j1 {x y X Y : List S26} {a : ByteArray} {d b : Int} {a0 : Int} {a1 a2 : ByteArray} {a3 a4 a5 b0 : Int} {b1 b2 : ByteArray} {b3 b4 : Int} (hx : x.all szB = true) (hy : y.all szB = true) (hA : szB (⟨a0, a1, a2, a3, a4, a5⟩ : S26) = true) (hB : szB (⟨b0, b1, b2, b3, b4, a5⟩ : S26) = true)
    (pX : postL x (⟨b0, b1, b2, b3, b4, a5⟩ : S26) = (X, 0)) (pY : postL y (⟨a0, a1, a2, a3, a4, a5⟩ : S26) = (Y, 0)) (vX : Vl X) (vY : Vl Y) (hb : balF X a d b = balF Y a d b) (hm : ∀ z, z ∈ X ↔ z ∈ Y) :
    Ev (fun k => wageofficelaw39_LedgerOrder.j1 k a d b true false a0 a1 a2 a3 a4 a5 b0 b1 b2 b3 b4 a5 x y) true := by
  have hX := posted_sz hx hB
  have hY := posted_sz hy hA
  rw [pX] at hX
  rw [pY] at hY
  refine ev_up ?_
  simp only [wageofficelaw39_LedgerOrder.j1]
  rw [post_eval hx hB, pX]
  simp only [Option.bind_some]
  rw [post_eval hy hA, pY]
  simp only [Option.bind_some]
  exact ev_no (by simp) (ev_yes (by simp) (order_j2 hX hY vX vY hb hm))
theorem LedgerOrder : wageofficelaw39_LedgerOrder.Pure := by
  intro l a0 a1 a2 a3 a4 a5 b0 b1 b2 b3 b4 b5 a d b hl p0 p1 p2 p3 p4 p5 q0 q1 q2 q3 q4 q5 ha hd hb
  have hz := sz_all hl.2
  have hA : szB (⟨a0, a1, a2, a3, a4, a5⟩ : S26) = true := sz_of ⟨p0, p1, p2, p3, p4, p5⟩
  have hB : szB (⟨b0, b1, b2, b3, b4, a5⟩ : S26) = true := sz_of ⟨q0, q1, q2, q3, q4, p5⟩
  apply ev_ex
  have hj0 : Ev (fun k => wageofficelaw39_LedgerOrder.j0 k a d b true true l a0 a1 a2 a3 a4 a5 b0 b1 b2 b3 b4 a5) true := by
    refine ev_up ?_
    simp only [wageofficelaw39_LedgerOrder.j0]
    exact ev_yes (by simp) (ev_ret _)
  have hj1 : ∀ x y : List S26, Ev (fun k => wageofficelaw39_LedgerOrder.j1 k a d b true true a0 a1 a2 a3 a4 a5 b0 b1 b2 b3 b4 a5 x y) true := fun x y => by
    refine ev_up ?_
    simp only [wageofficelaw39_LedgerOrder.j1]
    exact ev_yes (by simp) (ev_ret _)
  unfold wageofficelaw39_LedgerOrder.f
  refine ev_bnd head_ev (ev_ite (fun _ => hj0) (fun c => ?_))
  by_cases hid : a0 = b0
  · rw [show (a0 == b0) = true from by simp [hid]]; exact hj0
  rw [show (a0 == b0) = false from by simp [hid]]
  refine ev_up ?_
  simp only [wageofficelaw39_LedgerOrder.j0]
  refine ev_no (by simp) ?_
  rw [post_eval hz hA, post_eval hz hB]
  simp only [Option.bind_some]
  have hpA := posted l (⟨a0, a1, a2, a3, a4, a5⟩ : S26)
  have hpB := posted l (⟨b0, b1, b2, b3, b4, a5⟩ : S26)
  obtain ⟨rA, hrA⟩ : ∃ r, postL l (⟨a0, a1, a2, a3, a4, a5⟩ : S26) = r := ⟨_, rfl⟩
  obtain ⟨rB, hrB⟩ : ∃ r, postL l (⟨b0, b1, b2, b3, b4, a5⟩ : S26) = r := ⟨_, rfl⟩
  have hsA := posted_sz hz hA
  have hsB := posted_sz hz hB
  rw [hrA, hrB]
  rw [hrA] at hpA hsA
  rw [hrB] at hpB hsB
  cases hpA with
  | err c hc => exact ev_no hc (hj1 _ _)
  | known xa hv hfA hxa haA =>
    cases hpB with
    | err c hc =>
      rw [show ((c : Int) != 0) = true from by simpa using hc]
      exact ev_yes (by simp) (hj1 _ _)
    | known xb _ hfB hxb haB =>
      exact ev_yes (by simp) (order_j1 hsA hsB hA hB (post_known hv hfB hxb haB) (post_known hv hfA hxa haA) hv hv rfl (fun _ => Iff.rfl))
    | new _ hfB hdB hlB hsB2 =>
      have hvB := hv.snoc hfB hlB hdB hsB2
      exact ev_yes (by simp) (order_j1 hsA hsB hA hB (post_new hv hfB hdB (Nat.ne_of_lt hlB) hsB2) (post_known hvB hfA (List.mem_append_left _ hxa) haA) hvB hvB rfl (fun _ => Iff.rfl))
  | new hv hfA hdA hlA hsA2 =>
    have hvA := hv.snoc hfA hlA hdA hsA2
    cases hpB with
    | err c hc =>
      rw [show ((c : Int) != 0) = true from by simpa using hc]
      exact ev_yes (by simp) (hj1 _ _)
    | known xb _ hfB hxb haB =>
      exact ev_yes (by simp) (order_j1 hsA hsB hA hB (post_known hvA hfB (List.mem_append_left _ hxb) haB) (post_new hv hfA hdA (Nat.ne_of_lt hlA) hsA2) hvA hvA rfl (fun _ => Iff.rfl))
    | new _ hfB hdB hlB hsB2 =>
      have hvB := hv.snoc hfB hlB hdB hsB2
      have hdAB : ∀ x ∈ l ++ [(⟨a0, a1, a2, a3, a4, a5⟩ : S26)], x.f0 ≠ ((⟨b0, b1, b2, b3, b4, a5⟩ : S26)).f0 := fun x hx => by
        rcases List.mem_append.1 hx with hx | hx
        · exact hdB x hx
        · rw [List.mem_singleton.1 hx]; exact hid
      have hdBA : ∀ x ∈ l ++ [(⟨b0, b1, b2, b3, b4, a5⟩ : S26)], x.f0 ≠ ((⟨a0, a1, a2, a3, a4, a5⟩ : S26)).f0 := fun x hx => by
        rcases List.mem_append.1 hx with hx | hx
        · exact hdA x hx
        · rw [List.mem_singleton.1 hx]; exact fun e => hid e.symm
      have hsAB : ∀ x ∈ l ++ [(⟨a0, a1, a2, a3, a4, a5⟩ : S26)], x.f5 ≤ ((⟨b0, b1, b2, b3, b4, a5⟩ : S26)).f5 := fun x hx => by
        rcases List.mem_append.1 hx with hx | hx
        · exact hsB2 x hx
        · rw [List.mem_singleton.1 hx]; exact Int.le_refl _
      have hsBA : ∀ x ∈ l ++ [(⟨b0, b1, b2, b3, b4, a5⟩ : S26)], x.f5 ≤ ((⟨a0, a1, a2, a3, a4, a5⟩ : S26)).f5 := fun x hx => by
        rcases List.mem_append.1 hx with hx | hx
        · exact hsA2 x hx
        · rw [List.mem_singleton.1 hx]; exact Int.le_refl _
      have l1 : (l ++ [(⟨a0, a1, a2, a3, a4, a5⟩ : S26)]).length < 2000 := by rw [List.length_append, List.length_singleton]; have := hl.1; omega
      have l2 : (l ++ [(⟨b0, b1, b2, b3, b4, a5⟩ : S26)]).length < 2000 := by rw [List.length_append, List.length_singleton]; have := hl.1; omega
      refine ev_yes (by simp) (order_j1 hsA hsB hA hB (post_new hvA hfB hdAB (Nat.ne_of_lt l1) hsAB) (post_new hvB hfA hdBA (Nat.ne_of_lt l2) hsBA) (hvA.snoc hfB l1 hdAB hsAB) (hvB.snoc hfA l2 hdBA hsBA) ?_ ?_)
      · rw [balF_append, balF_append, balF_append, balF_append]; omega
      · intro z
        simp only [List.mem_append, List.mem_singleton]
        constructor
        · rintro ((h | h) | h)
          · exact .inl (.inl h)
          · exact .inr h
          · exact .inl (.inr h)
        · rintro ((h | h) | h)
          · exact .inl (.inl h)
          · exact .inr h
          · exact .inl (.inr h)
end Go.Proofs.Ytbmochegfdljfaa.Pure
