/- Posting an entry again, with any valid Booked, returns the ledger unchanged; posting another one with the same ID is an error. -/
import Derived.Test.YtbmochegfdljfaaStaLedgerOnce
import Derived.Test.YtbmochegfdljfaaLdE
namespace Go.Proofs.Ytbmochegfdljfaa.Pure
set_option linter.unusedVariables false
set_option linter.unusedSimpArgs false
open Go.RowKit Go.Proofs.Ytbmochegfdljfaa.My Go.Proofs.Ytbmochegfdljfaa.Aid Go.Proofs.Ytbmochegfdljfaa.EvA Go.Proofs.Ytbmochegfdljfaa.LdE Go.Proofs.YtbmochegfdljfaaW.PrintWords Go.Proofs.YtbmochegfdljfaaW.PrintLast Go.Proofs.YtbmochegfdljfaaW.PrintMore


theorem once_j2 {m : List S26} {c e0 : Int} {e1 e2 : ByteArray} {e3 e4 e5 : Int} (hm : m.all szB = true) (hv : Vl m) (hf : formB (⟨e0, e1, e2, e3, e4, e5⟩ : S26) = true) (he : szB (⟨e0, e1, e2, e3, e4, e5⟩ : S26) = true) {x : S26} (hx : x ∈ m) (hag : agreeB x (⟨e0, e1, e2, e3, e4, e5⟩ : S26) = true) :
    Ev (fun k => wageofficelaw39_LedgerOnce.j2 k c true false e0 e1 e2 e3 e4 e5 m) true := by
  refine ev_up ?_
  simp only [wageofficelaw39_LedgerOnce.j2]
  refine ev_no (by simp) (ev_ite (fun _ => ev_ret _) (fun c1 => ev_ite (fun _ => ev_ret _) (fun c2 => ev_ite (fun _ => ev_ret _) (fun c3 => ?_))))
  have hs : szB (⟨e0, e1, e2, c, e4, e5⟩ : S26) = true := he
  have hp := form_parts hf
  simp only at hp
  have hf2 : formB (⟨e0, e1, e2, c, e4, e5⟩ : S26) = true := form_mk ⟨hp.1, hp.2.1, hp.2.2.1, hp.2.2.2.1, hp.2.2.2.2.1, by show 0 < c; omega, by show c ≤ 1000000000000; omega, hp.2.2.2.2.2.2.2⟩
  have ha := agree_iff.1 hag
  simp only at ha
  rw [post_eval hm hs, post_twice hv hf2 hx ha.1 (fun h => c1 (by have := (agree_iff.1 h).2.2.2.1; simp only at this; omega))]
  simp only [Option.bind_some]
  exact ev_yes (by simp) (ev_ret _)
theorem once_j1 {m : List S26} {c bk e0 : Int} {e1 e2 : ByteArray} {e3 e4 e5 : Int} (hm : m.all szB = true) (hv : Vl m) (hf : formB (⟨e0, e1, e2, e3, e4, e5⟩ : S26) = true) (he : szB (⟨e0, e1, e2, e3, e4, e5⟩ : S26) = true) (hbk : 0 ≤ bk ∧ bk ≤ 36524) {x : S26} (hx : x ∈ m) (hag : agreeB x (⟨e0, e1, e2, e3, e4, e5⟩ : S26) = true) :
    Ev (fun k => wageofficelaw39_LedgerOnce.j1 k c true e0 e1 e2 e3 e4 e5 m e0 e1 e2 e3 e4 bk) true := by
  refine ev_up ?_
  simp only [wageofficelaw39_LedgerOnce.j1]
  have hp := form_parts hf
  simp only at hp
  have hs : szB (⟨e0, e1, e2, e3, e4, bk⟩ : S26) = true := he
  have hf2 : formB (⟨e0, e1, e2, e3, e4, bk⟩ : S26) = true := form_mk ⟨hp.1, hp.2.1, hp.2.2.1, hp.2.2.2.1, hp.2.2.2.2.1, hp.2.2.2.2.2.1, hp.2.2.2.2.2.2.1, hp.2.2.2.2.2.2.2.1, hp.2.2.2.2.2.2.2.2.1, hbk⟩
  have ha2 : agreeB x (⟨e0, e1, e2, e3, e4, bk⟩ : S26) = true := hag
  rw [post_eval hm hs, post_known hv hf2 hx ha2]
  simp only [Option.bind_some]
  refine ev_yes (by simp) (ev_bnd (same_ev m (by have := hv.len; omega)) ?_)
  exact once_j2 hm hv hf he hx hag
theorem once_j0 {m : List S26} {c bk e0 : Int} {e1 e2 : ByteArray} {e3 e4 e5 : Int} {q : Bool} (hm : m.all szB = true) (hv : Vl m) (hf : formB (⟨e0, e1, e2, e3, e4, e5⟩ : S26) = true) (he : szB (⟨e0, e1, e2, e3, e4, e5⟩ : S26) = true) (hq : q = true → 0 ≤ bk ∧ bk ≤ 36524) {x : S26} (hx : x ∈ m) (hag : agreeB x (⟨e0, e1, e2, e3, e4, e5⟩ : S26) = true) :
    Ev (fun k => wageofficelaw39_LedgerOnce.j0 k bk c true q e0 e1 e2 e3 e4 e5 m e0 e1 e2 e3 e4 e5) true := by
  have hp := form_parts hf
  simp only at hp
  refine ev_up ?_
  simp only [wageofficelaw39_LedgerOnce.j0]
  exact ev_ite (fun c1 => once_j1 hm hv hf he (hq c1) hx hag) (fun _ => once_j1 hm hv hf he (by omega) hx hag)
theorem LedgerOnce : wageofficelaw39_LedgerOnce.Pure := by
  intro l e0 e1 e2 e3 e4 e5 bk c hl h0 h1 h2 h3 h4 h5 hbk hc
  have hz := sz_all hl.2
  have he : szB (⟨e0, e1, e2, e3, e4, e5⟩ : S26) = true := sz_of ⟨h0, h1, h2, h3, h4, h5⟩
  apply ev_ex
  unfold wageofficelaw39_LedgerOnce.f
  refine ev_bnd head_ev (ev_ite (fun _ => ev_ret _) (fun c0 => ?_))
  rw [post_eval hz he]
  simp only [Option.bind_some]
  have hp := posted l (⟨e0, e1, e2, e3, e4, e5⟩ : S26)
  have hsz := posted_sz hz he
  generalize postL l (⟨e0, e1, e2, e3, e4, e5⟩ : S26) = r at hp hsz
  cases hp with
  | err c hc => exact ev_no hc (ev_yes (by simp) (ev_ret _))
  | known x hv hf hx hag =>
    refine ev_yes (by simp) (ev_ite (fun c1 => once_j0 hsz hv hf he (fun h => by have := of_decide_eq_true h; omega) hx hag) (fun _ => once_j0 hsz hv hf he (fun h => by cases h) hx hag))
  | new hv hf hdis hln hs =>
    have hvn := hv.snoc hf hln hdis hs
    have hx : (⟨e0, e1, e2, e3, e4, e5⟩ : S26) ∈ l ++ [(⟨e0, e1, e2, e3, e4, e5⟩ : S26)] := by simp
    have hag : agreeB (⟨e0, e1, e2, e3, e4, e5⟩ : S26) (⟨e0, e1, e2, e3, e4, e5⟩ : S26) = true := agree_iff.2 ⟨rfl, rfl, rfl, rfl, rfl⟩
    refine ev_yes (by simp) (ev_ite (fun c1 => once_j0 hsz hvn hf he (fun h => by have := of_decide_eq_true h; omega) hx hag) (fun _ => once_j0 hsz hvn hf he (fun h => by cases h) hx hag))
end Go.Proofs.Ytbmochegfdljfaa.Pure
