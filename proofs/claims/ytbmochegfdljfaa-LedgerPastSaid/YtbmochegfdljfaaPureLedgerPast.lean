/- Balances as booked by a day do not change when entries are posted that are booked later. -/
import Derived.Test.YtbmochegfdljfaaStaLedgerPast
import Derived.Test.YtbmochegfdljfaaLdE
namespace Go.Proofs.Ytbmochegfdljfaa.Pure
set_option linter.unusedVariables false
set_option linter.unusedSimpArgs false
open Go.RowKit Go.Proofs.Ytbmochegfdljfaa.My Go.Proofs.Ytbmochegfdljfaa.Aid Go.Proofs.Ytbmochegfdljfaa.EvA Go.Proofs.Ytbmochegfdljfaa.LdE Go.Proofs.YtbmochegfdljfaaW.PrintWords Go.Proofs.YtbmochegfdljfaaW.PrintLast Go.Proofs.YtbmochegfdljfaaW.PrintMore


theorem past_loop {l later : List S26} {a : ByteArray} {d b : Int} (hz : l.all szB = true) (hlz : ∀ x ∈ later, szB x = true) (hlen : later.length ≤ 20) (n : Nat) : ∀ (i : Nat) (m : List S26), i + n = later.length → m.all szB = true → bal m a d b = bal l a d b →
    Ev (fun k => wageofficelaw39_LedgerPast.l0 k later a d b true (i : Int) l m) true := by
  induction n with
  | zero =>
    intro i m hi hm hb
    refine ev_up ?_
    simp only [wageofficelaw39_LedgerPast.l0]
    refine ev_no (by omega) (ev_yes (by simp) ?_)
    simp only [bal_eval hz, bal_eval hm, Option.bind_some]
    refine ev_eq (ev_ret _) ?_
    rw [beq_iff_eq, hb]
  | succ n ih =>
    intro i m hi hm hb
    have hlt : i < later.length := by omega
    have hx := hlz _ (List.getElem_mem hlt)
    refine ev_up ?_
    simp only [wageofficelaw39_LedgerPast.l0]
    refine ev_yes (by omega) (ev_yes (by omega) ?_)
    rw [rd26_at hlt, w64 (n := (i : Int) + 1) (by omega) (by omega), show (i : Int) + 1 = ((i + 1 : Nat) : Int) from by omega]
    generalize later[i] = x at hx ⊢
    refine ev_ite (fun _ => ih (i + 1) m (by omega) hm hb) (fun c => ?_)
    rw [post_eval hm hx]
    simp only [Option.bind_some]
    have hp := posted m x
    have hsz := posted_sz hm hx
    obtain ⟨r, hr⟩ : ∃ r, postL m (⟨x.f0, x.f1, x.f2, x.f3, x.f4, x.f5⟩ : S26) = r := ⟨_, rfl⟩
    have hr' : postL m x = r := hr
    rw [hr]
    rw [hr'] at hp hsz
    cases hp with
    | known y hv hf hy hag => exact ev_yes (by simp) (ih (i + 1) m (by omega) hm hb)
    | new hv hf hdis hln hs =>
      refine ev_yes (by simp) (ih (i + 1) _ (by omega) hsz ?_)
      rw [← hb, bal_eq (hv.snoc hf hln hdis hs), bal_eq hv, balF_append, balF_cons]
      have : val a d b x = 0 := by unfold val; rw [if_neg (by omega)]
      simp only [balF, List.map_nil, List.sum_nil] at *
      omega
    | err c hc => exact ev_no hc (ih (i + 1) m (by omega) hm hb)
theorem LedgerPast : wageofficelaw39_LedgerPast.Pure := by
  intro l later a d b hl hla ha hd hb
  have hz := sz_all hl.2
  apply ev_ex
  have hj : Ev (fun k => wageofficelaw39_LedgerPast.j0 k later a d b true true l) true := by
    refine ev_up ?_
    simp only [wageofficelaw39_LedgerPast.j0]
    exact ev_yes (by simp) (ev_ret _)
  unfold wageofficelaw39_LedgerPast.f
  refine ev_bnd head_ev (ev_ite (fun _ => hj) (fun c => ?_))
  by_cases h20 : (later.length : Int) > 20
  · rw [decide_eq_true h20]; exact hj
  · rw [decide_eq_false h20]
    refine ev_up ?_
    simp only [wageofficelaw39_LedgerPast.j0]
    refine ev_no (by simp) ?_
    exact past_loop hz (fun x hx => sz_of (hla.2 x hx)) (by omega) later.length 0 l (by omega) hz rfl
end Go.Proofs.Ytbmochegfdljfaa.Pure
