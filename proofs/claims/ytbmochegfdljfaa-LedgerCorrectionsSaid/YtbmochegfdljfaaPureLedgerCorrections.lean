/- After an entry and the one with Debit and Credit exchanged, for the same day, all balances are those from before, as booked from the second one on. -/
import Derived.Test.YtbmochegfdljfaaStaLedgerCorrections
import Derived.Test.YtbmochegfdljfaaLdE
namespace Go.Proofs.Ytbmochegfdljfaa.Pure
set_option linter.unusedVariables false
set_option linter.unusedSimpArgs false
open Go.RowKit Go.Proofs.Ytbmochegfdljfaa.My Go.Proofs.Ytbmochegfdljfaa.Aid Go.Proofs.Ytbmochegfdljfaa.EvA Go.Proofs.Ytbmochegfdljfaa.LdE Go.Proofs.YtbmochegfdljfaaW.PrintWords Go.Proofs.YtbmochegfdljfaaW.PrintLast Go.Proofs.YtbmochegfdljfaaW.PrintMore


theorem LedgerCorrections : wageofficelaw39_LedgerCorrections.Pure := by
  intro l e0 e1 e2 e3 e4 e5 id a d hl h0 h1 h2 h3 h4 h5 hid ha hd
  have hz := sz_all hl.2
  have he : szB (⟨e0, e1, e2, e3, e4, e5⟩ : S26) = true := sz_of ⟨h0, h1, h2, h3, h4, h5⟩
  have hu : szB (⟨id, e2, e1, e3, e4, e5⟩ : S26) = true := sz_of ⟨hid, h2, h1, h3, h4, h5⟩
  apply ev_ex
  have hj : ∀ n : List S26, Ev (fun k => wageofficelaw39_LedgerCorrections.j0 k a d true true l e0 e1 e2 e3 e4 e5 n) true := fun n => by
    refine ev_up ?_
    simp only [wageofficelaw39_LedgerCorrections.j0]
    exact ev_yes (by simp) (ev_ret _)
  unfold wageofficelaw39_LedgerCorrections.f
  refine ev_bnd head_ev (ev_ite (fun _ => ev_ret _) (fun c => ?_))
  rw [post_eval hz he]
  simp only [Option.bind_some, show wageofficelaw39_back.f e0 e1 e2 e3 e4 e5 = some (e0, e2, e1, e3, e4, e5) from rfl]
  have hp := posted l (⟨e0, e1, e2, e3, e4, e5⟩ : S26)
  have hsz := posted_sz hz he
  generalize postL l (⟨e0, e1, e2, e3, e4, e5⟩ : S26) = r at hp hsz
  rw [post_eval hsz hu]
  simp only [Option.bind_some]
  have hp2 := posted r.1 (⟨id, e2, e1, e3, e4, e5⟩ : S26)
  have hsz2 := posted_sz hsz hu
  generalize postL r.1 (⟨id, e2, e1, e3, e4, e5⟩ : S26) = q at hp2 hsz2
  refine ev_ite (fun c1 => ev_ite (fun c2 => ?_) (fun _ => hj _)) (fun _ => hj _)
  by_cases hlen : ((q.1.length : Int) != wrap64 ((l.length : Int) + 2)) = true
  · rw [hlen]; exact hj _
  · have hlen' : ((q.1.length : Int) != wrap64 ((l.length : Int) + 2)) = false := by simpa using hlen
    rw [hlen']
    rw [w64 (by omega) (by omega)] at hlen'
    have hql : q.1.length = l.length + 2 := by simp at hlen'; omega
    cases hp with
    | err c hc => exact absurd c1 hc
    | known x hv hf hx hag =>
      cases hp2 with
      | err c hc => exact absurd c2 hc
      | known y hv2 hf2 hy hag2 => simp at hql
      | new hv2 hf2 hd2 hl2 hs2 => simp at hql
    | new hv hf hdis hln hs =>
      cases hp2 with
      | err c hc => exact absurd c2 hc
      | known y hv2 hf2 hy hag2 => simp at hql
      | new hv2 hf2 hd2 hl2 hs2 =>
        refine ev_up ?_
        simp only [wageofficelaw39_LedgerCorrections.j0]
        refine ev_no (by simp) (ev_yes (by simp) ?_)
        simp only [bal_eval hz, bal_eval hsz2, Option.bind_some]
        refine ev_eq (ev_ret _) ?_
        rw [beq_iff_eq, bal_eq (hv2.snoc hf2 hl2 hd2 hs2), bal_eq hv, balF_append, balF_append, balF_cons, balF_cons]
        have hne := (form_parts hf).2.2.2.2.1
        simp only at hne
        have hv0 : val a d e5 (⟨e0, e1, e2, e3, e4, e5⟩ : S26) + val a d e5 (⟨id, e2, e1, e3, e4, e5⟩ : S26) = 0 := by
          unfold val movE
          simp only
          by_cases c3 : e5 ≤ e5 ∧ e4 ≤ d
          · rw [if_pos c3, if_pos c3]
            by_cases k1 : a.toList = e1.toList
            · rw [if_pos k1, if_neg (fun h => hne (k1.symm.trans h)), if_pos k1]; omega
            · rw [if_neg k1]
              by_cases k2 : a.toList = e2.toList
              · rw [if_pos k2, if_pos k2]; omega
              · rw [if_neg k2, if_neg k2, if_neg k1]; rfl
          · rw [if_neg c3, if_neg c3]; rfl
        simp only [balF, List.map_nil, List.sum_nil] at *
        omega
end Go.Proofs.Ytbmochegfdljfaa.Pure
