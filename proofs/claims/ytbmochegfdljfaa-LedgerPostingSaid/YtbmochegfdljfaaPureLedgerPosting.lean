/- A new entry increases the balance of its Debit by its amount, and decreases that of its Credit, from its Day and its Booked on; all other balances are unchanged. -/
import Derived.Test.YtbmochegfdljfaaStaLedgerPosting
import Derived.Test.YtbmochegfdljfaaLdE
namespace Go.Proofs.Ytbmochegfdljfaa.Pure
set_option linter.unusedVariables false
set_option linter.unusedSimpArgs false
open Go.RowKit Go.Proofs.Ytbmochegfdljfaa.My Go.Proofs.Ytbmochegfdljfaa.Aid Go.Proofs.Ytbmochegfdljfaa.EvA Go.Proofs.Ytbmochegfdljfaa.LdE Go.Proofs.YtbmochegfdljfaaW.PrintWords Go.Proofs.YtbmochegfdljfaaW.PrintLast Go.Proofs.YtbmochegfdljfaaW.PrintMore


theorem posting_j1 {m : List S26} {a : ByteArray} {d b B : Int} {q : Bool} {e0 : Int} {e1 e2 : ByteArray} {e3 e4 e5 : Int} (hm : m.all szB = true) (hf : formB (⟨e0, e1, e2, e3, e4, e5⟩ : S26) = true) (hB : -2000000000000000 ≤ B ∧ B ≤ 2000000000000000)
    (hq : q = true ↔ e5 ≤ b ∧ e4 ≤ d) (hbal : bal m a d b = B + val a d b (⟨e0, e1, e2, e3, e4, e5⟩ : S26)) : Ev (fun k => wageofficelaw39_LedgerPosting.j1 k a d b true B q e0 e1 e2 e3 e4 e5 m) true := by
  have hp := form_parts hf
  simp only at hp
  refine ev_up ?_
  simp only [wageofficelaw39_LedgerPosting.j1]
  simp only [bal_eval hm, Option.bind_some]
  rw [hbal]
  have hv : val a d b (⟨e0, e1, e2, e3, e4, e5⟩ : S26) = if e5 ≤ b ∧ e4 ≤ d then (if a.toList = e1.toList then e3 else if a.toList = e2.toList then -e3 else 0) else 0 := rfl
  refine ev_ite (fun c => ?_) (fun c => ?_)
  · rw [hv, if_pos (hq.1 c)]
    refine ev_ite (fun c1 => ?_) (fun c1 => ?_)
    · rw [if_pos c1]
      refine ev_ite (fun c2 => absurd (c1.symm.trans c2) hp.2.2.2.2.1) (fun c2 => ev_yes (by simp) (ev_eq (ev_ret _) ?_))
      rw [beq_iff_eq, w64 (by omega) (by omega)]
    · rw [if_neg c1]
      refine ev_ite (fun c2 => ?_) (fun c2 => ?_)
      · rw [if_pos c2]
        refine ev_yes (by simp) (ev_eq (ev_ret _) ?_)
        rw [beq_iff_eq, w64 (by omega) (by omega)]; omega
      · rw [if_neg c2]
        refine ev_yes (by simp) (ev_eq (ev_ret _) ?_)
        rw [beq_iff_eq]; omega
  · rw [hv, if_neg (fun h => c (hq.2 h))]
    refine ev_yes (by simp) (ev_eq (ev_ret _) ?_)
    rw [beq_iff_eq]; omega
theorem LedgerPosting : wageofficelaw39_LedgerPosting.Pure := by
  intro l e0 e1 e2 e3 e4 e5 a d b hl h0 h1 h2 h3 h4 h5 ha hd hb
  have hz := sz_all hl.2
  have he : szB (⟨e0, e1, e2, e3, e4, e5⟩ : S26) = true := sz_of ⟨h0, h1, h2, h3, h4, h5⟩
  apply ev_ex
  unfold wageofficelaw39_LedgerPosting.f
  refine ev_bnd head_ev (ev_ite (fun _ => ev_ret _) (fun c => ?_))
  rw [post_eval hz he]
  simp only [Option.bind_some]
  have hp := posted l (⟨e0, e1, e2, e3, e4, e5⟩ : S26)
  have hsz := posted_sz hz he
  generalize postL l (⟨e0, e1, e2, e3, e4, e5⟩ : S26) = r at hp hsz
  cases hp with
  | known x hv hf hx hag =>
    have hne : ((l.length : Int) != wrap64 ((l.length : Int) + 1)) = true := by rw [w64 (by omega) (by omega)]; simp; omega
    refine ev_yes (by simp) ?_
    rw [hne]
    refine ev_up ?_
    simp only [wageofficelaw39_LedgerPosting.j0]
    exact ev_yes (by simp) (ev_yes (by simp) (ev_yes (by simp) (ev_bnd (same_ev l (by omega)) (ev_ret _))))
  | new hv hf hdis hlen hs =>
    have hne : (((l ++ [(⟨e0, e1, e2, e3, e4, e5⟩ : S26)]).length : Int) != wrap64 ((l.length : Int) + 1)) = false := by rw [w64 (by omega) (by omega)]; simp
    refine ev_yes (by simp) ?_
    rw [hne]
    refine ev_up ?_
    simp only [wageofficelaw39_LedgerPosting.j0]
    refine ev_no (by simp) ?_
    simp only [bal_eval hz, Option.bind_some]
    have hbal : bal (l ++ [(⟨e0, e1, e2, e3, e4, e5⟩ : S26)]) a d b = bal l a d b + val a d b (⟨e0, e1, e2, e3, e4, e5⟩ : S26) := by
      rw [bal_eq (hv.snoc hf hlen hdis hs), bal_eq hv, balF_append, balF_cons]; simp [balF]
    have hbd := bal_bd l a d b
    refine ev_ite (fun c1 => posting_j1 hsz hf hbd (by rw [decide_eq_true_eq]; omega) hbal) (fun c1 => posting_j1 hsz hf hbd ?_ hbal)
    constructor
    · intro h; cases h
    · intro h; omega
  | err c hc =>
    refine ev_no hc ?_
    refine ev_up ?_
    simp only [wageofficelaw39_LedgerPosting.j0]
    exact ev_yes (by simp) (ev_yes (by simp) (ev_no hc (ev_ret _)))
end Go.Proofs.Ytbmochegfdljfaa.Pure
