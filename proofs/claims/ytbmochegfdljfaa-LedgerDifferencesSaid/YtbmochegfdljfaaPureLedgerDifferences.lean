/- The difference between a balance as booked by a later day and as booked by an earlier one is the sum over the entries that were booked in between. -/
import Derived.Test.YtbmochegfdljfaaStaLedgerDifferences
import Derived.Test.YtbmochegfdljfaaLdE
namespace Go.Proofs.Ytbmochegfdljfaa.Pure
set_option linter.unusedVariables false
set_option linter.unusedSimpArgs false
open Go.RowKit Go.Proofs.Ytbmochegfdljfaa.My Go.Proofs.Ytbmochegfdljfaa.Aid Go.Proofs.Ytbmochegfdljfaa.EvA Go.Proofs.Ytbmochegfdljfaa.LdE Go.Proofs.YtbmochegfdljfaaW.PrintWords Go.Proofs.YtbmochegfdljfaaW.PrintLast Go.Proofs.YtbmochegfdljfaaW.PrintMore


theorem diff_loop {l : List S26} {a : ByteArray} {d f t : Int} (hz : l.all szB = true) (hv : Vl l) (hl : l.length ≤ 300) (hft : f ≤ t) (n : Nat) : ∀ (i : Nat), i + n = l.length →
    Ev (fun k => wageofficelaw39_LedgerDifferences.l0 k a d f t true (balF (l.take i) a d t - balF (l.take i) a d f) (i : Int) l) true := by
  induction n with
  | zero =>
    intro i hi
    have hil : i = l.length := by omega
    subst hil
    have b1 := balF_bd hv.form a d t
    have b2 := balF_bd hv.form a d f
    refine ev_up ?_
    simp only [wageofficelaw39_LedgerDifferences.l0]
    refine ev_no (by omega) (ev_yes (by simp) ?_)
    simp only [bal_eval hz, Option.bind_some]
    refine ev_eq (ev_ret _) ?_
    rw [bal_eq hv, bal_eq hv, List.take_length, beq_iff_eq, w64 (by omega) (by omega)]
  | succ n ih =>
    intro i hi
    have hlt : i < l.length := by omega
    have hf := hv.form _ (List.getElem_mem hlt)
    have hp := form_parts hf
    have hih := ih (i + 1) (by omega)
    have b1 := balF_bd (l := l.take i) (fun x hx => hv.form x (List.mem_of_mem_take hx)) a d t
    have b2 := balF_bd (l := l.take i) (fun x hx => hv.form x (List.mem_of_mem_take hx)) a d f
    rw [List.length_take] at b1 b2
    rw [take_snoc _ _ hlt, balF_append, balF_append, balF_cons, balF_cons] at hih
    simp only [balF, List.map_nil, List.sum_nil, Int.add_zero] at hih
    refine ev_up ?_
    simp only [wageofficelaw39_LedgerDifferences.l0]
    refine ev_yes (by omega) (ev_yes (by omega) ?_)
    rw [rd26_at hlt]
    generalize hS : balF (l.take i) a d t - balF (l.take i) a d f = S
    have hSb : -600000000000000 ≤ S ∧ S ≤ 600000000000000 := by omega
    have hnext : Ev (fun k => wageofficelaw39_LedgerDifferences.l0 k a d f t true (S + (val a d t l[i] - val a d f l[i])) ((i + 1 : Nat) : Int) l) true := by
      refine ev_fn hih (fun k => ?_)
      congr 1
      rw [← hS]; unfold balF; omega
    generalize l[i] = x at hf hp hnext ⊢
    have hstep : ∀ q : Bool, (q = true ↔ ¬ (f < x.f5 ∧ x.f5 ≤ t ∧ x.f4 ≤ d)) → Ev (fun k => wageofficelaw39_LedgerDifferences.j2 k a d f t true S (i : Int) q l x.f0 x.f1 x.f2 x.f3 x.f4 x.f5) true := by
      intro q hq
      refine ev_up ?_
      simp only [wageofficelaw39_LedgerDifferences.j2]
      rw [w64 (n := (i : Int) + 1) (by omega) (by omega), show (i : Int) + 1 = ((i + 1 : Nat) : Int) from by omega]
      have hv1 : val a d t x - val a d f x = if q = true then 0 else movE a x := by
        unfold val
        by_cases hqq : q = true
        · rw [if_pos hqq]
          have := hq.1 hqq
          by_cases c1 : x.f5 ≤ t ∧ x.f4 ≤ d
          · rw [if_pos c1, if_pos (by omega)]; omega
          · rw [if_neg c1, if_neg (by omega)]; omega
        · rw [if_neg hqq]
          have : f < x.f5 ∧ x.f5 ≤ t ∧ x.f4 ≤ d := Classical.not_not.1 fun h => hqq (hq.2 h)
          rw [if_pos (by omega), if_neg (by omega)]; omega
      rw [hv1] at hnext
      refine ev_ite (fun c => ?_) (fun c => ?_)
      · rw [if_pos c] at hnext
        simpa using hnext
      · rw [if_neg c] at hnext
        unfold movE at hnext
        refine ev_ite (fun c1 => ?_) (fun c1 => ?_)
        · rw [if_pos c1.symm] at hnext
          refine ev_ite (fun c2 => absurd (c1.trans c2.symm) hp.2.2.2.2.1) (fun c2 => ?_)
          rw [w64 (by omega) (by omega)]
          exact hnext
        · rw [if_neg (fun h => c1 h.symm)] at hnext
          refine ev_ite (fun c2 => ?_) (fun c2 => ?_)
          · rw [if_pos c2.symm] at hnext
            rw [w64 (by omega) (by omega)]
            exact hnext
          · rw [if_neg (fun h => c2 h.symm)] at hnext
            simpa using hnext
    refine ev_ite (fun c1 => hstep true (by simp; omega)) (fun c1 => ev_ite (fun c2 => hstep true (by simp; omega)) (fun c2 => hstep _ ?_))
    rw [decide_eq_true_eq]; omega
theorem LedgerDifferences : wageofficelaw39_LedgerDifferences.Pure := by
  intro l a d f t hl ha hd hf ht
  have hz := sz_all hl.2
  apply ev_ex
  have hj : Ev (fun k => wageofficelaw39_LedgerDifferences.j0 k a d f t true true l) true := by
    refine ev_up ?_
    simp only [wageofficelaw39_LedgerDifferences.j0]
    exact ev_yes (by simp) (ev_ret _)
  unfold wageofficelaw39_LedgerDifferences.f
  refine ev_bnd head_ev (ev_ite (fun _ => hj) (fun c => ?_))
  rw [val_eval hz]
  simp only [Option.bind_some]
  refine ev_ite (fun hvb => ?_) (fun _ => hj)
  by_cases hft : f > t
  · rw [decide_eq_true hft]; exact hj
  · rw [decide_eq_false hft]
    refine ev_up ?_
    simp only [wageofficelaw39_LedgerDifferences.j0]
    refine ev_no (by simp) ?_
    exact diff_loop hz (valid_iff.1 hvb) (by omega) (by omega) l.length 0 (by omega)
end Go.Proofs.Ytbmochegfdljfaa.Pure
