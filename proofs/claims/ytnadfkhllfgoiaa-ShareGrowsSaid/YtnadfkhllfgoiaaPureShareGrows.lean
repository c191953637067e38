/- For every total and at most 64 claims, a greater total gives no claim less; a greater claim gets not less itself, and no other one gets more. -/
import Derived.Test.YtnadfkhllfgoiaaMyx6
import Derived.Test.YtnadfkhllfgoiaaShE
namespace Go.Proofs.Ytnadfkhllfgoiaa.Pure
set_option linter.unusedVariables false
set_option linter.unusedSimpArgs false
open Go.RowKit Go.Proofs.Ytnadfkhllfgoiaa.My Go.Proofs.Ytnadfkhllfgoiaa.Aid Go.Proofs.Ytnadfkhllfgoiaa.EvA Go.Proofs.Ytnadfkhllfgoiaa.ShM Go.Proofs.Ytnadfkhllfgoiaa.ShP Go.Proofs.Ytnadfkhllfgoiaa.ShE Go.Proofs.YtnadfkhllfgoiaaW.PrintWords Go.Proofs.YtnadfkhllfgoiaaW.PrintLast Go.Proofs.YtnadfkhllfgoiaaW.PrintMore

theorem grows_at_set (l : List Int) (i j : Nat) (v : Int) (h : i < l.length) : at_ (l.set i v) j = if i = j then v else at_ l j := by
  unfold at_
  rw [List.getD_eq_getElem?_getD, List.getElem?_set]
  split
  · rename_i e; subst e; simp
  · rw [List.getD_eq_getElem?_getD]
theorem grows_l1 {l a c : List Int} {q : Nat} (h64 : l.length ≤ 64) (ha : a.length = l.length) (hc : c.length = l.length) (h : ∀ i, i < l.length → (i = q → at_ a i ≤ at_ c i) ∧ (i ≠ q → at_ c i ≤ at_ a i)) (d : Nat) : ∀ (i : Nat), i + d = l.length →
    Ev (fun k => wageofficelaw32_ShareGrows.l1 k true l a (q : Int) c (i : Int)) true := by
  induction d with
  | zero =>
    intro i hi
    refine ev_up ?_
    simp only [wageofficelaw32_ShareGrows.l1]
    exact ev_no (by omega) (ev_ret _)
  | succ d ih =>
    intro i hi
    have hn := ih (i + 1) (by omega)
    have hh := h i (by omega)
    refine ev_up ?_
    simp only [wageofficelaw32_ShareGrows.l1]
    rw [rd_at, rd_at, w64 (by omega) (by omega), show (i : Int) + 1 = ((i + 1 : Nat) : Int) from by omega]
    refine ev_yes (by omega) (ev_yes (by simp) (ev_ite (fun e => ?_) (fun e => ?_)))
    · exact ev_yes (by omega) (ev_yes (by omega) (ev_yes (by omega) (ev_yes (hh.1 (by omega)) hn)))
    · refine ev_yes (by omega) (ev_yes (by omega) (ev_yes (by omega) ?_))
      rw [decide_eq_true (hh.2 (by omega))]
      exact hn
theorem ShareGrows : wageofficelaw32_ShareGrows.Pure := by
  intro a0 l1 a2 a3 a4 h0 hm hl hw h2 h3 h4
  have b0 := wf64 h0
  have b2 := wf64 h2
  have b3 := wf64 h3
  have b4 := wf64 h4
  apply ev_ex
  have hp := pickv_bd a4 (n := 1000000) (by omega)
  unfold wageofficelaw32_ShareGrows.f
  refine ev_bnd head_ev ?_
  rw [pick_eval b4.1 b4.2 (by omega)]
  simp only [Option.bind_some]
  rw [w64 (n := 1 + pickv a4 1000000) (by omega) (by omega)]
  refine ev_bnd (amounts_ev l1 _ (by omega) (by omega) hl hw) ?_
  have hA1 := amt_length l1 (1 + pickv a4 1000000)
  have hA2 := amt_bd l1 (lim := 1 + pickv a4 1000000) (by omega)
  generalize amt l1 (1 + pickv a4 1000000) = l at *
  have hA3 : ∀ x ∈ l, 0 ≤ x ∧ x ≤ 1000000 := fun x hx => by have := hA2 x hx; omega
  have hA4 : ∀ x ∈ l, 0 ≤ x ∧ x ≤ 1000000000000 := fun x hx => by have := hA2 x hx; omega
  have hs := sum_bd' (M := 1000000) (n := 64) (by omega) hA1 hA3
  refine ev_bnd (sum_ev hA1 hA4) ?_
  rw [w64 (n := l.sum + 5) (by omega) (by omega), pick_eval b0.1 b0.2 (by omega), pick_eval b3.1 b3.2 (by omega)]
  simp only [Option.bind_some]
  have hq := pickv_bd a0 (n := l.sum + 5) (by omega)
  have hq3 := pickv_bd a3 (n := 100) (by omega)
  generalize pickv a0 (l.sum + 5) = t at *
  generalize pickv a3 100 = m at *
  rw [w64 (n := t + m) (by omega) (by omega)]
  have hok : Ok t l := ⟨hA1, by omega, by omega, hA4⟩
  have hok2 : Ok (t + m) l := ⟨hA1, by omega, by omega, hA4⟩
  have hF := fairl_fairly hok
  have hF2 := fairl_fairly hok2
  rw [hok.fair, hok2.fair]
  simp only [Option.bind_some, if_true]
  generalize fairl t l = a at *
  generalize fairl (t + m) l = b at *
  refine ev_yes (by rw [hF.len]) ?_
  refine ev_up ?_
  simp only [wageofficelaw32_ShareGrows.j0]
  refine ev_no (by simp [hF2.len]) ?_
  have key : Ev (fun k => wageofficelaw32_ShareGrows.l0 k a2 true l t m a b ((l.length : Nat) : Int)) true := by
    refine ev_up ?_
    simp only [wageofficelaw32_ShareGrows.l0]
    refine ev_no (by omega) (ev_ite (fun _ => ev_ret _) (fun hne => ?_))
    rw [pick_eval b2.1 b2.2 (by omega)]
    simp only [Option.bind_some, List.nil_append, List.length_nil]
    have hqk := pickv_bd a2 (n := (l.length : Int)) (by omega)
    obtain ⟨q, hqe⟩ := Int.eq_ofNat_of_zero_le hqk.1
    rw [hqe]
    refine ev_yes (by omega) (ev_yes (by omega) (ev_yes (by omega) (ev_yes (by omega) (ev_yes (by omega) ?_))))
    have hql : q < l.length := by omega
    have hlq := hA3 (at_ l q) (mem_at hql)
    rw [rd_at, w64 (by omega) (by omega), Int.toNat_natCast]
    have hset := fun j => grows_at_set l q j (at_ l q + m) hql
    have hsl : (l.set q (at_ l q + m)).length = l.length := by simp
    have hok3 : Ok t (l.set q (at_ l q + m)) := ⟨by omega, by omega, by omega, fun x hx => by
      obtain ⟨j, hj, rfl⟩ := List.getElem_of_mem hx
      rw [← at_lt hj, hset]
      rw [hsl] at hj
      have := hA3 (at_ l j) (mem_at hj)
      split <;> omega⟩
    have hF3 := fairl_fairly hok3
    rw [hok3.fair]
    simp only [Option.bind_some, if_true]
    refine ev_up ?_
    simp only [wageofficelaw32_ShareGrows.j2]
    refine ev_no (by simp [hF3.len]) ?_
    refine grows_l1 hA1 hF.len (by rw [hF3.len, hsl]) (fun i hi => ?_) l.length 0 (by omega)
    exact hF.claim hF3 hsl hql (by rw [hset, if_pos rfl]; omega) (fun j hj hne => by rw [hset, if_neg (by omega)]) i hi
  have loop : ∀ (d i : Nat), i + d = l.length → Ev (fun k => wageofficelaw32_ShareGrows.l0 k a2 true l t m a b (i : Int)) true := by
    intro d
    induction d with
    | zero =>
      intro i hi
      obtain rfl : i = l.length := by omega
      exact key
    | succ d ih =>
      intro i hi
      refine ev_up ?_
      simp only [wageofficelaw32_ShareGrows.l0]
      have := hF.len
      have := hF2.len
      refine ev_yes (by omega) (ev_yes (by simp) (ev_yes (by omega) (ev_yes (by omega) (ev_yes (by omega) ?_))))
      rw [rd_at, rd_at, w64 (by omega) (by omega), show (i : Int) + 1 = ((i + 1 : Nat) : Int) from by omega, decide_eq_true (hF.grows hF2 (by omega) i (by omega))]
      exact ih (i + 1) (by omega)
  exact loop l.length 0 (by omega)
end Go.Proofs.Ytnadfkhllfgoiaa.Pure
