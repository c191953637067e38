/- For every total and at most 64 claims, share.Fair gives parts from 0 to the claims, in rank, and together the total or all claims, and share.Check takes them. -/
import Derived.Test.YtnadfkhllfgoiaaMyx4
import Derived.Test.YtnadfkhllfgoiaaShE
namespace Go.Proofs.Ytnadfkhllfgoiaa.Pure
open Go.RowKit Go.Proofs.Ytnadfkhllfgoiaa.My Go.Proofs.Ytnadfkhllfgoiaa.Aid Go.Proofs.Ytnadfkhllfgoiaa.EvA Go.Proofs.Ytnadfkhllfgoiaa.ShM Go.Proofs.Ytnadfkhllfgoiaa.ShP Go.Proofs.Ytnadfkhllfgoiaa.ShE Go.Proofs.YtnadfkhllfgoiaaW.PrintWords Go.Proofs.YtnadfkhllfgoiaaW.PrintLast Go.Proofs.YtnadfkhllfgoiaaW.PrintMore

theorem divides_l0 (l p : List Int) (t : Int) (hok : Ok t l) (hF : Fairly t l p) (d : Nat) : ∀ (i : Nat), i + d = l.length → Ev (fun k => wageofficelaw32_ShareDivides.l0 k true l t p (i : Int)) true := by
  have h64 := hok.len
  have hlen := hF.len
  have l1 : ∀ (i : Nat), i < l.length → Ev (fun k => wageofficelaw32_ShareDivides.l0 k true l t p ((i + 1 : Nat) : Int)) true → ∀ (d j : Nat), j + d = l.length → Ev (fun k => wageofficelaw32_ShareDivides.l1 k true l t p (i : Int) (j : Int)) true := by
    intro i hi hev d
    induction d with
    | zero =>
      intro j hj
      refine ev_up ?_
      simp only [wageofficelaw32_ShareDivides.l1]
      refine ev_no (by omega) ?_
      rw [w64 (by omega) (by omega), show (i : Int) + 1 = ((i + 1 : Nat) : Int) from by omega]
      exact hev
    | succ d ih =>
      intro j hj
      have hb := hF.bd j (by omega)
      have hc := hok.at_ j (by omega)
      have hn := ih (j + 1) (by omega)
      refine ev_up ?_
      simp only [wageofficelaw32_ShareDivides.l1]
      rw [rd_at, rd_at, rd_at, w64 (n := (j : Int) + 1) (by omega) (by omega), w64 (n := at_ p j + 1) (by omega) (by omega), show (j : Int) + 1 = ((j + 1 : Nat) : Int) from by omega]
      refine ev_yes (by omega) (ev_yes (by omega) (ev_yes (by omega) (ev_ite (fun hlt => ?_) (fun _ => hn))))
      refine ev_yes (by simp) (ev_yes (by omega) (ev_yes (by omega) (ev_ite (fun _ => hn) (fun hle => ?_))))
      have hr := hF.level i j hi (by omega) hlt
      rcases hr with hr | ⟨hr, hij⟩
      · exact absurd hr hle
      · refine ev_yes hr ?_
        rw [decide_eq_true (by omega : (i : Int) < (j : Int))]
        exact hn
  induction d with
  | zero =>
    intro i hi
    refine ev_up ?_
    simp only [wageofficelaw32_ShareDivides.l0]
    refine ev_no (by omega) (ev_yes (by simp) ?_)
    have hp : ∀ x ∈ p, 0 ≤ x ∧ x ≤ 1000000000000 := fun x hx => by
      obtain ⟨j, hj, rfl⟩ := List.getElem_of_mem hx
      have h1 := hF.bd j (by omega)
      have h2 := hok.at_ j (by omega)
      rw [← at_lt]; omega
    refine ev_bnd (sum_ev (by omega) hp) (ev_bnd (sum_ev h64 hok.c) ?_)
    refine ev_yes (by rw [hF.sum, mn_min]) ?_
    obtain ⟨b, hb1, hb2⟩ := check_ok (m := p) hok (by omega)
    obtain rfl := hb2.2 hF
    exact ev_bnd hb1 (ev_ret _)
  | succ d ih =>
    intro i hi
    have hb := hF.bd i (by omega)
    refine ev_up ?_
    simp only [wageofficelaw32_ShareDivides.l0]
    rw [rd_at, rd_at]
    refine ev_yes (by omega) (ev_yes (by simp) (ev_yes (by omega) (ev_yes (by omega) (ev_yes (by omega) ?_))))
    rw [decide_eq_true hb.2]
    refine ev_up ?_
    simp only [wageofficelaw32_ShareDivides.j2]
    exact l1 i (by omega) (ih (i + 1) (by omega)) l.length 0 (by omega)
theorem ShareDivides : wageofficelaw32_ShareDivides.Pure := by
  intro a0 l1 a2 h0 hm hl hw h2
  have b0 := wf64 h0
  have b2 := wf64 h2
  apply ev_ex
  have hp := pickv_bd a2 (n := 1000000000000) (by omega)
  unfold wageofficelaw32_ShareDivides.f
  refine ev_bnd head_ev ?_
  rw [pick_eval b2.1 b2.2 (by omega)]
  simp only [Option.bind_some]
  rw [w64 (n := 1 + pickv a2 1000000000000) (by omega) (by omega)]
  refine ev_bnd (amounts_ev l1 _ (by omega) (by omega) hl hw) ?_
  have hA1 := amt_length l1 (1 + pickv a2 1000000000000)
  have hA2 := amt_bd l1 (lim := 1 + pickv a2 1000000000000) (by omega)
  generalize amt l1 (1 + pickv a2 1000000000000) = l at *
  have hA3 : ∀ x ∈ l, 0 ≤ x ∧ x ≤ 1000000000000 := fun x hx => by have := hA2 x hx; omega
  have hs := sum_bd' (n := 64) (by omega) hA1 hA3
  refine ev_bnd (sum_ev hA1 hA3) ?_
  rw [w64 (n := l.sum + 10) (by omega) (by omega), mn_min, w64 (n := min (l.sum + 10) 1000000000000 + 1) (by omega) (by omega), pick_eval b0.1 b0.2 (by omega)]
  simp only [Option.bind_some]
  have hq := pickv_bd a0 (n := min (l.sum + 10) 1000000000000 + 1) (by omega)
  generalize pickv a0 (min (l.sum + 10) 1000000000000 + 1) = t at *
  have hok : Ok t l := ⟨hA1, by omega, by omega, hA3⟩
  have hF := fairl_fairly hok
  rw [hok.fair]
  simp only [Option.bind_some, if_true]
  refine ev_up ?_
  simp only [wageofficelaw32_ShareDivides.j0]
  exact ev_no (by simp [hF.len]) (divides_l0 l _ t hok hF l.length 0 (by omega))
end Go.Proofs.Ytnadfkhllfgoiaa.Pure
