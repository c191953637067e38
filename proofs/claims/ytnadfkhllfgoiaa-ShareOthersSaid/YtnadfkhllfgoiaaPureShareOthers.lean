/- For every total and at most 64 claims, if one claim is served with its part and removed, the others get the same parts of the rest. -/
import Derived.Test.YtnadfkhllfgoiaaMyx7
import Derived.Test.YtnadfkhllfgoiaaShE
namespace Go.Proofs.Ytnadfkhllfgoiaa.Pure
set_option linter.unusedVariables false
set_option linter.unusedSimpArgs false
open Go.RowKit Go.Proofs.Ytnadfkhllfgoiaa.My Go.Proofs.Ytnadfkhllfgoiaa.Aid Go.Proofs.Ytnadfkhllfgoiaa.EvA Go.Proofs.Ytnadfkhllfgoiaa.ShM Go.Proofs.Ytnadfkhllfgoiaa.ShP Go.Proofs.Ytnadfkhllfgoiaa.ShE Go.Proofs.YtnadfkhllfgoiaaW.PrintWords Go.Proofs.YtnadfkhllfgoiaaW.PrintLast Go.Proofs.YtnadfkhllfgoiaaW.PrintMore

theorem without_eval {l : List Int} {q : Nat} (h64 : l.length ≤ 64) (hq : q < l.length) : wageofficelaw32_without.f l (q : Int) = some (l.eraseIdx q) := by
  unfold wageofficelaw32_without.f
  rw [w64 (by omega) (by omega), show (q : Int) + 1 = ((q + 1 : Nat) : Int) from by omega]
  simp only [Option.bind_some, List.nil_append, List.length_nil, Int.toNat_natCast]
  rw [if_pos (by omega), if_pos (by omega), if_pos (by omega), if_pos (by omega), if_pos (by rw [List.length_take]; omega), if_pos (by omega), if_pos (by omega), if_pos (by rw [List.length_take, List.length_drop]; omega), List.eraseIdx_eq_take_drop_succ]
theorem ShareOthers : wageofficelaw32_ShareOthers.Pure := by
  intro a0 l1 a2 a3 h0 hm hl hw h2 h3
  have b0 := wf64 h0
  have b2 := wf64 h2
  have b3 := wf64 h3
  apply ev_ex
  have hp := pickv_bd a3 (n := 1000000) (by omega)
  unfold wageofficelaw32_ShareOthers.f
  refine ev_bnd head_ev ?_
  rw [pick_eval b3.1 b3.2 (by omega)]
  simp only [Option.bind_some]
  rw [w64 (n := 1 + pickv a3 1000000) (by omega) (by omega)]
  refine ev_bnd (amounts_ev l1 _ (by omega) (by omega) hl hw) ?_
  have hA1 := amt_length l1 (1 + pickv a3 1000000)
  have hA2 := amt_bd l1 (lim := 1 + pickv a3 1000000) (by omega)
  generalize amt l1 (1 + pickv a3 1000000) = l at *
  have hA3 : ∀ x ∈ l, 0 ≤ x ∧ x ≤ 1000000 := fun x hx => by have := hA2 x hx; omega
  have hA4 : ∀ x ∈ l, 0 ≤ x ∧ x ≤ 1000000000000 := fun x hx => by have := hA2 x hx; omega
  have hs := sum_bd' (M := 1000000) (n := 64) (by omega) hA1 hA3
  refine ev_ite (fun _ => ev_ret _) (fun hne => ?_)
  refine ev_bnd (sum_ev hA1 hA4) ?_
  rw [w64 (n := l.sum + 5) (by omega) (by omega), pick_eval b0.1 b0.2 (by omega), pick_eval b2.1 b2.2 (by omega)]
  simp only [Option.bind_some]
  have hq := pickv_bd a0 (n := l.sum + 5) (by omega)
  have hq2 := pickv_bd a2 (n := (l.length : Int)) (by omega)
  generalize pickv a0 (l.sum + 5) = t at *
  obtain ⟨q, hqe⟩ := Int.eq_ofNat_of_zero_le hq2.1
  rw [hqe] at hq2 ⊢
  have hql : q < l.length := by omega
  have hok : Ok t l := ⟨hA1, by omega, by omega, hA4⟩
  have hF := fairl_fairly hok
  rw [hok.fair]
  simp only [Option.bind_some, if_true]
  generalize fairl t l = a at *
  have hlen := hF.len
  rw [rd_at]
  have hO := hF.others hql
  have hb := hF.bd q hql
  have hsum : at_ a q ≤ t := by
    have h1 : 0 ≤ (a.eraseIdx q).sum := by
      have e := sum_le (a := List.replicate (a.eraseIdx q).length 0) (b := a.eraseIdx q) (by simp) fun i hi => by
        rw [List.length_replicate, List.length_eraseIdx_of_lt (by omega)] at hi
        have e0 : at_ (List.replicate (a.eraseIdx q).length (0 : Int)) i = 0 := by
          unfold at_; rw [List.getD_eq_getElem?_getD, List.getElem?_replicate]; split <;> rfl
        rw [e0, at_erase]
        split
        · exact (hF.bd i (by omega)).1
        · exact (hF.bd (i + 1) (by omega)).1
      have e2 : ∀ n : Nat, (List.replicate n (0 : Int)).sum = 0 := fun n => by
        induction n with
        | zero => rfl
        | succ n ih => rw [List.replicate_succ, List.sum_cons, ih]; rfl
      rw [e2] at e; exact e
    rw [sum_erase (by omega)] at h1
    have := hF.sum
    omega
  refine ev_yes (by omega) (ev_yes (by omega) (ev_yes (by omega) ?_))
  refine ev_up ?_
  simp only [wageofficelaw32_ShareOthers.j0]
  refine ev_no (by simp; omega) (ev_yes (by omega) (ev_yes (by omega) ?_))
  rw [without_eval hA1 hql, without_eval (by omega) (by omega), rd_at, w64 (by omega) (by omega)]
  simp only [Option.bind_some]
  have hle : (l.eraseIdx q).length = l.length - 1 := List.length_eraseIdx_of_lt hql
  have hok2 : Ok (t - at_ a q) (l.eraseIdx q) := ⟨by omega, by omega, by omega, fun x hx => hA4 x (List.mem_of_mem_eraseIdx hx)⟩
  have hF2 := fairl_fairly hok2
  rw [hok2.fair]
  simp only [Option.bind_some, if_true]
  refine ev_bnd (same_ev _ _ (by rw [hF2.len]; omega)) (ev_eq (ev_ret _) ?_)
  exact decide_eq_true (hF2.unique hO)
end Go.Proofs.Ytnadfkhllfgoiaa.Pure
