-- Written by a program of this session (wip/myprint.py), which drives the kit's print over hand-written fragments. Not trusted: Lean checks it.
import Derived.Test.YtnadfkhllfgoiaaMyx0
namespace Go.Proofs.Ytnadfkhllfgoiaa.My
open Go.Proofs.Ytnadfkhllfgoiaa.Aid Go.Proofs.Ytnadfkhllfgoiaa.KdX
open Go.RowKit Go.Proofs.YtnadfkhllfgoiaaW.PrintWords Go.Proofs.YtnadfkhllfgoiaaW.PrintLast Go.Proofs.YtnadfkhllfgoiaaW.PrintMore
attribute [local go_sem] max2_int min2_int max_two min_two max_three min_three max_four min_four   -- for this text's walks alone
set_option linter.unusedVariables false
set_option linter.unusedSimpArgs false

/-! ### slices_IndexFunc_int_int: function 65 (by hand) -/
set_option maxHeartbeats 400000 in
theorem slices_IndexFunc_int_int.calls (F : Nat) (cs : Array Value) (A0 : Option Addr) (c0 : Nat) (l0 : List Int) (p : Int → Bool) (R : World → Prop) (w : World)
    (hF : ∀ args w1, (callFunc F args).run Try.prog w1 = .ok (.enter F args) w1)
    (hr0 : Kd.C (Kd.int .i64) w A0 l0.length l0) (hRw : R w) (hRB : ∀ w1, R w1 → Below w.heap.size w w1)
    (hp : ∀ x w1, R w1 → Calls Try.prog F (#[.int .i64 x] ++ cs) w1 fun e w2 => e = .returned (.bool (p x)) ∧ R w2) :
    Calls Try.prog 65 #[.slice A0 l0.length c0, .func (.func F) #[] cs] w fun e w' => e = .returned (.int .i64 ((l0.findIdx? p).elim (-1) fun n => (n : Int))) ∧ R w' := by
  have hm0 : l0.length ≤ 9223372036854775807 := hr0.2.1
  have HR0 := Aside0.mk hr0
  have HRW := Aside0.mk hRw
  have HRB := Aside0.mk hRB
  have HP := Aside0.mk hp
  clear hr0 hRw hRB hp
  go_enter Try.func65, Try.ntmps65
  go_wp2_with fail
  go_loopw [5, 8] (fun _ i wr => ∃ k : Nat, i = .int .i64 k ∧ k ≤ l0.length ∧ Aside0 (R wr) ∧ Aside0 (∀ j, (h : j < l0.length) → j < k → p l0[j] = false))
    (fun _ i _ => l0.length - (intOf i).toNat)
  case atStart => exact ⟨0, rfl, Nat.zero_le _, HRW, ⟨fun j h hj => absurd hj (by omega)⟩⟩
  case round =>
    obtain ⟨k, rfl, hk, HR, HJ⟩ := hrel
    by_cases hlt : k < l0.length
    · obtain ⟨ad, rfl, hx⟩ := Kd.at_int HR0.out (k : Int) (by omega) (by omega)
      replace hx := ((HRB.out _ HR.out).cell (World.block_lt_of_cell? w _ hx)).trans hx
      rw [Int.toNat_natCast] at hx
      have HRD := Aside0.mk (rd_nat hlt)
      by_cases hpk : p l0[k] = true
      · have hfin : l0.findIdx? p = some k := by
          rw [List.findIdx?_eq_some_iff_getElem]
          exact ⟨hlt, hpk, fun j hj => by simpa using HJ.out j (by omega) hj⟩
        have HFIN := Aside0.mk hfin
        clear hfin
        have HPK := Aside0.mk hpk
        clear hpk
        go_wp2_with fail
        refine (HP.out _ _ HR.out).mono ?_
        rintro e w2 ⟨rfl, hR2⟩
        have HR2 := Aside0.mk hR2
        clear hR2
        have hpt : p (rd l0 (k : Int)) = true := by rw [HRD.out]; exact HPK.out
        go_wp2
        go_ret
        exact ⟨by rw [HFIN.out]; rfl, HR2.out⟩
      · have HPK := Aside0.mk hpk
        clear hpk
        go_wp2_with fail
        refine (HP.out _ _ HR.out).mono ?_
        rintro e w2 ⟨rfl, hR2⟩
        have HR2 := Aside0.mk hR2
        clear hR2
        have hpt : p (rd l0 (k : Int)) = false := by rw [HRD.out]; simpa using HPK.out
        go_wp2
        go_roundw
        case rel => exact ⟨k + 1, by go_num, by omega, HR2, ⟨fun j h hj => by
          by_cases e : j = k
          · subst e; simpa using HPK.out
          · exact HJ.out j h (by omega)⟩⟩
        case measure => simp [intOf]; omega
    · have hfin : l0.findIdx? p = none := by
        rw [List.findIdx?_eq_none_iff]
        intro x hx
        obtain ⟨j, hj, rfl⟩ := List.getElem_of_mem hx
        exact HJ.out j hj (by omega)
      have HFIN := Aside0.mk hfin
      clear hfin
      go_wp2
      go_ret
      exact ⟨by rw [HFIN.out]; rfl, HR.out⟩


end Go.Proofs.Ytnadfkhllfgoiaa.My
