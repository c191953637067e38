-- Written by a program of this session (wip/myprint.py), which drives the kit's print over hand-written fragments. Not trusted: Lean checks it.
import Derived.Test.YtbmochegfdljfaaMyx0
namespace Go.Proofs.Ytbmochegfdljfaa.My
open Go.Proofs.Ytbmochegfdljfaa.Aid Go.Proofs.Ytbmochegfdljfaa.KdX
open Go.RowKit Go.Proofs.YtbmochegfdljfaaW.PrintWords Go.Proofs.YtbmochegfdljfaaW.PrintLast Go.Proofs.YtbmochegfdljfaaW.PrintMore
attribute [local go_sem] max2_int min2_int max_two min_two max_three min_three max_four min_four   -- for this text's walks alone
set_option linter.unusedVariables false
set_option linter.unusedSimpArgs false

/-! ### api_Entry_48: function 48 (by hand) -/
set_option maxRecDepth 100000 in
set_option maxHeartbeats 1000000 in
theorem api_Entry_48.calls (F : Nat) (cs : Array Value) (A0 : Option Addr) (c0 : Nat) (l0 : List S26) (p : S26 → Bool) (R : World → Prop) (w : World)
    (hF : ∀ args w1, (callFunc F args).run Try.prog w1 = .ok (.enter F args) w1)
    (hr0 : Kd.C k26 w A0 l0.length l0) (hRw : R w) (hRB : ∀ w1, R w1 → Below w.heap.size w w1)
    (hp : ∀ x w1, R w1 → Calls Try.prog F (#[.agg #[.int .i64 x.f0, .string x.f1, .string x.f2, .int .i64 x.f3, .int .i64 x.f4, .int .i64 x.f5]] ++ cs) w1 fun e w2 => e = .returned (.bool (p x)) ∧ R w2) :
    Calls Try.prog 48 #[.slice A0 l0.length c0, .func (.func F) #[] cs] w fun e w' => e = .returned (.int .i64 ((l0.findIdx? p).elim (-1) fun n => (n : Int))) ∧ R w' := by
  have hm0 : l0.length ≤ 9223372036854775807 := hr0.2.1
  have hu26 := Try.underlying26
  have HR0 := Aside0.mk hr0
  have HRW := Aside0.mk hRw
  have HRB := Aside0.mk hRB
  have HP := Aside0.mk hp
  clear hr0 hRw hRB hp
  go_enter Try.func48, Try.ntmps48
  go_wp2_with fail
  go_loopw [5, 8] (fun _ i wr => ∃ k : Nat, i = .int .i64 k ∧ k ≤ l0.length ∧ Aside0 (R wr) ∧ Aside0 (∀ j, (h : j < l0.length) → j < k → p l0[j] = false))
    (fun _ i _ => l0.length - (intOf i).toNat)
  case atStart => exact ⟨0, rfl, Nat.zero_le _, HRW, ⟨fun j h hj => absurd hj (by omega)⟩⟩
  case round =>
    obtain ⟨k, rfl, hk, HR, HJ⟩ := hrel
    by_cases hlt : k < l0.length
    · obtain ⟨ad, rfl, g0, g1, g2, g3, g4, g5⟩ := at_T26 HR0.out (k : Int) (by omega) (by omega)
      have hrd : rd_T26 l0 (k : Int) = l0[k] := by simp [rd_T26, List.getD_eq_getElem?_getD, hlt]
      rw [Int.toNat_natCast, hrd] at g0 g1 g2 g3 g4 g5
      clear hrd
      have HPY := Aside0.mk (HP.out l0[k])
      have HJK := Aside0.mk (show p l0[k] = true → l0.findIdx? p = some k from fun h => by
        rw [List.findIdx?_eq_some_iff_getElem]
        exact ⟨hlt, h, fun j hj => by simpa using HJ.out j (by omega) hj⟩)
      have HJN := Aside0.mk (show p l0[k] = false → ∀ j, (h : j < l0.length) → j < k + 1 → p l0[j] = false from fun hf j h hj => by
          by_cases e : j = k
          · subst e; exact hf
          · exact HJ.out j h (by omega))
      obtain ⟨y, hy⟩ : ∃ y, l0[k] = y := ⟨_, rfl⟩
      rw [hy] at g0 g1 g2 g3 g4 g5 HPY HJK HJN
      clear hy
      replace g0 := ((HRB.out _ HR.out).cell (World.block_lt_of_cell? w _ g0)).trans g0
      replace g1 := ((HRB.out _ HR.out).cell (World.block_lt_of_cell? w _ g1)).trans g1
      replace g2 := ((HRB.out _ HR.out).cell (World.block_lt_of_cell? w _ g2)).trans g2
      replace g3 := ((HRB.out _ HR.out).cell (World.block_lt_of_cell? w _ g3)).trans g3
      replace g4 := ((HRB.out _ HR.out).cell (World.block_lt_of_cell? w _ g4)).trans g4
      replace g5 := ((HRB.out _ HR.out).cell (World.block_lt_of_cell? w _ g5)).trans g5
      go_wp2_with fail
      refine (HPY.out _ HR.out).mono ?_
      rintro e w2 ⟨rfl, hR2⟩
      have HR2 := Aside0.mk hR2
      clear hR2
      cases hpk : p y with
      | true =>
        have HFIN := Aside0.mk (HJK.out hpk)
        clear hpk
        go_wp2
        go_ret
        exact ⟨by rw [HFIN.out]; rfl, HR2.out⟩
      | false =>
        have HFN := Aside0.mk (HJN.out hpk)
        clear hpk
        go_wp2
        go_roundw
        case rel => exact ⟨k + 1, by go_num, by omega, HR2, HFN⟩
        case measure => simp [intOf]; omega
    · have hfin : l0.findIdx? p = none := by
        rw [List.findIdx?_eq_none_iff]
        intro x hx
        obtain ⟨j, hj, rfl⟩ := List.getElem_of_mem hx
        exact HJ.out j hj (by omega)
      have HFIN := Aside0.mk hfin
      clear hfin
      go_wp2
      go_ret
      exact ⟨by rw [HFIN.out]; rfl, HR.out⟩


end Go.Proofs.Ytbmochegfdljfaa.My
