-- Written by a program of this session (wip/myprint.py), which drives the kit's print over hand-written fragments. Not trusted: Lean checks it.
import Derived.Test.YteapeglolkfimaaMyx0
namespace Go.Proofs.Yteapeglolkfimaa.My
open Go.Proofs.Yteapeglolkfimaa.Aid Go.Proofs.Yteapeglolkfimaa.KdX
open Go.RowKit Go.Proofs.YteapeglolkfimaaW.PrintWords Go.Proofs.YteapeglolkfimaaW.PrintLast Go.Proofs.YteapeglolkfimaaW.PrintMore
attribute [local go_sem] max2_int min2_int max_two min_two max_three min_three max_four min_four   -- for this text's walks alone
set_option linter.unusedVariables false
set_option linter.unusedSimpArgs false

/-! ### sort_Search: function 74 (by hand) -/
set_option maxHeartbeats 400000 in
theorem sort_Search.calls (F : Nat) (cs : Array Value) (n : Int) (p : Int → Bool) (R : World → Prop) (w : World)
    (hF : ∀ args w1, (callFunc F args).run Try.prog w1 = .ok (.enter F args) w1)
    (hn : n < 4611686018427387904) (hRw : R w)
    (hp : ∀ x w1, 0 ≤ x → x < n → R w1 → Calls Try.prog F (#[.int .i64 x] ++ cs) w1 fun e w2 => e = .returned (.bool (p x)) ∧ R w2) :
    Calls Try.prog 74 #[.int .i64 n, .func (.func F) #[] cs] w fun e w' => e = .returned (.int .i64 (bs p 64 0 n)) ∧ R w' := by
  have HRW := Aside0.mk hRw
  have HP := Aside0.mk hp
  clear hRw hp
  obtain ⟨r, hr⟩ : ∃ r, bs p 64 0 n = r := ⟨_, rfl⟩
  rw [hr]
  have HR0 := Aside0.mk hr
  clear hr
  have HN := Aside0.mk hn
  clear hn
  go_enter Try.func74, Try.ntmps74
  go_wp2_with fail
  go_loopw [5, 6, 7] (fun i j _ wr => ∃ (x y : Int) (m : Nat), i = .int .i64 x ∧ j = .int .i64 y ∧ 0 ≤ x ∧ Aside0 (y ≤ n) ∧ Aside0 (y - x < 2 ^ m) ∧ Aside0 (bs p m x y = r) ∧ Aside0 (R wr))
    (fun i j _ _ => (intOf j - intOf i).toNat)
  case atStart => exact ⟨0, n, 64, rfl, rfl, by omega, ⟨Int.le_refl _⟩, ⟨by have := HN.out; omega⟩, HR0, HRW⟩
  case round =>
    obtain ⟨x, y, m, rfl, rfl, hx, HY, HM, HB, HR⟩ := hrel
    by_cases hlt : x < y
    · have hy : y < 4611686018427387904 := Int.lt_of_le_of_lt HY.out HN.out
      have hq : 0 ≤ (x + y) / 2 := by omega
      have hq2 : (x + y) / 2 < y := by omega
      have hpow : ∀ d : Int, 2 * d < 2 ^ m → ∃ q, m = q + 1 ∧ d < 2 ^ q := by
        intro d hd
        cases m with
        | zero => have h1 := HM.out; simp at h1 hd; omega
        | succ q => exact ⟨q, rfl, by rw [Int.pow_succ] at hd; omega⟩
      cases hpk : p ((x + y) / 2) with
      | true =>
        obtain ⟨q, rfl, hd⟩ := hpow ((x + y) / 2 - x) (by have := HM.out; omega)
        have HD := Aside0.mk hd
        clear hd hpow
        have HPK := Aside0.mk hpk
        clear hpk
        go_wp2_with fail
        refine (HP.out ((x + y) / 2) _ hq (by have := HY.out; omega) HR.out).mono ?_
        rintro e w2 ⟨rfl, hR2⟩
        rw [HPK.out]
        have HR2 := Aside0.mk hR2
        clear hR2
        go_wp2
        go_roundw
        case rel => exact ⟨x, (x + y) / 2, q, rfl, by go_num, hx, ⟨by have := HY.out; omega⟩, HD, ⟨by have := HB.out; rw [bs, if_pos hlt, if_pos HPK.out] at this; exact this⟩, HR2⟩
        case measure => simp [intOf]; omega
      | false =>
        obtain ⟨q, rfl, hd⟩ := hpow (y - ((x + y) / 2 + 1)) (by have := HM.out; omega)
        have HD := Aside0.mk hd
        clear hd hpow
        have HPK := Aside0.mk hpk
        clear hpk
        go_wp2_with fail
        refine (HP.out ((x + y) / 2) _ hq (by have := HY.out; omega) HR.out).mono ?_
        rintro e w2 ⟨rfl, hR2⟩
        rw [HPK.out]
        have HR2 := Aside0.mk hR2
        clear hR2
        go_wp2
        go_roundw
        case rel => exact ⟨(x + y) / 2 + 1, y, q, by go_num, rfl, by omega, HY, HD, ⟨by have := HB.out; rw [bs, if_pos hlt, if_neg (by rw [HPK.out]; simp)] at this; exact this⟩, HR2⟩
        case measure => simp [intOf]; omega
    · have hB := HB.out
      rw [bs_done p m x y hlt] at hB
      have HB' := Aside0.mk hB
      clear hB
      go_wp2
      go_ret
      exact ⟨congrArg (fun z => Ending.returned (Value.int .i64 z)) HB'.out, HR.out⟩


end Go.Proofs.Yteapeglolkfimaa.My
