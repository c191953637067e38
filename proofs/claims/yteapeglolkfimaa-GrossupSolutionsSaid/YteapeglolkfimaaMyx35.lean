-- Written by a program of this session (wip/myprint.py), which drives the kit's print over hand-written fragments. Not trusted: Lean checks it.
import Derived.Test.YteapeglolkfimaaMyx0
namespace Go.Proofs.Yteapeglolkfimaa.My
open Go.Proofs.Yteapeglolkfimaa.Aid Go.Proofs.Yteapeglolkfimaa.KdX
open Go.RowKit Go.Proofs.YteapeglolkfimaaW.PrintWords Go.Proofs.YteapeglolkfimaaW.PrintLast Go.Proofs.YteapeglolkfimaaW.PrintMore
attribute [local go_sem] max2_int min2_int max_two min_two max_three min_three max_four min_four   -- for this text's walks alone
set_option linter.unusedVariables false
set_option linter.unusedSimpArgs false

/-! ### grossup_first: function 35 (by hand) -/
-- (the type of functions, for the laws' rows) k24
def firstB (p : Int → Bool) : Nat → Int → Int → Int
  | 0, low, _ => low
  | m + 1, low, high => if low ≤ high then (if p (low + (high - low) / 2) then firstB p m low (low + (high - low) / 2 - 1) else firstB p m (low + (high - low) / 2 + 1) high) else low
theorem firstB_done (p : Int → Bool) (m : Nat) (low high : Int) (h : ¬ low ≤ high) : firstB p m low high = low := by
  cases m with
  | zero => rfl
  | succ m => rw [firstB, if_neg h]
theorem firstB_bd (p : Int → Bool) : ∀ (m : Nat) (low high : Int), low ≤ firstB p m low high ∧ (firstB p m low high ≤ high + 1 ∨ firstB p m low high = low)
  | 0, low, high => ⟨Int.le_refl _, .inr rfl⟩
  | m + 1, low, high => by
    rw [firstB]
    split
    · rename_i h
      have hm : 0 ≤ (high - low) / 2 ∧ (high - low) / 2 ≤ high - low := by omega
      split
      · have h1 := firstB_bd p m low (low + (high - low) / 2 - 1); omega
      · have h1 := firstB_bd p m (low + (high - low) / 2 + 1) high; omega
    · exact ⟨Int.le_refl _, .inr rfl⟩
set_option maxHeartbeats 400000 in
theorem grossup_first.calls (F : Nat) (cs : Array Value) (low0 high0 : Int) (p : Int → Bool) (R : World → Prop) (w : World)
    (hF : ∀ args w1, (callFunc F args).run Try.prog w1 = .ok (.enter F args) w1)
    (h0 : 0 ≤ low0) (h1 : high0 < 4611686018427387904) (hRw : R w)
    (hp : ∀ x w1, low0 ≤ x → x ≤ high0 → R w1 → Calls Try.prog F (#[.int .i64 x] ++ cs) w1 fun e w2 => e = .returned (.bool (p x)) ∧ R w2) :
    Calls Try.prog 35 #[.int .i64 low0, .int .i64 high0, .func (.func F) #[] cs] w fun e w' => e = .returned (.int .i64 (firstB p 64 low0 high0)) ∧ R w' := by
  have HRW := Aside0.mk hRw
  have HP := Aside0.mk hp
  clear hRw hp
  obtain ⟨r, hr⟩ : ∃ r, firstB p 64 low0 high0 = r := ⟨_, rfl⟩
  rw [hr]
  have HR0 := Aside0.mk hr
  clear hr
  have H1 := Aside0.mk h1
  have H0 := Aside0.mk h0
  clear h1
  go_enter Try.func35, Try.ntmps35
  go_wp2_with fail
  go_loopw [0, 1, 7] (fun i j _ wr => ∃ (x y : Int) (m : Nat), i = .int .i64 x ∧ j = .int .i64 y ∧ 0 ≤ x ∧ Aside0 (low0 ≤ x) ∧ Aside0 (y ≤ high0) ∧ Aside0 (y - x < 2 ^ m - 1) ∧ Aside0 (firstB p m x y = r) ∧ Aside0 (R wr))
    (fun i j _ _ => (intOf j + 1 - intOf i).toNat)
  case atStart => exact ⟨low0, high0, 64, rfl, rfl, h0, ⟨Int.le_refl _⟩, ⟨Int.le_refl _⟩, ⟨by have := H1.out; omega⟩, HR0, HRW⟩
  case round =>
    obtain ⟨x, y, m, rfl, rfl, hx, HX, HY, HM, HB, HR⟩ := hrel
    by_cases hlt : x ≤ y
    · have hy : y < 4611686018427387904 := Int.lt_of_le_of_lt HY.out H1.out
      have hq : 0 ≤ (y - x) / 2 := by omega
      have hq2 : (y - x) / 2 ≤ y - x := by omega
      have hpow : ∃ q, m = q + 1 ∧ (y - x) / 2 < 2 ^ q := by
        cases m with
        | zero => have h1 := HM.out; simp at h1; omega
        | succ q => exact ⟨q, rfl, by have h1 := HM.out; rw [Int.pow_succ] at h1; omega⟩
      obtain ⟨q, rfl, hd⟩ := hpow
      have HD := Aside0.mk hd
      clear hd
      cases hpk : p (x + (y - x) / 2) with
      | true =>
        have HPK := Aside0.mk hpk
        clear hpk
        go_wp2_with fail
        refine (HP.out (x + (y - x) / 2) _ (by have := HX.out; omega) (by have := HY.out; omega) HR.out).mono ?_
        rintro e w2 ⟨rfl, hR2⟩
        rw [HPK.out]
        have HR2 := Aside0.mk hR2
        clear hR2
        go_wp2
        go_roundw
        case rel => exact ⟨x, x + (y - x) / 2 - 1, q, rfl, by go_num, hx, HX, ⟨by have := HY.out; omega⟩, ⟨by have := HD.out; omega⟩, ⟨by have := HB.out; rw [firstB, if_pos hlt, if_pos HPK.out] at this; exact this⟩, HR2⟩
        case measure => simp [intOf]; omega
      | false =>
        have HPK := Aside0.mk hpk
        clear hpk
        go_wp2_with fail
        refine (HP.out (x + (y - x) / 2) _ (by have := HX.out; omega) (by have := HY.out; omega) HR.out).mono ?_
        rintro e w2 ⟨rfl, hR2⟩
        rw [HPK.out]
        have HR2 := Aside0.mk hR2
        clear hR2
        go_wp2
        go_roundw
        case rel => exact ⟨x + (y - x) / 2 + 1, y, q, by go_num, rfl, by omega, ⟨by have := HX.out; omega⟩, HY, ⟨by have h1 := HM.out; rw [Int.pow_succ] at h1; have := HD.out; omega⟩, ⟨by have := HB.out; rw [firstB, if_pos hlt, if_neg (by rw [HPK.out]; simp)] at this; exact this⟩, HR2⟩
        case measure => simp [intOf]; omega
    · have hB := HB.out
      rw [firstB_done p m x y hlt] at hB
      have HB' := Aside0.mk hB
      clear hB
      go_wp2
      go_ret
      exact ⟨congrArg (fun z => Ending.returned (Value.int .i64 z)) HB'.out, HR.out⟩


end Go.Proofs.Yteapeglolkfimaa.My
