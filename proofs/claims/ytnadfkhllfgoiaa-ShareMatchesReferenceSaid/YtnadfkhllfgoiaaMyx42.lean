-- Written by a program of this session (wip/myprint.py), which drives the kit's print over hand-written fragments. Not trusted: Lean checks it.
import Derived.Test.YtnadfkhllfgoiaaMyx0
import Derived.Test.YtnadfkhllfgoiaaMyx57
namespace Go.Proofs.Ytnadfkhllfgoiaa.My
open Go.Proofs.Ytnadfkhllfgoiaa.Aid Go.Proofs.Ytnadfkhllfgoiaa.KdX
open Go.RowKit Go.Proofs.YtnadfkhllfgoiaaW.PrintWords Go.Proofs.YtnadfkhllfgoiaaW.PrintLast Go.Proofs.YtnadfkhllfgoiaaW.PrintMore
attribute [local go_sem] max2_int min2_int max_two min_two max_three min_three max_four min_four   -- for this text's walks alone
set_option linter.unusedVariables false
set_option linter.unusedSimpArgs false

/-! ### share_wrong: function 42 (by hand) -/
set_option maxHeartbeats 400000 in
theorem share_wrong.calls1 (x : Int) (w : World) : Calls Try.prog 58 #[.int .i64 x] w fun e w2 => e = .returned (.bool (decide (x < 0))) ∧ w = w2 := by
  go_enter Try.func58, Try.ntmps58
  go_wp2
  go_ret
  exact ⟨rfl, rfl⟩
set_option maxHeartbeats 400000 in
theorem share_wrong.calls2 (x : Int) (w : World) : Calls Try.prog 59 #[.int .i64 x] w fun e w2 => e = .returned (.bool (decide (1000000000000 < x))) ∧ w = w2 := by
  go_enter Try.func59, Try.ntmps59
  go_wp2
  go_ret
  exact ⟨rfl, rfl⟩
def share_wrong.f (a0 : Int) (l1 : List Int) : Option Int :=
  some (if 64 < (l1.length : Int) then 2 else if a0 < 0 then 1 else if l1.any (fun x => decide (x < 0)) then 1 else if 1000000000000 < a0 then 3 else if l1.any (fun x => decide (1000000000000 < x)) then 3 else 0)
theorem share_wrong.enter1 : ∀ args w1, (callFunc 58 args).run Try.prog w1 = .ok (.enter 58 args) w1 := by
  intro args w1
  go_simp
theorem share_wrong.enter2 : ∀ args w1, (callFunc 59 args).run Try.prog w1 = .ok (.enter 59 args) w1 := by
  intro args w1
  go_simp
set_option maxHeartbeats 800000 in
theorem share_wrong.calls (a0 : Int) (A1 : Option Addr) (c1 : Nat) (l1 : List Int) (r : Int) (w : World) (hr1 : Kd.C (Kd.int .i64) w A1 l1.length l1) (hc1 : l1.length ≤ c1) (h : share_wrong.f a0 l1 = some r) :
    Calls Try.prog 42 #[.int .i64 a0, .slice A1 l1.length c1] w fun e w' => e = .returned (.int .i64 r) ∧ Drawn0 w w' := by
  have HC1 := Aside0.mk (slices_ContainsFunc_int_int.calls 58 #[] A1 c1 l1 (fun x => decide (x < 0)) (fun W => w = W) w share_wrong.enter1 hr1 rfl (fun _ e => e ▸ Below.refl _ _) (fun x w1 e => by subst e; exact share_wrong.calls1 x w))
  have HC2 := Aside0.mk (slices_ContainsFunc_int_int.calls 59 #[] A1 c1 l1 (fun x => decide (1000000000000 < x)) (fun W => w = W) w share_wrong.enter2 hr1 rfl (fun _ e => e ▸ Below.refl _ _) (fun x w1 e => by subst e; exact share_wrong.calls2 x w))
  obtain rfl := Option.some.inj h
  clear hr1
  generalize l1.any (fun x => decide (x < 0)) = b1 at HC1 ⊢
  generalize l1.any (fun x => decide (1000000000000 < x)) = b2 at HC2 ⊢
  by_cases h64 : 64 < (l1.length : Int)
  · go_enter Try.func42, Try.ntmps42
    go_wp2
    go_ret
    exact ⟨by simp [h64], Drawn0.refl _⟩
  · by_cases ha : a0 < 0
    · go_enter Try.func42, Try.ntmps42
      go_wp2
      go_ret
      exact ⟨by simp [h64, ha], Drawn0.refl _⟩
    · by_cases hb : 1000000000000 < a0
      · cases b1 <;> (
          go_enter Try.func42, Try.ntmps42
          go_wp2_with (go_at_call 57; refine (HC1.out).mono ?_; rintro e w' ⟨rfl, rfl⟩)
          go_ret
          exact ⟨by simp [h64, ha, hb], Drawn0.refl _⟩)
      · cases b1
        · cases b2 <;> (
            go_enter Try.func42, Try.ntmps42
            go_wp2_with fail
            refine (HC1.out).mono ?_; rintro e w' ⟨rfl, rfl⟩
            go_wp2_with fail
            refine (HC2.out).mono ?_; rintro e w' ⟨rfl, rfl⟩
            go_wp2
            go_ret
            exact ⟨by simp [h64, ha, hb], Drawn0.refl _⟩)
        · go_enter Try.func42, Try.ntmps42
          go_wp2_with fail
          refine (HC1.out).mono ?_; rintro e w' ⟨rfl, rfl⟩
          go_wp2
          go_ret
          exact ⟨by simp [h64, ha, hb], Drawn0.refl _⟩


end Go.Proofs.Ytnadfkhllfgoiaa.My
