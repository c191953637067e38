-- Written by a program of this session (wip/myprint.py), which drives the kit's print over hand-written fragments. Not trusted: Lean checks it.
import Derived.Test.YtnadfkhllfgoiaaMyx0
import Derived.Test.YtnadfkhllfgoiaaMyx57
namespace Go.Proofs.Ytnadfkhllfgoiaa.My
open Go.Proofs.Ytnadfkhllfgoiaa.Aid Go.Proofs.Ytnadfkhllfgoiaa.KdX
open Go.RowKit Go.Proofs.YtnadfkhllfgoiaaW.PrintWords Go.Proofs.YtnadfkhllfgoiaaW.PrintLast Go.Proofs.YtnadfkhllfgoiaaW.PrintMore
attribute [local go_sem] max2_int min2_int max_two min_two max_three min_three max_four min_four   -- for this text's walks alone
set_option linter.unusedVariables false
set_option linter.unusedSimpArgs false

/-! ### tax_in: function 52 (by hand) -/
set_option maxHeartbeats 400000 in
theorem tax_in.calls1 (x : Int) (w : World) : Calls Try.prog 61 #[.int .i64 x] w fun e w2 => e = .returned (.bool (decide (x < -1000000000000 ∨ 1000000000000 < x))) ∧ w = w2 := by
  by_cases h1 : x < -1000000000000
  · go_enter Try.func61, Try.ntmps61
    go_wp2
    go_ret
    exact ⟨by simp [h1], rfl⟩
  · by_cases h2 : 1000000000000 < x
    · go_enter Try.func61, Try.ntmps61
      go_wp2
      go_ret
      exact ⟨by simp [h2], rfl⟩
    · have e0 : decide (x < -1000000000000 ∨ 1000000000000 < x) = false := decide_eq_false (by omega)
      rw [e0]
      clear e0
      go_enter Try.func61, Try.ntmps61
      go_wp2
      go_ret
      exact ⟨rfl, rfl⟩
def tax_in.f (l0 : List Int) : Option Bool := some (!l0.any (fun x => decide (x < -1000000000000 ∨ 1000000000000 < x)))
theorem tax_in.enter1 : ∀ args w1, (callFunc 61 args).run Try.prog w1 = .ok (.enter 61 args) w1 := by
  intro args w1
  go_simp
set_option maxHeartbeats 800000 in
theorem tax_in.calls (A0 : Option Addr) (c0 : Nat) (l0 : List Int) (r : Bool) (w : World) (hr0 : Kd.C (Kd.int .i64) w A0 l0.length l0) (hc0 : l0.length ≤ c0) (h : tax_in.f l0 = some r) :
    Calls Try.prog 52 #[.slice A0 l0.length c0] w fun e w' => e = .returned (.bool r) ∧ Drawn0 w w' := by
  have HC1 := Aside0.mk (slices_ContainsFunc_int_int.calls 61 #[] A0 c0 l0 (fun x => decide (x < -1000000000000 ∨ 1000000000000 < x)) (fun W => w = W) w tax_in.enter1 hr0 rfl (fun _ e => e ▸ Below.refl _ _) (fun x w1 e => by subst e; exact tax_in.calls1 x w))
  obtain rfl := Option.some.inj h
  clear hr0
  generalize l0.any (fun x => decide (x < -1000000000000 ∨ 1000000000000 < x)) = b1 at HC1 ⊢
  go_enter Try.func52, Try.ntmps52
  go_wp2_with fail
  refine (HC1.out).mono ?_; rintro e w' ⟨rfl, rfl⟩
  go_wp2
  go_ret
  exact ⟨rfl, Drawn0.refl _⟩


end Go.Proofs.Ytnadfkhllfgoiaa.My
