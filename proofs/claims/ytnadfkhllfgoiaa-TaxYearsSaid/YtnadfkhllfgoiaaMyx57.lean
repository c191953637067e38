-- Written by a program of this session (wip/myprint.py), which drives the kit's print over hand-written fragments. Not trusted: Lean checks it.
import Derived.Test.YtnadfkhllfgoiaaMyx0
import Derived.Test.YtnadfkhllfgoiaaMyx65
namespace Go.Proofs.Ytnadfkhllfgoiaa.My
open Go.Proofs.Ytnadfkhllfgoiaa.Aid Go.Proofs.Ytnadfkhllfgoiaa.KdX
open Go.RowKit Go.Proofs.YtnadfkhllfgoiaaW.PrintWords Go.Proofs.YtnadfkhllfgoiaaW.PrintLast Go.Proofs.YtnadfkhllfgoiaaW.PrintMore
attribute [local go_sem] max2_int min2_int max_two min_two max_three min_three max_four min_four   -- for this text's walks alone
set_option linter.unusedVariables false
set_option linter.unusedSimpArgs false

/-! ### slices_ContainsFunc_int_int: function 57 (by hand) -/
set_option maxHeartbeats 400000 in
theorem slices_ContainsFunc_int_int.calls (F : Nat) (cs : Array Value) (A0 : Option Addr) (c0 : Nat) (l0 : List Int) (p : Int → Bool) (R : World → Prop) (w : World)
    (hF : ∀ args w1, (callFunc F args).run Try.prog w1 = .ok (.enter F args) w1)
    (hr0 : Kd.C (Kd.int .i64) w A0 l0.length l0) (hRw : R w) (hRB : ∀ w1, R w1 → Below w.heap.size w w1)
    (hp : ∀ x w1, R w1 → Calls Try.prog F (#[.int .i64 x] ++ cs) w1 fun e w2 => e = .returned (.bool (p x)) ∧ R w2) :
    Calls Try.prog 57 #[.slice A0 l0.length c0, .func (.func F) #[] cs] w fun e w' => e = .returned (.bool (l0.any p)) ∧ R w' := by
  have HC := Aside0.mk (slices_IndexFunc_int_int.calls F cs A0 c0 l0 p R w hF hr0 hRw hRB hp)
  clear hp hRB hRw hr0
  cases hi : l0.findIdx? p with
  | none =>
    have hfin : l0.any p = false := by
      rw [List.findIdx?_eq_none_iff] at hi
      rw [List.any_eq_false]; intro x hx; simpa using hi x hx
    rw [hi] at HC
    rw [hfin]
    clear hi hfin
    go_enter Try.func57, Try.ntmps57
    go_wp2_with fail
    refine HC.out.mono ?_
    rintro e w2 ⟨rfl, hR2⟩
    have HR2 := Aside0.mk hR2
    clear hR2
    simp only [Option.elim]
    go_wp2
    go_ret
    exact ⟨rfl, HR2.out⟩
  | some k =>
    have hfin : l0.any p = true := by
      rw [List.findIdx?_eq_some_iff_getElem] at hi
      obtain ⟨h, h1, _⟩ := hi
      rw [List.any_eq_true]; exact ⟨_, List.getElem_mem h, h1⟩
    rw [hi] at HC
    rw [hfin]
    clear hi hfin
    go_enter Try.func57, Try.ntmps57
    go_wp2_with fail
    refine HC.out.mono ?_
    rintro e w2 ⟨rfl, hR2⟩
    have HR2 := Aside0.mk hR2
    clear hR2
    simp only [Option.elim]
    go_wp2
    go_ret
    exact ⟨rfl, HR2.out⟩


end Go.Proofs.Ytnadfkhllfgoiaa.My
