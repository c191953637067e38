-- Written by a program of this session (wip/myprint.py), which drives the kit's print over hand-written fragments. Not trusted: Lean checks it.
import Derived.Test.YteapeglolkfimaaMyx0
import Derived.Test.YteapeglolkfimaaMyx35
namespace Go.Proofs.Yteapeglolkfimaa.My
open Go.Proofs.Yteapeglolkfimaa.Aid Go.Proofs.Yteapeglolkfimaa.KdX
open Go.RowKit Go.Proofs.YteapeglolkfimaaW.PrintWords Go.Proofs.YteapeglolkfimaaW.PrintLast Go.Proofs.YteapeglolkfimaaW.PrintMore
attribute [local go_sem] max2_int min2_int max_two min_two max_three min_three max_four min_four   -- for this text's walks alone
set_option linter.unusedVariables false
set_option linter.unusedSimpArgs false

/-! ### grossup_cut: function 30 (by hand) -/
theorem cut1_enter : ∀ args w1, (callFunc 53 args).run Try.prog w1 = .ok (.enter 53 args) w1 := by
  intro args w1
  go_simp
set_option maxHeartbeats 400000 in
theorem cut1_calls (F : Nat) (cs : Array Value) (g : Int → Int) (x b : Int) (pf pb : Nat) (w : World) (hF : ∀ args w1, (callFunc F args).run Try.prog w1 = .ok (.enter F args) w1)
    (hp : ∀ n, Calls Try.prog F (#[.int .i64 x] ++ cs) (w.drewN n) fun e w2 => e = .returned (.int .i64 (g x)) ∧ ∃ m, w2 = (w.drewN n).drewN m)
    (h1 : w.cell? ⟨pf, 0, none⟩ = some (.func (.func F) #[] cs)) (h2 : w.cell? ⟨pb, 0, none⟩ = some (.int .i64 b)) :
    Calls Try.prog 53 #[.int .i64 x, .pointer (some ⟨pf, 0, none⟩), .pointer (some ⟨pb, 0, none⟩)] w fun e w2 => e = .returned (.bool (decide (g x ≤ b))) ∧ Drawn0 w w2 := by
  have HP := Aside0.mk hp
  clear hp
  generalize g x = y at HP ⊢
  go_enter Try.func53, Try.ntmps53
  go_wp2
  go_quiet ((refine Calls.quiet_of (HP.out _)))
  go_wp2
  go_ret
  exact ⟨rfl, ⟨_, rfl⟩⟩
theorem cut2_enter : ∀ args w1, (callFunc 54 args).run Try.prog w1 = .ok (.enter 54 args) w1 := by
  intro args w1
  go_simp
set_option maxHeartbeats 400000 in
theorem cut2_calls (F : Nat) (cs : Array Value) (g : Int → Int) (x b : Int) (pf pb : Nat) (w : World) (hF : ∀ args w1, (callFunc F args).run Try.prog w1 = .ok (.enter F args) w1)
    (hp : ∀ n, Calls Try.prog F (#[.int .i64 x] ++ cs) (w.drewN n) fun e w2 => e = .returned (.int .i64 (g x)) ∧ ∃ m, w2 = (w.drewN n).drewN m)
    (h1 : w.cell? ⟨pf, 0, none⟩ = some (.func (.func F) #[] cs)) (h2 : w.cell? ⟨pb, 0, none⟩ = some (.int .i64 b)) :
    Calls Try.prog 54 #[.int .i64 x, .pointer (some ⟨pf, 0, none⟩), .pointer (some ⟨pb, 0, none⟩)] w fun e w2 => e = .returned (.bool (decide (g x < b))) ∧ Drawn0 w w2 := by
  have HP := Aside0.mk hp
  clear hp
  generalize g x = y at HP ⊢
  go_enter Try.func54, Try.ntmps54
  go_wp2
  go_quiet ((refine Calls.quiet_of (HP.out _)))
  go_wp2
  go_ret
  exact ⟨rfl, ⟨_, rfl⟩⟩
theorem cut3_enter : ∀ args w1, (callFunc 55 args).run Try.prog w1 = .ok (.enter 55 args) w1 := by
  intro args w1
  go_simp
set_option maxHeartbeats 400000 in
theorem cut3_calls (F : Nat) (cs : Array Value) (g : Int → Int) (x b : Int) (pf pb : Nat) (w : World) (hF : ∀ args w1, (callFunc F args).run Try.prog w1 = .ok (.enter F args) w1)
    (hp : ∀ n, Calls Try.prog F (#[.int .i64 x] ++ cs) (w.drewN n) fun e w2 => e = .returned (.int .i64 (g x)) ∧ ∃ m, w2 = (w.drewN n).drewN m)
    (h1 : w.cell? ⟨pf, 0, none⟩ = some (.func (.func F) #[] cs)) (h2 : w.cell? ⟨pb, 0, none⟩ = some (.int .i64 b)) :
    Calls Try.prog 55 #[.int .i64 x, .pointer (some ⟨pf, 0, none⟩), .pointer (some ⟨pb, 0, none⟩)] w fun e w2 => e = .returned (.bool (decide (b ≤ g x))) ∧ Drawn0 w w2 := by
  have HP := Aside0.mk hp
  clear hp
  generalize g x = y at HP ⊢
  go_enter Try.func55, Try.ntmps55
  go_wp2
  go_quiet ((refine Calls.quiet_of (HP.out _)))
  go_wp2
  go_ret
  exact ⟨rfl, ⟨_, rfl⟩⟩
theorem cut4_enter : ∀ args w1, (callFunc 56 args).run Try.prog w1 = .ok (.enter 56 args) w1 := by
  intro args w1
  go_simp
set_option maxHeartbeats 400000 in
theorem cut4_calls (F : Nat) (cs : Array Value) (g : Int → Int) (x b : Int) (pf pb : Nat) (w : World) (hF : ∀ args w1, (callFunc F args).run Try.prog w1 = .ok (.enter F args) w1)
    (hp : ∀ n, Calls Try.prog F (#[.int .i64 x] ++ cs) (w.drewN n) fun e w2 => e = .returned (.int .i64 (g x)) ∧ ∃ m, w2 = (w.drewN n).drewN m)
    (h1 : w.cell? ⟨pf, 0, none⟩ = some (.func (.func F) #[] cs)) (h2 : w.cell? ⟨pb, 0, none⟩ = some (.int .i64 b)) :
    Calls Try.prog 56 #[.int .i64 x, .pointer (some ⟨pf, 0, none⟩), .pointer (some ⟨pb, 0, none⟩)] w fun e w2 => e = .returned (.bool (decide (b < g x))) ∧ Drawn0 w w2 := by
  have HP := Aside0.mk hp
  clear hp
  generalize g x = y at HP ⊢
  go_enter Try.func56, Try.ntmps56
  go_wp2
  go_quiet ((refine Calls.quiet_of (HP.out _)))
  go_wp2
  go_ret
  exact ⟨rfl, ⟨_, rfl⟩⟩
-- (calls grossup_first)
def cutL (low high : Int) (g : Int → Int) (falls : Bool) (a b : Int) : Int := firstB (fun x => if falls = true then decide (g x ≤ b) else decide (a ≤ g x)) 64 low high
def cutH (low high : Int) (g : Int → Int) (falls : Bool) (a b : Int) : Int := firstB (fun x => if falls = true then decide (g x < a) else decide (b < g x)) 64 low high - 1
theorem cell_drewN' (w : World) (n : Nat) (a : Addr) : (w.drewN n).cell? a = w.cell? a := by go_simp
set_option maxHeartbeats 800000 in
theorem grossup_cut.calls (F : Nat) (cs : Array Value) (low high : Int) (g : Int → Int) (falls : Bool) (a b : Int) (w : World) (hF : ∀ args w1, (callFunc F args).run Try.prog w1 = .ok (.enter F args) w1)
    (h0 : 0 ≤ low) (h1 : high < 4611686018427387904) (h2 : low < 4611686018427387904)
    (hp : ∀ x w1, low ≤ x → x ≤ high → Below w.heap.size w w1 → Calls Try.prog F (#[.int .i64 x] ++ cs) w1 fun e w2 => e = .returned (.int .i64 (g x)) ∧ ∃ m, w2 = w1.drewN m) :
    Calls Try.prog 30 #[.int .i64 low, .int .i64 high, .func (.func F) #[] cs, .bool falls, .int .i64 a, .int .i64 b] w fun e w' => e = .returned (.tuple #[.int .i64 (cutL low high g falls a b), .int .i64 (cutH low high g falls a b)]) ∧ Below w.heap.size w w' := by
  obtain ⟨W, hW⟩ : ∃ W, W = ((w.alloc (.cells #[.func (.func F) #[] cs] 51)).alloc (.cells #[.int .i64 a] 3)).alloc (.cells #[.int .i64 b] 3) := ⟨_, rfl⟩
  have hB : Below w.heap.size w W := by subst hW; exact below_alloc (below_alloc (below_alloc (Below.refl _ _) _) _) _
  have c0 : W.cell? ⟨w.heap.size, 0, none⟩ = some (.func (.func F) #[] cs) := by subst hW; go_simp
  have c1 : W.cell? ⟨w.heap.size + 1, 0, none⟩ = some (.int .i64 a) := by subst hW; go_simp
  have c2 : W.cell? ⟨w.heap.size + 1 + 1, 0, none⟩ = some (.int .i64 b) := by subst hW; go_simp
  have CL : ∀ (k : Nat) (q : Nat) (bb : Int) (t : Int → Bool) (hk : ∀ args w1, (callFunc k args).run Try.prog w1 = .ok (.enter k args) w1)
      (hc : ∀ (x : Int) (w1 : World), (∀ n, Calls Try.prog F (#[.int .i64 x] ++ cs) (w1.drewN n) fun e w2 => e = .returned (.int .i64 (g x)) ∧ ∃ m, w2 = (w1.drewN n).drewN m) → w1.cell? ⟨w.heap.size, 0, none⟩ = some (.func (.func F) #[] cs) → w1.cell? ⟨q, 0, none⟩ = some (.int .i64 bb) →
        Calls Try.prog k #[.int .i64 x, .pointer (some ⟨w.heap.size, 0, none⟩), .pointer (some ⟨q, 0, none⟩)] w1 fun e w2 => e = .returned (.bool (t x)) ∧ Drawn0 w1 w2)
      (hq : W.cell? ⟨q, 0, none⟩ = some (.int .i64 bb)) (m : Nat),
      Calls Try.prog 35 #[.int .i64 low, .int .i64 high, .func (.func k) #[] #[.pointer (some ⟨w.heap.size, 0, none⟩), .pointer (some ⟨q, 0, none⟩)]] (W.drewN m) fun e w' => e = .returned (.int .i64 (firstB t 64 low high)) ∧ Drawn0 W w' := fun k q bb t hk hc hq m =>
    grossup_first.calls k _ low high t (Drawn0 W) (W.drewN m) hk h0 h1 ⟨m, rfl⟩ (fun x w1 hx hy hd =>
      (hc x w1 (fun n => by
          obtain ⟨d, rfl⟩ := hd
          exact hp x _ hx hy (pw_below_drewN (pw_below_drewN hB d) n)) (by obtain ⟨d, rfl⟩ := hd; rw [cell_drewN']; exact c0) (by obtain ⟨d, rfl⟩ := hd; rw [cell_drewN']; exact hq)).mono
        fun e w2 h => ⟨h.1, by obtain ⟨n, rfl⟩ := h.2; exact hd.step n⟩)
  have C1 := Aside0.mk (CL _ _ b (fun x => decide (g x ≤ b)) cut1_enter (fun x w1 => cut1_calls F cs g x b _ _ w1 hF) c2)
  have C2 := Aside0.mk (CL _ _ a (fun x => decide (g x < a)) cut2_enter (fun x w1 => cut2_calls F cs g x a _ _ w1 hF) c1)
  have C3 := Aside0.mk (CL _ _ a (fun x => decide (a ≤ g x)) cut3_enter (fun x w1 => cut3_calls F cs g x a _ _ w1 hF) c1)
  have C4 := Aside0.mk (CL _ _ b (fun x => decide (b < g x)) cut4_enter (fun x w1 => cut4_calls F cs g x b _ _ w1 hF) c2)
  have q1 := firstB_bd (fun x => decide (g x < a)) 64 low high
  have q2 := firstB_bd (fun x => decide (b < g x)) 64 low high
  have HB := Aside0.mk hB
  clear CL c0 c1 c2 hB hp
  cases falls with
  | true =>
    have e1 : cutL low high g true a b = firstB (fun x => decide (g x ≤ b)) 64 low high := by unfold cutL; simp
    have e2 : cutH low high g true a b = firstB (fun x => decide (g x < a)) 64 low high - 1 := by unfold cutH; simp
    rw [e1, e2]
    clear e1 e2 C3 C4 q2
    generalize firstB (fun x => decide (g x ≤ b)) 64 low high = r1 at *
    generalize firstB (fun x => decide (g x < a)) 64 low high = r2 at *
    have hr0 : 0 ≤ r2 := by omega
    have hr1 : r2 ≤ 4611686018427387904 := by omega
    have HX := Aside0.mk hW
    clear hW q1
    go_enter Try.func30, Try.ntmps30
    go_wp2_with fail
    rw [← HX.out]
    refine (C1.out 0).mono ?_
    rintro e w2 ⟨rfl, ⟨n, rfl⟩⟩
    go_wp2_with fail
    refine (C2.out n).mono ?_
    rintro e w2 ⟨rfl, ⟨n2, rfl⟩⟩
    go_wp2
    go_ret2
    exact ⟨rfl, pw_below_drewN HB.out _⟩
  | false =>
    have e1 : cutL low high g false a b = firstB (fun x => decide (a ≤ g x)) 64 low high := by unfold cutL; simp
    have e2 : cutH low high g false a b = firstB (fun x => decide (b < g x)) 64 low high - 1 := by unfold cutH; simp
    rw [e1, e2]
    clear e1 e2 C1 C2 q1
    generalize firstB (fun x => decide (a ≤ g x)) 64 low high = r1 at *
    generalize firstB (fun x => decide (b < g x)) 64 low high = r2 at *
    have hr0 : 0 ≤ r2 := by omega
    have hr1 : r2 ≤ 4611686018427387904 := by omega
    have HX := Aside0.mk hW
    clear hW q2
    go_enter Try.func30, Try.ntmps30
    go_wp2_with fail
    rw [← HX.out]
    refine (C3.out 0).mono ?_
    rintro e w2 ⟨rfl, ⟨n, rfl⟩⟩
    go_wp2_with fail
    refine (C4.out n).mono ?_
    rintro e w2 ⟨rfl, ⟨n2, rfl⟩⟩
    go_wp2
    go_ret2
    exact ⟨rfl, pw_below_drewN HB.out _⟩


end Go.Proofs.Yteapeglolkfimaa.My
