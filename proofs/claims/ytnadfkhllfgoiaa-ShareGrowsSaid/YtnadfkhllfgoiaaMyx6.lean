-- Written by a program of this session (wip/myprint.py), which drives the kit's print over hand-written fragments. Not trusted: Lean checks it.
import Derived.Test.YtnadfkhllfgoiaaMyx0
import Derived.Test.YtnadfkhllfgoiaaMyx15
import Derived.Test.YtnadfkhllfgoiaaMyx16
import Derived.Test.YtnadfkhllfgoiaaMyx17
import Derived.Test.YtnadfkhllfgoiaaMyx18
import Derived.Test.YtnadfkhllfgoiaaMyx19
namespace Go.Proofs.Ytnadfkhllfgoiaa.My
open Go.Proofs.Ytnadfkhllfgoiaa.Aid Go.Proofs.Ytnadfkhllfgoiaa.KdX
open Go.RowKit Go.Proofs.YtnadfkhllfgoiaaW.PrintWords Go.Proofs.YtnadfkhllfgoiaaW.PrintLast Go.Proofs.YtnadfkhllfgoiaaW.PrintMore
attribute [local go_sem] max2_int min2_int max_two min_two max_three min_three max_four min_four   -- for this text's walks alone
set_option linter.unusedVariables false
set_option linter.unusedSimpArgs false

/-! ### wageofficelaw32_ShareGrows: function 6 -/
mutual
def wageofficelaw32_ShareGrows.j0 : Nat → Int → Bool → List Int → Int → Int → List Int → List Int → Bool → Option (Bool)
  | 0, _, _, _, _, _, _, _, _ => none
  | k + 1, x2, x11, x12, x13, x14, x15, x17, x71 => if x71 = true then (some false) else (wageofficelaw32_ShareGrows.l0 k x2 x11 x12 x13 x14 x15 x17 0)
def wageofficelaw32_ShareGrows.l0 : Nat → Int → Bool → List Int → Int → Int → List Int → List Int → Int → Option (Bool)
  | 0, _, _, _, _, _, _, _, _ => none
  | k + 1, x2, x11, x12, x13, x14, x15, x17, x19 => if x19 < (x12.length : Int) then (if x11 = true then (if 0 ≤ x19 then (if x19 < (x15.length : Int) then (if x19 < (x17.length : Int) then (wageofficelaw32_ShareGrows.l0 k x2 (decide ((rd x15 x19) ≤ (rd x17 x19))) x12 x13 x14 x15 x17 (wrap64 (x19 + 1))) else (none)) else (none)) else (none)) else (wageofficelaw32_ShareGrows.l0 k x2 false x12 x13 x14 x15 x17 (wrap64 (x19 + 1)))) else (if (x12.length : Int) = 0 then (some x11) else ((wageofficelaw32_pick.f x2 (x12.length : Int)).bind fun t347 => (if 0 ≤ (x12.length : Int) then (if ((x12.length : Int) : Int).toNat ≤ 35184372088832 then ((some (([] : List Int) : List Int)).bind fun y348 => (if y348.length + x12.length < 17592186044416 then ((some (y348 ++ x12 : List Int)).bind fun y351 => (if 0 ≤ t347 then (if t347 < (y351.length : Int) then ((share_Fair.f x13 (y351.set (t347 : Int).toNat (wrap64 ((rd y351 t347) + x14)))).bind fun bt356 => (if bt356.2 = 0 then (wageofficelaw32_ShareGrows.j2 k x11 x12 x15 t347 bt356.1 ((bt356.1.length : Int) != (x12.length : Int))) else (wageofficelaw32_ShareGrows.j2 k x11 x12 x15 t347 bt356.1 true))) else (none)) else (none))) else (none))) else (none)) else (none))))
def wageofficelaw32_ShareGrows.j2 : Nat → Bool → List Int → List Int → Int → List Int → Bool → Option (Bool)
  | 0, _, _, _, _, _, _ => none
  | k + 1, x11, x12, x15, x20, x22, x124 => if x124 = true then (some false) else (wageofficelaw32_ShareGrows.l1 k x11 x12 x15 x20 x22 0)
def wageofficelaw32_ShareGrows.l1 : Nat → Bool → List Int → List Int → Int → List Int → Int → Option (Bool)
  | 0, _, _, _, _, _, _ => none
  | k + 1, x11, x12, x15, x20, x22, x24 => if x24 < (x12.length : Int) then (if x11 = true then (if x24 = x20 then (if 0 ≤ x24 then (if x24 < (x22.length : Int) then (if x24 < (x15.length : Int) then (if (rd x22 x24) ≥ (rd x15 x24) then (wageofficelaw32_ShareGrows.l1 k true x12 x15 x20 x22 (wrap64 (x24 + 1))) else (wageofficelaw32_ShareGrows.l1 k false x12 x15 x20 x22 (wrap64 (x24 + 1)))) else (none)) else (none)) else (none)) else (if 0 ≤ x24 then (if x24 < (x22.length : Int) then (if x24 < (x15.length : Int) then (wageofficelaw32_ShareGrows.l1 k (decide ((rd x22 x24) ≤ (rd x15 x24))) x12 x15 x20 x22 (wrap64 (x24 + 1))) else (none)) else (none)) else (none))) else (wageofficelaw32_ShareGrows.l1 k false x12 x15 x20 x22 (wrap64 (x24 + 1)))) else (some x11)
end
def wageofficelaw32_ShareGrows.f (k : Nat) (a0 : Int) (l1 : List Int) (a2 : Int) (a3 : Int) (a4 : Int) : Option (Bool) := (wageofficelaw32_head.f k).bind fun t329 => ((wageofficelaw32_pick.f a4 1000000).bind fun t330 => ((wageofficelaw32_amounts.f k l1 (wrap64 (1 + t330))).bind fun t331 => ((wageofficelaw32_sum.f k t331).bind fun t334 => ((wageofficelaw32_pick.f a0 (wrap64 (t334 + 5))).bind fun t335 => ((wageofficelaw32_pick.f a3 100).bind fun t336 => ((share_Fair.f t335 t331).bind fun bt337 => ((share_Fair.f (wrap64 (t335 + t336)) t331).bind fun bt341 => (if bt337.2 = 0 then (if bt341.2 = 0 then (if (bt337.1.length : Int) = (t331.length : Int) then (wageofficelaw32_ShareGrows.j0 k a2 t329 t331 t335 t336 bt337.1 bt341.1 ((bt341.1.length : Int) != (t331.length : Int))) else (wageofficelaw32_ShareGrows.j0 k a2 t329 t331 t335 t336 bt337.1 bt341.1 true)) else (wageofficelaw32_ShareGrows.j0 k a2 t329 t331 t335 t336 bt337.1 bt341.1 true)) else (wageofficelaw32_ShareGrows.j0 k a2 t329 t331 t335 t336 bt337.1 bt341.1 true)))))))))
theorem wageofficelaw32_ShareGrows.mono_l : ∀ k, (∀ y0 y1 y2 y3 y4 y5 y6 y7, LeO (wageofficelaw32_ShareGrows.j0 k y0 y1 y2 y3 y4 y5 y6 y7) (wageofficelaw32_ShareGrows.j0 (k + 1) y0 y1 y2 y3 y4 y5 y6 y7)) ∧ (∀ y0 y1 y2 y3 y4 y5 y6 y7, LeO (wageofficelaw32_ShareGrows.l0 k y0 y1 y2 y3 y4 y5 y6 y7) (wageofficelaw32_ShareGrows.l0 (k + 1) y0 y1 y2 y3 y4 y5 y6 y7)) ∧ (∀ y0 y1 y2 y3 y4 y5, LeO (wageofficelaw32_ShareGrows.j2 k y0 y1 y2 y3 y4 y5) (wageofficelaw32_ShareGrows.j2 (k + 1) y0 y1 y2 y3 y4 y5)) ∧ (∀ y0 y1 y2 y3 y4 y5, LeO (wageofficelaw32_ShareGrows.l1 k y0 y1 y2 y3 y4 y5) (wageofficelaw32_ShareGrows.l1 (k + 1) y0 y1 y2 y3 y4 y5))
  | 0 => ⟨fun _ _ _ _ _ _ _ _ r h => by simp [wageofficelaw32_ShareGrows.j0] at h, fun _ _ _ _ _ _ _ _ r h => by simp [wageofficelaw32_ShareGrows.l0] at h, fun _ _ _ _ _ _ r h => by simp [wageofficelaw32_ShareGrows.j2] at h, fun _ _ _ _ _ _ r h => by simp [wageofficelaw32_ShareGrows.l1] at h⟩
  | k + 1 => by
    obtain ⟨ih0, ih1, ih2, ih3⟩ := wageofficelaw32_ShareGrows.mono_l k
    refine ⟨?_, ?_, ?_, ?_⟩
    · intro y0 y1 y2 y3 y4 y5 y6 y7
      unfold wageofficelaw32_ShareGrows.j0
      repeat' first
      | (with_reducible exact ih0 _ _ _ _ _ _ _ _)
      | (with_reducible exact ih1 _ _ _ _ _ _ _ _)
      | (with_reducible exact ih2 _ _ _ _ _ _)
      | (with_reducible exact ih3 _ _ _ _ _ _)
      | (with_reducible exact wageofficelaw32_amounts.mono _ _ _)
      | (with_reducible exact wageofficelaw32_head.mono _)
      | (with_reducible exact wageofficelaw32_sum.mono _ _)
      | (with_reducible exact LeO.refl _)
      | (with_reducible exact LeO.none _)
      | (with_reducible refine LeO.ite ?_ ?_)
      | (with_reducible refine LeO.bind ?_ (fun _ => ?_))
      | exact ih0 _ _ _ _ _ _ _ _
      | exact ih1 _ _ _ _ _ _ _ _
      | exact ih2 _ _ _ _ _ _
      | exact ih3 _ _ _ _ _ _
      | exact wageofficelaw32_amounts.mono _ _ _
      | exact wageofficelaw32_head.mono _
      | exact wageofficelaw32_sum.mono _ _
      | exact LeO.none _
      | refine LeO.ite ?_ ?_
      | refine LeO.bind ?_ (fun _ => ?_)
    · intro y0 y1 y2 y3 y4 y5 y6 y7
      unfold wageofficelaw32_ShareGrows.l0
      repeat' first
      | (with_reducible exact ih0 _ _ _ _ _ _ _ _)
      | (with_reducible exact ih1 _ _ _ _ _ _ _ _)
      | (with_reducible exact ih2 _ _ _ _ _ _)
      | (with_reducible exact ih3 _ _ _ _ _ _)
      | (with_reducible exact wageofficelaw32_amounts.mono _ _ _)
      | (with_reducible exact wageofficelaw32_head.mono _)
      | (with_reducible exact wageofficelaw32_sum.mono _ _)
      | (with_reducible exact LeO.refl _)
      | (with_reducible exact LeO.none _)
      | (with_reducible refine LeO.ite ?_ ?_)
      | (with_reducible refine LeO.bind ?_ (fun _ => ?_))
      | exact ih0 _ _ _ _ _ _ _ _
      | exact ih1 _ _ _ _ _ _ _ _
      | exact ih2 _ _ _ _ _ _
      | exact ih3 _ _ _ _ _ _
      | exact wageofficelaw32_amounts.mono _ _ _
      | exact wageofficelaw32_head.mono _
      | exact wageofficelaw32_sum.mono _ _
      | exact LeO.none _
      | refine LeO.ite ?_ ?_
      | refine LeO.bind ?_ (fun _ => ?_)
    · intro y0 y1 y2 y3 y4 y5
      unfold wageofficelaw32_ShareGrows.j2
      repeat' first
      | (with_reducible exact ih0 _ _ _ _ _ _ _ _)
      | (with_reducible exact ih1 _ _ _ _ _ _ _ _)
      | (with_reducible exact ih2 _ _ _ _ _ _)
      | (with_reducible exact ih3 _ _ _ _ _ _)
      | (with_reducible exact wageofficelaw32_amounts.mono _ _ _)
      | (with_reducible exact wageofficelaw32_head.mono _)
      | (with_reducible exact wageofficelaw32_sum.mono _ _)
      | (with_reducible exact LeO.refl _)
      | (with_reducible exact LeO.none _)
      | (with_reducible refine LeO.ite ?_ ?_)
      | (with_reducible refine LeO.bind ?_ (fun _ => ?_))
      | exact ih0 _ _ _ _ _ _ _ _
      | exact ih1 _ _ _ _ _ _ _ _
      | exact ih2 _ _ _ _ _ _
      | exact ih3 _ _ _ _ _ _
      | exact wageofficelaw32_amounts.mono _ _ _
      | exact wageofficelaw32_head.mono _
      | exact wageofficelaw32_sum.mono _ _
      | exact LeO.none _
      | refine LeO.ite ?_ ?_
      | refine LeO.bind ?_ (fun _ => ?_)
    · intro y0 y1 y2 y3 y4 y5
      unfold wageofficelaw32_ShareGrows.l1
      repeat' first
      | (with_reducible exact ih0 _ _ _ _ _ _ _ _)
      | (with_reducible exact ih1 _ _ _ _ _ _ _ _)
      | (with_reducible exact ih2 _ _ _ _ _ _)
      | (with_reducible exact ih3 _ _ _ _ _ _)
      | (with_reducible exact wageofficelaw32_amounts.mono _ _ _)
      | (with_reducible exact wageofficelaw32_head.mono _)
      | (with_reducible exact wageofficelaw32_sum.mono _ _)
      | (with_reducible exact LeO.refl _)
      | (with_reducible exact LeO.none _)
      | (with_reducible refine LeO.ite ?_ ?_)
      | (with_reducible refine LeO.bind ?_ (fun _ => ?_))
      | exact ih0 _ _ _ _ _ _ _ _
      | exact ih1 _ _ _ _ _ _ _ _
      | exact ih2 _ _ _ _ _ _
      | exact ih3 _ _ _ _ _ _
      | exact wageofficelaw32_amounts.mono _ _ _
      | exact wageofficelaw32_head.mono _
      | exact wageofficelaw32_sum.mono _ _
      | exact LeO.none _
      | refine LeO.ite ?_ ?_
      | refine LeO.bind ?_ (fun _ => ?_)
theorem wageofficelaw32_ShareGrows.mono : ∀ a0 a1 a2 a3 a4 k, LeO (wageofficelaw32_ShareGrows.f k a0 a1 a2 a3 a4) (wageofficelaw32_ShareGrows.f (k + 1) a0 a1 a2 a3 a4) := by
  intro a0 a1 a2 a3 a4 k
  obtain ⟨ih0, ih1, ih2, ih3⟩ := wageofficelaw32_ShareGrows.mono_l k
  unfold wageofficelaw32_ShareGrows.f
  repeat' first
      | (with_reducible exact ih0 _ _ _ _ _ _ _ _)
      | (with_reducible exact ih1 _ _ _ _ _ _ _ _)
      | (with_reducible exact ih2 _ _ _ _ _ _)
      | (with_reducible exact ih3 _ _ _ _ _ _)
      | (with_reducible exact wageofficelaw32_amounts.mono _ _ _)
      | (with_reducible exact wageofficelaw32_head.mono _)
      | (with_reducible exact wageofficelaw32_sum.mono _ _)
      | (with_reducible exact LeO.refl _)
      | (with_reducible exact LeO.none _)
      | (with_reducible refine LeO.ite ?_ ?_)
      | (with_reducible refine LeO.bind ?_ (fun _ => ?_))
      | exact ih0 _ _ _ _ _ _ _ _
      | exact ih1 _ _ _ _ _ _ _ _
      | exact ih2 _ _ _ _ _ _
      | exact ih3 _ _ _ _ _ _
      | exact wageofficelaw32_amounts.mono _ _ _
      | exact wageofficelaw32_head.mono _
      | exact wageofficelaw32_sum.mono _ _
      | exact LeO.none _
      | refine LeO.ite ?_ ?_
      | refine LeO.bind ?_ (fun _ => ?_)
set_option maxHeartbeats 8000000 in
set_option maxRecDepth 100000 in
theorem wageofficelaw32_ShareGrows.calls (k : Nat) (a0 : Int) (A1 : Option Addr) (c1 : Nat) (l1 : List Int) (a2 : Int) (a3 : Int) (a4 : Int) (r : Bool) (w : World) (hr1 : Kd.C (Kd.int .i64) w A1 l1.length l1) (hc1 : l1.length ≤ c1) (h : wageofficelaw32_ShareGrows.f k a0 l1 a2 a3 a4 = some r) :
    Calls Try.prog 6 #[.int .i64 a0, .slice A1 l1.length c1, .int .i64 a2, .int .i64 a3, .int .i64 a4] w fun e w' => e = .returned (.bool r) ∧ Below w.heap.size w w' := by
  have HR1 := Aside0.mk hr1
  have HC1 := Aside0.mk hc1
  clear hr1 hc1
  have HB := Aside0.mk (Below.refl w.heap.size w)
  have H : ((wageofficelaw32_head.f k).bind fun t329 => ((wageofficelaw32_pick.f a4 1000000).bind fun t330 => ((wageofficelaw32_amounts.f k l1 (wrap64 (1 + t330))).bind fun t331 => ((wageofficelaw32_sum.f k t331).bind fun t334 => ((wageofficelaw32_pick.f a0 (wrap64 (t334 + 5))).bind fun t335 => ((wageofficelaw32_pick.f a3 100).bind fun t336 => ((share_Fair.f t335 t331).bind fun bt337 => ((share_Fair.f (wrap64 (t335 + t336)) t331).bind fun bt341 => (if bt337.2 = 0 then (if bt341.2 = 0 then (if (bt337.1.length : Int) = (t331.length : Int) then (wageofficelaw32_ShareGrows.j0 k a2 t329 t331 t335 t336 bt337.1 bt341.1 ((bt341.1.length : Int) != (t331.length : Int))) else (wageofficelaw32_ShareGrows.j0 k a2 t329 t331 t335 t336 bt337.1 bt341.1 true)) else (wageofficelaw32_ShareGrows.j0 k a2 t329 t331 t335 t336 bt337.1 bt341.1 true)) else (wageofficelaw32_ShareGrows.j0 k a2 t329 t331 t335 t336 bt337.1 bt341.1 true)))))))))) = some r := h
  clear h
  replace H := Option.bind_eq_some_iff.mp H
  obtain ⟨t329, A60, H⟩ := H
  replace H : ((wageofficelaw32_pick.f a4 1000000).bind fun t330 => ((wageofficelaw32_amounts.f k l1 (wrap64 (1 + t330))).bind fun t331 => ((wageofficelaw32_sum.f k t331).bind fun t334 => ((wageofficelaw32_pick.f a0 (wrap64 (t334 + 5))).bind fun t335 => ((wageofficelaw32_pick.f a3 100).bind fun t336 => ((share_Fair.f t335 t331).bind fun bt337 => ((share_Fair.f (wrap64 (t335 + t336)) t331).bind fun bt341 => (if bt337.2 = 0 then (if bt341.2 = 0 then (if (bt337.1.length : Int) = (t331.length : Int) then (wageofficelaw32_ShareGrows.j0 k a2 t329 t331 t335 t336 bt337.1 bt341.1 ((bt341.1.length : Int) != (t331.length : Int))) else (wageofficelaw32_ShareGrows.j0 k a2 t329 t331 t335 t336 bt337.1 bt341.1 true)) else (wageofficelaw32_ShareGrows.j0 k a2 t329 t331 t335 t336 bt337.1 bt341.1 true)) else (wageofficelaw32_ShareGrows.j0 k a2 t329 t331 t335 t336 bt337.1 bt341.1 true))))))))) = some r := H
  have A6 := Aside0.mk A60
  clear A60
  replace H := Option.bind_eq_some_iff.mp H
  obtain ⟨t330, A70, H⟩ := H
  replace H : ((wageofficelaw32_amounts.f k l1 (wrap64 (1 + t330))).bind fun t331 => ((wageofficelaw32_sum.f k t331).bind fun t334 => ((wageofficelaw32_pick.f a0 (wrap64 (t334 + 5))).bind fun t335 => ((wageofficelaw32_pick.f a3 100).bind fun t336 => ((share_Fair.f t335 t331).bind fun bt337 => ((share_Fair.f (wrap64 (t335 + t336)) t331).bind fun bt341 => (if bt337.2 = 0 then (if bt341.2 = 0 then (if (bt337.1.length : Int) = (t331.length : Int) then (wageofficelaw32_ShareGrows.j0 k a2 t329 t331 t335 t336 bt337.1 bt341.1 ((bt341.1.length : Int) != (t331.length : Int))) else (wageofficelaw32_ShareGrows.j0 k a2 t329 t331 t335 t336 bt337.1 bt341.1 true)) else (wageofficelaw32_ShareGrows.j0 k a2 t329 t331 t335 t336 bt337.1 bt341.1 true)) else (wageofficelaw32_ShareGrows.j0 k a2 t329 t331 t335 t336 bt337.1 bt341.1 true)))))))) = some r := H
  have A7 := Aside0.mk A70
  clear A70
  replace H := Option.bind_eq_some_iff.mp H
  obtain ⟨t331, A80, H⟩ := H
  replace H : ((wageofficelaw32_sum.f k t331).bind fun t334 => ((wageofficelaw32_pick.f a0 (wrap64 (t334 + 5))).bind fun t335 => ((wageofficelaw32_pick.f a3 100).bind fun t336 => ((share_Fair.f t335 t331).bind fun bt337 => ((share_Fair.f (wrap64 (t335 + t336)) t331).bind fun bt341 => (if bt337.2 = 0 then (if bt341.2 = 0 then (if (bt337.1.length : Int) = (t331.length : Int) then (wageofficelaw32_ShareGrows.j0 k a2 t329 t331 t335 t336 bt337.1 bt341.1 ((bt341.1.length : Int) != (t331.length : Int))) else (wageofficelaw32_ShareGrows.j0 k a2 t329 t331 t335 t336 bt337.1 bt341.1 true)) else (wageofficelaw32_ShareGrows.j0 k a2 t329 t331 t335 t336 bt337.1 bt341.1 true)) else (wageofficelaw32_ShareGrows.j0 k a2 t329 t331 t335 t336 bt337.1 bt341.1 true))))))) = some r := H
  have A8 := Aside0.mk A80
  clear A80
  replace H := Option.bind_eq_some_iff.mp H
  obtain ⟨t334, A90, H⟩ := H
  replace H : ((wageofficelaw32_pick.f a0 (wrap64 (t334 + 5))).bind fun t335 => ((wageofficelaw32_pick.f a3 100).bind fun t336 => ((share_Fair.f t335 t331).bind fun bt337 => ((share_Fair.f (wrap64 (t335 + t336)) t331).bind fun bt341 => (if bt337.2 = 0 then (if bt341.2 = 0 then (if (bt337.1.length : Int) = (t331.length : Int) then (wageofficelaw32_ShareGrows.j0 k a2 t329 t331 t335 t336 bt337.1 bt341.1 ((bt341.1.length : Int) != (t331.length : Int))) else (wageofficelaw32_ShareGrows.j0 k a2 t329 t331 t335 t336 bt337.1 bt341.1 true)) else (wageofficelaw32_ShareGrows.j0 k a2 t329 t331 t335 t336 bt337.1 bt341.1 true)) else (wageofficelaw32_ShareGrows.j0 k a2 t329 t331 t335 t336 bt337.1 bt341.1 true)))))) = some r := H
  have A9 := Aside0.mk A90
  clear A90
  replace H := Option.bind_eq_some_iff.mp H
  obtain ⟨t335, A100, H⟩ := H
  replace H : ((wageofficelaw32_pick.f a3 100).bind fun t336 => ((share_Fair.f t335 t331).bind fun bt337 => ((share_Fair.f (wrap64 (t335 + t336)) t331).bind fun bt341 => (if bt337.2 = 0 then (if bt341.2 = 0 then (if (bt337.1.length : Int) = (t331.length : Int) then (wageofficelaw32_ShareGrows.j0 k a2 t329 t331 t335 t336 bt337.1 bt341.1 ((bt341.1.length : Int) != (t331.length : Int))) else (wageofficelaw32_ShareGrows.j0 k a2 t329 t331 t335 t336 bt337.1 bt341.1 true)) else (wageofficelaw32_ShareGrows.j0 k a2 t329 t331 t335 t336 bt337.1 bt341.1 true)) else (wageofficelaw32_ShareGrows.j0 k a2 t329 t331 t335 t336 bt337.1 bt341.1 true))))) = some r := H
  have A10 := Aside0.mk A100
  clear A100
  replace H := Option.bind_eq_some_iff.mp H
  obtain ⟨t336, A110, H⟩ := H
  replace H : ((share_Fair.f t335 t331).bind fun bt337 => ((share_Fair.f (wrap64 (t335 + t336)) t331).bind fun bt341 => (if bt337.2 = 0 then (if bt341.2 = 0 then (if (bt337.1.length : Int) = (t331.length : Int) then (wageofficelaw32_ShareGrows.j0 k a2 t329 t331 t335 t336 bt337.1 bt341.1 ((bt341.1.length : Int) != (t331.length : Int))) else (wageofficelaw32_ShareGrows.j0 k a2 t329 t331 t335 t336 bt337.1 bt341.1 true)) else (wageofficelaw32_ShareGrows.j0 k a2 t329 t331 t335 t336 bt337.1 bt341.1 true)) else (wageofficelaw32_ShareGrows.j0 k a2 t329 t331 t335 t336 bt337.1 bt341.1 true)))) = some r := H
  have A11 := Aside0.mk A110
  clear A110
  replace H := Option.bind_eq_some_iff.mp H
  obtain ⟨⟨t337, t338⟩, A120, H⟩ := H
  replace H : ((share_Fair.f (wrap64 (t335 + t336)) t331).bind fun bt341 => (if t338 = 0 then (if bt341.2 = 0 then (if (t337.length : Int) = (t331.length : Int) then (wageofficelaw32_ShareGrows.j0 k a2 t329 t331 t335 t336 t337 bt341.1 ((bt341.1.length : Int) != (t331.length : Int))) else (wageofficelaw32_ShareGrows.j0 k a2 t329 t331 t335 t336 t337 bt341.1 true)) else (wageofficelaw32_ShareGrows.j0 k a2 t329 t331 t335 t336 t337 bt341.1 true)) else (wageofficelaw32_ShareGrows.j0 k a2 t329 t331 t335 t336 t337 bt341.1 true))) = some r := H
  have A12 := Aside0.mk A120
  clear A120
  replace H := Option.bind_eq_some_iff.mp H
  obtain ⟨⟨t341, t342⟩, A130, H⟩ := H
  replace H : (if t338 = 0 then (if t342 = 0 then (if (t337.length : Int) = (t331.length : Int) then (wageofficelaw32_ShareGrows.j0 k a2 t329 t331 t335 t336 t337 t341 ((t341.length : Int) != (t331.length : Int))) else (wageofficelaw32_ShareGrows.j0 k a2 t329 t331 t335 t336 t337 t341 true)) else (wageofficelaw32_ShareGrows.j0 k a2 t329 t331 t335 t336 t337 t341 true)) else (wageofficelaw32_ShareGrows.j0 k a2 t329 t331 t335 t336 t337 t341 true)) = some r := H
  have A13 := Aside0.mk A130
  clear A130
  have HC14 := Aside0.mk H
  clear H
  go_enter Try.func6, Try.ntmps6
  go_upto_region 7 with (first | (go_at_call 15; (with_reducible refine (wageofficelaw32_head.calls k  t329 _ A6.out).mono ?_); rintro e w15 ⟨rfl, hb⟩; have n0_ := Aside0.mk (below_step (by repeat (first | (with_reducible first | exact HB.out | apply below_alloc | apply pw_below_drewN | apply below_drew1) | exact HB.out)) hb); clear HB; have HB := n0_; clear n0_; (try clear hb); (try clear hb2); (try clear hk); (try clear hi)) | (go_at_call 17; (with_reducible refine (wageofficelaw32_pick.calls a4 1000000 t330 _ A7.out).mono ?_); rintro e w' ⟨rfl, ⟨nd, rfl⟩⟩; (try first | exact ⟨rfl, _, World.drewN_drewN _ _ _⟩ | exact ⟨rfl, _, Eq.trans (World.drewN_drewN _ _ _) (congrArg (World.drewN _) (Nat.add_assoc _ _ _))⟩)) | (go_at_call 16; (with_reducible refine (wageofficelaw32_amounts.calls k _ _ l1 (wrap64 (1 + t330)) t331 _ ?side1 ?side2 A8.out).mono ?_); (case side1 => repeat (first | exact (Kd.C_below HR1.out (by repeat (first | (with_reducible first | exact HB.out | apply below_alloc | apply pw_below_drewN | apply below_drew1) | exact HB.out))) | (with_reducible refine Kd.C_alloc ?_ _) | (with_reducible refine Kd.C_drewN ?_ _) | (with_reducible refine Kd.C_drew ?_))); (case side2 => exact HC1.out); rintro e w16 ⟨v332, rfl, ho0, hb⟩; have n0_ := Aside0.mk (Kd.R_lower ho0 (below_size (by repeat (first | (with_reducible first | exact HB.out | apply below_alloc | apply pw_below_drewN | apply below_drew1) | exact HB.out)))); have n1_ := Aside0.mk (below_step (by repeat (first | (with_reducible first | exact HB.out | apply below_alloc | apply pw_below_drewN | apply below_drew1) | exact HB.out)) hb); clear HB; have HO333 := n0_; have HB := n1_; clear n0_ n1_; (try clear hb); (try clear hb2); (try clear hk); (try clear hi); (try clear ho0); obtain ⟨Ao17, co17, eo17⟩ := Kd.R_slice HO333.out; subst eo17) | (go_at_call 18; (with_reducible refine (wageofficelaw32_sum.calls k _ _ t331 t334 _ ?side1 ?side2 A9.out).mono ?_); (case side1 => repeat (first | exact (Kd.R_reads' HO333.out).2.2 | (with_reducible refine Kd.C_alloc ?_ _) | (with_reducible refine Kd.C_drewN ?_ _) | (with_reducible refine Kd.C_drew ?_))); (case side2 => exact (Kd.R_reads' HO333.out).2.1); rintro e w' ⟨rfl, ⟨nd, rfl⟩⟩; (try first | exact ⟨rfl, _, World.drewN_drewN _ _ _⟩ | exact ⟨rfl, _, Eq.trans (World.drewN_drewN _ _ _) (congrArg (World.drewN _) (Nat.add_assoc _ _ _))⟩)) | (go_at_call 17; (with_reducible refine (wageofficelaw32_pick.calls a0 (wrap64 (t334 + 5)) t335 _ A10.out).mono ?_); rintro e w' ⟨rfl, ⟨nd, rfl⟩⟩; (try first | exact ⟨rfl, _, World.drewN_drewN _ _ _⟩ | exact ⟨rfl, _, Eq.trans (World.drewN_drewN _ _ _) (congrArg (World.drewN _) (Nat.add_assoc _ _ _))⟩)) | (go_at_call 17; (with_reducible refine (wageofficelaw32_pick.calls a3 100 t336 _ A11.out).mono ?_); rintro e w' ⟨rfl, ⟨nd, rfl⟩⟩; (try first | exact ⟨rfl, _, World.drewN_drewN _ _ _⟩ | exact ⟨rfl, _, Eq.trans (World.drewN_drewN _ _ _) (congrArg (World.drewN _) (Nat.add_assoc _ _ _))⟩)) | (go_at_call 19; (with_reducible refine (share_Fair.calls t335 _ _ t331 t337 t338 _ ?side1 ?side2 A12.out).mono ?_); (case side1 => repeat (first | exact (Kd.R_reads' HO333.out).2.2 | (with_reducible refine Kd.C_alloc ?_ _) | (with_reducible refine Kd.C_drewN ?_ _) | (with_reducible refine Kd.C_drew ?_))); (case side2 => exact (Kd.R_reads' HO333.out).2.1); rintro e w18 ⟨v339, rfl, ho0, hb⟩; have n0_ := Aside0.mk (Kd.R_elder' (by (with_reducible repeat (first | apply Kd.R_alloc | apply Kd.R_drewN | apply Kd.R_drew)); exact HO333.out) (Kd.R_base ho0) hb); have n1_ := Aside0.mk (Kd.R_lower (Kd.R_new' ho0 (Kd.R_lt (by (with_reducible repeat (first | apply Kd.R_alloc | apply Kd.R_drewN | apply Kd.R_drew)); exact HO333.out))) (below_size (by repeat (first | (with_reducible first | exact HB.out | apply below_alloc | apply pw_below_drewN | apply below_drew1) | exact HB.out)))); have n2_ := Aside0.mk (below_step (by repeat (first | (with_reducible first | exact HB.out | apply below_alloc | apply pw_below_drewN | apply below_drew1) | exact HB.out)) hb); clear HO333; clear HB; have HO333 := n0_; have HO340 := n1_; have HB := n2_; clear n0_ n1_ n2_; (try clear hb); (try clear hb2); (try clear hk); (try clear hi); (try clear ho0)) | (go_at_call 19; (with_reducible refine (share_Fair.calls (wrap64 (t335 + t336)) _ _ t331 t341 t342 _ ?side1 ?side2 A13.out).mono ?_); (case side1 => repeat (first | exact (Kd.R_reads' HO333.out).2.2 | (with_reducible refine Kd.C_alloc ?_ _) | (with_reducible refine Kd.C_drewN ?_ _) | (with_reducible refine Kd.C_drew ?_))); (case side2 => exact (Kd.R_reads' HO333.out).2.1); rintro e w19 ⟨v343, rfl, ho0, hb⟩; have n0_ := Aside0.mk (Kd.R_elder' (by (with_reducible repeat (first | apply Kd.R_alloc | apply Kd.R_drewN | apply Kd.R_drew)); exact HO333.out) (Kd.R_base ho0) hb); have n1_ := Aside0.mk (Kd.R_elder' (by (with_reducible repeat (first | apply Kd.R_alloc | apply Kd.R_drewN | apply Kd.R_drew)); exact HO340.out) (Kd.R_base ho0) hb); have n2_ := Aside0.mk (Kd.R_lower (Kd.R_new' (Kd.R_new' ho0 (Kd.R_lt (by (with_reducible repeat (first | apply Kd.R_alloc | apply Kd.R_drewN | apply Kd.R_drew)); exact HO333.out))) (Kd.R_lt (by (with_reducible repeat (first | apply Kd.R_alloc | apply Kd.R_drewN | apply Kd.R_drew)); exact HO340.out))) (below_size (by repeat (first | (with_reducible first | exact HB.out | apply below_alloc | apply pw_below_drewN | apply below_drew1) | exact HB.out)))); have n3_ := Aside0.mk (below_step (by repeat (first | (with_reducible first | exact HB.out | apply below_alloc | apply pw_below_drewN | apply below_drew1) | exact HB.out)) hb); clear HO333; clear HO340; clear HB; have HO333 := n0_; have HO340 := n1_; have HO344 := n2_; have HB := n3_; clear n0_ n1_ n2_ n3_; (try clear hb); (try clear hb2); (try clear hk); (try clear hi); (try clear ho0)))
  repeat (go_quiet (first | (go_at_call 15; (with_reducible refine (wageofficelaw32_head.calls k  t329 _ A6.out).mono ?_); rintro e w15 ⟨rfl, hb⟩; have n0_ := Aside0.mk (below_step (by repeat (first | (with_reducible first | exact HB.out | apply below_alloc | apply pw_below_drewN | apply below_drew1) | exact HB.out)) hb); clear HB; have HB := n0_; clear n0_; (try clear hb); (try clear hb2); (try clear hk); (try clear hi)) | (go_at_call 17; (with_reducible refine (wageofficelaw32_pick.calls a4 1000000 t330 _ A7.out).mono ?_); rintro e w' ⟨rfl, ⟨nd, rfl⟩⟩; (try first | exact ⟨rfl, _, World.drewN_drewN _ _ _⟩ | exact ⟨rfl, _, Eq.trans (World.drewN_drewN _ _ _) (congrArg (World.drewN _) (Nat.add_assoc _ _ _))⟩)) | (go_at_call 16; (with_reducible refine (wageofficelaw32_amounts.calls k _ _ l1 (wrap64 (1 + t330)) t331 _ ?side1 ?side2 A8.out).mono ?_); (case side1 => repeat (first | exact (Kd.C_below HR1.out (by repeat (first | (with_reducible first | exact HB.out | apply below_alloc | apply pw_below_drewN | apply below_drew1) | exact HB.out))) | (with_reducible refine Kd.C_alloc ?_ _) | (with_reducible refine Kd.C_drewN ?_ _) | (with_reducible refine Kd.C_drew ?_))); (case side2 => exact HC1.out); rintro e w16 ⟨v332, rfl, ho0, hb⟩; have n0_ := Aside0.mk (Kd.R_lower ho0 (below_size (by repeat (first | (with_reducible first | exact HB.out | apply below_alloc | apply pw_below_drewN | apply below_drew1) | exact HB.out)))); have n1_ := Aside0.mk (below_step (by repeat (first | (with_reducible first | exact HB.out | apply below_alloc | apply pw_below_drewN | apply below_drew1) | exact HB.out)) hb); clear HB; have HO333 := n0_; have HB := n1_; clear n0_ n1_; (try clear hb); (try clear hb2); (try clear hk); (try clear hi); (try clear ho0); obtain ⟨Ao17, co17, eo17⟩ := Kd.R_slice HO333.out; subst eo17) | (go_at_call 18; (with_reducible refine (wageofficelaw32_sum.calls k _ _ t331 t334 _ ?side1 ?side2 A9.out).mono ?_); (case side1 => repeat (first | exact (Kd.R_reads' HO333.out).2.2 | (with_reducible refine Kd.C_alloc ?_ _) | (with_reducible refine Kd.C_drewN ?_ _) | (with_reducible refine Kd.C_drew ?_))); (case side2 => exact (Kd.R_reads' HO333.out).2.1); rintro e w' ⟨rfl, ⟨nd, rfl⟩⟩; (try first | exact ⟨rfl, _, World.drewN_drewN _ _ _⟩ | exact ⟨rfl, _, Eq.trans (World.drewN_drewN _ _ _) (congrArg (World.drewN _) (Nat.add_assoc _ _ _))⟩)) | (go_at_call 17; (with_reducible refine (wageofficelaw32_pick.calls a0 (wrap64 (t334 + 5)) t335 _ A10.out).mono ?_); rintro e w' ⟨rfl, ⟨nd, rfl⟩⟩; (try first | exact ⟨rfl, _, World.drewN_drewN _ _ _⟩ | exact ⟨rfl, _, Eq.trans (World.drewN_drewN _ _ _) (congrArg (World.drewN _) (Nat.add_assoc _ _ _))⟩)) | (go_at_call 17; (with_reducible refine (wageofficelaw32_pick.calls a3 100 t336 _ A11.out).mono ?_); rintro e w' ⟨rfl, ⟨nd, rfl⟩⟩; (try first | exact ⟨rfl, _, World.drewN_drewN _ _ _⟩ | exact ⟨rfl, _, Eq.trans (World.drewN_drewN _ _ _) (congrArg (World.drewN _) (Nat.add_assoc _ _ _))⟩)) | (go_at_call 19; (with_reducible refine (share_Fair.calls t335 _ _ t331 t337 t338 _ ?side1 ?side2 A12.out).mono ?_); (case side1 => repeat (first | exact (Kd.R_reads' HO333.out).2.2 | (with_reducible refine Kd.C_alloc ?_ _) | (with_reducible refine Kd.C_drewN ?_ _) | (with_reducible refine Kd.C_drew ?_))); (case side2 => exact (Kd.R_reads' HO333.out).2.1); rintro e w18 ⟨v339, rfl, ho0, hb⟩; have n0_ := Aside0.mk (Kd.R_elder' (by (with_reducible repeat (first | apply Kd.R_alloc | apply Kd.R_drewN | apply Kd.R_drew)); exact HO333.out) (Kd.R_base ho0) hb); have n1_ := Aside0.mk (Kd.R_lower (Kd.R_new' ho0 (Kd.R_lt (by (with_reducible repeat (first | apply Kd.R_alloc | apply Kd.R_drewN | apply Kd.R_drew)); exact HO333.out))) (below_size (by repeat (first | (with_reducible first | exact HB.out | apply below_alloc | apply pw_below_drewN | apply below_drew1) | exact HB.out)))); have n2_ := Aside0.mk (below_step (by repeat (first | (with_reducible first | exact HB.out | apply below_alloc | apply pw_below_drewN | apply below_drew1) | exact HB.out)) hb); clear HO333; clear HB; have HO333 := n0_; have HO340 := n1_; have HB := n2_; clear n0_ n1_ n2_; (try clear hb); (try clear hb2); (try clear hk); (try clear hi); (try clear ho0)) | (go_at_call 19; (with_reducible refine (share_Fair.calls (wrap64 (t335 + t336)) _ _ t331 t341 t342 _ ?side1 ?side2 A13.out).mono ?_); (case side1 => repeat (first | exact (Kd.R_reads' HO333.out).2.2 | (with_reducible refine Kd.C_alloc ?_ _) | (with_reducible refine Kd.C_drewN ?_ _) | (with_reducible refine Kd.C_drew ?_))); (case side2 => exact (Kd.R_reads' HO333.out).2.1); rintro e w19 ⟨v343, rfl, ho0, hb⟩; have n0_ := Aside0.mk (Kd.R_elder' (by (with_reducible repeat (first | apply Kd.R_alloc | apply Kd.R_drewN | apply Kd.R_drew)); exact HO333.out) (Kd.R_base ho0) hb); have n1_ := Aside0.mk (Kd.R_elder' (by (with_reducible repeat (first | apply Kd.R_alloc | apply Kd.R_drewN | apply Kd.R_drew)); exact HO340.out) (Kd.R_base ho0) hb); have n2_ := Aside0.mk (Kd.R_lower (Kd.R_new' (Kd.R_new' ho0 (Kd.R_lt (by (with_reducible repeat (first | apply Kd.R_alloc | apply Kd.R_drewN | apply Kd.R_drew)); exact HO333.out))) (Kd.R_lt (by (with_reducible repeat (first | apply Kd.R_alloc | apply Kd.R_drewN | apply Kd.R_drew)); exact HO340.out))) (below_size (by repeat (first | (with_reducible first | exact HB.out | apply below_alloc | apply pw_below_drewN | apply below_drew1) | exact HB.out)))); have n3_ := Aside0.mk (below_step (by repeat (first | (with_reducible first | exact HB.out | apply below_alloc | apply pw_below_drewN | apply below_drew1) | exact HB.out)) hb); clear HO333; clear HO340; clear HB; have HO333 := n0_; have HO340 := n1_; have HO344 := n2_; have HB := n3_; clear n0_ n1_ n2_ n3_; (try clear hb); (try clear hb2); (try clear hk); (try clear hi); (try clear ho0))); go_upto_region 7 with (first | (go_at_call 15; (with_reducible refine (wageofficelaw32_head.calls k  t329 _ A6.out).mono ?_); rintro e w15 ⟨rfl, hb⟩; have n0_ := Aside0.mk (below_step (by repeat (first | (with_reducible first | exact HB.out | apply below_alloc | apply pw_below_drewN | apply below_drew1) | exact HB.out)) hb); clear HB; have HB := n0_; clear n0_; (try clear hb); (try clear hb2); (try clear hk); (try clear hi)) | (go_at_call 17; (with_reducible refine (wageofficelaw32_pick.calls a4 1000000 t330 _ A7.out).mono ?_); rintro e w' ⟨rfl, ⟨nd, rfl⟩⟩; (try first | exact ⟨rfl, _, World.drewN_drewN _ _ _⟩ | exact ⟨rfl, _, Eq.trans (World.drewN_drewN _ _ _) (congrArg (World.drewN _) (Nat.add_assoc _ _ _))⟩)) | (go_at_call 16; (with_reducible refine (wageofficelaw32_amounts.calls k _ _ l1 (wrap64 (1 + t330)) t331 _ ?side1 ?side2 A8.out).mono ?_); (case side1 => repeat (first | exact (Kd.C_below HR1.out (by repeat (first | (with_reducible first | exact HB.out | apply below_alloc | apply pw_below_drewN | apply below_drew1) | exact HB.out))) | (with_reducible refine Kd.C_alloc ?_ _) | (with_reducible refine Kd.C_drewN ?_ _) | (with_reducible refine Kd.C_drew ?_))); (case side2 => exact HC1.out); rintro e w16 ⟨v332, rfl, ho0, hb⟩; have n0_ := Aside0.mk (Kd.R_lower ho0 (below_size (by repeat (first | (with_reducible first | exact HB.out | apply below_alloc | apply pw_below_drewN | apply below_drew1) | exact HB.out)))); have n1_ := Aside0.mk (below_step (by repeat (first | (with_reducible first | exact HB.out | apply below_alloc | apply pw_below_drewN | apply below_drew1) | exact HB.out)) hb); clear HB; have HO333 := n0_; have HB := n1_; clear n0_ n1_; (try clear hb); (try clear hb2); (try clear hk); (try clear hi); (try clear ho0); obtain ⟨Ao17, co17, eo17⟩ := Kd.R_slice HO333.out; subst eo17) | (go_at_call 18; (with_reducible refine (wageofficelaw32_sum.calls k _ _ t331 t334 _ ?side1 ?side2 A9.out).mono ?_); (case side1 => repeat (first | exact (Kd.R_reads' HO333.out).2.2 | (with_reducible refine Kd.C_alloc ?_ _) | (with_reducible refine Kd.C_drewN ?_ _) | (with_reducible refine Kd.C_drew ?_))); (case side2 => exact (Kd.R_reads' HO333.out).2.1); rintro e w' ⟨rfl, ⟨nd, rfl⟩⟩; (try first | exact ⟨rfl, _, World.drewN_drewN _ _ _⟩ | exact ⟨rfl, _, Eq.trans (World.drewN_drewN _ _ _) (congrArg (World.drewN _) (Nat.add_assoc _ _ _))⟩)) | (go_at_call 17; (with_reducible refine (wageofficelaw32_pick.calls a0 (wrap64 (t334 + 5)) t335 _ A10.out).mono ?_); rintro e w' ⟨rfl, ⟨nd, rfl⟩⟩; (try first | exact ⟨rfl, _, World.drewN_drewN _ _ _⟩ | exact ⟨rfl, _, Eq.trans (World.drewN_drewN _ _ _) (congrArg (World.drewN _) (Nat.add_assoc _ _ _))⟩)) | (go_at_call 17; (with_reducible refine (wageofficelaw32_pick.calls a3 100 t336 _ A11.out).mono ?_); rintro e w' ⟨rfl, ⟨nd, rfl⟩⟩; (try first | exact ⟨rfl, _, World.drewN_drewN _ _ _⟩ | exact ⟨rfl, _, Eq.trans (World.drewN_drewN _ _ _) (congrArg (World.drewN _) (Nat.add_assoc _ _ _))⟩)) | (go_at_call 19; (with_reducible refine (share_Fair.calls t335 _ _ t331 t337 t338 _ ?side1 ?side2 A12.out).mono ?_); (case side1 => repeat (first | exact (Kd.R_reads' HO333.out).2.2 | (with_reducible refine Kd.C_alloc ?_ _) | (with_reducible refine Kd.C_drewN ?_ _) | (with_reducible refine Kd.C_drew ?_))); (case side2 => exact (Kd.R_reads' HO333.out).2.1); rintro e w18 ⟨v339, rfl, ho0, hb⟩; have n0_ := Aside0.mk (Kd.R_elder' (by (with_reducible repeat (first | apply Kd.R_alloc | apply Kd.R_drewN | apply Kd.R_drew)); exact HO333.out) (Kd.R_base ho0) hb); have n1_ := Aside0.mk (Kd.R_lower (Kd.R_new' ho0 (Kd.R_lt (by (with_reducible repeat (first | apply Kd.R_alloc | apply Kd.R_drewN | apply Kd.R_drew)); exact HO333.out))) (below_size (by repeat (first | (with_reducible first | exact HB.out | apply below_alloc | apply pw_below_drewN | apply below_drew1) | exact HB.out)))); have n2_ := Aside0.mk (below_step (by repeat (first | (with_reducible first | exact HB.out | apply below_alloc | apply pw_below_drewN | apply below_drew1) | exact HB.out)) hb); clear HO333; clear HB; have HO333 := n0_; have HO340 := n1_; have HB := n2_; clear n0_ n1_ n2_; (try clear hb); (try clear hb2); (try clear hk); (try clear hi); (try clear ho0)) | (go_at_call 19; (with_reducible refine (share_Fair.calls (wrap64 (t335 + t336)) _ _ t331 t341 t342 _ ?side1 ?side2 A13.out).mono ?_); (case side1 => repeat (first | exact (Kd.R_reads' HO333.out).2.2 | (with_reducible refine Kd.C_alloc ?_ _) | (with_reducible refine Kd.C_drewN ?_ _) | (with_reducible refine Kd.C_drew ?_))); (case side2 => exact (Kd.R_reads' HO333.out).2.1); rintro e w19 ⟨v343, rfl, ho0, hb⟩; have n0_ := Aside0.mk (Kd.R_elder' (by (with_reducible repeat (first | apply Kd.R_alloc | apply Kd.R_drewN | apply Kd.R_drew)); exact HO333.out) (Kd.R_base ho0) hb); have n1_ := Aside0.mk (Kd.R_elder' (by (with_reducible repeat (first | apply Kd.R_alloc | apply Kd.R_drewN | apply Kd.R_drew)); exact HO340.out) (Kd.R_base ho0) hb); have n2_ := Aside0.mk (Kd.R_lower (Kd.R_new' (Kd.R_new' ho0 (Kd.R_lt (by (with_reducible repeat (first | apply Kd.R_alloc | apply Kd.R_drewN | apply Kd.R_drew)); exact HO333.out))) (Kd.R_lt (by (with_reducible repeat (first | apply Kd.R_alloc | apply Kd.R_drewN | apply Kd.R_drew)); exact HO340.out))) (below_size (by repeat (first | (with_reducible first | exact HB.out | apply below_alloc | apply pw_below_drewN | apply below_drew1) | exact HB.out)))); have n3_ := Aside0.mk (below_step (by repeat (first | (with_reducible first | exact HB.out | apply below_alloc | apply pw_below_drewN | apply below_drew1) | exact HB.out)) hb); clear HO333; clear HO340; clear HB; have HO333 := n0_; have HO340 := n1_; have HO344 := n2_; have HB := n3_; clear n0_ n1_ n2_ n3_; (try clear hb); (try clear hb2); (try clear hk); (try clear hi); (try clear ho0))))
  (try simp only [Act.put, List.setIfInBounds_toArray, List.set_cons_zero, List.set_cons_succ])
  go_cut [71] (fun v71 wc => ∃ (kq : Nat) (x71_13 : Bool), v71 = .bool x71_13 ∧ Aside0 (wageofficelaw32_ShareGrows.j0 kq a2 t329 t331 t335 t336 t337 t341 x71_13 = some r) ∧ Aside0 (kq ≤ k) ∧ Aside0 (Kd.R (Kd.int .i64) 3 wc w.heap.size (fun k_ => some k_ ≠ (v339 : Value).ownBlock ∧ some k_ ≠ (v343 : Value).ownBlock) (.slice Ao17 t331.length co17) t331) ∧ Aside0 (Kd.R (Kd.int .i64) 3 wc w.heap.size (fun k_ => some k_ ≠ ((.slice Ao17 t331.length co17) : Value).ownBlock ∧ some k_ ≠ (v343 : Value).ownBlock) v339 t337) ∧ Aside0 (Kd.R (Kd.int .i64) 3 wc w.heap.size (fun k_ => some k_ ≠ ((.slice Ao17 t331.length co17) : Value).ownBlock ∧ some k_ ≠ (v339 : Value).ownBlock) v343 t341) ∧ Aside0 (Below w.heap.size w wc))
  case first =>
    have H := HC14.out
    clear HC14
    by_cases c20 : t338 = 0
    · rw [if_pos c20] at H
      have c20b0 : (t338 == 0) = true := beq_iff_eq.mpr c20
      have c20b1 : (t338 != 0) = false := bne_eq_false_iff_eq.mpr c20
      clear c20
      (first | rw [c20b0] | (simp only [i64_w, i32_w]; rw [c20b0]) | skip)
      by_cases c21 : t342 = 0
      · rw [if_pos c21] at H
        have c21b0 : (t342 == 0) = true := beq_iff_eq.mpr c21
        have c21b1 : (t342 != 0) = false := bne_eq_false_iff_eq.mpr c21
        clear c21
        by_cases c22 : (t337.length : Int) = (t331.length : Int)
        · rw [if_pos c22] at H
          have c22b0 : ((t337.length : Int) == (t331.length : Int)) = true := beq_iff_eq.mpr c22
          have c22b1 : ((t337.length : Int) != (t331.length : Int)) = false := bne_eq_false_iff_eq.mpr c22
          have c22b2 : (t337.length == t331.length) = true := by first | simpa using c22 | (simp at c22 ⊢; omega)
          clear c22
          have H' := Aside0.mk H
          clear H
          obtain ⟨Ao23, co23, eo23⟩ := Kd.R_slice HO340.out
          subst eo23
          obtain ⟨Ao24, co24, eo24⟩ := Kd.R_slice HO344.out
          subst eo24
          go_wp2
          repeat (go_quiet (fail); try go_wp2)
          go_meet
          case rel => exact ⟨_, (((t341.length : Int) != (t331.length : Int))), (by first | rfl | (simp; done) | (simp [*]; done)), H', ⟨by first | omega | exact Nat.le_refl _⟩, ⟨by (with_reducible repeat (first | apply Kd.R_alloc | apply Kd.R_drewN | apply Kd.R_drew)); exact Kd.R_mono HO333.out (fun _ hk => ⟨hk.1.2, hk.2⟩)⟩, ⟨by (with_reducible repeat (first | apply Kd.R_alloc | apply Kd.R_drewN | apply Kd.R_drew)); exact Kd.R_mono HO340.out (fun _ hk => ⟨hk.1.2, hk.2⟩)⟩, ⟨by (with_reducible repeat (first | apply Kd.R_alloc | apply Kd.R_drewN | apply Kd.R_drew)); exact Kd.R_mono HO344.out (fun _ hk => ⟨hk.1.2, hk.2⟩)⟩, ⟨by repeat (first | (with_reducible first | exact HB.out | apply below_alloc | apply pw_below_drewN | apply below_drew1) | exact HB.out)⟩⟩
        · rw [if_neg c22] at H
          have c22b0 : ((t337.length : Int) == (t331.length : Int)) = false := beq_eq_false_iff_ne.mpr c22
          have c22b1 : ((t337.length : Int) != (t331.length : Int)) = true := bne_iff_ne.mpr c22
          have c22b2 : (t337.length == t331.length) = false := by first | simpa using c22 | (simp at c22 ⊢; omega)
          have H' := Aside0.mk H
          clear H
          obtain ⟨Ao25, co25, eo25⟩ := Kd.R_slice HO340.out
          subst eo25
          go_wp2
          repeat (go_quiet (fail); try go_wp2)
          go_meet
          case rel => exact ⟨_, (true), (by first | rfl | (simp; done) | (simp [*]; done)), H', ⟨by first | omega | exact Nat.le_refl _⟩, ⟨by (with_reducible repeat (first | apply Kd.R_alloc | apply Kd.R_drewN | apply Kd.R_drew)); exact Kd.R_mono HO333.out (fun _ hk => ⟨hk.1.2, hk.2⟩)⟩, ⟨by (with_reducible repeat (first | apply Kd.R_alloc | apply Kd.R_drewN | apply Kd.R_drew)); exact Kd.R_mono HO340.out (fun _ hk => ⟨hk.1.2, hk.2⟩)⟩, ⟨by (with_reducible repeat (first | apply Kd.R_alloc | apply Kd.R_drewN | apply Kd.R_drew)); exact Kd.R_mono HO344.out (fun _ hk => ⟨hk.1.2, hk.2⟩)⟩, ⟨by repeat (first | (with_reducible first | exact HB.out | apply below_alloc | apply pw_below_drewN | apply below_drew1) | exact HB.out)⟩⟩
      · rw [if_neg c21] at H
        have c21b0 : (t342 == 0) = false := beq_eq_false_iff_ne.mpr c21
        have c21b1 : (t342 != 0) = true := bne_iff_ne.mpr c21
        have H' := Aside0.mk H
        clear H
        go_wp2
        repeat (go_quiet (fail); try go_wp2)
        go_meet
        case rel => exact ⟨_, (true), (by first | rfl | (simp; done) | (simp [*]; done)), H', ⟨by first | omega | exact Nat.le_refl _⟩, ⟨by (with_reducible repeat (first | apply Kd.R_alloc | apply Kd.R_drewN | apply Kd.R_drew)); exact Kd.R_mono HO333.out (fun _ hk => ⟨hk.1.2, hk.2⟩)⟩, ⟨by (with_reducible repeat (first | apply Kd.R_alloc | apply Kd.R_drewN | apply Kd.R_drew)); exact Kd.R_mono HO340.out (fun _ hk => ⟨hk.1.2, hk.2⟩)⟩, ⟨by (with_reducible repeat (first | apply Kd.R_alloc | apply Kd.R_drewN | apply Kd.R_drew)); exact Kd.R_mono HO344.out (fun _ hk => ⟨hk.1.2, hk.2⟩)⟩, ⟨by repeat (first | (with_reducible first | exact HB.out | apply below_alloc | apply pw_below_drewN | apply below_drew1) | exact HB.out)⟩⟩
    · rw [if_neg c20] at H
      have c20b0 : (t338 == 0) = false := beq_eq_false_iff_ne.mpr c20
      have c20b1 : (t338 != 0) = true := bne_iff_ne.mpr c20
      (first | rw [c20b0] | (simp only [i64_w, i32_w]; rw [c20b0]) | skip)
      have H' := Aside0.mk H
      clear H
      go_wp2
      repeat (go_quiet (fail); try go_wp2)
      go_meet
      case rel => exact ⟨_, (true), (by first | rfl | (simp; done) | (simp [*]; done)), H', ⟨by first | omega | exact Nat.le_refl _⟩, ⟨by (with_reducible repeat (first | apply Kd.R_alloc | apply Kd.R_drewN | apply Kd.R_drew)); exact Kd.R_mono HO333.out (fun _ hk => ⟨hk.1.2, hk.2⟩)⟩, ⟨by (with_reducible repeat (first | apply Kd.R_alloc | apply Kd.R_drewN | apply Kd.R_drew)); exact Kd.R_mono HO340.out (fun _ hk => ⟨hk.1.2, hk.2⟩)⟩, ⟨by (with_reducible repeat (first | apply Kd.R_alloc | apply Kd.R_drewN | apply Kd.R_drew)); exact Kd.R_mono HO344.out (fun _ hk => ⟨hk.1.2, hk.2⟩)⟩, ⟨by repeat (first | (with_reducible first | exact HB.out | apply below_alloc | apply pw_below_drewN | apply below_drew1) | exact HB.out)⟩⟩
  case rest =>
    clear HC14
    try clear c1
    try clear c2
    try clear p2
    try clear c6
    try clear p6
    try clear c20
    try clear c20b0
    try clear c20b1
    try clear c21
    try clear c21b0
    try clear c21b1
    try clear c22
    try clear c22b0
    try clear c22b1
    try clear c22b2
    obtain ⟨kq, x71_13, rfl, HA, HJ13, HO_12, HO_15, HO_17, HB⟩ := hcut
    cases kq with
    | zero => exact absurd HA.out (by simp [wageofficelaw32_ShareGrows.j0])
    | succ kj13 =>
      have H := HA.out
      clear HA
      simp only [wageofficelaw32_ShareGrows.j0] at H
      by_cases c26 : x71_13 = true
      · subst c26
        have H1 : (some false) = some r := by rw [if_pos rfl] at H; exact H
        clear H
        have H := H1
        clear H1
        obtain rfl := Option.some.inj H
        go_wp2
        repeat (go_quiet (fail); try go_wp2)
        go_ret
        exact ⟨by first | rfl | (simp [errW_none, errW_some] <;> rfl) | (simp [*, errW_none, errW_some] <;> rfl), by repeat (first | (with_reducible first | exact HB.out | apply below_alloc | apply pw_below_drewN | apply below_drew1) | exact HB.out)⟩
      · replace c26 := Bool.eq_false_iff.mpr c26
        subst c26
        have H1 : (wageofficelaw32_ShareGrows.l0 kj13 a2 t329 t331 t335 t336 t337 t341 0) = some r := by rw [if_neg (show ¬ (false = true) by decide)] at H; exact H
        clear H
        have H := H1
        clear H1
        have H' := Aside0.mk H
        clear H
        go_wp2
        repeat (go_quiet (fail); try go_wp2)
        go_loopg [11, 19] kj13 (fun kq v11 v19 w' => ∃ (x11_2 : Bool) (x19_2 : Int), v11 = .bool x11_2 ∧ v19 = .int .i64 x19_2 ∧ Aside0 (wageofficelaw32_ShareGrows.l0 kq a2 x11_2 t331 t335 t336 t337 t341 x19_2 = some r) ∧ Aside0 (kq ≤ kj13) ∧ Aside0 (Kd.R (Kd.int .i64) 3 w' w.heap.size (fun k_ => some k_ ≠ (v339 : Value).ownBlock ∧ some k_ ≠ (v343 : Value).ownBlock) (.slice Ao17 t331.length co17) t331) ∧ Aside0 (Kd.R (Kd.int .i64) 3 w' w.heap.size (fun k_ => some k_ ≠ ((.slice Ao17 t331.length co17) : Value).ownBlock ∧ some k_ ≠ (v343 : Value).ownBlock) v339 t337) ∧ Aside0 (Kd.R (Kd.int .i64) 3 w' w.heap.size (fun k_ => some k_ ≠ ((.slice Ao17 t331.length co17) : Value).ownBlock ∧ some k_ ≠ (v339 : Value).ownBlock) v343 t341) ∧ Aside0 (Below w.heap.size w w'))
        case atStart => exact ⟨(t329), (0), (by first | rfl | (simp; done) | (simp [*]; done)), (by first | rfl | (simp; done) | (simp [*]; done)), H', ⟨Nat.le_refl _⟩, ⟨by (with_reducible repeat (first | apply Kd.R_alloc | apply Kd.R_drewN | apply Kd.R_drew)); exact HO_12.out⟩, ⟨by (with_reducible repeat (first | apply Kd.R_alloc | apply Kd.R_drewN | apply Kd.R_drew)); exact HO_15.out⟩, ⟨by (with_reducible repeat (first | apply Kd.R_alloc | apply Kd.R_drewN | apply Kd.R_drew)); exact HO_17.out⟩, ⟨by repeat (first | (with_reducible first | exact HB.out | apply below_alloc | apply pw_below_drewN | apply below_drew1) | exact HB.out)⟩⟩
        case round =>
          clear H'
          try clear c1
          try clear c2
          try clear p2
          try clear c6
          try clear p6
          try clear c20
          try clear c20b0
          try clear c20b1
          try clear c21
          try clear c21b0
          try clear c21b1
          try clear c22
          try clear c22b0
          try clear c22b1
          try clear c22b2
          try clear c26
          try clear p2
          try clear p6
          obtain ⟨x11_2, x19_2, rfl, rfl, HA, HK2, HO_12, HO_15, HO_17, HB⟩ := hrel
          cases gk with
          | zero => exact absurd HA.out (by simp [wageofficelaw32_ShareGrows.l0])
          | succ k2 =>
            have H := HA.out
            clear HA
            simp only [wageofficelaw32_ShareGrows.l0] at H
            by_cases c27 : x19_2 < (t331.length : Int)
            · rw [if_pos c27] at H
              have c27b0 : decide (x19_2 < (t331.length : Int)) = true := decide_eq_true c27
              clear c27
              by_cases c28 : x11_2 = true
              · subst c28
                have H1 : (if 0 ≤ x19_2 then (if x19_2 < (t337.length : Int) then (if x19_2 < (t341.length : Int) then (wageofficelaw32_ShareGrows.l0 k2 a2 (decide ((rd t337 x19_2) ≤ (rd t341 x19_2))) t331 t335 t336 t337 t341 (wrap64 (x19_2 + 1))) else (none)) else (none)) else (none)) = some r := by rw [if_pos rfl] at H; exact H
                clear H
                have H := H1
                clear H1
                by_cases c29 : 0 ≤ x19_2
                · rw [if_pos c29] at H
                  have c29b0 : decide (0 ≤ x19_2) = true := decide_eq_true c29
                  clear c29
                  by_cases c30 : x19_2 < (t337.length : Int)
                  · rw [if_pos c30] at H
                    have c30b0 : decide (x19_2 < (t337.length : Int)) = true := decide_eq_true c30
                    clear c30
                    by_cases c31 : x19_2 < (t341.length : Int)
                    · rw [if_pos c31] at H
                      have c31b0 : decide (x19_2 < (t341.length : Int)) = true := decide_eq_true c31
                      clear c31
                      have H' := Aside0.mk H
                      clear H
                      obtain ⟨Ao32, co32, eo32⟩ := Kd.R_slice HO_15.out
                      subst eo32
                      have p345 : 0 ≤ (x19_2 : Int) := of_decide_eq_true (by first | (with_reducible assumption) | assumption)
                      have q345 : x19_2 < (t337.length : Int) := of_decide_eq_true (by first | (with_reducible assumption) | assumption)
                      obtain ⟨ad345, e345, hx345_0⟩ := Kd.at_int (Kd.R_reads' HO_15.out).2.2 x19_2 p345 q345
                      cases e345
                      replace p345 := eq_true p345
                      replace q345 := eq_true q345
                      obtain ⟨Ao33, co33, eo33⟩ := Kd.R_slice HO_17.out
                      subst eo33
                      have p346 : 0 ≤ (x19_2 : Int) := of_decide_eq_true (by first | (with_reducible assumption) | assumption)
                      have q346 : x19_2 < (t341.length : Int) := of_decide_eq_true (by first | (with_reducible assumption) | assumption)
                      obtain ⟨ad346, e346, hx346_0⟩ := Kd.at_int (Kd.R_reads' HO_17.out).2.2 x19_2 p346 q346
                      cases e346
                      replace p346 := eq_true p346
                      replace q346 := eq_true q346
                      go_wp2
                      repeat (go_quiet (fail); try go_wp2)
                      go_roundg k2
                      case measure => have := HJ13.out; have := HK2.out; omega
                      case rel => exact ⟨(decide ((rd t337 x19_2) ≤ (rd t341 x19_2))), (wrap64 (x19_2 + 1)), (by first | rfl | (simp; done) | (simp [*]; done)), (by first | rfl | (simp; done) | (simp [*]; done)), H', ⟨by have := HJ13.out; have := HK2.out; omega⟩, ⟨by (with_reducible repeat (first | apply Kd.R_alloc | apply Kd.R_drewN | apply Kd.R_drew)); exact HO_12.out⟩, ⟨by (with_reducible repeat (first | apply Kd.R_alloc | apply Kd.R_drewN | apply Kd.R_drew)); exact HO_15.out⟩, ⟨by (with_reducible repeat (first | apply Kd.R_alloc | apply Kd.R_drewN | apply Kd.R_drew)); exact HO_17.out⟩, ⟨by repeat (first | (with_reducible first | exact HB.out | apply below_alloc | apply pw_below_drewN | apply below_drew1) | exact HB.out)⟩⟩
                    · rw [if_neg c31] at H
                      exact absurd H (by simp)
                  · rw [if_neg c30] at H
                    exact absurd H (by simp)
                · rw [if_neg c29] at H
                  exact absurd H (by simp)
              · replace c28 := Bool.eq_false_iff.mpr c28
                subst c28
                have H1 : (wageofficelaw32_ShareGrows.l0 k2 a2 false t331 t335 t336 t337 t341 (wrap64 (x19_2 + 1))) = some r := by rw [if_neg (show ¬ (false = true) by decide)] at H; exact H
                clear H
                have H := H1
                clear H1
                have H' := Aside0.mk H
                clear H
                go_wp2
                repeat (go_quiet (fail); try go_wp2)
                go_roundg k2
                case measure => have := HJ13.out; have := HK2.out; omega
                case rel => exact ⟨(false), (wrap64 (x19_2 + 1)), (by first | rfl | (simp; done) | (simp [*]; done)), (by first | rfl | (simp; done) | (simp [*]; done)), H', ⟨by have := HJ13.out; have := HK2.out; omega⟩, ⟨by (with_reducible repeat (first | apply Kd.R_alloc | apply Kd.R_drewN | apply Kd.R_drew)); exact HO_12.out⟩, ⟨by (with_reducible repeat (first | apply Kd.R_alloc | apply Kd.R_drewN | apply Kd.R_drew)); exact HO_15.out⟩, ⟨by (with_reducible repeat (first | apply Kd.R_alloc | apply Kd.R_drewN | apply Kd.R_drew)); exact HO_17.out⟩, ⟨by repeat (first | (with_reducible first | exact HB.out | apply below_alloc | apply pw_below_drewN | apply below_drew1) | exact HB.out)⟩⟩
            · rw [if_neg c27] at H
              have c27b0 : decide (x19_2 < (t331.length : Int)) = false := decide_eq_false c27
              clear c27
              by_cases c34 : (t331.length : Int) = 0
              · rw [if_pos c34] at H
                have c34b0 : ((t331.length : Int) == 0) = true := beq_iff_eq.mpr c34
                have c34b1 : ((t331.length : Int) != 0) = false := bne_eq_false_iff_eq.mpr c34
                clear c34
                obtain rfl := Option.some.inj H
                go_wp2
                repeat (go_quiet (fail); try go_wp2)
                go_ret
                exact ⟨by first | rfl | (simp [errW_none, errW_some] <;> rfl) | (simp [*, errW_none, errW_some] <;> rfl), by repeat (first | (with_reducible first | exact HB.out | apply below_alloc | apply pw_below_drewN | apply below_drew1) | exact HB.out)⟩
              · rw [if_neg c34] at H
                have c34b0 : ((t331.length : Int) == 0) = false := beq_eq_false_iff_ne.mpr c34
                have c34b1 : ((t331.length : Int) != 0) = true := bne_iff_ne.mpr c34
                have c34b2 : ¬ (t331 = []) := fun h_ => c34 (by rw [h_]; rfl)
                replace H := Option.bind_eq_some_iff.mp H
                obtain ⟨t347, A350, H⟩ := H
                replace H : (if 0 ≤ (t331.length : Int) then (if ((t331.length : Int) : Int).toNat ≤ 35184372088832 then ((some (([] : List Int) : List Int)).bind fun y348 => (if y348.length + t331.length < 17592186044416 then ((some (y348 ++ t331 : List Int)).bind fun y351 => (if 0 ≤ t347 then (if t347 < (y351.length : Int) then ((share_Fair.f t335 (y351.set (t347 : Int).toNat (wrap64 ((rd y351 t347) + t336)))).bind fun bt356 => (if bt356.2 = 0 then (wageofficelaw32_ShareGrows.j2 k2 x11_2 t331 t337 t347 bt356.1 ((bt356.1.length : Int) != (t331.length : Int))) else (wageofficelaw32_ShareGrows.j2 k2 x11_2 t331 t337 t347 bt356.1 true))) else (none)) else (none))) else (none))) else (none)) else (none)) = some r := H
                have A35 := Aside0.mk A350
                clear A350
                by_cases c36 : 0 ≤ (t331.length : Int)
                · rw [if_pos c36] at H
                  have c36b0 := eq_true c36
                  have c36b1 : decide (0 ≤ (t331.length : Int)) = true := decide_eq_true c36
                  clear c36
                  by_cases c37 : ((t331.length : Int) : Int).toNat ≤ 35184372088832
                  · rw [if_pos c37] at H
                    have c37b0 := eq_true c37
                    have c37b1 : decide (((t331.length : Int) : Int).toNat ≤ 35184372088832) = true := decide_eq_true c37
                    clear c37
                    obtain ⟨y348, hy348⟩ : ∃ y_ : List Int, y_ = (([] : List Int)) := ⟨_, rfl⟩
                    replace H : (if y348.length + t331.length < 17592186044416 then ((some (y348 ++ t331 : List Int)).bind fun y351 => (if 0 ≤ t347 then (if t347 < (y351.length : Int) then ((share_Fair.f t335 (y351.set (t347 : Int).toNat (wrap64 ((rd y351 t347) + t336)))).bind fun bt356 => (if bt356.2 = 0 then (wageofficelaw32_ShareGrows.j2 k2 x11_2 t331 t337 t347 bt356.1 ((bt356.1.length : Int) != (t331.length : Int))) else (wageofficelaw32_ShareGrows.j2 k2 x11_2 t331 t337 t347 bt356.1 true))) else (none)) else (none))) else (none)) = some r := by first | (rw [hy348]; with_reducible exact H) | (have H2_ := (Option.bind_some _ _).symm.trans H; rw [hy348]; with_reducible exact H2_) | (have H2_ := (Option.bind_some _ _).symm.trans H; with_reducible exact H2_) | with_reducible exact H | (rw [hy348]; exact H) | exact H
                    have Ny348 := Aside0.mk hy348
                    clear hy348
                    by_cases c38 : y348.length + t331.length < 17592186044416
                    · rw [if_pos c38] at H
                      have LMc38 := Aside0.mk c38
                      clear c38
                      obtain ⟨y351, hy351⟩ : ∃ y_ : List Int, y_ = (y348 ++ t331) := ⟨_, rfl⟩
                      replace H : (if 0 ≤ t347 then (if t347 < (y351.length : Int) then ((share_Fair.f t335 (y351.set (t347 : Int).toNat (wrap64 ((rd y351 t347) + t336)))).bind fun bt356 => (if bt356.2 = 0 then (wageofficelaw32_ShareGrows.j2 k2 x11_2 t331 t337 t347 bt356.1 ((bt356.1.length : Int) != (t331.length : Int))) else (wageofficelaw32_ShareGrows.j2 k2 x11_2 t331 t337 t347 bt356.1 true))) else (none)) else (none)) = some r := by first | (rw [hy351]; with_reducible exact H) | (have H2_ := (Option.bind_some _ _).symm.trans H; rw [hy351]; with_reducible exact H2_) | (have H2_ := (Option.bind_some _ _).symm.trans H; with_reducible exact H2_) | with_reducible exact H | (rw [hy351]; exact H) | exact H
                      have Ny351 := Aside0.mk hy351
                      clear hy351
                      by_cases c39 : 0 ≤ t347
                      · rw [if_pos c39] at H
                        have c39b0 : decide (0 ≤ t347) = true := decide_eq_true c39
                        clear c39
                        by_cases c40 : t347 < (y351.length : Int)
                        · rw [if_pos c40] at H
                          have c40b0 : decide (t347 < (y351.length : Int)) = true := decide_eq_true c40
                          clear c40
                          obtain ⟨y355, hy355⟩ : ∃ y_ : List Int, y_ = (y351.set (t347 : Int).toNat (wrap64 ((rd y351 t347) + t336))) := ⟨_, rfl⟩
                          replace H : ((share_Fair.f t335 y355).bind fun bt356 => (if bt356.2 = 0 then (wageofficelaw32_ShareGrows.j2 k2 x11_2 t331 t337 t347 bt356.1 ((bt356.1.length : Int) != (t331.length : Int))) else (wageofficelaw32_ShareGrows.j2 k2 x11_2 t331 t337 t347 bt356.1 true))) = some r := by first | (rw [hy355]; with_reducible exact H) | (have H2_ := (Option.bind_some _ _).symm.trans H; rw [hy355]; with_reducible exact H2_) | (have H2_ := (Option.bind_some _ _).symm.trans H; with_reducible exact H2_) | with_reducible exact H | (rw [hy355]; exact H) | exact H
                          have Ny355 := Aside0.mk hy355
                          clear hy355
                          replace H := Option.bind_eq_some_iff.mp H
                          obtain ⟨⟨t356, t357⟩, A420, H⟩ := H
                          replace H : (if t357 = 0 then (wageofficelaw32_ShareGrows.j2 k2 x11_2 t331 t337 t347 t356 ((t356.length : Int) != (t331.length : Int))) else (wageofficelaw32_ShareGrows.j2 k2 x11_2 t331 t337 t347 t356 true)) = some r := H
                          have A42 := Aside0.mk A420
                          clear A420
                          have HC43 := Aside0.mk H
                          clear H
                          go_upto_region 19 with (first | (go_at_call 17; (with_reducible refine (wageofficelaw32_pick.calls a2 (t331.length : Int) t347 _ A35.out).mono ?_); rintro e w' ⟨rfl, ⟨nd, rfl⟩⟩; (try first | exact ⟨rfl, _, World.drewN_drewN _ _ _⟩ | exact ⟨rfl, _, Eq.trans (World.drewN_drewN _ _ _) (congrArg (World.drewN _) (Nat.add_assoc _ _ _))⟩)) | ((with_reducible refine gate_dst (N := 100) rfl ?_); (try (refine gate_guard (by rfl) ?_; dsimp only)); refine Kd.R_makec (Kd.int .i64) _ 3 rfl (N := 100) rfl 22 _ _ rfl (t331.length : Int) rfl rfl Try.underlying22 (.int .i64 0) 8 info3 rfl (by decide) (by omega) 0 (ok := fun _ => True) (okp := fun _ => True) rfl (fun _ hk => hk) trivial (of_decide_eq_true (by first | (with_reducible assumption) | assumption)) (Nat.le_trans (Nat.mul_le_mul_right _ (of_decide_eq_true (by first | (with_reducible assumption) | assumption) : (t331.length : Int).toNat ≤ 35184372088832)) (by omega)) (Below.refl _ _) (Nat.le_refl _) ?_; intro v349 w44 ho45 hb hg_ hnew_; clear hg_ hnew_; (first | rw [← Ny348.out] at ho45 | (simp only [Int.reduceToNat] at ho45; rw [← Ny348.out] at ho45)); have n0_ := Aside0.mk (Kd.R_elder' (by (with_reducible repeat (first | apply Kd.R_alloc | apply Kd.R_drewN | apply Kd.R_drew)); exact HO_12.out) (Kd.R_base ho45) hb); have n1_ := Aside0.mk (Kd.R_elder' (by (with_reducible repeat (first | apply Kd.R_alloc | apply Kd.R_drewN | apply Kd.R_drew)); exact HO_15.out) (Kd.R_base ho45) hb); have n2_ := Aside0.mk (Kd.R_elder' (by (with_reducible repeat (first | apply Kd.R_alloc | apply Kd.R_drewN | apply Kd.R_drew)); exact HO_17.out) (Kd.R_base ho45) hb); have n3_ := Aside0.mk (Kd.R_lower (Kd.R_new' (Kd.R_new' (Kd.R_new' ho45 (Kd.R_lt (by (with_reducible repeat (first | apply Kd.R_alloc | apply Kd.R_drewN | apply Kd.R_drew)); exact HO_12.out))) (Kd.R_lt (by (with_reducible repeat (first | apply Kd.R_alloc | apply Kd.R_drewN | apply Kd.R_drew)); exact HO_15.out))) (Kd.R_lt (by (with_reducible repeat (first | apply Kd.R_alloc | apply Kd.R_drewN | apply Kd.R_drew)); exact HO_17.out))) (below_size (by repeat (first | (with_reducible first | exact HB.out | apply below_alloc | apply pw_below_drewN | apply below_drew1) | exact HB.out)))); have n4_ := Aside0.mk (below_step (by repeat (first | (with_reducible first | exact HB.out | apply below_alloc | apply pw_below_drewN | apply below_drew1) | exact HB.out)) hb); clear HO_12; clear HO_15; clear HO_17; clear HB; have HO_12 := n0_; have HO_15 := n1_; have HO_17 := n2_; have HO350 := n3_; have HB := n4_; clear n0_ n1_ n2_ n3_ n4_; clear hb ho45) | ((with_reducible refine gate_builtin (b := .append) (xs := #[.tmp 100, .tmp 101]) rfl ?_); (try (refine gate_guard (by rfl) ?_; dsimp only)); at_builtin; refine Kd.R_append_rows (Kd.int .i64) (w0 := w) w.heap.size rfl (.tmp 100) (.tmp 101) 22 3 (.int .i64 0) 8 rfl Try.underlying22 info3 rfl (by decide) (by omega) v349 y348 t331 _ _ _ (fun k_ => some k_ ≠ (.slice Ao17 t331.length co17 : Value).ownBlock ∧ some k_ ≠ (v339 : Value).ownBlock ∧ some k_ ≠ (v343 : Value).ownBlock) (fun _ => False) rfl rfl ?aO ?aR (fun _ _ h => h) (fun _ h => h.elim) ?aF ?aB ?aS ?aL ?_; (case aR => repeat (first | exact (Kd.R_reads' HO_12.out).2.2 | (with_reducible refine Kd.C_alloc ?_ _) | (with_reducible refine Kd.C_drewN ?_ _) | (with_reducible refine Kd.C_drew ?_))); (case aB => exact (by repeat (first | (with_reducible first | exact HB.out | apply below_alloc | apply pw_below_drewN | apply below_drew1) | exact HB.out))); (case aF => exact (fun k_ hk => ⟨Kd.fresh' (Kd.R_lt (by (with_reducible repeat (first | apply Kd.R_alloc | apply Kd.R_drewN | apply Kd.R_drew)); exact HO_12.out)) k_ hk, Kd.fresh' (Kd.R_lt (by (with_reducible repeat (first | apply Kd.R_alloc | apply Kd.R_drewN | apply Kd.R_drew)); exact HO_15.out)) k_ hk, Kd.fresh' (Kd.R_lt (by (with_reducible repeat (first | apply Kd.R_alloc | apply Kd.R_drewN | apply Kd.R_drew)); exact HO_17.out)) k_ hk⟩)); (case aO => exact (by (with_reducible repeat (first | apply Kd.R_alloc | apply Kd.R_drewN | apply Kd.R_drew)); exact Kd.R_mono HO350.out (fun _ hk => ⟨hk.1.1.2, ⟨hk.1.2, hk.2⟩⟩))); (case aS => exact (below_size (by repeat (first | (with_reducible first | exact HB.out | apply below_alloc | apply pw_below_drewN | apply below_drew1) | exact HB.out)))); (case aL => have := LMc38.out; omega); intro v352 w46 ho hb hg hat; rw [← Ny351.out] at ho; have n0_ := Aside0.mk (Kd.R_after (ok := (fun k_ => some k_ ≠ (v339 : Value).ownBlock ∧ some k_ ≠ (v343 : Value).ownBlock)) (by (with_reducible repeat (first | apply Kd.R_alloc | apply Kd.R_drewN | apply Kd.R_drew)); exact HO_12.out) hg hat); have n1_ := Aside0.mk (Kd.R_after (ok := (fun k_ => some k_ ≠ (.slice Ao17 t331.length co17 : Value).ownBlock ∧ some k_ ≠ (v343 : Value).ownBlock)) (by (with_reducible repeat (first | apply Kd.R_alloc | apply Kd.R_drewN | apply Kd.R_drew)); exact HO_15.out) hg hat); have n2_ := Aside0.mk (Kd.R_after (ok := (fun k_ => some k_ ≠ (.slice Ao17 t331.length co17 : Value).ownBlock ∧ some k_ ≠ (v339 : Value).ownBlock)) (by (with_reducible repeat (first | apply Kd.R_alloc | apply Kd.R_drewN | apply Kd.R_drew)); exact HO_17.out) hg hat); have n3_ := Aside0.mk (hb); have n4_ := Aside0.mk (ho); clear HO_12; clear HO_15; clear HO_17; clear HB; clear HO350; have HO_12 := n0_; have HO_15 := n1_; have HO_17 := n2_; have HB := n3_; have HO353 := n4_; clear n0_ n1_ n2_ n3_ n4_; clear ho hb hg hat; obtain ⟨Ao47, co47, eo47⟩ := Kd.R_slice HO353.out; subst eo47; have p354 : 0 ≤ (t347 : Int) := of_decide_eq_true (by first | (with_reducible assumption) | assumption); have q354 : t347 < (y351.length : Int) := of_decide_eq_true (by first | (with_reducible assumption) | assumption); obtain ⟨ad354, e354, hx354_0⟩ := Kd.at_int (Kd.R_reads' HO353.out).2.2 t347 p354 q354; cases e354; replace p354 := eq_true p354; replace q354 := eq_true q354; have p41 : 0 ≤ (t347 : Int) := of_decide_eq_true (by first | (with_reducible assumption) | assumption); have q41 : (t347 : Int) < ((y351.length : Int) : Int) := of_decide_eq_true (by first | (with_reducible assumption) | assumption); obtain ⟨go41, co41, eo41, gb41, gl41, cl41, HG41⟩ := Kd.R_form HO353.out (by omega); (first | cases eo41 | (injection eo41 with ea_ en_ ec_; (first | subst ea_ | (injection ea_ with ea_; subst ea_)); subst ec_; clear en_)); have GB41 := Aside0.mk gb41; have GG41 := Aside0.mk HG41; clear gb41 gl41 HG41; (first | simp only [add_plain] at hx354_0 | skip); obtain ⟨hx41_0, hf41_0⟩ := Kd.R_celln 0 HO353.out (t347 : Int) p41 q41; replace p41 := eq_true p41; replace q41 := eq_true q41; obtain ⟨hy48_, hz48_⟩ := Kd.R_celln 0 HO353.out (t347 : Int) (of_decide_eq_true (by first | (with_reducible assumption) | assumption)) (of_decide_eq_true (by first | (with_reducible assumption) | assumption)); have HP48 := Kd.R_putg HO353.out (t347 : Int) (wrap64 ((rd y351 t347) + t336))) | ((with_reducible refine gate_store (t := 3) (p := 109) rfl ?_); (try (rw [drewN_self w46]; generalize hq_ : World.drewN w46 _ = w46; have n0_ := Aside0.mk (Kd.R_at hq_ HO_12.out); have n1_ := Aside0.mk (Kd.R_at hq_ HO_15.out); have n2_ := Aside0.mk (Kd.R_at hq_ HO_17.out); have n3_ := Aside0.mk (Kd.R_at hq_ HO353.out); have n4_ := Aside0.mk (below_at hq_ HB.out); clear hq_ HO_12 HO_15 HO_17 HO353 HB; have HO_12 := n0_; have HO_15 := n1_; have HO_17 := n2_; have HO353 := n3_; have HB := n4_; clear n0_ n1_ n2_ n3_ n4_; (try (obtain ⟨hy48_, hz48_⟩ := Kd.R_celln 0 HO353.out (t347 : Int) (of_decide_eq_true (by first | (with_reducible assumption) | assumption)) (of_decide_eq_true (by first | (with_reducible assumption) | assumption)))); (try (have HP48 := Kd.R_putg HO353.out (t347 : Int) (wrap64 ((rd y351 t347) + t336)))))); refine store_event (t := 3) (p := 109) (v := ?vo_w49) (w1 := (w46.setCell ⟨go41, (t347 : Int).toNat, none⟩ (.int .i64 (wrap64 ((rd y351 t347) + t336))))) ?hg ?ho ?hn ?hr ?_; (case ho => rfl); (case hg => rfl); (case hn => rfl); (case hr => first | (go_simp; done) | (go_simp; rfl)); intro w49 hw; have hg : w46.grownBy w49 (some go41) := (by rw [hw]; exact HP48.2); have hp_ : Kd.R (Kd.int .i64) 3 w49 w.heap.size (fun k_ => some k_ ≠ (.slice Ao17 t331.length co17 : Value).ownBlock ∧ some k_ ≠ (v339 : Value).ownBlock ∧ some k_ ≠ (v343 : Value).ownBlock) (.slice (some ⟨go41, 0, none⟩) y351.length co47) y355 := (by rw [hw, Ny355.out]; exact HP48.1); clear HP48; have n0_ := Aside0.mk (Kd.R_after (v := (.slice (some ⟨go41, 0, none⟩) y351.length co47)) (v1 := (.slice (some ⟨go41, 0, none⟩) y351.length co47)) (ok := (fun k_ => some k_ ≠ (v339 : Value).ownBlock ∧ some k_ ≠ (v343 : Value).ownBlock)) (by (with_reducible repeat (first | apply Kd.R_alloc | apply Kd.R_drewN | apply Kd.R_drew)); exact HO_12.out) hg (.inl rfl)); have n1_ := Aside0.mk (Kd.R_after (v := (.slice (some ⟨go41, 0, none⟩) y351.length co47)) (v1 := (.slice (some ⟨go41, 0, none⟩) y351.length co47)) (ok := (fun k_ => some k_ ≠ (.slice Ao17 t331.length co17 : Value).ownBlock ∧ some k_ ≠ (v343 : Value).ownBlock)) (by (with_reducible repeat (first | apply Kd.R_alloc | apply Kd.R_drewN | apply Kd.R_drew)); exact HO_15.out) hg (.inl rfl)); have n2_ := Aside0.mk (Kd.R_after (v := (.slice (some ⟨go41, 0, none⟩) y351.length co47)) (v1 := (.slice (some ⟨go41, 0, none⟩) y351.length co47)) (ok := (fun k_ => some k_ ≠ (.slice Ao17 t331.length co17 : Value).ownBlock ∧ some k_ ≠ (v339 : Value).ownBlock)) (by (with_reducible repeat (first | apply Kd.R_alloc | apply Kd.R_drewN | apply Kd.R_drew)); exact HO_17.out) hg (.inl rfl)); have n3_ := Aside0.mk (hp_); have n4_ := Aside0.mk ((by rw [hw]; exact below_set (HB.out) GB41.out : Below w.heap.size w w49)); clear HO_12; clear HO_15; clear HO_17; clear HO353; clear HB; have HO_12 := n0_; have HO_15 := n1_; have HO_17 := n2_; have HO353 := n3_; have HB := n4_; clear n0_ n1_ n2_ n3_ n4_; clear hg hw hp_) | (go_at_call 19; refine calls_of_args (args' := #[.int .i64 t335, .slice (some ⟨go41, 0, none⟩) y355.length co47]) (by first | (rw [show y355.length = y351.length from (Kd.R_reads' HO353.out).1.symm] <;> rfl) | rfl) ?_; (with_reducible refine (share_Fair.calls t335 _ _ y355 t356 t357 _ ?side1 ?side2 A42.out).mono ?_); (case side1 => repeat (first | exact (Kd.R_reads' HO353.out).2.2 | (with_reducible refine Kd.C_alloc ?_ _) | (with_reducible refine Kd.C_drewN ?_ _) | (with_reducible refine Kd.C_drew ?_))); (case side2 => rw [show y355.length = y351.length from (Kd.R_reads' HO353.out).1.symm]; exact (Kd.R_reads' HO353.out).2.1); rintro e w50 ⟨v358, rfl, ho0, hb⟩; have n0_ := Aside0.mk (Kd.R_elder' (by (with_reducible repeat (first | apply Kd.R_alloc | apply Kd.R_drewN | apply Kd.R_drew)); exact HO_12.out) (Kd.R_base ho0) hb); have n1_ := Aside0.mk (Kd.R_elder' (by (with_reducible repeat (first | apply Kd.R_alloc | apply Kd.R_drewN | apply Kd.R_drew)); exact HO_15.out) (Kd.R_base ho0) hb); have n2_ := Aside0.mk (Kd.R_elder' (by (with_reducible repeat (first | apply Kd.R_alloc | apply Kd.R_drewN | apply Kd.R_drew)); exact HO_17.out) (Kd.R_base ho0) hb); have n3_ := Aside0.mk (Kd.R_elder' (by (with_reducible repeat (first | apply Kd.R_alloc | apply Kd.R_drewN | apply Kd.R_drew)); exact HO353.out) (Kd.R_base ho0) hb); have n4_ := Aside0.mk (Kd.R_lower (Kd.R_new' (Kd.R_new' (Kd.R_new' (Kd.R_new' ho0 (Kd.R_lt (by (with_reducible repeat (first | apply Kd.R_alloc | apply Kd.R_drewN | apply Kd.R_drew)); exact HO_12.out))) (Kd.R_lt (by (with_reducible repeat (first | apply Kd.R_alloc | apply Kd.R_drewN | apply Kd.R_drew)); exact HO_15.out))) (Kd.R_lt (by (with_reducible repeat (first | apply Kd.R_alloc | apply Kd.R_drewN | apply Kd.R_drew)); exact HO_17.out))) (Kd.R_lt (by (with_reducible repeat (first | apply Kd.R_alloc | apply Kd.R_drewN | apply Kd.R_drew)); exact HO353.out))) (below_size (by repeat (first | (with_reducible first | exact HB.out | apply below_alloc | apply pw_below_drewN | apply below_drew1) | exact HB.out)))); have n5_ := Aside0.mk (below_step (by repeat (first | (with_reducible first | exact HB.out | apply below_alloc | apply pw_below_drewN | apply below_drew1) | exact HB.out)) hb); clear HO_12; clear HO_15; clear HO_17; clear HO353; clear HB; have HO_12 := n0_; have HO_15 := n1_; have HO_17 := n2_; have HO353 := n3_; have HO359 := n4_; have HB := n5_; clear n0_ n1_ n2_ n3_ n4_ n5_; (try clear hb); (try clear hb2); (try clear hk); (try clear hi); (try clear ho0)))
                          repeat (go_quiet (first | (go_at_call 17; (with_reducible refine (wageofficelaw32_pick.calls a2 (t331.length : Int) t347 _ A35.out).mono ?_); rintro e w' ⟨rfl, ⟨nd, rfl⟩⟩; (try first | exact ⟨rfl, _, World.drewN_drewN _ _ _⟩ | exact ⟨rfl, _, Eq.trans (World.drewN_drewN _ _ _) (congrArg (World.drewN _) (Nat.add_assoc _ _ _))⟩)) | ((with_reducible refine gate_dst (N := 100) rfl ?_); (try (refine gate_guard (by rfl) ?_; dsimp only)); refine Kd.R_makec (Kd.int .i64) _ 3 rfl (N := 100) rfl 22 _ _ rfl (t331.length : Int) rfl rfl Try.underlying22 (.int .i64 0) 8 info3 rfl (by decide) (by omega) 0 (ok := fun _ => True) (okp := fun _ => True) rfl (fun _ hk => hk) trivial (of_decide_eq_true (by first | (with_reducible assumption) | assumption)) (Nat.le_trans (Nat.mul_le_mul_right _ (of_decide_eq_true (by first | (with_reducible assumption) | assumption) : (t331.length : Int).toNat ≤ 35184372088832)) (by omega)) (Below.refl _ _) (Nat.le_refl _) ?_; intro v349 w44 ho45 hb hg_ hnew_; clear hg_ hnew_; (first | rw [← Ny348.out] at ho45 | (simp only [Int.reduceToNat] at ho45; rw [← Ny348.out] at ho45)); have n0_ := Aside0.mk (Kd.R_elder' (by (with_reducible repeat (first | apply Kd.R_alloc | apply Kd.R_drewN | apply Kd.R_drew)); exact HO_12.out) (Kd.R_base ho45) hb); have n1_ := Aside0.mk (Kd.R_elder' (by (with_reducible repeat (first | apply Kd.R_alloc | apply Kd.R_drewN | apply Kd.R_drew)); exact HO_15.out) (Kd.R_base ho45) hb); have n2_ := Aside0.mk (Kd.R_elder' (by (with_reducible repeat (first | apply Kd.R_alloc | apply Kd.R_drewN | apply Kd.R_drew)); exact HO_17.out) (Kd.R_base ho45) hb); have n3_ := Aside0.mk (Kd.R_lower (Kd.R_new' (Kd.R_new' (Kd.R_new' ho45 (Kd.R_lt (by (with_reducible repeat (first | apply Kd.R_alloc | apply Kd.R_drewN | apply Kd.R_drew)); exact HO_12.out))) (Kd.R_lt (by (with_reducible repeat (first | apply Kd.R_alloc | apply Kd.R_drewN | apply Kd.R_drew)); exact HO_15.out))) (Kd.R_lt (by (with_reducible repeat (first | apply Kd.R_alloc | apply Kd.R_drewN | apply Kd.R_drew)); exact HO_17.out))) (below_size (by repeat (first | (with_reducible first | exact HB.out | apply below_alloc | apply pw_below_drewN | apply below_drew1) | exact HB.out)))); have n4_ := Aside0.mk (below_step (by repeat (first | (with_reducible first | exact HB.out | apply below_alloc | apply pw_below_drewN | apply below_drew1) | exact HB.out)) hb); clear HO_12; clear HO_15; clear HO_17; clear HB; have HO_12 := n0_; have HO_15 := n1_; have HO_17 := n2_; have HO350 := n3_; have HB := n4_; clear n0_ n1_ n2_ n3_ n4_; clear hb ho45) | ((with_reducible refine gate_builtin (b := .append) (xs := #[.tmp 100, .tmp 101]) rfl ?_); (try (refine gate_guard (by rfl) ?_; dsimp only)); at_builtin; refine Kd.R_append_rows (Kd.int .i64) (w0 := w) w.heap.size rfl (.tmp 100) (.tmp 101) 22 3 (.int .i64 0) 8 rfl Try.underlying22 info3 rfl (by decide) (by omega) v349 y348 t331 _ _ _ (fun k_ => some k_ ≠ (.slice Ao17 t331.length co17 : Value).ownBlock ∧ some k_ ≠ (v339 : Value).ownBlock ∧ some k_ ≠ (v343 : Value).ownBlock) (fun _ => False) rfl rfl ?aO ?aR (fun _ _ h => h) (fun _ h => h.elim) ?aF ?aB ?aS ?aL ?_; (case aR => repeat (first | exact (Kd.R_reads' HO_12.out).2.2 | (with_reducible refine Kd.C_alloc ?_ _) | (with_reducible refine Kd.C_drewN ?_ _) | (with_reducible refine Kd.C_drew ?_))); (case aB => exact (by repeat (first | (with_reducible first | exact HB.out | apply below_alloc | apply pw_below_drewN | apply below_drew1) | exact HB.out))); (case aF => exact (fun k_ hk => ⟨Kd.fresh' (Kd.R_lt (by (with_reducible repeat (first | apply Kd.R_alloc | apply Kd.R_drewN | apply Kd.R_drew)); exact HO_12.out)) k_ hk, Kd.fresh' (Kd.R_lt (by (with_reducible repeat (first | apply Kd.R_alloc | apply Kd.R_drewN | apply Kd.R_drew)); exact HO_15.out)) k_ hk, Kd.fresh' (Kd.R_lt (by (with_reducible repeat (first | apply Kd.R_alloc | apply Kd.R_drewN | apply Kd.R_drew)); exact HO_17.out)) k_ hk⟩)); (case aO => exact (by (with_reducible repeat (first | apply Kd.R_alloc | apply Kd.R_drewN | apply Kd.R_drew)); exact Kd.R_mono HO350.out (fun _ hk => ⟨hk.1.1.2, ⟨hk.1.2, hk.2⟩⟩))); (case aS => exact (below_size (by repeat (first | (with_reducible first | exact HB.out | apply below_alloc | apply pw_below_drewN | apply below_drew1) | exact HB.out)))); (case aL => have := LMc38.out; omega); intro v352 w46 ho hb hg hat; rw [← Ny351.out] at ho; have n0_ := Aside0.mk (Kd.R_after (ok := (fun k_ => some k_ ≠ (v339 : Value).ownBlock ∧ some k_ ≠ (v343 : Value).ownBlock)) (by (with_reducible repeat (first | apply Kd.R_alloc | apply Kd.R_drewN | apply Kd.R_drew)); exact HO_12.out) hg hat); have n1_ := Aside0.mk (Kd.R_after (ok := (fun k_ => some k_ ≠ (.slice Ao17 t331.length co17 : Value).ownBlock ∧ some k_ ≠ (v343 : Value).ownBlock)) (by (with_reducible repeat (first | apply Kd.R_alloc | apply Kd.R_drewN | apply Kd.R_drew)); exact HO_15.out) hg hat); have n2_ := Aside0.mk (Kd.R_after (ok := (fun k_ => some k_ ≠ (.slice Ao17 t331.length co17 : Value).ownBlock ∧ some k_ ≠ (v339 : Value).ownBlock)) (by (with_reducible repeat (first | apply Kd.R_alloc | apply Kd.R_drewN | apply Kd.R_drew)); exact HO_17.out) hg hat); have n3_ := Aside0.mk (hb); have n4_ := Aside0.mk (ho); clear HO_12; clear HO_15; clear HO_17; clear HB; clear HO350; have HO_12 := n0_; have HO_15 := n1_; have HO_17 := n2_; have HB := n3_; have HO353 := n4_; clear n0_ n1_ n2_ n3_ n4_; clear ho hb hg hat; obtain ⟨Ao47, co47, eo47⟩ := Kd.R_slice HO353.out; subst eo47; have p354 : 0 ≤ (t347 : Int) := of_decide_eq_true (by first | (with_reducible assumption) | assumption); have q354 : t347 < (y351.length : Int) := of_decide_eq_true (by first | (with_reducible assumption) | assumption); obtain ⟨ad354, e354, hx354_0⟩ := Kd.at_int (Kd.R_reads' HO353.out).2.2 t347 p354 q354; cases e354; replace p354 := eq_true p354; replace q354 := eq_true q354; have p41 : 0 ≤ (t347 : Int) := of_decide_eq_true (by first | (with_reducible assumption) | assumption); have q41 : (t347 : Int) < ((y351.length : Int) : Int) := of_decide_eq_true (by first | (with_reducible assumption) | assumption); obtain ⟨go41, co41, eo41, gb41, gl41, cl41, HG41⟩ := Kd.R_form HO353.out (by omega); (first | cases eo41 | (injection eo41 with ea_ en_ ec_; (first | subst ea_ | (injection ea_ with ea_; subst ea_)); subst ec_; clear en_)); have GB41 := Aside0.mk gb41; have GG41 := Aside0.mk HG41; clear gb41 gl41 HG41; (first | simp only [add_plain] at hx354_0 | skip); obtain ⟨hx41_0, hf41_0⟩ := Kd.R_celln 0 HO353.out (t347 : Int) p41 q41; replace p41 := eq_true p41; replace q41 := eq_true q41; obtain ⟨hy48_, hz48_⟩ := Kd.R_celln 0 HO353.out (t347 : Int) (of_decide_eq_true (by first | (with_reducible assumption) | assumption)) (of_decide_eq_true (by first | (with_reducible assumption) | assumption)); have HP48 := Kd.R_putg HO353.out (t347 : Int) (wrap64 ((rd y351 t347) + t336))) | ((with_reducible refine gate_store (t := 3) (p := 109) rfl ?_); (try (rw [drewN_self w46]; generalize hq_ : World.drewN w46 _ = w46; have n0_ := Aside0.mk (Kd.R_at hq_ HO_12.out); have n1_ := Aside0.mk (Kd.R_at hq_ HO_15.out); have n2_ := Aside0.mk (Kd.R_at hq_ HO_17.out); have n3_ := Aside0.mk (Kd.R_at hq_ HO353.out); have n4_ := Aside0.mk (below_at hq_ HB.out); clear hq_ HO_12 HO_15 HO_17 HO353 HB; have HO_12 := n0_; have HO_15 := n1_; have HO_17 := n2_; have HO353 := n3_; have HB := n4_; clear n0_ n1_ n2_ n3_ n4_; (try (obtain ⟨hy48_, hz48_⟩ := Kd.R_celln 0 HO353.out (t347 : Int) (of_decide_eq_true (by first | (with_reducible assumption) | assumption)) (of_decide_eq_true (by first | (with_reducible assumption) | assumption)))); (try (have HP48 := Kd.R_putg HO353.out (t347 : Int) (wrap64 ((rd y351 t347) + t336)))))); refine store_event (t := 3) (p := 109) (v := ?vo_w49) (w1 := (w46.setCell ⟨go41, (t347 : Int).toNat, none⟩ (.int .i64 (wrap64 ((rd y351 t347) + t336))))) ?hg ?ho ?hn ?hr ?_; (case ho => rfl); (case hg => rfl); (case hn => rfl); (case hr => first | (go_simp; done) | (go_simp; rfl)); intro w49 hw; have hg : w46.grownBy w49 (some go41) := (by rw [hw]; exact HP48.2); have hp_ : Kd.R (Kd.int .i64) 3 w49 w.heap.size (fun k_ => some k_ ≠ (.slice Ao17 t331.length co17 : Value).ownBlock ∧ some k_ ≠ (v339 : Value).ownBlock ∧ some k_ ≠ (v343 : Value).ownBlock) (.slice (some ⟨go41, 0, none⟩) y351.length co47) y355 := (by rw [hw, Ny355.out]; exact HP48.1); clear HP48; have n0_ := Aside0.mk (Kd.R_after (v := (.slice (some ⟨go41, 0, none⟩) y351.length co47)) (v1 := (.slice (some ⟨go41, 0, none⟩) y351.length co47)) (ok := (fun k_ => some k_ ≠ (v339 : Value).ownBlock ∧ some k_ ≠ (v343 : Value).ownBlock)) (by (with_reducible repeat (first | apply Kd.R_alloc | apply Kd.R_drewN | apply Kd.R_drew)); exact HO_12.out) hg (.inl rfl)); have n1_ := Aside0.mk (Kd.R_after (v := (.slice (some ⟨go41, 0, none⟩) y351.length co47)) (v1 := (.slice (some ⟨go41, 0, none⟩) y351.length co47)) (ok := (fun k_ => some k_ ≠ (.slice Ao17 t331.length co17 : Value).ownBlock ∧ some k_ ≠ (v343 : Value).ownBlock)) (by (with_reducible repeat (first | apply Kd.R_alloc | apply Kd.R_drewN | apply Kd.R_drew)); exact HO_15.out) hg (.inl rfl)); have n2_ := Aside0.mk (Kd.R_after (v := (.slice (some ⟨go41, 0, none⟩) y351.length co47)) (v1 := (.slice (some ⟨go41, 0, none⟩) y351.length co47)) (ok := (fun k_ => some k_ ≠ (.slice Ao17 t331.length co17 : Value).ownBlock ∧ some k_ ≠ (v339 : Value).ownBlock)) (by (with_reducible repeat (first | apply Kd.R_alloc | apply Kd.R_drewN | apply Kd.R_drew)); exact HO_17.out) hg (.inl rfl)); have n3_ := Aside0.mk (hp_); have n4_ := Aside0.mk ((by rw [hw]; exact below_set (HB.out) GB41.out : Below w.heap.size w w49)); clear HO_12; clear HO_15; clear HO_17; clear HO353; clear HB; have HO_12 := n0_; have HO_15 := n1_; have HO_17 := n2_; have HO353 := n3_; have HB := n4_; clear n0_ n1_ n2_ n3_ n4_; clear hg hw hp_) | (go_at_call 19; refine calls_of_args (args' := #[.int .i64 t335, .slice (some ⟨go41, 0, none⟩) y355.length co47]) (by first | (rw [show y355.length = y351.length from (Kd.R_reads' HO353.out).1.symm] <;> rfl) | rfl) ?_; (with_reducible refine (share_Fair.calls t335 _ _ y355 t356 t357 _ ?side1 ?side2 A42.out).mono ?_); (case side1 => repeat (first | exact (Kd.R_reads' HO353.out).2.2 | (with_reducible refine Kd.C_alloc ?_ _) | (with_reducible refine Kd.C_drewN ?_ _) | (with_reducible refine Kd.C_drew ?_))); (case side2 => rw [show y355.length = y351.length from (Kd.R_reads' HO353.out).1.symm]; exact (Kd.R_reads' HO353.out).2.1); rintro e w50 ⟨v358, rfl, ho0, hb⟩; have n0_ := Aside0.mk (Kd.R_elder' (by (with_reducible repeat (first | apply Kd.R_alloc | apply Kd.R_drewN | apply Kd.R_drew)); exact HO_12.out) (Kd.R_base ho0) hb); have n1_ := Aside0.mk (Kd.R_elder' (by (with_reducible repeat (first | apply Kd.R_alloc | apply Kd.R_drewN | apply Kd.R_drew)); exact HO_15.out) (Kd.R_base ho0) hb); have n2_ := Aside0.mk (Kd.R_elder' (by (with_reducible repeat (first | apply Kd.R_alloc | apply Kd.R_drewN | apply Kd.R_drew)); exact HO_17.out) (Kd.R_base ho0) hb); have n3_ := Aside0.mk (Kd.R_elder' (by (with_reducible repeat (first | apply Kd.R_alloc | apply Kd.R_drewN | apply Kd.R_drew)); exact HO353.out) (Kd.R_base ho0) hb); have n4_ := Aside0.mk (Kd.R_lower (Kd.R_new' (Kd.R_new' (Kd.R_new' (Kd.R_new' ho0 (Kd.R_lt (by (with_reducible repeat (first | apply Kd.R_alloc | apply Kd.R_drewN | apply Kd.R_drew)); exact HO_12.out))) (Kd.R_lt (by (with_reducible repeat (first | apply Kd.R_alloc | apply Kd.R_drewN | apply Kd.R_drew)); exact HO_15.out))) (Kd.R_lt (by (with_reducible repeat (first | apply Kd.R_alloc | apply Kd.R_drewN | apply Kd.R_drew)); exact HO_17.out))) (Kd.R_lt (by (with_reducible repeat (first | apply Kd.R_alloc | apply Kd.R_drewN | apply Kd.R_drew)); exact HO353.out))) (below_size (by repeat (first | (with_reducible first | exact HB.out | apply below_alloc | apply pw_below_drewN | apply below_drew1) | exact HB.out)))); have n5_ := Aside0.mk (below_step (by repeat (first | (with_reducible first | exact HB.out | apply below_alloc | apply pw_below_drewN | apply below_drew1) | exact HB.out)) hb); clear HO_12; clear HO_15; clear HO_17; clear HO353; clear HB; have HO_12 := n0_; have HO_15 := n1_; have HO_17 := n2_; have HO353 := n3_; have HO359 := n4_; have HB := n5_; clear n0_ n1_ n2_ n3_ n4_ n5_; (try clear hb); (try clear hb2); (try clear hk); (try clear hi); (try clear ho0))); go_upto_region 19 with (first | (go_at_call 17; (with_reducible refine (wageofficelaw32_pick.calls a2 (t331.length : Int) t347 _ A35.out).mono ?_); rintro e w' ⟨rfl, ⟨nd, rfl⟩⟩; (try first | exact ⟨rfl, _, World.drewN_drewN _ _ _⟩ | exact ⟨rfl, _, Eq.trans (World.drewN_drewN _ _ _) (congrArg (World.drewN _) (Nat.add_assoc _ _ _))⟩)) | ((with_reducible refine gate_dst (N := 100) rfl ?_); (try (refine gate_guard (by rfl) ?_; dsimp only)); refine Kd.R_makec (Kd.int .i64) _ 3 rfl (N := 100) rfl 22 _ _ rfl (t331.length : Int) rfl rfl Try.underlying22 (.int .i64 0) 8 info3 rfl (by decide) (by omega) 0 (ok := fun _ => True) (okp := fun _ => True) rfl (fun _ hk => hk) trivial (of_decide_eq_true (by first | (with_reducible assumption) | assumption)) (Nat.le_trans (Nat.mul_le_mul_right _ (of_decide_eq_true (by first | (with_reducible assumption) | assumption) : (t331.length : Int).toNat ≤ 35184372088832)) (by omega)) (Below.refl _ _) (Nat.le_refl _) ?_; intro v349 w44 ho45 hb hg_ hnew_; clear hg_ hnew_; (first | rw [← Ny348.out] at ho45 | (simp only [Int.reduceToNat] at ho45; rw [← Ny348.out] at ho45)); have n0_ := Aside0.mk (Kd.R_elder' (by (with_reducible repeat (first | apply Kd.R_alloc | apply Kd.R_drewN | apply Kd.R_drew)); exact HO_12.out) (Kd.R_base ho45) hb); have n1_ := Aside0.mk (Kd.R_elder' (by (with_reducible repeat (first | apply Kd.R_alloc | apply Kd.R_drewN | apply Kd.R_drew)); exact HO_15.out) (Kd.R_base ho45) hb); have n2_ := Aside0.mk (Kd.R_elder' (by (with_reducible repeat (first | apply Kd.R_alloc | apply Kd.R_drewN | apply Kd.R_drew)); exact HO_17.out) (Kd.R_base ho45) hb); have n3_ := Aside0.mk (Kd.R_lower (Kd.R_new' (Kd.R_new' (Kd.R_new' ho45 (Kd.R_lt (by (with_reducible repeat (first | apply Kd.R_alloc | apply Kd.R_drewN | apply Kd.R_drew)); exact HO_12.out))) (Kd.R_lt (by (with_reducible repeat (first | apply Kd.R_alloc | apply Kd.R_drewN | apply Kd.R_drew)); exact HO_15.out))) (Kd.R_lt (by (with_reducible repeat (first | apply Kd.R_alloc | apply Kd.R_drewN | apply Kd.R_drew)); exact HO_17.out))) (below_size (by repeat (first | (with_reducible first | exact HB.out | apply below_alloc | apply pw_below_drewN | apply below_drew1) | exact HB.out)))); have n4_ := Aside0.mk (below_step (by repeat (first | (with_reducible first | exact HB.out | apply below_alloc | apply pw_below_drewN | apply below_drew1) | exact HB.out)) hb); clear HO_12; clear HO_15; clear HO_17; clear HB; have HO_12 := n0_; have HO_15 := n1_; have HO_17 := n2_; have HO350 := n3_; have HB := n4_; clear n0_ n1_ n2_ n3_ n4_; clear hb ho45) | ((with_reducible refine gate_builtin (b := .append) (xs := #[.tmp 100, .tmp 101]) rfl ?_); (try (refine gate_guard (by rfl) ?_; dsimp only)); at_builtin; refine Kd.R_append_rows (Kd.int .i64) (w0 := w) w.heap.size rfl (.tmp 100) (.tmp 101) 22 3 (.int .i64 0) 8 rfl Try.underlying22 info3 rfl (by decide) (by omega) v349 y348 t331 _ _ _ (fun k_ => some k_ ≠ (.slice Ao17 t331.length co17 : Value).ownBlock ∧ some k_ ≠ (v339 : Value).ownBlock ∧ some k_ ≠ (v343 : Value).ownBlock) (fun _ => False) rfl rfl ?aO ?aR (fun _ _ h => h) (fun _ h => h.elim) ?aF ?aB ?aS ?aL ?_; (case aR => repeat (first | exact (Kd.R_reads' HO_12.out).2.2 | (with_reducible refine Kd.C_alloc ?_ _) | (with_reducible refine Kd.C_drewN ?_ _) | (with_reducible refine Kd.C_drew ?_))); (case aB => exact (by repeat (first | (with_reducible first | exact HB.out | apply below_alloc | apply pw_below_drewN | apply below_drew1) | exact HB.out))); (case aF => exact (fun k_ hk => ⟨Kd.fresh' (Kd.R_lt (by (with_reducible repeat (first | apply Kd.R_alloc | apply Kd.R_drewN | apply Kd.R_drew)); exact HO_12.out)) k_ hk, Kd.fresh' (Kd.R_lt (by (with_reducible repeat (first | apply Kd.R_alloc | apply Kd.R_drewN | apply Kd.R_drew)); exact HO_15.out)) k_ hk, Kd.fresh' (Kd.R_lt (by (with_reducible repeat (first | apply Kd.R_alloc | apply Kd.R_drewN | apply Kd.R_drew)); exact HO_17.out)) k_ hk⟩)); (case aO => exact (by (with_reducible repeat (first | apply Kd.R_alloc | apply Kd.R_drewN | apply Kd.R_drew)); exact Kd.R_mono HO350.out (fun _ hk => ⟨hk.1.1.2, ⟨hk.1.2, hk.2⟩⟩))); (case aS => exact (below_size (by repeat (first | (with_reducible first | exact HB.out | apply below_alloc | apply pw_below_drewN | apply below_drew1) | exact HB.out)))); (case aL => have := LMc38.out; omega); intro v352 w46 ho hb hg hat; rw [← Ny351.out] at ho; have n0_ := Aside0.mk (Kd.R_after (ok := (fun k_ => some k_ ≠ (v339 : Value).ownBlock ∧ some k_ ≠ (v343 : Value).ownBlock)) (by (with_reducible repeat (first | apply Kd.R_alloc | apply Kd.R_drewN | apply Kd.R_drew)); exact HO_12.out) hg hat); have n1_ := Aside0.mk (Kd.R_after (ok := (fun k_ => some k_ ≠ (.slice Ao17 t331.length co17 : Value).ownBlock ∧ some k_ ≠ (v343 : Value).ownBlock)) (by (with_reducible repeat (first | apply Kd.R_alloc | apply Kd.R_drewN | apply Kd.R_drew)); exact HO_15.out) hg hat); have n2_ := Aside0.mk (Kd.R_after (ok := (fun k_ => some k_ ≠ (.slice Ao17 t331.length co17 : Value).ownBlock ∧ some k_ ≠ (v339 : Value).ownBlock)) (by (with_reducible repeat (first | apply Kd.R_alloc | apply Kd.R_drewN | apply Kd.R_drew)); exact HO_17.out) hg hat); have n3_ := Aside0.mk (hb); have n4_ := Aside0.mk (ho); clear HO_12; clear HO_15; clear HO_17; clear HB; clear HO350; have HO_12 := n0_; have HO_15 := n1_; have HO_17 := n2_; have HB := n3_; have HO353 := n4_; clear n0_ n1_ n2_ n3_ n4_; clear ho hb hg hat; obtain ⟨Ao47, co47, eo47⟩ := Kd.R_slice HO353.out; subst eo47; have p354 : 0 ≤ (t347 : Int) := of_decide_eq_true (by first | (with_reducible assumption) | assumption); have q354 : t347 < (y351.length : Int) := of_decide_eq_true (by first | (with_reducible assumption) | assumption); obtain ⟨ad354, e354, hx354_0⟩ := Kd.at_int (Kd.R_reads' HO353.out).2.2 t347 p354 q354; cases e354; replace p354 := eq_true p354; replace q354 := eq_true q354; have p41 : 0 ≤ (t347 : Int) := of_decide_eq_true (by first | (with_reducible assumption) | assumption); have q41 : (t347 : Int) < ((y351.length : Int) : Int) := of_decide_eq_true (by first | (with_reducible assumption) | assumption); obtain ⟨go41, co41, eo41, gb41, gl41, cl41, HG41⟩ := Kd.R_form HO353.out (by omega); (first | cases eo41 | (injection eo41 with ea_ en_ ec_; (first | subst ea_ | (injection ea_ with ea_; subst ea_)); subst ec_; clear en_)); have GB41 := Aside0.mk gb41; have GG41 := Aside0.mk HG41; clear gb41 gl41 HG41; (first | simp only [add_plain] at hx354_0 | skip); obtain ⟨hx41_0, hf41_0⟩ := Kd.R_celln 0 HO353.out (t347 : Int) p41 q41; replace p41 := eq_true p41; replace q41 := eq_true q41; obtain ⟨hy48_, hz48_⟩ := Kd.R_celln 0 HO353.out (t347 : Int) (of_decide_eq_true (by first | (with_reducible assumption) | assumption)) (of_decide_eq_true (by first | (with_reducible assumption) | assumption)); have HP48 := Kd.R_putg HO353.out (t347 : Int) (wrap64 ((rd y351 t347) + t336))) | ((with_reducible refine gate_store (t := 3) (p := 109) rfl ?_); (try (rw [drewN_self w46]; generalize hq_ : World.drewN w46 _ = w46; have n0_ := Aside0.mk (Kd.R_at hq_ HO_12.out); have n1_ := Aside0.mk (Kd.R_at hq_ HO_15.out); have n2_ := Aside0.mk (Kd.R_at hq_ HO_17.out); have n3_ := Aside0.mk (Kd.R_at hq_ HO353.out); have n4_ := Aside0.mk (below_at hq_ HB.out); clear hq_ HO_12 HO_15 HO_17 HO353 HB; have HO_12 := n0_; have HO_15 := n1_; have HO_17 := n2_; have HO353 := n3_; have HB := n4_; clear n0_ n1_ n2_ n3_ n4_; (try (obtain ⟨hy48_, hz48_⟩ := Kd.R_celln 0 HO353.out (t347 : Int) (of_decide_eq_true (by first | (with_reducible assumption) | assumption)) (of_decide_eq_true (by first | (with_reducible assumption) | assumption)))); (try (have HP48 := Kd.R_putg HO353.out (t347 : Int) (wrap64 ((rd y351 t347) + t336)))))); refine store_event (t := 3) (p := 109) (v := ?vo_w49) (w1 := (w46.setCell ⟨go41, (t347 : Int).toNat, none⟩ (.int .i64 (wrap64 ((rd y351 t347) + t336))))) ?hg ?ho ?hn ?hr ?_; (case ho => rfl); (case hg => rfl); (case hn => rfl); (case hr => first | (go_simp; done) | (go_simp; rfl)); intro w49 hw; have hg : w46.grownBy w49 (some go41) := (by rw [hw]; exact HP48.2); have hp_ : Kd.R (Kd.int .i64) 3 w49 w.heap.size (fun k_ => some k_ ≠ (.slice Ao17 t331.length co17 : Value).ownBlock ∧ some k_ ≠ (v339 : Value).ownBlock ∧ some k_ ≠ (v343 : Value).ownBlock) (.slice (some ⟨go41, 0, none⟩) y351.length co47) y355 := (by rw [hw, Ny355.out]; exact HP48.1); clear HP48; have n0_ := Aside0.mk (Kd.R_after (v := (.slice (some ⟨go41, 0, none⟩) y351.length co47)) (v1 := (.slice (some ⟨go41, 0, none⟩) y351.length co47)) (ok := (fun k_ => some k_ ≠ (v339 : Value).ownBlock ∧ some k_ ≠ (v343 : Value).ownBlock)) (by (with_reducible repeat (first | apply Kd.R_alloc | apply Kd.R_drewN | apply Kd.R_drew)); exact HO_12.out) hg (.inl rfl)); have n1_ := Aside0.mk (Kd.R_after (v := (.slice (some ⟨go41, 0, none⟩) y351.length co47)) (v1 := (.slice (some ⟨go41, 0, none⟩) y351.length co47)) (ok := (fun k_ => some k_ ≠ (.slice Ao17 t331.length co17 : Value).ownBlock ∧ some k_ ≠ (v343 : Value).ownBlock)) (by (with_reducible repeat (first | apply Kd.R_alloc | apply Kd.R_drewN | apply Kd.R_drew)); exact HO_15.out) hg (.inl rfl)); have n2_ := Aside0.mk (Kd.R_after (v := (.slice (some ⟨go41, 0, none⟩) y351.length co47)) (v1 := (.slice (some ⟨go41, 0, none⟩) y351.length co47)) (ok := (fun k_ => some k_ ≠ (.slice Ao17 t331.length co17 : Value).ownBlock ∧ some k_ ≠ (v339 : Value).ownBlock)) (by (with_reducible repeat (first | apply Kd.R_alloc | apply Kd.R_drewN | apply Kd.R_drew)); exact HO_17.out) hg (.inl rfl)); have n3_ := Aside0.mk (hp_); have n4_ := Aside0.mk ((by rw [hw]; exact below_set (HB.out) GB41.out : Below w.heap.size w w49)); clear HO_12; clear HO_15; clear HO_17; clear HO353; clear HB; have HO_12 := n0_; have HO_15 := n1_; have HO_17 := n2_; have HO353 := n3_; have HB := n4_; clear n0_ n1_ n2_ n3_ n4_; clear hg hw hp_) | (go_at_call 19; refine calls_of_args (args' := #[.int .i64 t335, .slice (some ⟨go41, 0, none⟩) y355.length co47]) (by first | (rw [show y355.length = y351.length from (Kd.R_reads' HO353.out).1.symm] <;> rfl) | rfl) ?_; (with_reducible refine (share_Fair.calls t335 _ _ y355 t356 t357 _ ?side1 ?side2 A42.out).mono ?_); (case side1 => repeat (first | exact (Kd.R_reads' HO353.out).2.2 | (with_reducible refine Kd.C_alloc ?_ _) | (with_reducible refine Kd.C_drewN ?_ _) | (with_reducible refine Kd.C_drew ?_))); (case side2 => rw [show y355.length = y351.length from (Kd.R_reads' HO353.out).1.symm]; exact (Kd.R_reads' HO353.out).2.1); rintro e w50 ⟨v358, rfl, ho0, hb⟩; have n0_ := Aside0.mk (Kd.R_elder' (by (with_reducible repeat (first | apply Kd.R_alloc | apply Kd.R_drewN | apply Kd.R_drew)); exact HO_12.out) (Kd.R_base ho0) hb); have n1_ := Aside0.mk (Kd.R_elder' (by (with_reducible repeat (first | apply Kd.R_alloc | apply Kd.R_drewN | apply Kd.R_drew)); exact HO_15.out) (Kd.R_base ho0) hb); have n2_ := Aside0.mk (Kd.R_elder' (by (with_reducible repeat (first | apply Kd.R_alloc | apply Kd.R_drewN | apply Kd.R_drew)); exact HO_17.out) (Kd.R_base ho0) hb); have n3_ := Aside0.mk (Kd.R_elder' (by (with_reducible repeat (first | apply Kd.R_alloc | apply Kd.R_drewN | apply Kd.R_drew)); exact HO353.out) (Kd.R_base ho0) hb); have n4_ := Aside0.mk (Kd.R_lower (Kd.R_new' (Kd.R_new' (Kd.R_new' (Kd.R_new' ho0 (Kd.R_lt (by (with_reducible repeat (first | apply Kd.R_alloc | apply Kd.R_drewN | apply Kd.R_drew)); exact HO_12.out))) (Kd.R_lt (by (with_reducible repeat (first | apply Kd.R_alloc | apply Kd.R_drewN | apply Kd.R_drew)); exact HO_15.out))) (Kd.R_lt (by (with_reducible repeat (first | apply Kd.R_alloc | apply Kd.R_drewN | apply Kd.R_drew)); exact HO_17.out))) (Kd.R_lt (by (with_reducible repeat (first | apply Kd.R_alloc | apply Kd.R_drewN | apply Kd.R_drew)); exact HO353.out))) (below_size (by repeat (first | (with_reducible first | exact HB.out | apply below_alloc | apply pw_below_drewN | apply below_drew1) | exact HB.out)))); have n5_ := Aside0.mk (below_step (by repeat (first | (with_reducible first | exact HB.out | apply below_alloc | apply pw_below_drewN | apply below_drew1) | exact HB.out)) hb); clear HO_12; clear HO_15; clear HO_17; clear HO353; clear HB; have HO_12 := n0_; have HO_15 := n1_; have HO_17 := n2_; have HO353 := n3_; have HO359 := n4_; have HB := n5_; clear n0_ n1_ n2_ n3_ n4_ n5_; (try clear hb); (try clear hb2); (try clear hk); (try clear hi); (try clear ho0))))
                          (try simp only [Act.put, List.setIfInBounds_toArray, List.set_cons_zero, List.set_cons_succ])
                          go_cut [124] (fun v124 wc => ∃ (kq : Nat) (x124_42 : Bool), v124 = .bool x124_42 ∧ Aside0 (wageofficelaw32_ShareGrows.j2 kq x11_2 t331 t337 t347 t356 x124_42 = some r) ∧ Aside0 (kq ≤ k2) ∧ Aside0 (Kd.R (Kd.int .i64) 3 wc w.heap.size (fun k_ => some k_ ≠ (v339 : Value).ownBlock ∧ some k_ ≠ (v358 : Value).ownBlock) (.slice Ao17 t331.length co17) t331) ∧ Aside0 (Kd.R (Kd.int .i64) 3 wc w.heap.size (fun k_ => some k_ ≠ ((.slice Ao17 t331.length co17) : Value).ownBlock ∧ some k_ ≠ (v358 : Value).ownBlock) v339 t337) ∧ Aside0 (Kd.R (Kd.int .i64) 3 wc w.heap.size (fun k_ => some k_ ≠ ((.slice Ao17 t331.length co17) : Value).ownBlock ∧ some k_ ≠ (v339 : Value).ownBlock) v358 t356) ∧ Aside0 (Below w.heap.size w wc))
                          case first =>
                            have H := HC43.out
                            clear HC43
                            by_cases c51 : t357 = 0
                            · rw [if_pos c51] at H
                              have c51b0 : (t357 == 0) = true := beq_iff_eq.mpr c51
                              have c51b1 : (t357 != 0) = false := bne_eq_false_iff_eq.mpr c51
                              clear c51
                              (first | rw [c51b0] | (simp only [i64_w, i32_w]; rw [c51b0]) | skip)
                              have H' := Aside0.mk H
                              clear H
                              obtain ⟨Ao52, co52, eo52⟩ := Kd.R_slice HO359.out
                              subst eo52
                              go_wp2
                              repeat (go_quiet (fail); try go_wp2)
                              go_meet
                              case rel => exact ⟨_, (((t356.length : Int) != (t331.length : Int))), (by first | rfl | (simp; done) | (simp [*]; done)), H', ⟨by have := HJ13.out; have := HK2.out; first | omega | exact Nat.le_refl _⟩, ⟨by (with_reducible repeat (first | apply Kd.R_alloc | apply Kd.R_drewN | apply Kd.R_drew)); exact Kd.R_mono HO_12.out (fun _ hk => ⟨hk.1.1.1, hk.2⟩)⟩, ⟨by (with_reducible repeat (first | apply Kd.R_alloc | apply Kd.R_drewN | apply Kd.R_drew)); exact Kd.R_mono HO_15.out (fun _ hk => ⟨hk.1.1.1, hk.2⟩)⟩, ⟨by (with_reducible repeat (first | apply Kd.R_alloc | apply Kd.R_drewN | apply Kd.R_drew)); exact Kd.R_mono HO359.out (fun _ hk => ⟨hk.1.1.1.2, hk.1.1.2⟩)⟩, ⟨by repeat (first | (with_reducible first | exact HB.out | apply below_alloc | apply pw_below_drewN | apply below_drew1) | exact HB.out)⟩⟩
                            · rw [if_neg c51] at H
                              have c51b0 : (t357 == 0) = false := beq_eq_false_iff_ne.mpr c51
                              have c51b1 : (t357 != 0) = true := bne_iff_ne.mpr c51
                              (first | rw [c51b0] | (simp only [i64_w, i32_w]; rw [c51b0]) | skip)
                              have H' := Aside0.mk H
                              clear H
                              go_wp2
                              repeat (go_quiet (fail); try go_wp2)
                              go_meet
                              case rel => exact ⟨_, (true), (by first | rfl | (simp; done) | (simp [*]; done)), H', ⟨by have := HJ13.out; have := HK2.out; first | omega | exact Nat.le_refl _⟩, ⟨by (with_reducible repeat (first | apply Kd.R_alloc | apply Kd.R_drewN | apply Kd.R_drew)); exact Kd.R_mono HO_12.out (fun _ hk => ⟨hk.1.1.1, hk.2⟩)⟩, ⟨by (with_reducible repeat (first | apply Kd.R_alloc | apply Kd.R_drewN | apply Kd.R_drew)); exact Kd.R_mono HO_15.out (fun _ hk => ⟨hk.1.1.1, hk.2⟩)⟩, ⟨by (with_reducible repeat (first | apply Kd.R_alloc | apply Kd.R_drewN | apply Kd.R_drew)); exact Kd.R_mono HO359.out (fun _ hk => ⟨hk.1.1.1.2, hk.1.1.2⟩)⟩, ⟨by repeat (first | (with_reducible first | exact HB.out | apply below_alloc | apply pw_below_drewN | apply below_drew1) | exact HB.out)⟩⟩
                          case rest =>
                            clear HC43
                            try clear c1
                            try clear c2
                            try clear p2
                            try clear c3
                            try clear p3
                            try clear q3
                            try clear hx3
                            try clear c4
                            try clear p4
                            try clear q4
                            try clear hx4
                            try clear c5
                            try clear c6
                            try clear p6
                            try clear c20
                            try clear c20b0
                            try clear c20b1
                            try clear c21
                            try clear c21b0
                            try clear c21b1
                            try clear c22
                            try clear c22b0
                            try clear c22b1
                            try clear c22b2
                            try clear c26
                            try clear c27
                            try clear c27b0
                            try clear c28
                            try clear c29
                            try clear c29b0
                            try clear c30
                            try clear c30b0
                            try clear c31
                            try clear c31b0
                            try clear c34
                            try clear c34b0
                            try clear c34b1
                            try clear c34b2
                            try clear p34
                            try clear q34
                            try clear hx34
                            try clear p35
                            try clear q35
                            try clear hx35
                            try clear c36
                            try clear c36b0
                            try clear c36b1
                            try clear c37
                            try clear c37b0
                            try clear c37b1
                            try clear c38
                            try clear c39
                            try clear c39b0
                            try clear c40
                            try clear c40b0
                            try clear p41
                            try clear q41
                            try clear hx41
                            try clear hf41
                            try clear c51
                            try clear c51b0
                            try clear c51b1
                            try clear hx345_0
                            try clear hx346_0
                            try clear hx354_0
                            try clear hx41_0
                            try clear p2
                            try clear p345
                            try clear p346
                            try clear p354
                            try clear p41
                            try clear p6
                            try clear q345
                            try clear q346
                            try clear q354
                            try clear q41
                            obtain ⟨kq, x124_42, rfl, HA, HJ42, HO_12, HO_15, HO_22, HB⟩ := hcut
                            cases kq with
                            | zero => exact absurd HA.out (by simp [wageofficelaw32_ShareGrows.j2])
                            | succ kj42 =>
                              have H := HA.out
                              clear HA
                              simp only [wageofficelaw32_ShareGrows.j2] at H
                              by_cases c53 : x124_42 = true
                              · subst c53
                                have H1 : (some false) = some r := by rw [if_pos rfl] at H; exact H
                                clear H
                                have H := H1
                                clear H1
                                obtain rfl := Option.some.inj H
                                go_wp2
                                repeat (go_quiet (fail); try go_wp2)
                                go_ret
                                exact ⟨by first | rfl | (simp [errW_none, errW_some] <;> rfl) | (simp [*, errW_none, errW_some] <;> rfl), by repeat (first | (with_reducible first | exact HB.out | apply below_alloc | apply pw_below_drewN | apply below_drew1) | exact HB.out)⟩
                              · replace c53 := Bool.eq_false_iff.mpr c53
                                subst c53
                                have H1 : (wageofficelaw32_ShareGrows.l1 kj42 x11_2 t331 t337 t347 t356 0) = some r := by rw [if_neg (show ¬ (false = true) by decide)] at H; exact H
                                clear H
                                have H := H1
                                clear H1
                                have H' := Aside0.mk H
                                clear H
                                go_wp2
                                repeat (go_quiet (fail); try go_wp2)
                                go_loopg [11, 24] kj42 (fun kq v11 v24 w' => ∃ (x11_4 : Bool) (x24_4 : Int), v11 = .bool x11_4 ∧ v24 = .int .i64 x24_4 ∧ Aside0 (wageofficelaw32_ShareGrows.l1 kq x11_4 t331 t337 t347 t356 x24_4 = some r) ∧ Aside0 (kq ≤ kj42) ∧ Aside0 (Kd.R (Kd.int .i64) 3 w' w.heap.size (fun k_ => some k_ ≠ (v339 : Value).ownBlock ∧ some k_ ≠ (v358 : Value).ownBlock) (.slice Ao17 t331.length co17) t331) ∧ Aside0 (Kd.R (Kd.int .i64) 3 w' w.heap.size (fun k_ => some k_ ≠ ((.slice Ao17 t331.length co17) : Value).ownBlock ∧ some k_ ≠ (v358 : Value).ownBlock) v339 t337) ∧ Aside0 (Kd.R (Kd.int .i64) 3 w' w.heap.size (fun k_ => some k_ ≠ ((.slice Ao17 t331.length co17) : Value).ownBlock ∧ some k_ ≠ (v339 : Value).ownBlock) v358 t356) ∧ Aside0 (Below w.heap.size w w'))
                                case atStart => exact ⟨(x11_2), (0), (by first | rfl | (simp; done) | (simp [*]; done)), (by first | rfl | (simp; done) | (simp [*]; done)), H', ⟨Nat.le_refl _⟩, ⟨by (with_reducible repeat (first | apply Kd.R_alloc | apply Kd.R_drewN | apply Kd.R_drew)); exact HO_12.out⟩, ⟨by (with_reducible repeat (first | apply Kd.R_alloc | apply Kd.R_drewN | apply Kd.R_drew)); exact HO_15.out⟩, ⟨by (with_reducible repeat (first | apply Kd.R_alloc | apply Kd.R_drewN | apply Kd.R_drew)); exact HO_22.out⟩, ⟨by repeat (first | (with_reducible first | exact HB.out | apply below_alloc | apply pw_below_drewN | apply below_drew1) | exact HB.out)⟩⟩
                                case round =>
                                  clear H'
                                  try clear c1
                                  try clear c2
                                  try clear p2
                                  try clear c3
                                  try clear p3
                                  try clear q3
                                  try clear hx3
                                  try clear c4
                                  try clear p4
                                  try clear q4
                                  try clear hx4
                                  try clear c5
                                  try clear c6
                                  try clear p6
                                  try clear c20
                                  try clear c20b0
                                  try clear c20b1
                                  try clear c21
                                  try clear c21b0
                                  try clear c21b1
                                  try clear c22
                                  try clear c22b0
                                  try clear c22b1
                                  try clear c22b2
                                  try clear c26
                                  try clear c27
                                  try clear c27b0
                                  try clear c28
                                  try clear c29
                                  try clear c29b0
                                  try clear c30
                                  try clear c30b0
                                  try clear c31
                                  try clear c31b0
                                  try clear c34
                                  try clear c34b0
                                  try clear c34b1
                                  try clear c34b2
                                  try clear p34
                                  try clear q34
                                  try clear hx34
                                  try clear p35
                                  try clear q35
                                  try clear hx35
                                  try clear c36
                                  try clear c36b0
                                  try clear c36b1
                                  try clear c37
                                  try clear c37b0
                                  try clear c37b1
                                  try clear c38
                                  try clear c39
                                  try clear c39b0
                                  try clear c40
                                  try clear c40b0
                                  try clear p41
                                  try clear q41
                                  try clear hx41
                                  try clear hf41
                                  try clear c51
                                  try clear c51b0
                                  try clear c51b1
                                  try clear c53
                                  try clear hx345_0
                                  try clear hx346_0
                                  try clear hx354_0
                                  try clear hx41_0
                                  try clear p2
                                  try clear p3
                                  try clear p34
                                  try clear p345
                                  try clear p346
                                  try clear p35
                                  try clear p354
                                  try clear p4
                                  try clear p41
                                  try clear p6
                                  try clear q3
                                  try clear q34
                                  try clear q345
                                  try clear q346
                                  try clear q35
                                  try clear q354
                                  try clear q4
                                  try clear q41
                                  obtain ⟨x11_4, x24_4, rfl, rfl, HA, HK4, HO_12, HO_15, HO_22, HB⟩ := hrel
                                  cases gk with
                                  | zero => exact absurd HA.out (by simp [wageofficelaw32_ShareGrows.l1])
                                  | succ k4 =>
                                    have H := HA.out
                                    clear HA
                                    simp only [wageofficelaw32_ShareGrows.l1] at H
                                    by_cases c54 : x24_4 < (t331.length : Int)
                                    · rw [if_pos c54] at H
                                      have c54b0 : decide (x24_4 < (t331.length : Int)) = true := decide_eq_true c54
                                      clear c54
                                      by_cases c55 : x11_4 = true
                                      · subst c55
                                        have H1 : (if x24_4 = t347 then (if 0 ≤ x24_4 then (if x24_4 < (t356.length : Int) then (if x24_4 < (t337.length : Int) then (if (rd t356 x24_4) ≥ (rd t337 x24_4) then (wageofficelaw32_ShareGrows.l1 k4 true t331 t337 t347 t356 (wrap64 (x24_4 + 1))) else (wageofficelaw32_ShareGrows.l1 k4 false t331 t337 t347 t356 (wrap64 (x24_4 + 1)))) else (none)) else (none)) else (none)) else (if 0 ≤ x24_4 then (if x24_4 < (t356.length : Int) then (if x24_4 < (t337.length : Int) then (wageofficelaw32_ShareGrows.l1 k4 (decide ((rd t356 x24_4) ≤ (rd t337 x24_4))) t331 t337 t347 t356 (wrap64 (x24_4 + 1))) else (none)) else (none)) else (none))) = some r := by rw [if_pos rfl] at H; exact H
                                        clear H
                                        have H := H1
                                        clear H1
                                        by_cases c56 : x24_4 = t347
                                        · rw [if_pos c56] at H
                                          have c56b0 : (x24_4 == t347) = true := beq_iff_eq.mpr c56
                                          have c56b1 : (x24_4 != t347) = false := bne_eq_false_iff_eq.mpr c56
                                          clear c56
                                          by_cases c57 : 0 ≤ x24_4
                                          · rw [if_pos c57] at H
                                            have c57b0 : decide (0 ≤ x24_4) = true := decide_eq_true c57
                                            clear c57
                                            by_cases c58 : x24_4 < (t356.length : Int)
                                            · rw [if_pos c58] at H
                                              have c58b0 : decide (x24_4 < (t356.length : Int)) = true := decide_eq_true c58
                                              clear c58
                                              by_cases c59 : x24_4 < (t337.length : Int)
                                              · rw [if_pos c59] at H
                                                have c59b0 : decide (x24_4 < (t337.length : Int)) = true := decide_eq_true c59
                                                clear c59
                                                by_cases c60 : (rd t356 x24_4) ≥ (rd t337 x24_4)
                                                · rw [if_pos c60] at H
                                                  have c60b0 : decide ((rd t337 x24_4) ≤ (rd t356 x24_4)) = true := decide_eq_true c60
                                                  clear c60
                                                  have H' := Aside0.mk H
                                                  clear H
                                                  obtain ⟨Ao61, co61, eo61⟩ := Kd.R_slice HO_22.out
                                                  subst eo61
                                                  have p360 : 0 ≤ (x24_4 : Int) := of_decide_eq_true (by first | (with_reducible assumption) | assumption)
                                                  have q360 : x24_4 < (t356.length : Int) := of_decide_eq_true (by first | (with_reducible assumption) | assumption)
                                                  obtain ⟨ad360, e360, hx360_0⟩ := Kd.at_int (Kd.R_reads' HO_22.out).2.2 x24_4 p360 q360
                                                  cases e360
                                                  replace p360 := eq_true p360
                                                  replace q360 := eq_true q360
                                                  obtain ⟨Ao62, co62, eo62⟩ := Kd.R_slice HO_15.out
                                                  subst eo62
                                                  have p361 : 0 ≤ (x24_4 : Int) := of_decide_eq_true (by first | (with_reducible assumption) | assumption)
                                                  have q361 : x24_4 < (t337.length : Int) := of_decide_eq_true (by first | (with_reducible assumption) | assumption)
                                                  obtain ⟨ad361, e361, hx361_0⟩ := Kd.at_int (Kd.R_reads' HO_15.out).2.2 x24_4 p361 q361
                                                  cases e361
                                                  replace p361 := eq_true p361
                                                  replace q361 := eq_true q361
                                                  go_wp2
                                                  repeat (go_quiet (fail); try go_wp2)
                                                  go_roundg k4
                                                  case measure => have := HJ13.out; have := HK2.out; have := HJ42.out; have := HK4.out; omega
                                                  case rel => exact ⟨(true), (wrap64 (x24_4 + 1)), (by first | rfl | (simp; done) | (simp [*]; done)), (by first | rfl | (simp; done) | (simp [*]; done)), H', ⟨by have := HJ13.out; have := HK2.out; have := HJ42.out; have := HK4.out; omega⟩, ⟨by (with_reducible repeat (first | apply Kd.R_alloc | apply Kd.R_drewN | apply Kd.R_drew)); exact HO_12.out⟩, ⟨by (with_reducible repeat (first | apply Kd.R_alloc | apply Kd.R_drewN | apply Kd.R_drew)); exact HO_15.out⟩, ⟨by (with_reducible repeat (first | apply Kd.R_alloc | apply Kd.R_drewN | apply Kd.R_drew)); exact HO_22.out⟩, ⟨by repeat (first | (with_reducible first | exact HB.out | apply below_alloc | apply pw_below_drewN | apply below_drew1) | exact HB.out)⟩⟩
                                                · rw [if_neg c60] at H
                                                  have c60b0 : decide ((rd t337 x24_4) ≤ (rd t356 x24_4)) = false := decide_eq_false c60
                                                  clear c60
                                                  have H' := Aside0.mk H
                                                  clear H
                                                  obtain ⟨Ao63, co63, eo63⟩ := Kd.R_slice HO_22.out
                                                  subst eo63
                                                  have p360 : 0 ≤ (x24_4 : Int) := of_decide_eq_true (by first | (with_reducible assumption) | assumption)
                                                  have q360 : x24_4 < (t356.length : Int) := of_decide_eq_true (by first | (with_reducible assumption) | assumption)
                                                  obtain ⟨ad360, e360, hx360_0⟩ := Kd.at_int (Kd.R_reads' HO_22.out).2.2 x24_4 p360 q360
                                                  cases e360
                                                  replace p360 := eq_true p360
                                                  replace q360 := eq_true q360
                                                  obtain ⟨Ao64, co64, eo64⟩ := Kd.R_slice HO_15.out
                                                  subst eo64
                                                  have p361 : 0 ≤ (x24_4 : Int) := of_decide_eq_true (by first | (with_reducible assumption) | assumption)
                                                  have q361 : x24_4 < (t337.length : Int) := of_decide_eq_true (by first | (with_reducible assumption) | assumption)
                                                  obtain ⟨ad361, e361, hx361_0⟩ := Kd.at_int (Kd.R_reads' HO_15.out).2.2 x24_4 p361 q361
                                                  cases e361
                                                  replace p361 := eq_true p361
                                                  replace q361 := eq_true q361
                                                  go_wp2
                                                  repeat (go_quiet (fail); try go_wp2)
                                                  go_roundg k4
                                                  case measure => have := HJ13.out; have := HK2.out; have := HJ42.out; have := HK4.out; omega
                                                  case rel => exact ⟨(false), (wrap64 (x24_4 + 1)), (by first | rfl | (simp; done) | (simp [*]; done)), (by first | rfl | (simp; done) | (simp [*]; done)), H', ⟨by have := HJ13.out; have := HK2.out; have := HJ42.out; have := HK4.out; omega⟩, ⟨by (with_reducible repeat (first | apply Kd.R_alloc | apply Kd.R_drewN | apply Kd.R_drew)); exact HO_12.out⟩, ⟨by (with_reducible repeat (first | apply Kd.R_alloc | apply Kd.R_drewN | apply Kd.R_drew)); exact HO_15.out⟩, ⟨by (with_reducible repeat (first | apply Kd.R_alloc | apply Kd.R_drewN | apply Kd.R_drew)); exact HO_22.out⟩, ⟨by repeat (first | (with_reducible first | exact HB.out | apply below_alloc | apply pw_below_drewN | apply below_drew1) | exact HB.out)⟩⟩
                                              · rw [if_neg c59] at H
                                                exact absurd H (by simp)
                                            · rw [if_neg c58] at H
                                              exact absurd H (by simp)
                                          · rw [if_neg c57] at H
                                            exact absurd H (by simp)
                                        · rw [if_neg c56] at H
                                          have c56b0 : (x24_4 == t347) = false := beq_eq_false_iff_ne.mpr c56
                                          have c56b1 : (x24_4 != t347) = true := bne_iff_ne.mpr c56
                                          by_cases c65 : 0 ≤ x24_4
                                          · rw [if_pos c65] at H
                                            have c65b0 : decide (0 ≤ x24_4) = true := decide_eq_true c65
                                            clear c65
                                            by_cases c66 : x24_4 < (t356.length : Int)
                                            · rw [if_pos c66] at H
                                              have c66b0 : decide (x24_4 < (t356.length : Int)) = true := decide_eq_true c66
                                              clear c66
                                              by_cases c67 : x24_4 < (t337.length : Int)
                                              · rw [if_pos c67] at H
                                                have c67b0 : decide (x24_4 < (t337.length : Int)) = true := decide_eq_true c67
                                                clear c67
                                                have H' := Aside0.mk H
                                                clear H
                                                obtain ⟨Ao68, co68, eo68⟩ := Kd.R_slice HO_22.out
                                                subst eo68
                                                have p362 : 0 ≤ (x24_4 : Int) := of_decide_eq_true (by first | (with_reducible assumption) | assumption)
                                                have q362 : x24_4 < (t356.length : Int) := of_decide_eq_true (by first | (with_reducible assumption) | assumption)
                                                obtain ⟨ad362, e362, hx362_0⟩ := Kd.at_int (Kd.R_reads' HO_22.out).2.2 x24_4 p362 q362
                                                cases e362
                                                replace p362 := eq_true p362
                                                replace q362 := eq_true q362
                                                obtain ⟨Ao69, co69, eo69⟩ := Kd.R_slice HO_15.out
                                                subst eo69
                                                have p363 : 0 ≤ (x24_4 : Int) := of_decide_eq_true (by first | (with_reducible assumption) | assumption)
                                                have q363 : x24_4 < (t337.length : Int) := of_decide_eq_true (by first | (with_reducible assumption) | assumption)
                                                obtain ⟨ad363, e363, hx363_0⟩ := Kd.at_int (Kd.R_reads' HO_15.out).2.2 x24_4 p363 q363
                                                cases e363
                                                replace p363 := eq_true p363
                                                replace q363 := eq_true q363
                                                go_wp2
                                                repeat (go_quiet (fail); try go_wp2)
                                                go_roundg k4
                                                case measure => have := HJ13.out; have := HK2.out; have := HJ42.out; have := HK4.out; omega
                                                case rel => exact ⟨(decide ((rd t356 x24_4) ≤ (rd t337 x24_4))), (wrap64 (x24_4 + 1)), (by first | rfl | (simp; done) | (simp [*]; done)), (by first | rfl | (simp; done) | (simp [*]; done)), H', ⟨by have := HJ13.out; have := HK2.out; have := HJ42.out; have := HK4.out; omega⟩, ⟨by (with_reducible repeat (first | apply Kd.R_alloc | apply Kd.R_drewN | apply Kd.R_drew)); exact HO_12.out⟩, ⟨by (with_reducible repeat (first | apply Kd.R_alloc | apply Kd.R_drewN | apply Kd.R_drew)); exact HO_15.out⟩, ⟨by (with_reducible repeat (first | apply Kd.R_alloc | apply Kd.R_drewN | apply Kd.R_drew)); exact HO_22.out⟩, ⟨by repeat (first | (with_reducible first | exact HB.out | apply below_alloc | apply pw_below_drewN | apply below_drew1) | exact HB.out)⟩⟩
                                              · rw [if_neg c67] at H
                                                exact absurd H (by simp)
                                            · rw [if_neg c66] at H
                                              exact absurd H (by simp)
                                          · rw [if_neg c65] at H
                                            exact absurd H (by simp)
                                      · replace c55 := Bool.eq_false_iff.mpr c55
                                        subst c55
                                        have H1 : (wageofficelaw32_ShareGrows.l1 k4 false t331 t337 t347 t356 (wrap64 (x24_4 + 1))) = some r := by rw [if_neg (show ¬ (false = true) by decide)] at H; exact H
                                        clear H
                                        have H := H1
                                        clear H1
                                        have H' := Aside0.mk H
                                        clear H
                                        go_wp2
                                        repeat (go_quiet (fail); try go_wp2)
                                        go_roundg k4
                                        case measure => have := HJ13.out; have := HK2.out; have := HJ42.out; have := HK4.out; omega
                                        case rel => exact ⟨(false), (wrap64 (x24_4 + 1)), (by first | rfl | (simp; done) | (simp [*]; done)), (by first | rfl | (simp; done) | (simp [*]; done)), H', ⟨by have := HJ13.out; have := HK2.out; have := HJ42.out; have := HK4.out; omega⟩, ⟨by (with_reducible repeat (first | apply Kd.R_alloc | apply Kd.R_drewN | apply Kd.R_drew)); exact HO_12.out⟩, ⟨by (with_reducible repeat (first | apply Kd.R_alloc | apply Kd.R_drewN | apply Kd.R_drew)); exact HO_15.out⟩, ⟨by (with_reducible repeat (first | apply Kd.R_alloc | apply Kd.R_drewN | apply Kd.R_drew)); exact HO_22.out⟩, ⟨by repeat (first | (with_reducible first | exact HB.out | apply below_alloc | apply pw_below_drewN | apply below_drew1) | exact HB.out)⟩⟩
                                    · rw [if_neg c54] at H
                                      have c54b0 : decide (x24_4 < (t331.length : Int)) = false := decide_eq_false c54
                                      clear c54
                                      obtain rfl := Option.some.inj H
                                      go_wp2
                                      repeat (go_quiet (fail); try go_wp2)
                                      go_ret
                                      exact ⟨by first | rfl | (simp [errW_none, errW_some] <;> rfl) | (simp [*, errW_none, errW_some] <;> rfl), by repeat (first | (with_reducible first | exact HB.out | apply below_alloc | apply pw_below_drewN | apply below_drew1) | exact HB.out)⟩
                        · rw [if_neg c40] at H
                          exact absurd H (by simp)
                      · rw [if_neg c39] at H
                        exact absurd H (by simp)
                    · rw [if_neg c38] at H
                      exact absurd H (by simp)
                  · rw [if_neg c37] at H
                    exact absurd H (by simp)
                · rw [if_neg c36] at H
                  exact absurd H (by simp)

/-- THE ONE PURE STATEMENT of wageofficelaw32_ShareGrows: yours. -/
def wageofficelaw32_ShareGrows.Pure : Prop := ∀ (a0 : Int) (l1 : List Int) (a2 : Int) (a3 : Int) (a4 : Int), (Lit.int .i64 a0).wf = true → l1.length ≤ maxLen → l1.length * 8 ≤ 140737488351232 → (∀ x ∈ l1, (Lit.int .i64 x).wf = true) → (Lit.int .i64 a2).wf = true → (Lit.int .i64 a3).wf = true → (Lit.int .i64 a4).wf = true → ∃ k, wageofficelaw32_ShareGrows.f k a0 l1 a2 a3 a4 = some true
theorem wageofficelaw32_ShareGrows.walk (P : wageofficelaw32_ShareGrows.Pure) (a0 : Int) (a1 : Option Addr) (len1 cap1 : Nat) (z1 : List Int) (a2 : Int) (a3 : Int) (a4 : Int) (w : World) (w0 : (Lit.int .i64 a0).wf = true) (w1 : (a1 = none ∧ len1 = 0 ∧ cap1 = 0 ∧ z1 = []) ∨ ∃ x, a1 = some x ∧ len1 ≤ cap1 ∧ cap1 ≤ maxLen ∧ z1.length = cap1 ∧ (∀ i, i < z1.length → w.cell? (x.add i) = some (.int .i64 (z1.getD i 0))) ∧ ∀ n ∈ z1, (Lit.int .i64 n).wf = true) (y1 : len1 * 8 ≤ 140737488351232) (w2 : (Lit.int .i64 a2).wf = true) (w3 : (Lit.int .i64 a3).wf = true) (w4 : (Lit.int .i64 a4).wf = true) :
    Calls Try.prog 6 #[.int .i64 a0, .slice a1 len1 cap1, .int .i64 a2, .int .i64 a3, .int .i64 a4] w fun e w' => e = .returned (.bool true) ∧ Below w.heap.size w w' := by
  obtain ⟨l1, rfl, hr1, hm1, hw1, hc1⟩ := ReadsInt.ofRowC w1
  obtain ⟨k, h⟩ := P a0 l1 a2 a3 a4 w0 hm1 y1 hw1 w2 w3 w4
  refine (wageofficelaw32_ShareGrows.calls k a0 _ _ l1 a2 a3 a4 true w (Kd.C_of_reads (d := (0 : Int)) (h1 := fun _ => rfl) hr1) hc1 h).mono ?_
  rintro e w' ⟨rfl, hd⟩
  exact ⟨rfl, hd⟩

end Go.Proofs.Ytnadfkhllfgoiaa.My
