-- Written by a program of this session (wip/myprint.py), which drives the kit's print over hand-written fragments. Not trusted: Lean checks it.
import Derived.Test.YtnadfkhllfgoiaaMyx0
namespace Go.Proofs.Ytnadfkhllfgoiaa.My
open Go.Proofs.Ytnadfkhllfgoiaa.Aid Go.Proofs.Ytnadfkhllfgoiaa.KdX
open Go.RowKit Go.Proofs.YtnadfkhllfgoiaaW.PrintWords Go.Proofs.YtnadfkhllfgoiaaW.PrintLast Go.Proofs.YtnadfkhllfgoiaaW.PrintMore
attribute [local go_sem] max2_int min2_int max_two min_two max_three min_three max_four min_four   -- for this text's walks alone
set_option linter.unusedVariables false
set_option linter.unusedSimpArgs false

/-! ### wageofficeref32_Wrong: function 46 -/
mutual
def wageofficeref32_Wrong.j0 : Nat → Int → List Int → Int → Option (Int)
  | 0, _, _, _ => none
  | k + 1, x0, x1, x5 => wageofficeref32_Wrong.l0 k x0 x1 x5 0
def wageofficeref32_Wrong.l0 : Nat → Int → List Int → Int → Int → Option (Int)
  | 0, _, _, _, _ => none
  | k + 1, x0, x1, x5, x6 => if x6 < (x1.length : Int) then (if 0 ≤ x6 then (if (rd x1 x6) > 1000000000000 then (wageofficeref32_Wrong.l0 k x0 x1 3 (wrap64 (x6 + 1))) else (wageofficeref32_Wrong.l0 k x0 x1 x5 (wrap64 (x6 + 1)))) else (none)) else (if x0 < 0 then (wageofficeref32_Wrong.j2 k x1 1) else (wageofficeref32_Wrong.j2 k x1 x5))
def wageofficeref32_Wrong.j2 : Nat → List Int → Int → Option (Int)
  | 0, _, _ => none
  | k + 1, x1, x5 => wageofficeref32_Wrong.l1 k x1 x5 0
def wageofficeref32_Wrong.l1 : Nat → List Int → Int → Int → Option (Int)
  | 0, _, _, _ => none
  | k + 1, x1, x5, x7 => if x7 < (x1.length : Int) then (if 0 ≤ x7 then (if (rd x1 x7) < 0 then (wageofficeref32_Wrong.l1 k x1 1 (wrap64 (x7 + 1))) else (wageofficeref32_Wrong.l1 k x1 x5 (wrap64 (x7 + 1)))) else (none)) else (some x5)
end
def wageofficeref32_Wrong.f (k : Nat) (a0 : Int) (l1 : List Int) : Option (Int) := if (l1.length : Int) > 64 then (some 2) else (if a0 > 1000000000000 then (wageofficeref32_Wrong.j0 k a0 l1 3) else (wageofficeref32_Wrong.j0 k a0 l1 0))
theorem wageofficeref32_Wrong.mono_l : ∀ k, (∀ y0 y1 y2, LeO (wageofficeref32_Wrong.j0 k y0 y1 y2) (wageofficeref32_Wrong.j0 (k + 1) y0 y1 y2)) ∧ (∀ y0 y1 y2 y3, LeO (wageofficeref32_Wrong.l0 k y0 y1 y2 y3) (wageofficeref32_Wrong.l0 (k + 1) y0 y1 y2 y3)) ∧ (∀ y0 y1, LeO (wageofficeref32_Wrong.j2 k y0 y1) (wageofficeref32_Wrong.j2 (k + 1) y0 y1)) ∧ (∀ y0 y1 y2, LeO (wageofficeref32_Wrong.l1 k y0 y1 y2) (wageofficeref32_Wrong.l1 (k + 1) y0 y1 y2))
  | 0 => ⟨fun _ _ _ r h => by simp [wageofficeref32_Wrong.j0] at h, fun _ _ _ _ r h => by simp [wageofficeref32_Wrong.l0] at h, fun _ _ r h => by simp [wageofficeref32_Wrong.j2] at h, fun _ _ _ r h => by simp [wageofficeref32_Wrong.l1] at h⟩
  | k + 1 => by
    obtain ⟨ih0, ih1, ih2, ih3⟩ := wageofficeref32_Wrong.mono_l k
    refine ⟨?_, ?_, ?_, ?_⟩
    · intro y0 y1 y2
      unfold wageofficeref32_Wrong.j0
      repeat' first
      | (with_reducible exact ih0 _ _ _)
      | (with_reducible exact ih1 _ _ _ _)
      | (with_reducible exact ih2 _ _)
      | (with_reducible exact ih3 _ _ _)
      | (with_reducible exact LeO.refl _)
      | (with_reducible exact LeO.none _)
      | (with_reducible refine LeO.ite ?_ ?_)
      | (with_reducible refine LeO.bind ?_ (fun _ => ?_))
      | exact ih0 _ _ _
      | exact ih1 _ _ _ _
      | exact ih2 _ _
      | exact ih3 _ _ _
      | exact LeO.none _
      | refine LeO.ite ?_ ?_
      | refine LeO.bind ?_ (fun _ => ?_)
    · intro y0 y1 y2 y3
      unfold wageofficeref32_Wrong.l0
      repeat' first
      | (with_reducible exact ih0 _ _ _)
      | (with_reducible exact ih1 _ _ _ _)
      | (with_reducible exact ih2 _ _)
      | (with_reducible exact ih3 _ _ _)
      | (with_reducible exact LeO.refl _)
      | (with_reducible exact LeO.none _)
      | (with_reducible refine LeO.ite ?_ ?_)
      | (with_reducible refine LeO.bind ?_ (fun _ => ?_))
      | exact ih0 _ _ _
      | exact ih1 _ _ _ _
      | exact ih2 _ _
      | exact ih3 _ _ _
      | exact LeO.none _
      | refine LeO.ite ?_ ?_
      | refine LeO.bind ?_ (fun _ => ?_)
    · intro y0 y1
      unfold wageofficeref32_Wrong.j2
      repeat' first
      | (with_reducible exact ih0 _ _ _)
      | (with_reducible exact ih1 _ _ _ _)
      | (with_reducible exact ih2 _ _)
      | (with_reducible exact ih3 _ _ _)
      | (with_reducible exact LeO.refl _)
      | (with_reducible exact LeO.none _)
      | (with_reducible refine LeO.ite ?_ ?_)
      | (with_reducible refine LeO.bind ?_ (fun _ => ?_))
      | exact ih0 _ _ _
      | exact ih1 _ _ _ _
      | exact ih2 _ _
      | exact ih3 _ _ _
      | exact LeO.none _
      | refine LeO.ite ?_ ?_
      | refine LeO.bind ?_ (fun _ => ?_)
    · intro y0 y1 y2
      unfold wageofficeref32_Wrong.l1
      repeat' first
      | (with_reducible exact ih0 _ _ _)
      | (with_reducible exact ih1 _ _ _ _)
      | (with_reducible exact ih2 _ _)
      | (with_reducible exact ih3 _ _ _)
      | (with_reducible exact LeO.refl _)
      | (with_reducible exact LeO.none _)
      | (with_reducible refine LeO.ite ?_ ?_)
      | (with_reducible refine LeO.bind ?_ (fun _ => ?_))
      | exact ih0 _ _ _
      | exact ih1 _ _ _ _
      | exact ih2 _ _
      | exact ih3 _ _ _
      | exact LeO.none _
      | refine LeO.ite ?_ ?_
      | refine LeO.bind ?_ (fun _ => ?_)
theorem wageofficeref32_Wrong.mono : ∀ a0 a1 k, LeO (wageofficeref32_Wrong.f k a0 a1) (wageofficeref32_Wrong.f (k + 1) a0 a1) := by
  intro a0 a1 k
  obtain ⟨ih0, ih1, ih2, ih3⟩ := wageofficeref32_Wrong.mono_l k
  unfold wageofficeref32_Wrong.f
  repeat' first
      | (with_reducible exact ih0 _ _ _)
      | (with_reducible exact ih1 _ _ _ _)
      | (with_reducible exact ih2 _ _)
      | (with_reducible exact ih3 _ _ _)
      | (with_reducible exact LeO.refl _)
      | (with_reducible exact LeO.none _)
      | (with_reducible refine LeO.ite ?_ ?_)
      | (with_reducible refine LeO.bind ?_ (fun _ => ?_))
      | exact ih0 _ _ _
      | exact ih1 _ _ _ _
      | exact ih2 _ _
      | exact ih3 _ _ _
      | exact LeO.none _
      | refine LeO.ite ?_ ?_
      | refine LeO.bind ?_ (fun _ => ?_)
set_option maxHeartbeats 8000000 in
set_option maxRecDepth 100000 in
theorem wageofficeref32_Wrong.calls (k : Nat) (a0 : Int) (A1 : Option Addr) (c1 : Nat) (l1 : List Int) (r : Int) (w : World) (hr1 : Kd.C (Kd.int .i64) w A1 l1.length l1) (hc1 : l1.length ≤ c1) (h : wageofficeref32_Wrong.f k a0 l1 = some r) :
    Calls Try.prog 46 #[.int .i64 a0, .slice A1 l1.length c1] w fun e w' => e = .returned (.int .i64 r) ∧ Drawn0 w w' := by
  have HR1 := Aside0.mk hr1
  have HC1 := Aside0.mk hc1
  clear hr1 hc1
  have H : (if (l1.length : Int) > 64 then (some 2) else (if a0 > 1000000000000 then (wageofficeref32_Wrong.j0 k a0 l1 3) else (wageofficeref32_Wrong.j0 k a0 l1 0))) = some r := h
  clear h
  by_cases c3 : (l1.length : Int) > 64
  · rw [if_pos c3] at H
    have c3b0 : decide (64 < (l1.length : Int)) = true := decide_eq_true c3
    have c3b1 : decide (64 < l1.length) = true := decide_eq_true (by omega)
    clear c3
    obtain rfl := Option.some.inj H
    go_enter Try.func46, Try.ntmps46
    go_wp2
    go_ret
    exact ⟨by first | rfl | (simp; done) | (simp [*]; done), by repeat (first | exact Drawn0.refl _ | apply Drawn0.step)⟩
  · rw [if_neg c3] at H
    have c3b0 : decide (64 < (l1.length : Int)) = false := decide_eq_false c3
    have c3b1 : decide (64 < l1.length) = false := decide_eq_false (by omega)
    clear c3
    have HC4 := Aside0.mk H
    clear H
    go_enter Try.func46, Try.ntmps46
    go_upto_if 12 with (fail)
    go_cut [5] (fun v5 wc => ∃ (kq : Nat) (x5_3 : Int), v5 = .int .i64 x5_3 ∧ Aside0 (wageofficeref32_Wrong.j0 kq a0 l1 x5_3 = some r) ∧ Aside0 (kq ≤ k) ∧ Drawn0 w wc)
    case first =>
      have H := HC4.out
      clear HC4
      by_cases c5 : a0 > 1000000000000
      · rw [if_pos c5] at H
        have c5b0 : decide (1000000000000 < a0) = true := decide_eq_true c5
        clear c5
        (first | rw [c5b0] | (simp only [i64_w, i32_w]; rw [c5b0]) | skip)
        have H' := Aside0.mk H
        clear H
        go_wp2
        go_meet
        case rel => exact ⟨_, (3), (by first | rfl | (simp; done) | (simp [*]; done)), H', ⟨by first | omega | exact Nat.le_refl _⟩, by repeat (first | exact Drawn0.refl _ | apply Drawn0.step)⟩
      · rw [if_neg c5] at H
        have c5b0 : decide (1000000000000 < a0) = false := decide_eq_false c5
        clear c5
        (first | rw [c5b0] | (simp only [i64_w, i32_w]; rw [c5b0]) | skip)
        have H' := Aside0.mk H
        clear H
        go_wp2
        go_meet
        case rel => exact ⟨_, (0), (by first | rfl | (simp; done) | (simp [*]; done)), H', ⟨by first | omega | exact Nat.le_refl _⟩, by repeat (first | exact Drawn0.refl _ | apply Drawn0.step)⟩
    case rest =>
      clear HC4
      try clear c1
      try clear p2
      try clear c3
      try clear c3b0
      try clear c3b1
      try clear c4
      try clear c5
      try clear c5b0
      obtain ⟨kq, x5_3, rfl, HA, HJ3, ⟨mc3, rfl⟩⟩ := hcut
      cases kq with
      | zero => exact absurd HA.out (by simp [wageofficeref32_Wrong.j0])
      | succ kj3 =>
        have H := HA.out
        clear HA
        simp only [wageofficeref32_Wrong.j0] at H
        have H' := Aside0.mk H
        clear H
        go_wp2
        go_loopg [5, 6] kj3 (fun kq v5 v6 w' => ∃ (x5_2 : Int) (x6_2 : Int), v5 = .int .i64 x5_2 ∧ v6 = .int .i64 x6_2 ∧ Aside0 (wageofficeref32_Wrong.l0 kq a0 l1 x5_2 x6_2 = some r) ∧ Aside0 (kq ≤ kj3) ∧ Drawn0 w w')
        case atStart => exact ⟨(x5_3), (0), (by first | rfl | (simp; done) | (simp [*]; done)), (by first | rfl | (simp; done) | (simp [*]; done)), H', ⟨Nat.le_refl _⟩, by repeat (first | exact Drawn0.refl _ | apply Drawn0.step)⟩
        case round =>
          clear H'
          try clear c1
          try clear p2
          try clear c3
          try clear c3b0
          try clear c3b1
          try clear c4
          try clear c5
          try clear c5b0
          try clear p2
          obtain ⟨x5_2, x6_2, rfl, rfl, HA, HK2, ⟨m2, rfl⟩⟩ := hrel
          cases gk with
          | zero => exact absurd HA.out (by simp [wageofficeref32_Wrong.l0])
          | succ k2 =>
            have H := HA.out
            clear HA
            simp only [wageofficeref32_Wrong.l0] at H
            by_cases c6 : x6_2 < (l1.length : Int)
            · rw [if_pos c6] at H
              have c6b0 : decide (x6_2 < (l1.length : Int)) = true := decide_eq_true c6
              clear c6
              by_cases c7 : 0 ≤ x6_2
              · rw [if_pos c7] at H
                have c7b0 : decide (0 ≤ x6_2) = true := decide_eq_true c7
                clear c7
                by_cases c8 : (rd l1 x6_2) > 1000000000000
                · rw [if_pos c8] at H
                  have c8b0 : decide (1000000000000 < (rd l1 x6_2)) = true := decide_eq_true c8
                  clear c8
                  have H' := Aside0.mk H
                  clear H
                  have p194 : 0 ≤ (x6_2 : Int) := of_decide_eq_true (by first | (with_reducible assumption) | assumption)
                  have q194 : x6_2 < (l1.length : Int) := of_decide_eq_true (by first | (with_reducible assumption) | assumption)
                  obtain ⟨ad194, e194, hx194_0⟩ := Kd.at_int HR1.out x6_2 p194 q194
                  cases e194
                  replace p194 := eq_true p194
                  replace q194 := eq_true q194
                  go_wp2
                  go_roundg k2
                  case measure => have := HJ3.out; have := HK2.out; omega
                  case rel => exact ⟨(3), (wrap64 (x6_2 + 1)), (by first | rfl | (simp; done) | (simp [*]; done)), (by first | rfl | (simp; done) | (simp [*]; done)), H', ⟨by have := HJ3.out; have := HK2.out; omega⟩, by repeat (first | exact Drawn0.refl _ | apply Drawn0.step)⟩
                · rw [if_neg c8] at H
                  have c8b0 : decide (1000000000000 < (rd l1 x6_2)) = false := decide_eq_false c8
                  clear c8
                  have H' := Aside0.mk H
                  clear H
                  have p194 : 0 ≤ (x6_2 : Int) := of_decide_eq_true (by first | (with_reducible assumption) | assumption)
                  have q194 : x6_2 < (l1.length : Int) := of_decide_eq_true (by first | (with_reducible assumption) | assumption)
                  obtain ⟨ad194, e194, hx194_0⟩ := Kd.at_int HR1.out x6_2 p194 q194
                  cases e194
                  replace p194 := eq_true p194
                  replace q194 := eq_true q194
                  go_wp2
                  go_roundg k2
                  case measure => have := HJ3.out; have := HK2.out; omega
                  case rel => exact ⟨(x5_2), (wrap64 (x6_2 + 1)), (by first | rfl | (simp; done) | (simp [*]; done)), (by first | rfl | (simp; done) | (simp [*]; done)), H', ⟨by have := HJ3.out; have := HK2.out; omega⟩, by repeat (first | exact Drawn0.refl _ | apply Drawn0.step)⟩
              · rw [if_neg c7] at H
                exact absurd H (by simp)
            · rw [if_neg c6] at H
              have c6b0 : decide (x6_2 < (l1.length : Int)) = false := decide_eq_false c6
              clear c6
              have HC9 := Aside0.mk H
              clear H
              go_upto_if 25 with (fail)
              go_cut [5] (fun v5 wc => ∃ (kq : Nat) (x5_8 : Int), v5 = .int .i64 x5_8 ∧ Aside0 (wageofficeref32_Wrong.j2 kq l1 x5_8 = some r) ∧ Aside0 (kq ≤ k2) ∧ Drawn0 w wc)
              case first =>
                have H := HC9.out
                clear HC9
                by_cases c10 : a0 < 0
                · rw [if_pos c10] at H
                  have c10b0 : decide (a0 < 0) = true := decide_eq_true c10
                  clear c10
                  (first | rw [c10b0] | (simp only [i64_w, i32_w]; rw [c10b0]) | skip)
                  have H' := Aside0.mk H
                  clear H
                  go_wp2
                  go_meet
                  case rel => exact ⟨_, (1), (by first | rfl | (simp; done) | (simp [*]; done)), H', ⟨by have := HJ3.out; have := HK2.out; first | omega | exact Nat.le_refl _⟩, by repeat (first | exact Drawn0.refl _ | apply Drawn0.step)⟩
                · rw [if_neg c10] at H
                  have c10b0 : decide (a0 < 0) = false := decide_eq_false c10
                  clear c10
                  (first | rw [c10b0] | (simp only [i64_w, i32_w]; rw [c10b0]) | skip)
                  have H' := Aside0.mk H
                  clear H
                  go_wp2
                  go_meet
                  case rel => exact ⟨_, (x5_2), (by first | rfl | (simp; done) | (simp [*]; done)), H', ⟨by have := HJ3.out; have := HK2.out; first | omega | exact Nat.le_refl _⟩, by repeat (first | exact Drawn0.refl _ | apply Drawn0.step)⟩
              case rest =>
                clear HC9
                try clear c1
                try clear p1
                try clear q1
                try clear hx1
                try clear p2
                try clear c3
                try clear c3b0
                try clear c3b1
                try clear c4
                try clear c5
                try clear c5b0
                try clear c6
                try clear c6b0
                try clear p6
                try clear c7
                try clear c7b0
                try clear c8
                try clear c8b0
                try clear c10
                try clear c10b0
                try clear hx194_0
                try clear p194
                try clear p2
                try clear q194
                obtain ⟨kq, x5_8, rfl, HA, HJ8, ⟨mc8, rfl⟩⟩ := hcut
                cases kq with
                | zero => exact absurd HA.out (by simp [wageofficeref32_Wrong.j2])
                | succ kj8 =>
                  have H := HA.out
                  clear HA
                  simp only [wageofficeref32_Wrong.j2] at H
                  have H' := Aside0.mk H
                  clear H
                  go_wp2
                  go_loopg [5, 7] kj8 (fun kq v5 v7 w' => ∃ (x5_4 : Int) (x7_4 : Int), v5 = .int .i64 x5_4 ∧ v7 = .int .i64 x7_4 ∧ Aside0 (wageofficeref32_Wrong.l1 kq l1 x5_4 x7_4 = some r) ∧ Aside0 (kq ≤ kj8) ∧ Drawn0 w w')
                  case atStart => exact ⟨(x5_8), (0), (by first | rfl | (simp; done) | (simp [*]; done)), (by first | rfl | (simp; done) | (simp [*]; done)), H', ⟨Nat.le_refl _⟩, by repeat (first | exact Drawn0.refl _ | apply Drawn0.step)⟩
                  case round =>
                    clear H'
                    try clear c1
                    try clear p1
                    try clear q1
                    try clear hx1
                    try clear p2
                    try clear c3
                    try clear c3b0
                    try clear c3b1
                    try clear c4
                    try clear c5
                    try clear c5b0
                    try clear c6
                    try clear c6b0
                    try clear p6
                    try clear c7
                    try clear c7b0
                    try clear c8
                    try clear c8b0
                    try clear c10
                    try clear c10b0
                    try clear hx194_0
                    try clear p1
                    try clear p194
                    try clear p2
                    try clear p6
                    try clear q1
                    try clear q194
                    obtain ⟨x5_4, x7_4, rfl, rfl, HA, HK4, ⟨m4, rfl⟩⟩ := hrel
                    cases gk with
                    | zero => exact absurd HA.out (by simp [wageofficeref32_Wrong.l1])
                    | succ k4 =>
                      have H := HA.out
                      clear HA
                      simp only [wageofficeref32_Wrong.l1] at H
                      by_cases c11 : x7_4 < (l1.length : Int)
                      · rw [if_pos c11] at H
                        have c11b0 : decide (x7_4 < (l1.length : Int)) = true := decide_eq_true c11
                        clear c11
                        by_cases c12 : 0 ≤ x7_4
                        · rw [if_pos c12] at H
                          have c12b0 : decide (0 ≤ x7_4) = true := decide_eq_true c12
                          clear c12
                          by_cases c13 : (rd l1 x7_4) < 0
                          · rw [if_pos c13] at H
                            have c13b0 : decide ((rd l1 x7_4) < 0) = true := decide_eq_true c13
                            clear c13
                            have H' := Aside0.mk H
                            clear H
                            have p195 : 0 ≤ (x7_4 : Int) := of_decide_eq_true (by first | (with_reducible assumption) | assumption)
                            have q195 : x7_4 < (l1.length : Int) := of_decide_eq_true (by first | (with_reducible assumption) | assumption)
                            obtain ⟨ad195, e195, hx195_0⟩ := Kd.at_int HR1.out x7_4 p195 q195
                            cases e195
                            replace p195 := eq_true p195
                            replace q195 := eq_true q195
                            go_wp2
                            go_roundg k4
                            case measure => have := HJ3.out; have := HK2.out; have := HJ8.out; have := HK4.out; omega
                            case rel => exact ⟨(1), (wrap64 (x7_4 + 1)), (by first | rfl | (simp; done) | (simp [*]; done)), (by first | rfl | (simp; done) | (simp [*]; done)), H', ⟨by have := HJ3.out; have := HK2.out; have := HJ8.out; have := HK4.out; omega⟩, by repeat (first | exact Drawn0.refl _ | apply Drawn0.step)⟩
                          · rw [if_neg c13] at H
                            have c13b0 : decide ((rd l1 x7_4) < 0) = false := decide_eq_false c13
                            clear c13
                            have H' := Aside0.mk H
                            clear H
                            have p195 : 0 ≤ (x7_4 : Int) := of_decide_eq_true (by first | (with_reducible assumption) | assumption)
                            have q195 : x7_4 < (l1.length : Int) := of_decide_eq_true (by first | (with_reducible assumption) | assumption)
                            obtain ⟨ad195, e195, hx195_0⟩ := Kd.at_int HR1.out x7_4 p195 q195
                            cases e195
                            replace p195 := eq_true p195
                            replace q195 := eq_true q195
                            go_wp2
                            go_roundg k4
                            case measure => have := HJ3.out; have := HK2.out; have := HJ8.out; have := HK4.out; omega
                            case rel => exact ⟨(x5_4), (wrap64 (x7_4 + 1)), (by first | rfl | (simp; done) | (simp [*]; done)), (by first | rfl | (simp; done) | (simp [*]; done)), H', ⟨by have := HJ3.out; have := HK2.out; have := HJ8.out; have := HK4.out; omega⟩, by repeat (first | exact Drawn0.refl _ | apply Drawn0.step)⟩
                        · rw [if_neg c12] at H
                          exact absurd H (by simp)
                      · rw [if_neg c11] at H
                        have c11b0 : decide (x7_4 < (l1.length : Int)) = false := decide_eq_false c11
                        clear c11
                        obtain rfl := Option.some.inj H
                        go_wp2
                        go_ret
                        exact ⟨by first | rfl | (simp; done) | (simp [*]; done), by repeat (first | exact Drawn0.refl _ | apply Drawn0.step)⟩

end Go.Proofs.Ytnadfkhllfgoiaa.My
