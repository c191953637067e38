-- Written by a program of this session (wip/myprint.py), which drives the kit's print over hand-written fragments. Not trusted: Lean checks it.
import Derived.Test.YteapeglolkfimaaMyx0
import Derived.Test.YteapeglolkfimaaMyx43
import Derived.Test.YteapeglolkfimaaMyx44
import Derived.Test.YteapeglolkfimaaMyx45
namespace Go.Proofs.Yteapeglolkfimaa.My
open Go.Proofs.Yteapeglolkfimaa.Aid Go.Proofs.Yteapeglolkfimaa.KdX
open Go.RowKit Go.Proofs.YteapeglolkfimaaW.PrintWords Go.Proofs.YteapeglolkfimaaW.PrintLast Go.Proofs.YteapeglolkfimaaW.PrintMore
attribute [local go_sem] max2_int min2_int max_two min_two max_three min_three max_four min_four   -- for this text's walks alone
set_option linter.unusedVariables false
set_option linter.unusedSimpArgs false

/-! ### piecewise_Round: function 26 -/
mutual
def piecewise_Round.j0 : Nat → Int → Int → Int → Bool → Option (Int × Int)
  | 0, _, _, _, _ => none
  | k + 1, x2, x8, x9, x30 => if x30 = true then (some (0, 1)) else ((piecewise_divide.f x8 x9).bind fun bt119 => (if (wrap64 (2 * bt119.2)) = x9 then (if x2 = 1 then (if x8 > 0 then (piecewise_Round.j1 k x2 bt119.1 true) else (if x2 = 2 then (piecewise_Round.j1 k x2 bt119.1 ((Int.tmod bt119.1 2) != 0)) else (piecewise_Round.j1 k x2 bt119.1 false))) else (if x2 = 2 then (piecewise_Round.j1 k x2 bt119.1 ((Int.tmod bt119.1 2) != 0)) else (piecewise_Round.j1 k x2 bt119.1 false))) else (piecewise_Round.j1 k x2 bt119.1 (decide ((wrap64 (2 * bt119.2)) > x9)))))
def piecewise_Round.j1 : Nat → Int → Int → Bool → Option (Int × Int)
  | 0, _, _, _ => none
  | k + 1, x2, x11, x13 => if x13 = true then (piecewise_Round.j2 k x11 (x2 != 0)) else (piecewise_Round.j2 k x11 false)
def piecewise_Round.j2 : Nat → Int → Bool → Option (Int × Int)
  | 0, _, _ => none
  | k + 1, x11, x64 => if x64 = true then ((piecewise_within.f (wrap64 (x11 + 1)) 1000000000000).bind fun t121 => (if t121 = true then (some (wrap64 (x11 + 1), 0)) else (some (0, 3)))) else ((piecewise_within.f x11 1000000000000).bind fun t122 => (if t122 = true then (some (x11, 0)) else (some (0, 3))))
end
def piecewise_Round.f (k : Nat) (a0_0 : Int) (l0_1 : List (S39)) (a1 : Int) (a2 : Int) : Option (Int × Int) := (piecewise_Eval.f k a0_0 l0_1 a1).bind fun bt116 => (if bt116.2.2 = 0 then (if a2 < 0 then (piecewise_Round.j0 k a2 bt116.1 bt116.2.1 true) else (piecewise_Round.j0 k a2 bt116.1 bt116.2.1 (decide (a2 > 2)))) else (piecewise_Round.j0 k a2 bt116.1 bt116.2.1 true))
theorem piecewise_Round.mono_l : ∀ k, (∀ y0 y1 y2 y3, LeO (piecewise_Round.j0 k y0 y1 y2 y3) (piecewise_Round.j0 (k + 1) y0 y1 y2 y3)) ∧ (∀ y0 y1 y2, LeO (piecewise_Round.j1 k y0 y1 y2) (piecewise_Round.j1 (k + 1) y0 y1 y2)) ∧ (∀ y0 y1, LeO (piecewise_Round.j2 k y0 y1) (piecewise_Round.j2 (k + 1) y0 y1))
  | 0 => ⟨fun _ _ _ _ r h => by simp [piecewise_Round.j0] at h, fun _ _ _ r h => by simp [piecewise_Round.j1] at h, fun _ _ r h => by simp [piecewise_Round.j2] at h⟩
  | k + 1 => by
    obtain ⟨ih0, ih1, ih2⟩ := piecewise_Round.mono_l k
    refine ⟨?_, ?_, ?_⟩
    · intro y0 y1 y2 y3
      unfold piecewise_Round.j0
      repeat' first
      | (with_reducible exact ih0 _ _ _ _)
      | (with_reducible exact ih1 _ _ _)
      | (with_reducible exact ih2 _ _)
      | (with_reducible exact piecewise_Eval.mono _ _ _ _)
      | (with_reducible exact LeO.refl _)
      | (with_reducible exact LeO.none _)
      | (with_reducible refine LeO.ite ?_ ?_)
      | (with_reducible refine LeO.bind ?_ (fun _ => ?_))
      | exact ih0 _ _ _ _
      | exact ih1 _ _ _
      | exact ih2 _ _
      | exact piecewise_Eval.mono _ _ _ _
      | exact LeO.none _
      | refine LeO.ite ?_ ?_
      | refine LeO.bind ?_ (fun _ => ?_)
    · intro y0 y1 y2
      unfold piecewise_Round.j1
      repeat' first
      | (with_reducible exact ih0 _ _ _ _)
      | (with_reducible exact ih1 _ _ _)
      | (with_reducible exact ih2 _ _)
      | (with_reducible exact piecewise_Eval.mono _ _ _ _)
      | (with_reducible exact LeO.refl _)
      | (with_reducible exact LeO.none _)
      | (with_reducible refine LeO.ite ?_ ?_)
      | (with_reducible refine LeO.bind ?_ (fun _ => ?_))
      | exact ih0 _ _ _ _
      | exact ih1 _ _ _
      | exact ih2 _ _
      | exact piecewise_Eval.mono _ _ _ _
      | exact LeO.none _
      | refine LeO.ite ?_ ?_
      | refine LeO.bind ?_ (fun _ => ?_)
    · intro y0 y1
      unfold piecewise_Round.j2
      repeat' first
      | (with_reducible exact ih0 _ _ _ _)
      | (with_reducible exact ih1 _ _ _)
      | (with_reducible exact ih2 _ _)
      | (with_reducible exact piecewise_Eval.mono _ _ _ _)
      | (with_reducible exact LeO.refl _)
      | (with_reducible exact LeO.none _)
      | (with_reducible refine LeO.ite ?_ ?_)
      | (with_reducible refine LeO.bind ?_ (fun _ => ?_))
      | exact ih0 _ _ _ _
      | exact ih1 _ _ _
      | exact ih2 _ _
      | exact piecewise_Eval.mono _ _ _ _
      | exact LeO.none _
      | refine LeO.ite ?_ ?_
      | refine LeO.bind ?_ (fun _ => ?_)
theorem piecewise_Round.mono : ∀ a0 a1 a2 a3 k, LeO (piecewise_Round.f k a0 a1 a2 a3) (piecewise_Round.f (k + 1) a0 a1 a2 a3) := by
  intro a0 a1 a2 a3 k
  obtain ⟨ih0, ih1, ih2⟩ := piecewise_Round.mono_l k
  unfold piecewise_Round.f
  repeat' first
      | (with_reducible exact ih0 _ _ _ _)
      | (with_reducible exact ih1 _ _ _)
      | (with_reducible exact ih2 _ _)
      | (with_reducible exact piecewise_Eval.mono _ _ _ _)
      | (with_reducible exact LeO.refl _)
      | (with_reducible exact LeO.none _)
      | (with_reducible refine LeO.ite ?_ ?_)
      | (with_reducible refine LeO.bind ?_ (fun _ => ?_))
      | exact ih0 _ _ _ _
      | exact ih1 _ _ _
      | exact ih2 _ _
      | exact piecewise_Eval.mono _ _ _ _
      | exact LeO.none _
      | refine LeO.ite ?_ ?_
      | refine LeO.bind ?_ (fun _ => ?_)
set_option maxHeartbeats 8000000 in
set_option maxRecDepth 100000 in
theorem piecewise_Round.calls (k : Nat) (a0_0 : Int) (A0_1 : Option Addr) (c0_1 : Nat) (l0_1 : List (S39)) (a1 : Int) (a2 : Int) (r1 : Int) (r2 : Int) (w : World) (hr0_1 : Kd.C k39 w A0_1 l0_1.length l0_1) (hc0_1 : l0_1.length ≤ c0_1) (h : piecewise_Round.f k a0_0 l0_1 a1 a2 = some (r1, r2)) :
    Calls Try.prog 26 #[.agg #[.int .i64 a0_0, .slice A0_1 l0_1.length c0_1], .int .i64 a1, .int .i64 a2] w fun e w' => e = .returned (.tuple #[.int .i64 r1, .int .i64 r2]) ∧ Below w.heap.size w w' := by
  have hu24 := Try.underlying24
  have HR0_1 := Aside0.mk hr0_1
  have HC0_1 := Aside0.mk hc0_1
  clear hr0_1 hc0_1
  have HB := Aside0.mk (Below.refl w.heap.size w)
  have H : ((piecewise_Eval.f k a0_0 l0_1 a1).bind fun bt116 => (if bt116.2.2 = 0 then (if a2 < 0 then (piecewise_Round.j0 k a2 bt116.1 bt116.2.1 true) else (piecewise_Round.j0 k a2 bt116.1 bt116.2.1 (decide (a2 > 2)))) else (piecewise_Round.j0 k a2 bt116.1 bt116.2.1 true))) = some (r1, r2) := h
  clear h
  replace H := Option.bind_eq_some_iff.mp H
  obtain ⟨⟨t116, t117, t118⟩, A40, H⟩ := H
  replace H : (if t118 = 0 then (if a2 < 0 then (piecewise_Round.j0 k a2 t116 t117 true) else (piecewise_Round.j0 k a2 t116 t117 (decide (a2 > 2)))) else (piecewise_Round.j0 k a2 t116 t117 true)) = some (r1, r2) := H
  have A4 := Aside0.mk A40
  clear A40
  have HC5 := Aside0.mk H
  clear H
  go_enter Try.func26, Try.ntmps26
  go_upto_region 2 with (first | ((with_reducible refine gate_dst (N := 3) rfl ?_); refine box_event ?hg (N := 3) ?hd (cs := #[.int .i64 a0_0, .slice A0_1 l0_1.length c0_1]) (t := 24) ?hr ?_; (case hd => rfl); (case hg => rfl); (case hr => first | (go_simp; done) | (go_simp; rfl)); intro gb115 hg w6 hbox hb; have n0_ := Aside0.mk (below_step (by repeat (first | (with_reducible first | exact HB.out | apply below_alloc | apply pw_below_drewN | apply below_drew1) | exact HB.out)) hb); have n1_ := Aside0.mk (hbox); have n2_ := Aside0.mk ((by rw [hg]; exact (below_size (by repeat (first | (with_reducible first | exact HB.out | apply below_alloc | apply pw_below_drewN | apply below_drew1) | exact HB.out))) : w.heap.size ≤ gb115)); have n3_ := Aside0.mk ((by rw [hg]; exact (below_size (by repeat (first | (with_reducible first | exact HB.out | apply below_alloc | apply pw_below_drewN | apply below_drew1) | exact HB.out))) : w.heap.size ≤ gb115)); clear HB; have HB := n0_; have BK115 := n1_; have GW115 := n2_; have GE115 := n3_; clear n0_ n1_ n2_ n3_; clear hb hbox hg; have hcz7_0 : w6.cell? ⟨gb115, 0, none⟩ = some (.int .i64 a0_0) := (blk_cell BK115.out 0).trans rfl; have hcz7_1 : w6.cell? ⟨gb115, 1, none⟩ = some (.slice A0_1 l0_1.length c0_1) := (blk_cell BK115.out 1).trans rfl; have hfz7_0 := blk_frozen BK115.out 0; have hfz7_1 := blk_frozen BK115.out 1) | ((with_reducible refine gate_callee (f := 43) rfl ?_); refine goesL_ (some 17) rfl rfl Try.func43 (by kernel_rfl) rfl #[.agg #[.int .i64 a0_0, .slice A0_1 l0_1.length c0_1], .int .i64 a1] rfl (by (try simp only [List.map_toArray, List.map_cons, List.map_nil]); first | done | rfl | (simp only [List.length_drop, List.length_take]; rfl)) ?_; (with_reducible refine (piecewise_Eval.calls k a0_0 _ _ l0_1 a1 t116 t117 t118 _ ?side1 ?side2 A4.out).mono ?_); (case side1 => repeat (first | exact (Kd.C_below HR0_1.out HB.out) | (with_reducible refine Kd.C_alloc ?_ _) | (with_reducible refine Kd.C_drewN ?_ _) | (with_reducible refine Kd.C_drew ?_))); (case side2 => exact HC0_1.out); rintro e w8 ⟨rfl, hb⟩; refine ⟨_, rfl, ?_⟩; have n0_ := Aside0.mk (blk_below (g := gb115) (o := .cells #[.int .i64 a0_0, .slice A0_1 l0_1.length c0_1] 24 (0, 0)) (by (with_reducible repeat (first | refine blk_drewN ?_ _ | refine blk_drew ?_ | refine blk_alloc ?_ _)); exact BK115.out) hb); have n1_ := Aside0.mk (below_step (by repeat (first | (with_reducible first | exact HB.out | apply below_alloc | apply pw_below_drewN | apply below_drew1 | refine below_set ?_ GE115.out) | exact HB.out)) hb); clear BK115; clear HB; have BK115 := n0_; have HB := n1_; clear n0_ n1_; (try clear hb); (try clear hb2); (try clear hk); (try clear hi)))
  (try simp only [Act.put, List.setIfInBounds_toArray, List.set_cons_zero, List.set_cons_succ])
  go_cut [30] (fun v30 wc => ∃ (kq : Nat) (x30_4 : Bool), v30 = .bool x30_4 ∧ Aside0 (piecewise_Round.j0 kq a2 t116 t117 x30_4 = some (r1, r2)) ∧ Aside0 (kq ≤ k) ∧ Aside0 (wc.heap[gb115]? = some (.cells #[.int .i64 a0_0, (.slice A0_1 l0_1.length c0_1)] 24 (0, 0))) ∧ Aside0 (Below w.heap.size w wc))
  case first =>
    have H := HC5.out
    clear HC5
    by_cases c9 : t118 = 0
    · rw [if_pos c9] at H
      have c9b0 : (t118 == 0) = true := beq_iff_eq.mpr c9
      have c9b1 : (t118 != 0) = false := bne_eq_false_iff_eq.mpr c9
      clear c9
      (first | rw [c9b0] | (simp only [i64_w, i32_w]; rw [c9b0]) | skip)
      by_cases c10 : a2 < 0
      · rw [if_pos c10] at H
        have c10b0 : decide (a2 < 0) = true := decide_eq_true c10
        clear c10
        have H' := Aside0.mk H
        clear H
        go_wp2
        go_meet
        case rel => exact ⟨_, (true), (by first | rfl | (simp; done) | (simp [*]; done)), H', ⟨by first | omega | exact Nat.le_refl _⟩, ⟨by (with_reducible repeat (first | refine blk_drewN ?_ _ | refine blk_drew ?_ | refine blk_alloc ?_ _)); exact BK115.out⟩, ⟨by repeat (first | (with_reducible first | exact HB.out | apply below_alloc | apply pw_below_drewN | apply below_drew1 | refine below_set ?_ GE115.out) | exact HB.out)⟩⟩
      · rw [if_neg c10] at H
        have c10b0 : decide (a2 < 0) = false := decide_eq_false c10
        clear c10
        have H' := Aside0.mk H
        clear H
        go_wp2
        go_meet
        case rel => exact ⟨_, (decide (a2 > 2)), (by first | rfl | (simp; done) | (simp [*]; done)), H', ⟨by first | omega | exact Nat.le_refl _⟩, ⟨by (with_reducible repeat (first | refine blk_drewN ?_ _ | refine blk_drew ?_ | refine blk_alloc ?_ _)); exact BK115.out⟩, ⟨by repeat (first | (with_reducible first | exact HB.out | apply below_alloc | apply pw_below_drewN | apply below_drew1 | refine below_set ?_ GE115.out) | exact HB.out)⟩⟩
    · rw [if_neg c9] at H
      have c9b0 : (t118 == 0) = false := beq_eq_false_iff_ne.mpr c9
      have c9b1 : (t118 != 0) = true := bne_iff_ne.mpr c9
      (first | rw [c9b0] | (simp only [i64_w, i32_w]; rw [c9b0]) | skip)
      have H' := Aside0.mk H
      clear H
      go_wp2
      go_meet
      case rel => exact ⟨_, (true), (by first | rfl | (simp; done) | (simp [*]; done)), H', ⟨by first | omega | exact Nat.le_refl _⟩, ⟨by (with_reducible repeat (first | refine blk_drewN ?_ _ | refine blk_drew ?_ | refine blk_alloc ?_ _)); exact BK115.out⟩, ⟨by repeat (first | (with_reducible first | exact HB.out | apply below_alloc | apply pw_below_drewN | apply below_drew1 | refine below_set ?_ GE115.out) | exact HB.out)⟩⟩
  case rest =>
    clear HC5
    try clear c1
    try clear c2
    try clear p2
    try clear c4
    try clear c9
    try clear c9b0
    try clear c9b1
    try clear c10
    try clear c10b0
    try clear hcz7_0
    try clear hcz7_1
    try clear hfz7_0
    try clear hfz7_1
    obtain ⟨kq, x30_4, rfl, HA, HJ4, BK115, HB⟩ := hcut
    cases kq with
    | zero => exact absurd HA.out (by simp [piecewise_Round.j0])
    | succ kj4 =>
      have H := HA.out
      clear HA
      simp only [piecewise_Round.j0] at H
      by_cases c11 : x30_4 = true
      · subst c11
        have H1 : (some (0, 1)) = some (r1, r2) := by rw [if_pos rfl] at H; exact H
        clear H
        have H := H1
        clear H1
        simp only [Option.some.injEq, Prod.mk.injEq] at H
        obtain ⟨rfl, rfl⟩ := H
        go_wp2
        go_ret2
        exact ⟨by first | rfl | (simp [errW_none, errW_some] <;> rfl) | (simp [*, errW_none, errW_some] <;> rfl), by repeat (first | (with_reducible first | exact HB.out | apply below_alloc | apply pw_below_drewN | apply below_drew1 | refine below_set ?_ GE115.out) | exact HB.out)⟩
      · replace c11 := Bool.eq_false_iff.mpr c11
        subst c11
        have H1 : ((piecewise_divide.f t116 t117).bind fun bt119 => (if (wrap64 (2 * bt119.2)) = t117 then (if a2 = 1 then (if t116 > 0 then (piecewise_Round.j1 kj4 a2 bt119.1 true) else (if a2 = 2 then (piecewise_Round.j1 kj4 a2 bt119.1 ((Int.tmod bt119.1 2) != 0)) else (piecewise_Round.j1 kj4 a2 bt119.1 false))) else (if a2 = 2 then (piecewise_Round.j1 kj4 a2 bt119.1 ((Int.tmod bt119.1 2) != 0)) else (piecewise_Round.j1 kj4 a2 bt119.1 false))) else (piecewise_Round.j1 kj4 a2 bt119.1 (decide ((wrap64 (2 * bt119.2)) > t117))))) = some (r1, r2) := by rw [if_neg (show ¬ (false = true) by decide)] at H; exact H
        clear H
        have H := H1
        clear H1
        replace H := Option.bind_eq_some_iff.mp H
        obtain ⟨⟨t119, t120⟩, A120, H⟩ := H
        replace H : (if (wrap64 (2 * t120)) = t117 then (if a2 = 1 then (if t116 > 0 then (piecewise_Round.j1 kj4 a2 t119 true) else (if a2 = 2 then (piecewise_Round.j1 kj4 a2 t119 ((Int.tmod t119 2) != 0)) else (piecewise_Round.j1 kj4 a2 t119 false))) else (if a2 = 2 then (piecewise_Round.j1 kj4 a2 t119 ((Int.tmod t119 2) != 0)) else (piecewise_Round.j1 kj4 a2 t119 false))) else (piecewise_Round.j1 kj4 a2 t119 (decide ((wrap64 (2 * t120)) > t117)))) = some (r1, r2) := H
        have A12 := Aside0.mk A120
        clear A120
        have HC13 := Aside0.mk H
        clear H
        go_upto_if 44 with (first | ((with_reducible refine gate_callee (f := 44) rfl ?_); refine goesL_ (some 34) rfl rfl Try.func44 (by kernel_rfl) rfl #[.int .i64 t116, .int .i64 t117] rfl (by (try simp only [List.map_toArray, List.map_cons, List.map_nil]); first | done | rfl | (simp only [List.length_drop, List.length_take]; rfl)) ?_; (with_reducible refine (piecewise_divide.calls t116 t117 t119 t120 _ A12.out).mono ?_); rintro e w' ⟨rfl, ⟨nd, rfl⟩⟩; refine ⟨_, rfl, ?_⟩))
        (try simp only [Act.put, List.setIfInBounds_toArray, List.set_cons_zero, List.set_cons_succ])
        go_cut [13] (fun v13 wc => ∃ (kq : Nat) (x13_12 : Bool), v13 = .bool x13_12 ∧ Aside0 (piecewise_Round.j1 kq a2 t119 x13_12 = some (r1, r2)) ∧ Aside0 (kq ≤ kj4) ∧ Aside0 (wc.heap[gb115]? = some (.cells #[.int .i64 a0_0, (.slice A0_1 l0_1.length c0_1)] 24 (0, 0))) ∧ Aside0 (Below w.heap.size w wc))
        case first =>
          have H := HC13.out
          clear HC13
          by_cases c14 : (wrap64 (2 * t120)) = t117
          · rw [if_pos c14] at H
            have c14b0 : ((wrap64 (2 * t120)) == t117) = true := beq_iff_eq.mpr c14
            have c14b1 : ((wrap64 (2 * t120)) != t117) = false := bne_eq_false_iff_eq.mpr c14
            clear c14
            (first | rw [c14b0] | (simp only [i64_w, i32_w]; rw [c14b0]) | skip)
            by_cases c15 : a2 = 1
            · rw [if_pos c15] at H
              have c15b0 : (a2 == 1) = true := beq_iff_eq.mpr c15
              have c15b1 : (a2 != 1) = false := bne_eq_false_iff_eq.mpr c15
              clear c15
              by_cases c16 : t116 > 0
              · rw [if_pos c16] at H
                have c16b0 : decide (0 < t116) = true := decide_eq_true c16
                clear c16
                have H' := Aside0.mk H
                clear H
                go_wp2
                go_meet
                case rel => exact ⟨_, (true), (by first | rfl | (simp; done) | (simp [*]; done)), H', ⟨by have := HJ4.out; first | omega | exact Nat.le_refl _⟩, ⟨by (with_reducible repeat (first | refine blk_drewN ?_ _ | refine blk_drew ?_ | refine blk_alloc ?_ _)); exact BK115.out⟩, ⟨by repeat (first | (with_reducible first | exact HB.out | apply below_alloc | apply pw_below_drewN | apply below_drew1 | refine below_set ?_ GE115.out) | exact HB.out)⟩⟩
              · rw [if_neg c16] at H
                have c16b0 : decide (0 < t116) = false := decide_eq_false c16
                clear c16
                by_cases c17 : a2 = 2
                · rw [if_pos c17] at H
                  have c17b0 : (a2 == 2) = true := beq_iff_eq.mpr c17
                  have c17b1 : (a2 != 2) = false := bne_eq_false_iff_eq.mpr c17
                  clear c17
                  have H' := Aside0.mk H
                  clear H
                  go_wp2
                  go_meet
                  case rel => exact ⟨_, (((Int.tmod t119 2) != 0)), (by first | rfl | (simp; done) | (simp [*]; done)), H', ⟨by have := HJ4.out; first | omega | exact Nat.le_refl _⟩, ⟨by (with_reducible repeat (first | refine blk_drewN ?_ _ | refine blk_drew ?_ | refine blk_alloc ?_ _)); exact BK115.out⟩, ⟨by repeat (first | (with_reducible first | exact HB.out | apply below_alloc | apply pw_below_drewN | apply below_drew1 | refine below_set ?_ GE115.out) | exact HB.out)⟩⟩
                · rw [if_neg c17] at H
                  have c17b0 : (a2 == 2) = false := beq_eq_false_iff_ne.mpr c17
                  have c17b1 : (a2 != 2) = true := bne_iff_ne.mpr c17
                  have H' := Aside0.mk H
                  clear H
                  go_wp2
                  go_meet
                  case rel => exact ⟨_, (false), (by first | rfl | (simp; done) | (simp [*]; done)), H', ⟨by have := HJ4.out; first | omega | exact Nat.le_refl _⟩, ⟨by (with_reducible repeat (first | refine blk_drewN ?_ _ | refine blk_drew ?_ | refine blk_alloc ?_ _)); exact BK115.out⟩, ⟨by repeat (first | (with_reducible first | exact HB.out | apply below_alloc | apply pw_below_drewN | apply below_drew1 | refine below_set ?_ GE115.out) | exact HB.out)⟩⟩
            · rw [if_neg c15] at H
              have c15b0 : (a2 == 1) = false := beq_eq_false_iff_ne.mpr c15
              have c15b1 : (a2 != 1) = true := bne_iff_ne.mpr c15
              by_cases c18 : a2 = 2
              · rw [if_pos c18] at H
                have c18b0 : (a2 == 2) = true := beq_iff_eq.mpr c18
                have c18b1 : (a2 != 2) = false := bne_eq_false_iff_eq.mpr c18
                clear c18
                have H' := Aside0.mk H
                clear H
                go_wp2
                go_meet
                case rel => exact ⟨_, (((Int.tmod t119 2) != 0)), (by first | rfl | (simp; done) | (simp [*]; done)), H', ⟨by have := HJ4.out; first | omega | exact Nat.le_refl _⟩, ⟨by (with_reducible repeat (first | refine blk_drewN ?_ _ | refine blk_drew ?_ | refine blk_alloc ?_ _)); exact BK115.out⟩, ⟨by repeat (first | (with_reducible first | exact HB.out | apply below_alloc | apply pw_below_drewN | apply below_drew1 | refine below_set ?_ GE115.out) | exact HB.out)⟩⟩
              · rw [if_neg c18] at H
                have c18b0 : (a2 == 2) = false := beq_eq_false_iff_ne.mpr c18
                have c18b1 : (a2 != 2) = true := bne_iff_ne.mpr c18
                have H' := Aside0.mk H
                clear H
                go_wp2
                go_meet
                case rel => exact ⟨_, (false), (by first | rfl | (simp; done) | (simp [*]; done)), H', ⟨by have := HJ4.out; first | omega | exact Nat.le_refl _⟩, ⟨by (with_reducible repeat (first | refine blk_drewN ?_ _ | refine blk_drew ?_ | refine blk_alloc ?_ _)); exact BK115.out⟩, ⟨by repeat (first | (with_reducible first | exact HB.out | apply below_alloc | apply pw_below_drewN | apply below_drew1 | refine below_set ?_ GE115.out) | exact HB.out)⟩⟩
          · rw [if_neg c14] at H
            have c14b0 : ((wrap64 (2 * t120)) == t117) = false := beq_eq_false_iff_ne.mpr c14
            have c14b1 : ((wrap64 (2 * t120)) != t117) = true := bne_iff_ne.mpr c14
            (first | rw [c14b0] | (simp only [i64_w, i32_w]; rw [c14b0]) | skip)
            have H' := Aside0.mk H
            clear H
            go_wp2
            go_meet
            case rel => exact ⟨_, (decide ((wrap64 (2 * t120)) > t117)), (by first | rfl | (simp; done) | (simp [*]; done)), H', ⟨by have := HJ4.out; first | omega | exact Nat.le_refl _⟩, ⟨by (with_reducible repeat (first | refine blk_drewN ?_ _ | refine blk_drew ?_ | refine blk_alloc ?_ _)); exact BK115.out⟩, ⟨by repeat (first | (with_reducible first | exact HB.out | apply below_alloc | apply pw_below_drewN | apply below_drew1 | refine below_set ?_ GE115.out) | exact HB.out)⟩⟩
        case rest =>
          clear HC13
          try clear c1
          try clear c2
          try clear p2
          try clear c4
          try clear p6
          try clear c9
          try clear c9b0
          try clear c9b1
          try clear c10
          try clear c10b0
          try clear c11
          try clear c14
          try clear c14b0
          try clear c14b1
          try clear c15
          try clear c15b0
          try clear c15b1
          try clear c16
          try clear c16b0
          try clear c17
          try clear c17b0
          try clear c17b1
          try clear c18
          try clear c18b0
          try clear c18b1
          try clear hcz7_0
          try clear hcz7_1
          try clear hfz7_0
          try clear hfz7_1
          try clear p2
          obtain ⟨kq, x13_12, rfl, HA, HJ12, BK115, HB⟩ := hcut
          cases kq with
          | zero => exact absurd HA.out (by simp [piecewise_Round.j1])
          | succ kj12 =>
            have H := HA.out
            clear HA
            simp only [piecewise_Round.j1] at H
            have HC19 := Aside0.mk H
            clear H
            go_upto_region 8 with (fail)
            go_cut [64] (fun v64 wc => ∃ (kq : Nat) (x64_18 : Bool), v64 = .bool x64_18 ∧ Aside0 (piecewise_Round.j2 kq t119 x64_18 = some (r1, r2)) ∧ Aside0 (kq ≤ kj12) ∧ Aside0 (wc.heap[gb115]? = some (.cells #[.int .i64 a0_0, (.slice A0_1 l0_1.length c0_1)] 24 (0, 0))) ∧ Aside0 (Below w.heap.size w wc))
            case first =>
              have H := HC19.out
              clear HC19
              by_cases c20 : x13_12 = true
              · subst c20
                have H1 : (piecewise_Round.j2 kj12 t119 (a2 != 0)) = some (r1, r2) := by rw [if_pos rfl] at H; exact H
                clear H
                have H := H1
                clear H1
                have H' := Aside0.mk H
                clear H
                go_wp2
                go_meet
                case rel => exact ⟨_, ((a2 != 0)), (by first | rfl | (simp; done) | (simp [*]; done)), H', ⟨by have := HJ4.out; have := HJ12.out; first | omega | exact Nat.le_refl _⟩, ⟨by (with_reducible repeat (first | refine blk_drewN ?_ _ | refine blk_drew ?_ | refine blk_alloc ?_ _)); exact BK115.out⟩, ⟨by repeat (first | (with_reducible first | exact HB.out | apply below_alloc | apply pw_below_drewN | apply below_drew1 | refine below_set ?_ GE115.out) | exact HB.out)⟩⟩
              · replace c20 := Bool.eq_false_iff.mpr c20
                subst c20
                have H1 : (piecewise_Round.j2 kj12 t119 false) = some (r1, r2) := by rw [if_neg (show ¬ (false = true) by decide)] at H; exact H
                clear H
                have H := H1
                clear H1
                have H' := Aside0.mk H
                clear H
                go_wp2
                go_meet
                case rel => exact ⟨_, (false), (by first | rfl | (simp; done) | (simp [*]; done)), H', ⟨by have := HJ4.out; have := HJ12.out; first | omega | exact Nat.le_refl _⟩, ⟨by (with_reducible repeat (first | refine blk_drewN ?_ _ | refine blk_drew ?_ | refine blk_alloc ?_ _)); exact BK115.out⟩, ⟨by repeat (first | (with_reducible first | exact HB.out | apply below_alloc | apply pw_below_drewN | apply below_drew1 | refine below_set ?_ GE115.out) | exact HB.out)⟩⟩
            case rest =>
              clear HC19
              try clear c1
              try clear c2
              try clear p2
              try clear c4
              try clear p6
              try clear c9
              try clear c9b0
              try clear c9b1
              try clear c10
              try clear c10b0
              try clear c11
              try clear c14
              try clear c14b0
              try clear c14b1
              try clear c15
              try clear c15b0
              try clear c15b1
              try clear c16
              try clear c16b0
              try clear c17
              try clear c17b0
              try clear c17b1
              try clear c18
              try clear c18b0
              try clear c18b1
              try clear c20
              try clear hcz7_0
              try clear hcz7_1
              try clear hfz7_0
              try clear hfz7_1
              try clear p2
              try clear p6
              obtain ⟨kq, x64_18, rfl, HA, HJ18, BK115, HB⟩ := hcut
              cases kq with
              | zero => exact absurd HA.out (by simp [piecewise_Round.j2])
              | succ kj18 =>
                have H := HA.out
                clear HA
                simp only [piecewise_Round.j2] at H
                by_cases c21 : x64_18 = true
                · subst c21
                  have H1 : ((piecewise_within.f (wrap64 (t119 + 1)) 1000000000000).bind fun t121 => (if t121 = true then (some (wrap64 (t119 + 1), 0)) else (some (0, 3)))) = some (r1, r2) := by rw [if_pos rfl] at H; exact H
                  clear H
                  have H := H1
                  clear H1
                  replace H := Option.bind_eq_some_iff.mp H
                  obtain ⟨t121, A220, H⟩ := H
                  replace H : (if t121 = true then (some (wrap64 (t119 + 1), 0)) else (some (0, 3))) = some (r1, r2) := H
                  have A22 := Aside0.mk A220
                  clear A220
                  by_cases c23 : t121 = true
                  · subst c23
                    have H1 : (some (wrap64 (t119 + 1), 0)) = some (r1, r2) := by rw [if_pos rfl] at H; exact H
                    clear H
                    have H := H1
                    clear H1
                    simp only [Option.some.injEq, Prod.mk.injEq] at H
                    obtain ⟨rfl, rfl⟩ := H
                    go_wp2_with (first | ((with_reducible refine gate_callee (f := 45) rfl ?_); refine goesL_ (some 68) rfl rfl Try.func45 (by kernel_rfl) rfl #[.int .i64 (wrap64 (t119 + 1)), .int .i64 1000000000000] rfl (by (try simp only [List.map_toArray, List.map_cons, List.map_nil]); first | done | rfl | (simp only [List.length_drop, List.length_take]; rfl)) ?_; (with_reducible refine (piecewise_within.calls (wrap64 (t119 + 1)) 1000000000000 true _ A22.out).mono ?_); rintro e w' ⟨rfl, ⟨nd, rfl⟩⟩; refine ⟨_, rfl, ?_⟩))
                    go_ret2
                    exact ⟨by first | rfl | (simp [errW_none, errW_some] <;> rfl) | (simp [*, errW_none, errW_some] <;> rfl), by repeat (first | (with_reducible first | exact HB.out | apply below_alloc | apply pw_below_drewN | apply below_drew1 | refine below_set ?_ GE115.out) | exact HB.out)⟩
                  · replace c23 := Bool.eq_false_iff.mpr c23
                    subst c23
                    have H1 : (some (0, 3)) = some (r1, r2) := by rw [if_neg (show ¬ (false = true) by decide)] at H; exact H
                    clear H
                    have H := H1
                    clear H1
                    simp only [Option.some.injEq, Prod.mk.injEq] at H
                    obtain ⟨rfl, rfl⟩ := H
                    go_wp2_with (first | ((with_reducible refine gate_callee (f := 45) rfl ?_); refine goesL_ (some 68) rfl rfl Try.func45 (by kernel_rfl) rfl #[.int .i64 (wrap64 (t119 + 1)), .int .i64 1000000000000] rfl (by (try simp only [List.map_toArray, List.map_cons, List.map_nil]); first | done | rfl | (simp only [List.length_drop, List.length_take]; rfl)) ?_; (with_reducible refine (piecewise_within.calls (wrap64 (t119 + 1)) 1000000000000 false _ A22.out).mono ?_); rintro e w' ⟨rfl, ⟨nd, rfl⟩⟩; refine ⟨_, rfl, ?_⟩))
                    go_ret2
                    exact ⟨by first | rfl | (simp [errW_none, errW_some] <;> rfl) | (simp [*, errW_none, errW_some] <;> rfl), by repeat (first | (with_reducible first | exact HB.out | apply below_alloc | apply pw_below_drewN | apply below_drew1 | refine below_set ?_ GE115.out) | exact HB.out)⟩
                · replace c21 := Bool.eq_false_iff.mpr c21
                  subst c21
                  have H1 : ((piecewise_within.f t119 1000000000000).bind fun t122 => (if t122 = true then (some (t119, 0)) else (some (0, 3)))) = some (r1, r2) := by rw [if_neg (show ¬ (false = true) by decide)] at H; exact H
                  clear H
                  have H := H1
                  clear H1
                  replace H := Option.bind_eq_some_iff.mp H
                  obtain ⟨t122, A240, H⟩ := H
                  replace H : (if t122 = true then (some (t119, 0)) else (some (0, 3))) = some (r1, r2) := H
                  have A24 := Aside0.mk A240
                  clear A240
                  by_cases c25 : t122 = true
                  · subst c25
                    have H1 : (some (t119, 0)) = some (r1, r2) := by rw [if_pos rfl] at H; exact H
                    clear H
                    have H := H1
                    clear H1
                    simp only [Option.some.injEq, Prod.mk.injEq] at H
                    obtain ⟨rfl, rfl⟩ := H
                    go_wp2_with (first | ((with_reducible refine gate_callee (f := 45) rfl ?_); refine goesL_ (some 68) rfl rfl Try.func45 (by kernel_rfl) rfl #[.int .i64 t119, .int .i64 1000000000000] rfl (by (try simp only [List.map_toArray, List.map_cons, List.map_nil]); first | done | rfl | (simp only [List.length_drop, List.length_take]; rfl)) ?_; (with_reducible refine (piecewise_within.calls t119 1000000000000 true _ A24.out).mono ?_); rintro e w' ⟨rfl, ⟨nd, rfl⟩⟩; refine ⟨_, rfl, ?_⟩))
                    go_ret2
                    exact ⟨by first | rfl | (simp [errW_none, errW_some] <;> rfl) | (simp [*, errW_none, errW_some] <;> rfl), by repeat (first | (with_reducible first | exact HB.out | apply below_alloc | apply pw_below_drewN | apply below_drew1 | refine below_set ?_ GE115.out) | exact HB.out)⟩
                  · replace c25 := Bool.eq_false_iff.mpr c25
                    subst c25
                    have H1 : (some (0, 3)) = some (r1, r2) := by rw [if_neg (show ¬ (false = true) by decide)] at H; exact H
                    clear H
                    have H := H1
                    clear H1
                    simp only [Option.some.injEq, Prod.mk.injEq] at H
                    obtain ⟨rfl, rfl⟩ := H
                    go_wp2_with (first | ((with_reducible refine gate_callee (f := 45) rfl ?_); refine goesL_ (some 68) rfl rfl Try.func45 (by kernel_rfl) rfl #[.int .i64 t119, .int .i64 1000000000000] rfl (by (try simp only [List.map_toArray, List.map_cons, List.map_nil]); first | done | rfl | (simp only [List.length_drop, List.length_take]; rfl)) ?_; (with_reducible refine (piecewise_within.calls t119 1000000000000 false _ A24.out).mono ?_); rintro e w' ⟨rfl, ⟨nd, rfl⟩⟩; refine ⟨_, rfl, ?_⟩))
                    go_ret2
                    exact ⟨by first | rfl | (simp [errW_none, errW_some] <;> rfl) | (simp [*, errW_none, errW_some] <;> rfl), by repeat (first | (with_reducible first | exact HB.out | apply below_alloc | apply pw_below_drewN | apply below_drew1 | refine below_set ?_ GE115.out) | exact HB.out)⟩

end Go.Proofs.Yteapeglolkfimaa.My
