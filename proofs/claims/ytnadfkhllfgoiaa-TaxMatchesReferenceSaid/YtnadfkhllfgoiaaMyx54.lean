-- Written by a program of this session (wip/myprint.py), which drives the kit's print over hand-written fragments. Not trusted: Lean checks it.
import Derived.Test.YtnadfkhllfgoiaaMyx0
import Derived.Test.YtnadfkhllfgoiaaMyx41
import Derived.Test.YtnadfkhllfgoiaaMyx55
namespace Go.Proofs.Ytnadfkhllfgoiaa.My
open Go.Proofs.Ytnadfkhllfgoiaa.Aid Go.Proofs.Ytnadfkhllfgoiaa.KdX
open Go.RowKit Go.Proofs.YtnadfkhllfgoiaaW.PrintWords Go.Proofs.YtnadfkhllfgoiaaW.PrintLast Go.Proofs.YtnadfkhllfgoiaaW.PrintMore
attribute [local go_sem] max2_int min2_int max_two min_two max_three min_three max_four min_four   -- for this text's walks alone
set_option linter.unusedVariables false
set_option linter.unusedSimpArgs false

/-! ### wageofficeref05_Round: function 54 -/
mutual
def wageofficeref05_Round.j0 : Nat → Int → Int → Int → Bool → Option (Int × Int)
  | 0, _, _, _, _ => none
  | k + 1, x2, x8, x9, x35 => if x35 = true then (some (0, 1)) else (if x9 = 0 then (none) else (if (wrap64 ((wrap64 (Int.tdiv x8 x9)) * x9)) > x8 then (wageofficeref05_Round.j1 k x2 x8 x9 (wrap64 ((wrap64 (Int.tdiv x8 x9)) - 1))) else (wageofficeref05_Round.j1 k x2 x8 x9 (wrap64 (Int.tdiv x8 x9)))))
def wageofficeref05_Round.j1 : Nat → Int → Int → Int → Int → Option (Int × Int)
  | 0, _, _, _, _ => none
  | k + 1, x2, x8, x9, x11 => if x2 = 0 then (wageofficeref05_Round.j2 k x2 x8 x11 (wrap64 (x8 - (wrap64 (x11 * x9)))) (wrap64 (x9 - (wrap64 (x8 - (wrap64 (x11 * x9)))))) false) else (wageofficeref05_Round.j2 k x2 x8 x11 (wrap64 (x8 - (wrap64 (x11 * x9)))) (wrap64 (x9 - (wrap64 (x8 - (wrap64 (x11 * x9)))))) (decide ((wrap64 (x8 - (wrap64 (x11 * x9)))) > (wrap64 (x9 - (wrap64 (x8 - (wrap64 (x11 * x9)))))))))
def wageofficeref05_Round.j2 : Nat → Int → Int → Int → Int → Int → Bool → Option (Int × Int)
  | 0, _, _, _, _, _, _ => none
  | k + 1, x2, x8, x11, x12, x13, x60 => if x60 = true then (wageofficeref05_Round.j3 k x2 x8 (wrap64 (x11 + 1)) x12 x13) else (wageofficeref05_Round.j3 k x2 x8 x11 x12 x13)
def wageofficeref05_Round.j3 : Nat → Int → Int → Int → Int → Int → Option (Int × Int)
  | 0, _, _, _, _, _ => none
  | k + 1, x2, x8, x11, x12, x13 => if x12 = x13 then (if x2 = 1 then (if x8 > 0 then (wageofficeref05_Round.j4 k x11 true) else (if x2 = 2 then (if (Int.tmod x11 2) = 1 then (wageofficeref05_Round.j4 k x11 true) else (wageofficeref05_Round.j4 k x11 ((Int.tmod x11 2) == (-1)))) else (wageofficeref05_Round.j4 k x11 false))) else (if x2 = 2 then (if (Int.tmod x11 2) = 1 then (wageofficeref05_Round.j4 k x11 true) else (wageofficeref05_Round.j4 k x11 ((Int.tmod x11 2) == (-1)))) else (wageofficeref05_Round.j4 k x11 false))) else (wageofficeref05_Round.j4 k x11 false)
def wageofficeref05_Round.j4 : Nat → Int → Bool → Option (Int × Int)
  | 0, _, _ => none
  | k + 1, x11, x87 => if x87 = true then ((wageofficeref05_within.f (wrap64 (x11 + 1)) 1000000000000).bind fun t504 => (if t504 = true then (some (wrap64 (x11 + 1), 0)) else (some (0, 3)))) else ((wageofficeref05_within.f x11 1000000000000).bind fun t505 => (if t505 = true then (some (x11, 0)) else (some (0, 3))))
end
def wageofficeref05_Round.f (k : Nat) (a0_0 : Int) (l0_1 : List (S75)) (a1 : Int) (a2 : Int) : Option (Int × Int) := (wageofficeref05_Eval.f k a0_0 l0_1 a1).bind fun bt501 => (if bt501.2.2 = 0 then (if a2 = 0 then (wageofficeref05_Round.j0 k a2 bt501.1 bt501.2.1 false) else (if a2 = 1 then (wageofficeref05_Round.j0 k a2 bt501.1 bt501.2.1 false) else (wageofficeref05_Round.j0 k a2 bt501.1 bt501.2.1 (a2 != 2)))) else (wageofficeref05_Round.j0 k a2 bt501.1 bt501.2.1 true))
theorem wageofficeref05_Round.mono_l : ∀ k, (∀ y0 y1 y2 y3, LeO (wageofficeref05_Round.j0 k y0 y1 y2 y3) (wageofficeref05_Round.j0 (k + 1) y0 y1 y2 y3)) ∧ (∀ y0 y1 y2 y3, LeO (wageofficeref05_Round.j1 k y0 y1 y2 y3) (wageofficeref05_Round.j1 (k + 1) y0 y1 y2 y3)) ∧ (∀ y0 y1 y2 y3 y4 y5, LeO (wageofficeref05_Round.j2 k y0 y1 y2 y3 y4 y5) (wageofficeref05_Round.j2 (k + 1) y0 y1 y2 y3 y4 y5)) ∧ (∀ y0 y1 y2 y3 y4, LeO (wageofficeref05_Round.j3 k y0 y1 y2 y3 y4) (wageofficeref05_Round.j3 (k + 1) y0 y1 y2 y3 y4)) ∧ (∀ y0 y1, LeO (wageofficeref05_Round.j4 k y0 y1) (wageofficeref05_Round.j4 (k + 1) y0 y1))
  | 0 => ⟨fun _ _ _ _ r h => by simp [wageofficeref05_Round.j0] at h, fun _ _ _ _ r h => by simp [wageofficeref05_Round.j1] at h, fun _ _ _ _ _ _ r h => by simp [wageofficeref05_Round.j2] at h, fun _ _ _ _ _ r h => by simp [wageofficeref05_Round.j3] at h, fun _ _ r h => by simp [wageofficeref05_Round.j4] at h⟩
  | k + 1 => by
    obtain ⟨ih0, ih1, ih2, ih3, ih4⟩ := wageofficeref05_Round.mono_l k
    refine ⟨?_, ?_, ?_, ?_, ?_⟩
    · intro y0 y1 y2 y3
      unfold wageofficeref05_Round.j0
      repeat' first
      | (with_reducible exact ih0 _ _ _ _)
      | (with_reducible exact ih1 _ _ _ _)
      | (with_reducible exact ih2 _ _ _ _ _ _)
      | (with_reducible exact ih3 _ _ _ _ _)
      | (with_reducible exact ih4 _ _)
      | (with_reducible exact wageofficeref05_Eval.mono _ _ _ _)
      | (with_reducible exact LeO.refl _)
      | (with_reducible exact LeO.none _)
      | (with_reducible refine LeO.ite ?_ ?_)
      | (with_reducible refine LeO.bind ?_ (fun _ => ?_))
      | exact ih0 _ _ _ _
      | exact ih1 _ _ _ _
      | exact ih2 _ _ _ _ _ _
      | exact ih3 _ _ _ _ _
      | exact ih4 _ _
      | exact wageofficeref05_Eval.mono _ _ _ _
      | exact LeO.none _
      | refine LeO.ite ?_ ?_
      | refine LeO.bind ?_ (fun _ => ?_)
    · intro y0 y1 y2 y3
      unfold wageofficeref05_Round.j1
      repeat' first
      | (with_reducible exact ih0 _ _ _ _)
      | (with_reducible exact ih1 _ _ _ _)
      | (with_reducible exact ih2 _ _ _ _ _ _)
      | (with_reducible exact ih3 _ _ _ _ _)
      | (with_reducible exact ih4 _ _)
      | (with_reducible exact wageofficeref05_Eval.mono _ _ _ _)
      | (with_reducible exact LeO.refl _)
      | (with_reducible exact LeO.none _)
      | (with_reducible refine LeO.ite ?_ ?_)
      | (with_reducible refine LeO.bind ?_ (fun _ => ?_))
      | exact ih0 _ _ _ _
      | exact ih1 _ _ _ _
      | exact ih2 _ _ _ _ _ _
      | exact ih3 _ _ _ _ _
      | exact ih4 _ _
      | exact wageofficeref05_Eval.mono _ _ _ _
      | exact LeO.none _
      | refine LeO.ite ?_ ?_
      | refine LeO.bind ?_ (fun _ => ?_)
    · intro y0 y1 y2 y3 y4 y5
      unfold wageofficeref05_Round.j2
      repeat' first
      | (with_reducible exact ih0 _ _ _ _)
      | (with_reducible exact ih1 _ _ _ _)
      | (with_reducible exact ih2 _ _ _ _ _ _)
      | (with_reducible exact ih3 _ _ _ _ _)
      | (with_reducible exact ih4 _ _)
      | (with_reducible exact wageofficeref05_Eval.mono _ _ _ _)
      | (with_reducible exact LeO.refl _)
      | (with_reducible exact LeO.none _)
      | (with_reducible refine LeO.ite ?_ ?_)
      | (with_reducible refine LeO.bind ?_ (fun _ => ?_))
      | exact ih0 _ _ _ _
      | exact ih1 _ _ _ _
      | exact ih2 _ _ _ _ _ _
      | exact ih3 _ _ _ _ _
      | exact ih4 _ _
      | exact wageofficeref05_Eval.mono _ _ _ _
      | exact LeO.none _
      | refine LeO.ite ?_ ?_
      | refine LeO.bind ?_ (fun _ => ?_)
    · intro y0 y1 y2 y3 y4
      unfold wageofficeref05_Round.j3
      repeat' first
      | (with_reducible exact ih0 _ _ _ _)
      | (with_reducible exact ih1 _ _ _ _)
      | (with_reducible exact ih2 _ _ _ _ _ _)
      | (with_reducible exact ih3 _ _ _ _ _)
      | (with_reducible exact ih4 _ _)
      | (with_reducible exact wageofficeref05_Eval.mono _ _ _ _)
      | (with_reducible exact LeO.refl _)
      | (with_reducible exact LeO.none _)
      | (with_reducible refine LeO.ite ?_ ?_)
      | (with_reducible refine LeO.bind ?_ (fun _ => ?_))
      | exact ih0 _ _ _ _
      | exact ih1 _ _ _ _
      | exact ih2 _ _ _ _ _ _
      | exact ih3 _ _ _ _ _
      | exact ih4 _ _
      | exact wageofficeref05_Eval.mono _ _ _ _
      | exact LeO.none _
      | refine LeO.ite ?_ ?_
      | refine LeO.bind ?_ (fun _ => ?_)
    · intro y0 y1
      unfold wageofficeref05_Round.j4
      repeat' first
      | (with_reducible exact ih0 _ _ _ _)
      | (with_reducible exact ih1 _ _ _ _)
      | (with_reducible exact ih2 _ _ _ _ _ _)
      | (with_reducible exact ih3 _ _ _ _ _)
      | (with_reducible exact ih4 _ _)
      | (with_reducible exact wageofficeref05_Eval.mono _ _ _ _)
      | (with_reducible exact LeO.refl _)
      | (with_reducible exact LeO.none _)
      | (with_reducible refine LeO.ite ?_ ?_)
      | (with_reducible refine LeO.bind ?_ (fun _ => ?_))
      | exact ih0 _ _ _ _
      | exact ih1 _ _ _ _
      | exact ih2 _ _ _ _ _ _
      | exact ih3 _ _ _ _ _
      | exact ih4 _ _
      | exact wageofficeref05_Eval.mono _ _ _ _
      | exact LeO.none _
      | refine LeO.ite ?_ ?_
      | refine LeO.bind ?_ (fun _ => ?_)
theorem wageofficeref05_Round.mono : ∀ a0 a1 a2 a3 k, LeO (wageofficeref05_Round.f k a0 a1 a2 a3) (wageofficeref05_Round.f (k + 1) a0 a1 a2 a3) := by
  intro a0 a1 a2 a3 k
  obtain ⟨ih0, ih1, ih2, ih3, ih4⟩ := wageofficeref05_Round.mono_l k
  unfold wageofficeref05_Round.f
  repeat' first
      | (with_reducible exact ih0 _ _ _ _)
      | (with_reducible exact ih1 _ _ _ _)
      | (with_reducible exact ih2 _ _ _ _ _ _)
      | (with_reducible exact ih3 _ _ _ _ _)
      | (with_reducible exact ih4 _ _)
      | (with_reducible exact wageofficeref05_Eval.mono _ _ _ _)
      | (with_reducible exact LeO.refl _)
      | (with_reducible exact LeO.none _)
      | (with_reducible refine LeO.ite ?_ ?_)
      | (with_reducible refine LeO.bind ?_ (fun _ => ?_))
      | exact ih0 _ _ _ _
      | exact ih1 _ _ _ _
      | exact ih2 _ _ _ _ _ _
      | exact ih3 _ _ _ _ _
      | exact ih4 _ _
      | exact wageofficeref05_Eval.mono _ _ _ _
      | exact LeO.none _
      | refine LeO.ite ?_ ?_
      | refine LeO.bind ?_ (fun _ => ?_)
set_option maxHeartbeats 8000000 in
set_option maxRecDepth 100000 in
theorem wageofficeref05_Round.calls (k : Nat) (a0_0 : Int) (A0_1 : Option Addr) (c0_1 : Nat) (l0_1 : List (S75)) (a1 : Int) (a2 : Int) (r1 : Int) (r2 : Int) (w : World) (hr0_1 : Kd.C k75 w A0_1 l0_1.length l0_1) (hc0_1 : l0_1.length ≤ c0_1) (h : wageofficeref05_Round.f k a0_0 l0_1 a1 a2 = some (r1, r2)) :
    Calls Try.prog 54 #[.agg #[.int .i64 a0_0, .slice A0_1 l0_1.length c0_1], .int .i64 a1, .int .i64 a2] w fun e w' => e = .returned (.tuple #[.int .i64 r1, .int .i64 r2]) ∧ Below w.heap.size w w' := by
  have hu42 := Try.underlying42
  have HR0_1 := Aside0.mk hr0_1
  have HC0_1 := Aside0.mk hc0_1
  clear hr0_1 hc0_1
  have HB := Aside0.mk (Below.refl w.heap.size w)
  have H : ((wageofficeref05_Eval.f k a0_0 l0_1 a1).bind fun bt501 => (if bt501.2.2 = 0 then (if a2 = 0 then (wageofficeref05_Round.j0 k a2 bt501.1 bt501.2.1 false) else (if a2 = 1 then (wageofficeref05_Round.j0 k a2 bt501.1 bt501.2.1 false) else (wageofficeref05_Round.j0 k a2 bt501.1 bt501.2.1 (a2 != 2)))) else (wageofficeref05_Round.j0 k a2 bt501.1 bt501.2.1 true))) = some (r1, r2) := h
  clear h
  replace H := Option.bind_eq_some_iff.mp H
  obtain ⟨⟨t501, t502, t503⟩, A40, H⟩ := H
  replace H : (if t503 = 0 then (if a2 = 0 then (wageofficeref05_Round.j0 k a2 t501 t502 false) else (if a2 = 1 then (wageofficeref05_Round.j0 k a2 t501 t502 false) else (wageofficeref05_Round.j0 k a2 t501 t502 (a2 != 2)))) else (wageofficeref05_Round.j0 k a2 t501 t502 true)) = some (r1, r2) := H
  have A4 := Aside0.mk A40
  clear A40
  have HC5 := Aside0.mk H
  clear H
  go_enter Try.func54, Try.ntmps54
  go_upto_region 2 with (first | ((with_reducible refine gate_dst (N := 3) rfl ?_); refine box_event ?hg (N := 3) ?hd (cs := #[.int .i64 a0_0, .slice A0_1 l0_1.length c0_1]) (t := 42) ?hr ?_; (case hd => rfl); (case hg => rfl); (case hr => first | (go_simp; done) | (go_simp; rfl)); intro gb500 hg w6 hbox hb; have n0_ := Aside0.mk (below_step (by repeat (first | (with_reducible first | exact HB.out | apply below_alloc | apply pw_below_drewN | apply below_drew1) | exact HB.out)) hb); have n1_ := Aside0.mk (hbox); have n2_ := Aside0.mk ((by rw [hg]; exact (below_size (by repeat (first | (with_reducible first | exact HB.out | apply below_alloc | apply pw_below_drewN | apply below_drew1) | exact HB.out))) : w.heap.size ≤ gb500)); have n3_ := Aside0.mk ((by rw [hg]; exact (below_size (by repeat (first | (with_reducible first | exact HB.out | apply below_alloc | apply pw_below_drewN | apply below_drew1) | exact HB.out))) : w.heap.size ≤ gb500)); clear HB; have HB := n0_; have BK500 := n1_; have GW500 := n2_; have GE500 := n3_; clear n0_ n1_ n2_ n3_; clear hb hbox hg; have hcz7_0 : w6.cell? ⟨gb500, 0, none⟩ = some (.int .i64 a0_0) := (blk_cell BK500.out 0).trans rfl; have hcz7_1 : w6.cell? ⟨gb500, 1, none⟩ = some (.slice A0_1 l0_1.length c0_1) := (blk_cell BK500.out 1).trans rfl; have hfz7_0 := blk_frozen BK500.out 0; have hfz7_1 := blk_frozen BK500.out 1) | ((with_reducible refine gate_callee (f := 41) rfl ?_); refine goesL_ (some 18) rfl rfl Try.func41 (by kernel_rfl) rfl #[.agg #[.int .i64 a0_0, .slice A0_1 l0_1.length c0_1], .int .i64 a1] rfl (by (try simp only [List.map_toArray, List.map_cons, List.map_nil]); first | done | rfl | (simp only [List.length_drop, List.length_take]; rfl)) ?_; (with_reducible refine (wageofficeref05_Eval.calls k a0_0 _ _ l0_1 a1 t501 t502 t503 _ ?side1 ?side2 A4.out).mono ?_); (case side1 => repeat (first | exact (Kd.C_below HR0_1.out HB.out) | (with_reducible refine Kd.C_alloc ?_ _) | (with_reducible refine Kd.C_drewN ?_ _) | (with_reducible refine Kd.C_drew ?_))); (case side2 => exact HC0_1.out); rintro e w8 ⟨rfl, hb⟩; refine ⟨_, rfl, ?_⟩; have n0_ := Aside0.mk (blk_below (g := gb500) (o := .cells #[.int .i64 a0_0, .slice A0_1 l0_1.length c0_1] 42 (0, 0)) (by (with_reducible repeat (first | refine blk_drewN ?_ _ | refine blk_drew ?_ | refine blk_alloc ?_ _)); exact BK500.out) hb); have n1_ := Aside0.mk (below_step (by repeat (first | (with_reducible first | exact HB.out | apply below_alloc | apply pw_below_drewN | apply below_drew1 | refine below_set ?_ GE500.out) | exact HB.out)) hb); clear BK500; clear HB; have BK500 := n0_; have HB := n1_; clear n0_ n1_; (try clear hb); (try clear hb2); (try clear hk); (try clear hi)))
  (try simp only [Act.put, List.setIfInBounds_toArray, List.set_cons_zero, List.set_cons_succ])
  go_cut [35] (fun v35 wc => ∃ (kq : Nat) (x35_4 : Bool), v35 = .bool x35_4 ∧ Aside0 (wageofficeref05_Round.j0 kq a2 t501 t502 x35_4 = some (r1, r2)) ∧ Aside0 (kq ≤ k) ∧ Aside0 (wc.heap[gb500]? = some (.cells #[.int .i64 a0_0, (.slice A0_1 l0_1.length c0_1)] 42 (0, 0))) ∧ Aside0 (Below w.heap.size w wc))
  case first =>
    have H := HC5.out
    clear HC5
    by_cases c9 : t503 = 0
    · rw [if_pos c9] at H
      have c9b0 : (t503 == 0) = true := beq_iff_eq.mpr c9
      have c9b1 : (t503 != 0) = false := bne_eq_false_iff_eq.mpr c9
      clear c9
      (first | rw [c9b0] | (simp only [i64_w, i32_w]; rw [c9b0]) | skip)
      by_cases c10 : a2 = 0
      · rw [if_pos c10] at H
        have c10b0 : (a2 == 0) = true := beq_iff_eq.mpr c10
        have c10b1 : (a2 != 0) = false := bne_eq_false_iff_eq.mpr c10
        clear c10
        have H' := Aside0.mk H
        clear H
        go_wp2
        go_meet
        case rel => exact ⟨_, (false), (by first | rfl | (simp; done) | (simp [*]; done)), H', ⟨by first | omega | exact Nat.le_refl _⟩, ⟨by (with_reducible repeat (first | refine blk_drewN ?_ _ | refine blk_drew ?_ | refine blk_alloc ?_ _)); exact BK500.out⟩, ⟨by repeat (first | (with_reducible first | exact HB.out | apply below_alloc | apply pw_below_drewN | apply below_drew1 | refine below_set ?_ GE500.out) | exact HB.out)⟩⟩
      · rw [if_neg c10] at H
        have c10b0 : (a2 == 0) = false := beq_eq_false_iff_ne.mpr c10
        have c10b1 : (a2 != 0) = true := bne_iff_ne.mpr c10
        by_cases c11 : a2 = 1
        · rw [if_pos c11] at H
          have c11b0 : (a2 == 1) = true := beq_iff_eq.mpr c11
          have c11b1 : (a2 != 1) = false := bne_eq_false_iff_eq.mpr c11
          clear c11
          have H' := Aside0.mk H
          clear H
          go_wp2
          go_meet
          case rel => exact ⟨_, (false), (by first | rfl | (simp; done) | (simp [*]; done)), H', ⟨by first | omega | exact Nat.le_refl _⟩, ⟨by (with_reducible repeat (first | refine blk_drewN ?_ _ | refine blk_drew ?_ | refine blk_alloc ?_ _)); exact BK500.out⟩, ⟨by repeat (first | (with_reducible first | exact HB.out | apply below_alloc | apply pw_below_drewN | apply below_drew1 | refine below_set ?_ GE500.out) | exact HB.out)⟩⟩
        · rw [if_neg c11] at H
          have c11b0 : (a2 == 1) = false := beq_eq_false_iff_ne.mpr c11
          have c11b1 : (a2 != 1) = true := bne_iff_ne.mpr c11
          have H' := Aside0.mk H
          clear H
          go_wp2
          go_meet
          case rel => exact ⟨_, ((a2 != 2)), (by first | rfl | (simp; done) | (simp [*]; done)), H', ⟨by first | omega | exact Nat.le_refl _⟩, ⟨by (with_reducible repeat (first | refine blk_drewN ?_ _ | refine blk_drew ?_ | refine blk_alloc ?_ _)); exact BK500.out⟩, ⟨by repeat (first | (with_reducible first | exact HB.out | apply below_alloc | apply pw_below_drewN | apply below_drew1 | refine below_set ?_ GE500.out) | exact HB.out)⟩⟩
    · rw [if_neg c9] at H
      have c9b0 : (t503 == 0) = false := beq_eq_false_iff_ne.mpr c9
      have c9b1 : (t503 != 0) = true := bne_iff_ne.mpr c9
      (first | rw [c9b0] | (simp only [i64_w, i32_w]; rw [c9b0]) | skip)
      have H' := Aside0.mk H
      clear H
      go_wp2
      go_meet
      case rel => exact ⟨_, (true), (by first | rfl | (simp; done) | (simp [*]; done)), H', ⟨by first | omega | exact Nat.le_refl _⟩, ⟨by (with_reducible repeat (first | refine blk_drewN ?_ _ | refine blk_drew ?_ | refine blk_alloc ?_ _)); exact BK500.out⟩, ⟨by repeat (first | (with_reducible first | exact HB.out | apply below_alloc | apply pw_below_drewN | apply below_drew1 | refine below_set ?_ GE500.out) | exact HB.out)⟩⟩
  case rest =>
    clear HC5
    try clear c1
    try clear p2
    try clear c4
    try clear c5
    try clear c9
    try clear c9b0
    try clear c9b1
    try clear c10
    try clear c10b0
    try clear c10b1
    try clear c11
    try clear c11b0
    try clear c11b1
    try clear hcz7_0
    try clear hcz7_1
    try clear hfz7_0
    try clear hfz7_1
    obtain ⟨kq, x35_4, rfl, HA, HJ4, BK500, HB⟩ := hcut
    cases kq with
    | zero => exact absurd HA.out (by simp [wageofficeref05_Round.j0])
    | succ kj4 =>
      have H := HA.out
      clear HA
      simp only [wageofficeref05_Round.j0] at H
      by_cases c12 : x35_4 = true
      · subst c12
        have H1 : (some (0, 1)) = some (r1, r2) := by rw [if_pos rfl] at H; exact H
        clear H
        have H := H1
        clear H1
        simp only [Option.some.injEq, Prod.mk.injEq] at H
        obtain ⟨rfl, rfl⟩ := H
        go_wp2
        go_ret2
        exact ⟨by first | rfl | (simp [errW_none, errW_some] <;> rfl) | (simp [*, errW_none, errW_some] <;> rfl), by repeat (first | (with_reducible first | exact HB.out | apply below_alloc | apply pw_below_drewN | apply below_drew1 | refine below_set ?_ GE500.out) | exact HB.out)⟩
      · replace c12 := Bool.eq_false_iff.mpr c12
        subst c12
        have H1 : (if t502 = 0 then (none) else (if (wrap64 ((wrap64 (Int.tdiv t501 t502)) * t502)) > t501 then (wageofficeref05_Round.j1 kj4 a2 t501 t502 (wrap64 ((wrap64 (Int.tdiv t501 t502)) - 1))) else (wageofficeref05_Round.j1 kj4 a2 t501 t502 (wrap64 (Int.tdiv t501 t502))))) = some (r1, r2) := by rw [if_neg (show ¬ (false = true) by decide)] at H; exact H
        clear H
        have H := H1
        clear H1
        by_cases c13 : t502 = 0
        · rw [if_pos c13] at H
          exact absurd H (by simp)
        · rw [if_neg c13] at H
          have c13b0 : (t502 == 0) = false := beq_eq_false_iff_ne.mpr c13
          have c13b1 : (t502 != 0) = true := bne_iff_ne.mpr c13
          have HC14 := Aside0.mk H
          clear H
          go_upto_if 43 with (fail)
          go_cut [11] (fun v11 wc => ∃ (kq : Nat) (x11_13 : Int), v11 = .int .i64 x11_13 ∧ Aside0 (wageofficeref05_Round.j1 kq a2 t501 t502 x11_13 = some (r1, r2)) ∧ Aside0 (kq ≤ kj4) ∧ Aside0 (wc.heap[gb500]? = some (.cells #[.int .i64 a0_0, (.slice A0_1 l0_1.length c0_1)] 42 (0, 0))) ∧ Aside0 (Below w.heap.size w wc))
          case first =>
            have H := HC14.out
            clear HC14
            by_cases c15 : (wrap64 ((wrap64 (Int.tdiv t501 t502)) * t502)) > t501
            · rw [if_pos c15] at H
              have c15b0 : decide (t501 < (wrap64 ((wrap64 (Int.tdiv t501 t502)) * t502))) = true := decide_eq_true c15
              clear c15
              (first | rw [c15b0] | (simp only [i64_w, i32_w]; rw [c15b0]) | skip)
              have H' := Aside0.mk H
              clear H
              go_wp2
              go_meet
              case rel => exact ⟨_, (wrap64 ((wrap64 (Int.tdiv t501 t502)) - 1)), (by first | rfl | (simp; done) | (simp [*]; done)), H', ⟨by have := HJ4.out; first | omega | exact Nat.le_refl _⟩, ⟨by (with_reducible repeat (first | refine blk_drewN ?_ _ | refine blk_drew ?_ | refine blk_alloc ?_ _)); exact BK500.out⟩, ⟨by repeat (first | (with_reducible first | exact HB.out | apply below_alloc | apply pw_below_drewN | apply below_drew1 | refine below_set ?_ GE500.out) | exact HB.out)⟩⟩
            · rw [if_neg c15] at H
              have c15b0 : decide (t501 < (wrap64 ((wrap64 (Int.tdiv t501 t502)) * t502))) = false := decide_eq_false c15
              clear c15
              (first | rw [c15b0] | (simp only [i64_w, i32_w]; rw [c15b0]) | skip)
              have H' := Aside0.mk H
              clear H
              go_wp2
              go_meet
              case rel => exact ⟨_, (wrap64 (Int.tdiv t501 t502)), (by first | rfl | (simp; done) | (simp [*]; done)), H', ⟨by have := HJ4.out; first | omega | exact Nat.le_refl _⟩, ⟨by (with_reducible repeat (first | refine blk_drewN ?_ _ | refine blk_drew ?_ | refine blk_alloc ?_ _)); exact BK500.out⟩, ⟨by repeat (first | (with_reducible first | exact HB.out | apply below_alloc | apply pw_below_drewN | apply below_drew1 | refine below_set ?_ GE500.out) | exact HB.out)⟩⟩
          case rest =>
            clear HC14
            try clear c1
            try clear p2
            try clear c4
            try clear c5
            try clear p6
            try clear c9
            try clear c9b0
            try clear c9b1
            try clear c10
            try clear c10b0
            try clear c10b1
            try clear c11
            try clear c11b0
            try clear c11b1
            try clear c12
            try clear c13
            try clear c13b0
            try clear c13b1
            try clear c15
            try clear c15b0
            try clear hcz7_0
            try clear hcz7_1
            try clear hfz7_0
            try clear hfz7_1
            try clear p2
            obtain ⟨kq, x11_13, rfl, HA, HJ13, BK500, HB⟩ := hcut
            cases kq with
            | zero => exact absurd HA.out (by simp [wageofficeref05_Round.j1])
            | succ kj13 =>
              have H := HA.out
              clear HA
              simp only [wageofficeref05_Round.j1] at H
              have HC16 := Aside0.mk H
              clear H
              go_upto_region 9 with (fail)
              go_cut [60] (fun v60 wc => ∃ (kq : Nat) (x60_15 : Bool), v60 = .bool x60_15 ∧ Aside0 (wageofficeref05_Round.j2 kq a2 t501 x11_13 (wrap64 (t501 - (wrap64 (x11_13 * t502)))) (wrap64 (t502 - (wrap64 (t501 - (wrap64 (x11_13 * t502)))))) x60_15 = some (r1, r2)) ∧ Aside0 (kq ≤ kj13) ∧ Aside0 (wc.heap[gb500]? = some (.cells #[.int .i64 a0_0, (.slice A0_1 l0_1.length c0_1)] 42 (0, 0))) ∧ Aside0 (Below w.heap.size w wc))
              case first =>
                have H := HC16.out
                clear HC16
                by_cases c17 : a2 = 0
                · rw [if_pos c17] at H
                  have c17b0 : (a2 == 0) = true := beq_iff_eq.mpr c17
                  have c17b1 : (a2 != 0) = false := bne_eq_false_iff_eq.mpr c17
                  clear c17
                  (first | rw [c17b0] | (simp only [i64_w, i32_w]; rw [c17b0]) | skip)
                  have H' := Aside0.mk H
                  clear H
                  go_wp2
                  go_meet
                  case rel => exact ⟨_, (false), (by first | rfl | (simp; done) | (simp [*]; done)), H', ⟨by have := HJ4.out; have := HJ13.out; first | omega | exact Nat.le_refl _⟩, ⟨by (with_reducible repeat (first | refine blk_drewN ?_ _ | refine blk_drew ?_ | refine blk_alloc ?_ _)); exact BK500.out⟩, ⟨by repeat (first | (with_reducible first | exact HB.out | apply below_alloc | apply pw_below_drewN | apply below_drew1 | refine below_set ?_ GE500.out) | exact HB.out)⟩⟩
                · rw [if_neg c17] at H
                  have c17b0 : (a2 == 0) = false := beq_eq_false_iff_ne.mpr c17
                  have c17b1 : (a2 != 0) = true := bne_iff_ne.mpr c17
                  (first | rw [c17b0] | (simp only [i64_w, i32_w]; rw [c17b0]) | skip)
                  have H' := Aside0.mk H
                  clear H
                  go_wp2
                  go_meet
                  case rel => exact ⟨_, (decide ((wrap64 (t501 - (wrap64 (x11_13 * t502)))) > (wrap64 (t502 - (wrap64 (t501 - (wrap64 (x11_13 * t502)))))))), (by first | rfl | (simp; done) | (simp [*]; done)), H', ⟨by have := HJ4.out; have := HJ13.out; first | omega | exact Nat.le_refl _⟩, ⟨by (with_reducible repeat (first | refine blk_drewN ?_ _ | refine blk_drew ?_ | refine blk_alloc ?_ _)); exact BK500.out⟩, ⟨by repeat (first | (with_reducible first | exact HB.out | apply below_alloc | apply pw_below_drewN | apply below_drew1 | refine below_set ?_ GE500.out) | exact HB.out)⟩⟩
              case rest =>
                clear HC16
                try clear c1
                try clear p2
                try clear c4
                try clear c5
                try clear p6
                try clear c9
                try clear c9b0
                try clear c9b1
                try clear c10
                try clear c10b0
                try clear c10b1
                try clear c11
                try clear c11b0
                try clear c11b1
                try clear c12
                try clear c13
                try clear c13b0
                try clear c13b1
                try clear c15
                try clear c15b0
                try clear c17
                try clear c17b0
                try clear c17b1
                try clear hcz7_0
                try clear hcz7_1
                try clear hfz7_0
                try clear hfz7_1
                try clear p2
                try clear p6
                obtain ⟨kq, x60_15, rfl, HA, HJ15, BK500, HB⟩ := hcut
                cases kq with
                | zero => exact absurd HA.out (by simp [wageofficeref05_Round.j2])
                | succ kj15 =>
                  have H := HA.out
                  clear HA
                  simp only [wageofficeref05_Round.j2] at H
                  have HC18 := Aside0.mk H
                  clear H
                  go_upto_if 60 with (fail)
                  go_cut [11] (fun v11 wc => ∃ (kq : Nat) (x11_17 : Int), v11 = .int .i64 x11_17 ∧ Aside0 (wageofficeref05_Round.j3 kq a2 t501 x11_17 (wrap64 (t501 - (wrap64 (x11_13 * t502)))) (wrap64 (t502 - (wrap64 (t501 - (wrap64 (x11_13 * t502)))))) = some (r1, r2)) ∧ Aside0 (kq ≤ kj15) ∧ Aside0 (wc.heap[gb500]? = some (.cells #[.int .i64 a0_0, (.slice A0_1 l0_1.length c0_1)] 42 (0, 0))) ∧ Aside0 (Below w.heap.size w wc))
                  case first =>
                    have H := HC18.out
                    clear HC18
                    by_cases c19 : x60_15 = true
                    · subst c19
                      have H1 : (wageofficeref05_Round.j3 kj15 a2 t501 (wrap64 (x11_13 + 1)) (wrap64 (t501 - (wrap64 (x11_13 * t502)))) (wrap64 (t502 - (wrap64 (t501 - (wrap64 (x11_13 * t502))))))) = some (r1, r2) := by rw [if_pos rfl] at H; exact H
                      clear H
                      have H := H1
                      clear H1
                      have H' := Aside0.mk H
                      clear H
                      go_wp2
                      go_meet
                      case rel => exact ⟨_, (wrap64 (x11_13 + 1)), (by first | rfl | (simp; done) | (simp [*]; done)), H', ⟨by have := HJ4.out; have := HJ13.out; have := HJ15.out; first | omega | exact Nat.le_refl _⟩, ⟨by (with_reducible repeat (first | refine blk_drewN ?_ _ | refine blk_drew ?_ | refine blk_alloc ?_ _)); exact BK500.out⟩, ⟨by repeat (first | (with_reducible first | exact HB.out | apply below_alloc | apply pw_below_drewN | apply below_drew1 | refine below_set ?_ GE500.out) | exact HB.out)⟩⟩
                    · replace c19 := Bool.eq_false_iff.mpr c19
                      subst c19
                      have H1 : (wageofficeref05_Round.j3 kj15 a2 t501 x11_13 (wrap64 (t501 - (wrap64 (x11_13 * t502)))) (wrap64 (t502 - (wrap64 (t501 - (wrap64 (x11_13 * t502))))))) = some (r1, r2) := by rw [if_neg (show ¬ (false = true) by decide)] at H; exact H
                      clear H
                      have H := H1
                      clear H1
                      have H' := Aside0.mk H
                      clear H
                      go_wp2
                      go_meet
                      case rel => exact ⟨_, (x11_13), (by first | rfl | (simp; done) | (simp [*]; done)), H', ⟨by have := HJ4.out; have := HJ13.out; have := HJ15.out; first | omega | exact Nat.le_refl _⟩, ⟨by (with_reducible repeat (first | refine blk_drewN ?_ _ | refine blk_drew ?_ | refine blk_alloc ?_ _)); exact BK500.out⟩, ⟨by repeat (first | (with_reducible first | exact HB.out | apply below_alloc | apply pw_below_drewN | apply below_drew1 | refine below_set ?_ GE500.out) | exact HB.out)⟩⟩
                  case rest =>
                    clear HC18
                    try clear c1
                    try clear p2
                    try clear c4
                    try clear c5
                    try clear p6
                    try clear c9
                    try clear c9b0
                    try clear c9b1
                    try clear c10
                    try clear c10b0
                    try clear c10b1
                    try clear c11
                    try clear c11b0
                    try clear c11b1
                    try clear c12
                    try clear c13
                    try clear c13b0
                    try clear c13b1
                    try clear c15
                    try clear c15b0
                    try clear c17
                    try clear c17b0
                    try clear c17b1
                    try clear c19
                    try clear hcz7_0
                    try clear hcz7_1
                    try clear hfz7_0
                    try clear hfz7_1
                    try clear p2
                    try clear p6
                    obtain ⟨kq, x11_17, rfl, HA, HJ17, BK500, HB⟩ := hcut
                    cases kq with
                    | zero => exact absurd HA.out (by simp [wageofficeref05_Round.j3])
                    | succ kj17 =>
                      have H := HA.out
                      clear HA
                      simp only [wageofficeref05_Round.j3] at H
                      have HC20 := Aside0.mk H
                      clear H
                      go_upto_region 11 with (fail)
                      go_cut [87] (fun v87 wc => ∃ (kq : Nat) (x87_19 : Bool), v87 = .bool x87_19 ∧ Aside0 (wageofficeref05_Round.j4 kq x11_17 x87_19 = some (r1, r2)) ∧ Aside0 (kq ≤ kj17) ∧ Aside0 (wc.heap[gb500]? = some (.cells #[.int .i64 a0_0, (.slice A0_1 l0_1.length c0_1)] 42 (0, 0))) ∧ Aside0 (Below w.heap.size w wc))
                      case first =>
                        have H := HC20.out
                        clear HC20
                        by_cases c21 : (wrap64 (t501 - (wrap64 (x11_13 * t502)))) = (wrap64 (t502 - (wrap64 (t501 - (wrap64 (x11_13 * t502))))))
                        · rw [if_pos c21] at H
                          have c21b0 : ((wrap64 (t501 - (wrap64 (x11_13 * t502)))) == (wrap64 (t502 - (wrap64 (t501 - (wrap64 (x11_13 * t502))))))) = true := beq_iff_eq.mpr c21
                          have c21b1 : ((wrap64 (t501 - (wrap64 (x11_13 * t502)))) != (wrap64 (t502 - (wrap64 (t501 - (wrap64 (x11_13 * t502))))))) = false := bne_eq_false_iff_eq.mpr c21
                          clear c21
                          (first | rw [c21b0] | (simp only [i64_w, i32_w]; rw [c21b0]) | skip)
                          by_cases c22 : a2 = 1
                          · rw [if_pos c22] at H
                            have c22b0 : (a2 == 1) = true := beq_iff_eq.mpr c22
                            have c22b1 : (a2 != 1) = false := bne_eq_false_iff_eq.mpr c22
                            clear c22
                            by_cases c23 : t501 > 0
                            · rw [if_pos c23] at H
                              have c23b0 : decide (0 < t501) = true := decide_eq_true c23
                              clear c23
                              have H' := Aside0.mk H
                              clear H
                              go_wp2
                              go_meet
                              case rel => exact ⟨_, (true), (by first | rfl | (simp; done) | (simp [*]; done)), H', ⟨by have := HJ4.out; have := HJ13.out; have := HJ15.out; have := HJ17.out; first | omega | exact Nat.le_refl _⟩, ⟨by (with_reducible repeat (first | refine blk_drewN ?_ _ | refine blk_drew ?_ | refine blk_alloc ?_ _)); exact BK500.out⟩, ⟨by repeat (first | (with_reducible first | exact HB.out | apply below_alloc | apply pw_below_drewN | apply below_drew1 | refine below_set ?_ GE500.out) | exact HB.out)⟩⟩
                            · rw [if_neg c23] at H
                              have c23b0 : decide (0 < t501) = false := decide_eq_false c23
                              clear c23
                              by_cases c24 : a2 = 2
                              · rw [if_pos c24] at H
                                have c24b0 : (a2 == 2) = true := beq_iff_eq.mpr c24
                                have c24b1 : (a2 != 2) = false := bne_eq_false_iff_eq.mpr c24
                                clear c24
                                by_cases c25 : (Int.tmod x11_17 2) = 1
                                · rw [if_pos c25] at H
                                  have c25b0 : ((Int.tmod x11_17 2) == 1) = true := beq_iff_eq.mpr c25
                                  have c25b1 : ((Int.tmod x11_17 2) != 1) = false := bne_eq_false_iff_eq.mpr c25
                                  clear c25
                                  have H' := Aside0.mk H
                                  clear H
                                  go_wp2
                                  go_meet
                                  case rel => exact ⟨_, (true), (by first | rfl | (simp; done) | (simp [*]; done)), H', ⟨by have := HJ4.out; have := HJ13.out; have := HJ15.out; have := HJ17.out; first | omega | exact Nat.le_refl _⟩, ⟨by (with_reducible repeat (first | refine blk_drewN ?_ _ | refine blk_drew ?_ | refine blk_alloc ?_ _)); exact BK500.out⟩, ⟨by repeat (first | (with_reducible first | exact HB.out | apply below_alloc | apply pw_below_drewN | apply below_drew1 | refine below_set ?_ GE500.out) | exact HB.out)⟩⟩
                                · rw [if_neg c25] at H
                                  have c25b0 : ((Int.tmod x11_17 2) == 1) = false := beq_eq_false_iff_ne.mpr c25
                                  have c25b1 : ((Int.tmod x11_17 2) != 1) = true := bne_iff_ne.mpr c25
                                  have H' := Aside0.mk H
                                  clear H
                                  go_wp2
                                  go_meet
                                  case rel => exact ⟨_, (((Int.tmod x11_17 2) == (-1))), (by first | rfl | (simp; done) | (simp [*]; done)), H', ⟨by have := HJ4.out; have := HJ13.out; have := HJ15.out; have := HJ17.out; first | omega | exact Nat.le_refl _⟩, ⟨by (with_reducible repeat (first | refine blk_drewN ?_ _ | refine blk_drew ?_ | refine blk_alloc ?_ _)); exact BK500.out⟩, ⟨by repeat (first | (with_reducible first | exact HB.out | apply below_alloc | apply pw_below_drewN | apply below_drew1 | refine below_set ?_ GE500.out) | exact HB.out)⟩⟩
                              · rw [if_neg c24] at H
                                have c24b0 : (a2 == 2) = false := beq_eq_false_iff_ne.mpr c24
                                have c24b1 : (a2 != 2) = true := bne_iff_ne.mpr c24
                                have H' := Aside0.mk H
                                clear H
                                go_wp2
                                go_meet
                                case rel => exact ⟨_, (false), (by first | rfl | (simp; done) | (simp [*]; done)), H', ⟨by have := HJ4.out; have := HJ13.out; have := HJ15.out; have := HJ17.out; first | omega | exact Nat.le_refl _⟩, ⟨by (with_reducible repeat (first | refine blk_drewN ?_ _ | refine blk_drew ?_ | refine blk_alloc ?_ _)); exact BK500.out⟩, ⟨by repeat (first | (with_reducible first | exact HB.out | apply below_alloc | apply pw_below_drewN | apply below_drew1 | refine below_set ?_ GE500.out) | exact HB.out)⟩⟩
                          · rw [if_neg c22] at H
                            have c22b0 : (a2 == 1) = false := beq_eq_false_iff_ne.mpr c22
                            have c22b1 : (a2 != 1) = true := bne_iff_ne.mpr c22
                            by_cases c26 : a2 = 2
                            · rw [if_pos c26] at H
                              have c26b0 : (a2 == 2) = true := beq_iff_eq.mpr c26
                              have c26b1 : (a2 != 2) = false := bne_eq_false_iff_eq.mpr c26
                              clear c26
                              by_cases c27 : (Int.tmod x11_17 2) = 1
                              · rw [if_pos c27] at H
                                have c27b0 : ((Int.tmod x11_17 2) == 1) = true := beq_iff_eq.mpr c27
                                have c27b1 : ((Int.tmod x11_17 2) != 1) = false := bne_eq_false_iff_eq.mpr c27
                                clear c27
                                have H' := Aside0.mk H
                                clear H
                                go_wp2
                                go_meet
                                case rel => exact ⟨_, (true), (by first | rfl | (simp; done) | (simp [*]; done)), H', ⟨by have := HJ4.out; have := HJ13.out; have := HJ15.out; have := HJ17.out; first | omega | exact Nat.le_refl _⟩, ⟨by (with_reducible repeat (first | refine blk_drewN ?_ _ | refine blk_drew ?_ | refine blk_alloc ?_ _)); exact BK500.out⟩, ⟨by repeat (first | (with_reducible first | exact HB.out | apply below_alloc | apply pw_below_drewN | apply below_drew1 | refine below_set ?_ GE500.out) | exact HB.out)⟩⟩
                              · rw [if_neg c27] at H
                                have c27b0 : ((Int.tmod x11_17 2) == 1) = false := beq_eq_false_iff_ne.mpr c27
                                have c27b1 : ((Int.tmod x11_17 2) != 1) = true := bne_iff_ne.mpr c27
                                have H' := Aside0.mk H
                                clear H
                                go_wp2
                                go_meet
                                case rel => exact ⟨_, (((Int.tmod x11_17 2) == (-1))), (by first | rfl | (simp; done) | (simp [*]; done)), H', ⟨by have := HJ4.out; have := HJ13.out; have := HJ15.out; have := HJ17.out; first | omega | exact Nat.le_refl _⟩, ⟨by (with_reducible repeat (first | refine blk_drewN ?_ _ | refine blk_drew ?_ | refine blk_alloc ?_ _)); exact BK500.out⟩, ⟨by repeat (first | (with_reducible first | exact HB.out | apply below_alloc | apply pw_below_drewN | apply below_drew1 | refine below_set ?_ GE500.out) | exact HB.out)⟩⟩
                            · rw [if_neg c26] at H
                              have c26b0 : (a2 == 2) = false := beq_eq_false_iff_ne.mpr c26
                              have c26b1 : (a2 != 2) = true := bne_iff_ne.mpr c26
                              have H' := Aside0.mk H
                              clear H
                              go_wp2
                              go_meet
                              case rel => exact ⟨_, (false), (by first | rfl | (simp; done) | (simp [*]; done)), H', ⟨by have := HJ4.out; have := HJ13.out; have := HJ15.out; have := HJ17.out; first | omega | exact Nat.le_refl _⟩, ⟨by (with_reducible repeat (first | refine blk_drewN ?_ _ | refine blk_drew ?_ | refine blk_alloc ?_ _)); exact BK500.out⟩, ⟨by repeat (first | (with_reducible first | exact HB.out | apply below_alloc | apply pw_below_drewN | apply below_drew1 | refine below_set ?_ GE500.out) | exact HB.out)⟩⟩
                        · rw [if_neg c21] at H
                          have c21b0 : ((wrap64 (t501 - (wrap64 (x11_13 * t502)))) == (wrap64 (t502 - (wrap64 (t501 - (wrap64 (x11_13 * t502))))))) = false := beq_eq_false_iff_ne.mpr c21
                          have c21b1 : ((wrap64 (t501 - (wrap64 (x11_13 * t502)))) != (wrap64 (t502 - (wrap64 (t501 - (wrap64 (x11_13 * t502))))))) = true := bne_iff_ne.mpr c21
                          (first | rw [c21b0] | (simp only [i64_w, i32_w]; rw [c21b0]) | skip)
                          have H' := Aside0.mk H
                          clear H
                          go_wp2
                          go_meet
                          case rel => exact ⟨_, (false), (by first | rfl | (simp; done) | (simp [*]; done)), H', ⟨by have := HJ4.out; have := HJ13.out; have := HJ15.out; have := HJ17.out; first | omega | exact Nat.le_refl _⟩, ⟨by (with_reducible repeat (first | refine blk_drewN ?_ _ | refine blk_drew ?_ | refine blk_alloc ?_ _)); exact BK500.out⟩, ⟨by repeat (first | (with_reducible first | exact HB.out | apply below_alloc | apply pw_below_drewN | apply below_drew1 | refine below_set ?_ GE500.out) | exact HB.out)⟩⟩
                      case rest =>
                        clear HC20
                        try clear c1
                        try clear c2
                        try clear p2
                        try clear c4
                        try clear c5
                        try clear p6
                        try clear c9
                        try clear c9b0
                        try clear c9b1
                        try clear c10
                        try clear c10b0
                        try clear c10b1
                        try clear c11
                        try clear c11b0
                        try clear c11b1
                        try clear c12
                        try clear c13
                        try clear c13b0
                        try clear c13b1
                        try clear c15
                        try clear c15b0
                        try clear c17
                        try clear c17b0
                        try clear c17b1
                        try clear c19
                        try clear c21
                        try clear c21b0
                        try clear c21b1
                        try clear c22
                        try clear c22b0
                        try clear c22b1
                        try clear c23
                        try clear c23b0
                        try clear c24
                        try clear c24b0
                        try clear c24b1
                        try clear c25
                        try clear c25b0
                        try clear c25b1
                        try clear c26
                        try clear c26b0
                        try clear c26b1
                        try clear c27
                        try clear c27b0
                        try clear c27b1
                        try clear hcz7_0
                        try clear hcz7_1
                        try clear hfz7_0
                        try clear hfz7_1
                        try clear p2
                        try clear p6
                        obtain ⟨kq, x87_19, rfl, HA, HJ19, BK500, HB⟩ := hcut
                        cases kq with
                        | zero => exact absurd HA.out (by simp [wageofficeref05_Round.j4])
                        | succ kj19 =>
                          have H := HA.out
                          clear HA
                          simp only [wageofficeref05_Round.j4] at H
                          by_cases c28 : x87_19 = true
                          · subst c28
                            have H1 : ((wageofficeref05_within.f (wrap64 (x11_17 + 1)) 1000000000000).bind fun t504 => (if t504 = true then (some (wrap64 (x11_17 + 1), 0)) else (some (0, 3)))) = some (r1, r2) := by rw [if_pos rfl] at H; exact H
                            clear H
                            have H := H1
                            clear H1
                            replace H := Option.bind_eq_some_iff.mp H
                            obtain ⟨t504, A290, H⟩ := H
                            replace H : (if t504 = true then (some (wrap64 (x11_17 + 1), 0)) else (some (0, 3))) = some (r1, r2) := H
                            have A29 := Aside0.mk A290
                            clear A290
                            by_cases c30 : t504 = true
                            · subst c30
                              have H1 : (some (wrap64 (x11_17 + 1), 0)) = some (r1, r2) := by rw [if_pos rfl] at H; exact H
                              clear H
                              have H := H1
                              clear H1
                              simp only [Option.some.injEq, Prod.mk.injEq] at H
                              obtain ⟨rfl, rfl⟩ := H
                              go_wp2_with (first | ((with_reducible refine gate_callee (f := 55) rfl ?_); refine goesL_ (some 91) rfl rfl Try.func55 (by kernel_rfl) rfl #[.int .i64 (wrap64 (x11_17 + 1)), .int .i64 1000000000000] rfl (by (try simp only [List.map_toArray, List.map_cons, List.map_nil]); first | done | rfl | (simp only [List.length_drop, List.length_take]; rfl)) ?_; (with_reducible refine (wageofficeref05_within.calls (wrap64 (x11_17 + 1)) 1000000000000 true _ A29.out).mono ?_); rintro e w' ⟨rfl, ⟨nd, rfl⟩⟩; refine ⟨_, rfl, ?_⟩))
                              go_ret2
                              exact ⟨by first | rfl | (simp [errW_none, errW_some] <;> rfl) | (simp [*, errW_none, errW_some] <;> rfl), by repeat (first | (with_reducible first | exact HB.out | apply below_alloc | apply pw_below_drewN | apply below_drew1 | refine below_set ?_ GE500.out) | exact HB.out)⟩
                            · replace c30 := Bool.eq_false_iff.mpr c30
                              subst c30
                              have H1 : (some (0, 3)) = some (r1, r2) := by rw [if_neg (show ¬ (false = true) by decide)] at H; exact H
                              clear H
                              have H := H1
                              clear H1
                              simp only [Option.some.injEq, Prod.mk.injEq] at H
                              obtain ⟨rfl, rfl⟩ := H
                              go_wp2_with (first | ((with_reducible refine gate_callee (f := 55) rfl ?_); refine goesL_ (some 91) rfl rfl Try.func55 (by kernel_rfl) rfl #[.int .i64 (wrap64 (x11_17 + 1)), .int .i64 1000000000000] rfl (by (try simp only [List.map_toArray, List.map_cons, List.map_nil]); first | done | rfl | (simp only [List.length_drop, List.length_take]; rfl)) ?_; (with_reducible refine (wageofficeref05_within.calls (wrap64 (x11_17 + 1)) 1000000000000 false _ A29.out).mono ?_); rintro e w' ⟨rfl, ⟨nd, rfl⟩⟩; refine ⟨_, rfl, ?_⟩))
                              go_ret2
                              exact ⟨by first | rfl | (simp [errW_none, errW_some] <;> rfl) | (simp [*, errW_none, errW_some] <;> rfl), by repeat (first | (with_reducible first | exact HB.out | apply below_alloc | apply pw_below_drewN | apply below_drew1 | refine below_set ?_ GE500.out) | exact HB.out)⟩
                          · replace c28 := Bool.eq_false_iff.mpr c28
                            subst c28
                            have H1 : ((wageofficeref05_within.f x11_17 1000000000000).bind fun t505 => (if t505 = true then (some (x11_17, 0)) else (some (0, 3)))) = some (r1, r2) := by rw [if_neg (show ¬ (false = true) by decide)] at H; exact H
                            clear H
                            have H := H1
                            clear H1
                            replace H := Option.bind_eq_some_iff.mp H
                            obtain ⟨t505, A310, H⟩ := H
                            replace H : (if t505 = true then (some (x11_17, 0)) else (some (0, 3))) = some (r1, r2) := H
                            have A31 := Aside0.mk A310
                            clear A310
                            by_cases c32 : t505 = true
                            · subst c32
                              have H1 : (some (x11_17, 0)) = some (r1, r2) := by rw [if_pos rfl] at H; exact H
                              clear H
                              have H := H1
                              clear H1
                              simp only [Option.some.injEq, Prod.mk.injEq] at H
                              obtain ⟨rfl, rfl⟩ := H
                              go_wp2_with (first | ((with_reducible refine gate_callee (f := 55) rfl ?_); refine goesL_ (some 91) rfl rfl Try.func55 (by kernel_rfl) rfl #[.int .i64 x11_17, .int .i64 1000000000000] rfl (by (try simp only [List.map_toArray, List.map_cons, List.map_nil]); first | done | rfl | (simp only [List.length_drop, List.length_take]; rfl)) ?_; (with_reducible refine (wageofficeref05_within.calls x11_17 1000000000000 true _ A31.out).mono ?_); rintro e w' ⟨rfl, ⟨nd, rfl⟩⟩; refine ⟨_, rfl, ?_⟩))
                              go_ret2
                              exact ⟨by first | rfl | (simp [errW_none, errW_some] <;> rfl) | (simp [*, errW_none, errW_some] <;> rfl), by repeat (first | (with_reducible first | exact HB.out | apply below_alloc | apply pw_below_drewN | apply below_drew1 | refine below_set ?_ GE500.out) | exact HB.out)⟩
                            · replace c32 := Bool.eq_false_iff.mpr c32
                              subst c32
                              have H1 : (some (0, 3)) = some (r1, r2) := by rw [if_neg (show ¬ (false = true) by decide)] at H; exact H
                              clear H
                              have H := H1
                              clear H1
                              simp only [Option.some.injEq, Prod.mk.injEq] at H
                              obtain ⟨rfl, rfl⟩ := H
                              go_wp2_with (first | ((with_reducible refine gate_callee (f := 55) rfl ?_); refine goesL_ (some 91) rfl rfl Try.func55 (by kernel_rfl) rfl #[.int .i64 x11_17, .int .i64 1000000000000] rfl (by (try simp only [List.map_toArray, List.map_cons, List.map_nil]); first | done | rfl | (simp only [List.length_drop, List.length_take]; rfl)) ?_; (with_reducible refine (wageofficeref05_within.calls x11_17 1000000000000 false _ A31.out).mono ?_); rintro e w' ⟨rfl, ⟨nd, rfl⟩⟩; refine ⟨_, rfl, ?_⟩))
                              go_ret2
                              exact ⟨by first | rfl | (simp [errW_none, errW_some] <;> rfl) | (simp [*, errW_none, errW_some] <;> rfl), by repeat (first | (with_reducible first | exact HB.out | apply below_alloc | apply pw_below_drewN | apply below_drew1 | refine below_set ?_ GE500.out) | exact HB.out)⟩

end Go.Proofs.Ytnadfkhllfgoiaa.My
