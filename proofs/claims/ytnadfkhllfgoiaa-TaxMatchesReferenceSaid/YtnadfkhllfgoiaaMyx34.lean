-- Written by a program of this session (wip/myprint.py), which drives the kit's print over hand-written fragments. Not trusted: Lean checks it.
import Derived.Test.YtnadfkhllfgoiaaMyx0
import Derived.Test.YtnadfkhllfgoiaaMyx32
import Derived.Test.YtnadfkhllfgoiaaMyx38
import Derived.Test.YtnadfkhllfgoiaaMyx40
namespace Go.Proofs.Ytnadfkhllfgoiaa.My
open Go.Proofs.Ytnadfkhllfgoiaa.Aid Go.Proofs.Ytnadfkhllfgoiaa.KdX
open Go.RowKit Go.Proofs.YtnadfkhllfgoiaaW.PrintWords Go.Proofs.YtnadfkhllfgoiaaW.PrintLast Go.Proofs.YtnadfkhllfgoiaaW.PrintMore
attribute [local go_sem] max2_int min2_int max_two min_two max_three min_three max_four min_four   -- for this text's walks alone
set_option linter.unusedVariables false
set_option linter.unusedSimpArgs false

/-! ### wageofficeref28_Month: function 34 -/
def wageofficeref28_Month.j0 : Nat → Int → Int → Int → Bool → Int → Int → List (S75) → Option (Int × Int)
  | 0, _, _, _, _, _, _, _ => none
  | k + 1, x1, x2, x3, x30, x512000, x512001, x512002 => if x30 = true then (some (0, 1)) else ((wageofficeref28_In.f (wrap64 (x1 + x3))).bind fun t516 => (if t516 = true then ((wageofficeref28_Year.f k x512000 x512001 x512002 (wrap64 (x1 + x3))).bind fun bt517 => (if bt517.2 = 0 then ((wageofficeref28_In.f (wrap64 (bt517.1 - x2))).bind fun t519 => (if t519 = true then (some (wrap64 (bt517.1 - x2), 0)) else (some (0, 3)))) else (some (0, bt517.2)))) else (some (0, 3))))
def wageofficeref28_Month.f (k : Nat) (a0_0 : Int) (a0_1 : Int) (l0_2 : List (S75)) (a1 : Int) (a2 : Int) (a3 : Int) : Option (Int × Int) := (wageofficeref05_Valid.f k a0_1 l0_2).bind fun t512 => (if t512 = true then ((wageofficeref28_In.f a1).bind fun t513 => (if t513 = true then ((wageofficeref28_In.f a2).bind fun t514 => (if t514 = true then ((wageofficeref28_In.f a3).bind fun t515 => (wageofficeref28_Month.j0 k a1 a2 a3 (!t515) a0_0 a0_1 l0_2)) else (wageofficeref28_Month.j0 k a1 a2 a3 true a0_0 a0_1 l0_2))) else (wageofficeref28_Month.j0 k a1 a2 a3 true a0_0 a0_1 l0_2))) else (wageofficeref28_Month.j0 k a1 a2 a3 true a0_0 a0_1 l0_2))
theorem wageofficeref28_Month.mono_l : ∀ k, (∀ y0 y1 y2 y3 y4 y5 y6, LeO (wageofficeref28_Month.j0 k y0 y1 y2 y3 y4 y5 y6) (wageofficeref28_Month.j0 (k + 1) y0 y1 y2 y3 y4 y5 y6))
  | 0 => fun _ _ _ _ _ _ _ r h => by simp [wageofficeref28_Month.j0] at h
  | k + 1 => by
    have ih0 := wageofficeref28_Month.mono_l k
    · intro y0 y1 y2 y3 y4 y5 y6
      unfold wageofficeref28_Month.j0
      repeat' first
      | (with_reducible exact ih0 _ _ _ _ _ _ _)
      | (with_reducible exact wageofficeref05_Valid.mono _ _ _)
      | (with_reducible exact wageofficeref28_Year.mono _ _ _ _ _)
      | (with_reducible exact LeO.refl _)
      | (with_reducible exact LeO.none _)
      | (with_reducible refine LeO.ite ?_ ?_)
      | (with_reducible refine LeO.bind ?_ (fun _ => ?_))
      | exact ih0 _ _ _ _ _ _ _
      | exact wageofficeref05_Valid.mono _ _ _
      | exact wageofficeref28_Year.mono _ _ _ _ _
      | exact LeO.none _
      | refine LeO.ite ?_ ?_
      | refine LeO.bind ?_ (fun _ => ?_)
theorem wageofficeref28_Month.mono : ∀ a0 a1 a2 a3 a4 a5 k, LeO (wageofficeref28_Month.f k a0 a1 a2 a3 a4 a5) (wageofficeref28_Month.f (k + 1) a0 a1 a2 a3 a4 a5) := by
  intro a0 a1 a2 a3 a4 a5 k
  have ih0 := wageofficeref28_Month.mono_l k
  unfold wageofficeref28_Month.f
  repeat' first
      | (with_reducible exact ih0 _ _ _ _ _ _ _)
      | (with_reducible exact wageofficeref05_Valid.mono _ _ _)
      | (with_reducible exact wageofficeref28_Year.mono _ _ _ _ _)
      | (with_reducible exact LeO.refl _)
      | (with_reducible exact LeO.none _)
      | (with_reducible refine LeO.ite ?_ ?_)
      | (with_reducible refine LeO.bind ?_ (fun _ => ?_))
      | exact ih0 _ _ _ _ _ _ _
      | exact wageofficeref05_Valid.mono _ _ _
      | exact wageofficeref28_Year.mono _ _ _ _ _
      | exact LeO.none _
      | refine LeO.ite ?_ ?_
      | refine LeO.bind ?_ (fun _ => ?_)
set_option maxHeartbeats 8000000 in
set_option maxRecDepth 100000 in
theorem wageofficeref28_Month.calls (k : Nat) (a0_0 : Int) (a0_1 : Int) (A0_2 : Option Addr) (c0_2 : Nat) (l0_2 : List (S75)) (a1 : Int) (a2 : Int) (a3 : Int) (r1 : Int) (r2 : Int) (w : World) (hr0_2 : Kd.C k75 w A0_2 l0_2.length l0_2) (hc0_2 : l0_2.length ≤ c0_2) (h : wageofficeref28_Month.f k a0_0 a0_1 l0_2 a1 a2 a3 = some (r1, r2)) :
    Calls Try.prog 34 #[.agg #[.int .i64 a0_0, .int .i64 a0_1, .slice A0_2 l0_2.length c0_2], .int .i64 a1, .int .i64 a2, .int .i64 a3] w fun e w' => e = .returned (.tuple #[.int .i64 r1, .int .i64 r2]) ∧ Below w.heap.size w w' := by
  have hu44 := Try.underlying44
  have hu42 := Try.underlying42
  have HR0_2 := Aside0.mk hr0_2
  have HC0_2 := Aside0.mk hc0_2
  clear hr0_2 hc0_2
  have HB := Aside0.mk (Below.refl w.heap.size w)
  have H : ((wageofficeref05_Valid.f k a0_1 l0_2).bind fun t512 => (if t512 = true then ((wageofficeref28_In.f a1).bind fun t513 => (if t513 = true then ((wageofficeref28_In.f a2).bind fun t514 => (if t514 = true then ((wageofficeref28_In.f a3).bind fun t515 => (wageofficeref28_Month.j0 k a1 a2 a3 (!t515) a0_0 a0_1 l0_2)) else (wageofficeref28_Month.j0 k a1 a2 a3 true a0_0 a0_1 l0_2))) else (wageofficeref28_Month.j0 k a1 a2 a3 true a0_0 a0_1 l0_2))) else (wageofficeref28_Month.j0 k a1 a2 a3 true a0_0 a0_1 l0_2))) = some (r1, r2) := h
  clear h
  have HC5 := Aside0.mk H
  clear H
  go_enter Try.func34, Try.ntmps34
  go_upto_region 1 with (first | ((with_reducible refine gate_dst (N := 4) rfl ?_); refine box_event ?hg (N := 4) ?hd (cs := #[.int .i64 a0_0, .int .i64 a0_1, .slice A0_2 l0_2.length c0_2]) (t := 44) ?hr ?_; (case hd => rfl); (case hg => rfl); (case hr => first | (go_simp; done) | (go_simp; rfl)); intro gb511 hg w6 hbox hb; have n0_ := Aside0.mk (below_step (by repeat (first | (with_reducible first | exact HB.out | apply below_alloc | apply pw_below_drewN | apply below_drew1) | exact HB.out)) hb); have n1_ := Aside0.mk (hbox); have n2_ := Aside0.mk ((by rw [hg]; exact (below_size (by repeat (first | (with_reducible first | exact HB.out | apply below_alloc | apply pw_below_drewN | apply below_drew1) | exact HB.out))) : w.heap.size ≤ gb511)); have n3_ := Aside0.mk ((by rw [hg]; exact (below_size (by repeat (first | (with_reducible first | exact HB.out | apply below_alloc | apply pw_below_drewN | apply below_drew1) | exact HB.out))) : w.heap.size ≤ gb511)); clear HB; have HB := n0_; have BK511 := n1_; have GW511 := n2_; have GE511 := n3_; clear n0_ n1_ n2_ n3_; clear hb hbox hg))
  (try simp only [Act.put, List.setIfInBounds_toArray, List.set_cons_zero, List.set_cons_succ])
  go_cut [30] (fun v30 wc => ∃ (kq : Nat) (x30_4 : Bool), v30 = .bool x30_4 ∧ Aside0 (wageofficeref28_Month.j0 kq a1 a2 a3 x30_4 a0_0 a0_1 l0_2 = some (r1, r2)) ∧ Aside0 (kq ≤ k) ∧ Aside0 (wc.heap[gb511]? = some (.cells #[.int .i64 a0_0, .int .i64 a0_1, (.slice A0_2 l0_2.length c0_2)] 44 (0, 0))) ∧ Aside0 (Below w.heap.size w wc))
  case first =>
    have H := HC5.out
    clear HC5
    replace H := Option.bind_eq_some_iff.mp H
    obtain ⟨t512, A70, H⟩ := H
    replace H : (if t512 = true then ((wageofficeref28_In.f a1).bind fun t513 => (if t513 = true then ((wageofficeref28_In.f a2).bind fun t514 => (if t514 = true then ((wageofficeref28_In.f a3).bind fun t515 => (wageofficeref28_Month.j0 k a1 a2 a3 (!t515) a0_0 a0_1 l0_2)) else (wageofficeref28_Month.j0 k a1 a2 a3 true a0_0 a0_1 l0_2))) else (wageofficeref28_Month.j0 k a1 a2 a3 true a0_0 a0_1 l0_2))) else (wageofficeref28_Month.j0 k a1 a2 a3 true a0_0 a0_1 l0_2)) = some (r1, r2) := H
    have A7 := Aside0.mk A70
    clear A70
    by_cases c8 : t512 = true
    · subst c8
      have H1 : ((wageofficeref28_In.f a1).bind fun t513 => (if t513 = true then ((wageofficeref28_In.f a2).bind fun t514 => (if t514 = true then ((wageofficeref28_In.f a3).bind fun t515 => (wageofficeref28_Month.j0 k a1 a2 a3 (!t515) a0_0 a0_1 l0_2)) else (wageofficeref28_Month.j0 k a1 a2 a3 true a0_0 a0_1 l0_2))) else (wageofficeref28_Month.j0 k a1 a2 a3 true a0_0 a0_1 l0_2))) = some (r1, r2) := by rw [if_pos rfl] at H; exact H
      clear H
      have H := H1
      clear H1
      replace H := Option.bind_eq_some_iff.mp H
      obtain ⟨t513, A90, H⟩ := H
      replace H : (if t513 = true then ((wageofficeref28_In.f a2).bind fun t514 => (if t514 = true then ((wageofficeref28_In.f a3).bind fun t515 => (wageofficeref28_Month.j0 k a1 a2 a3 (!t515) a0_0 a0_1 l0_2)) else (wageofficeref28_Month.j0 k a1 a2 a3 true a0_0 a0_1 l0_2))) else (wageofficeref28_Month.j0 k a1 a2 a3 true a0_0 a0_1 l0_2)) = some (r1, r2) := H
      have A9 := Aside0.mk A90
      clear A90
      by_cases c10 : t513 = true
      · subst c10
        have H1 : ((wageofficeref28_In.f a2).bind fun t514 => (if t514 = true then ((wageofficeref28_In.f a3).bind fun t515 => (wageofficeref28_Month.j0 k a1 a2 a3 (!t515) a0_0 a0_1 l0_2)) else (wageofficeref28_Month.j0 k a1 a2 a3 true a0_0 a0_1 l0_2))) = some (r1, r2) := by rw [if_pos rfl] at H; exact H
        clear H
        have H := H1
        clear H1
        replace H := Option.bind_eq_some_iff.mp H
        obtain ⟨t514, A110, H⟩ := H
        replace H : (if t514 = true then ((wageofficeref28_In.f a3).bind fun t515 => (wageofficeref28_Month.j0 k a1 a2 a3 (!t515) a0_0 a0_1 l0_2)) else (wageofficeref28_Month.j0 k a1 a2 a3 true a0_0 a0_1 l0_2)) = some (r1, r2) := H
        have A11 := Aside0.mk A110
        clear A110
        by_cases c12 : t514 = true
        · subst c12
          have H1 : ((wageofficeref28_In.f a3).bind fun t515 => (wageofficeref28_Month.j0 k a1 a2 a3 (!t515) a0_0 a0_1 l0_2)) = some (r1, r2) := by rw [if_pos rfl] at H; exact H
          clear H
          have H := H1
          clear H1
          replace H := Option.bind_eq_some_iff.mp H
          obtain ⟨t515, A130, H⟩ := H
          replace H : (wageofficeref28_Month.j0 k a1 a2 a3 (!t515) a0_0 a0_1 l0_2) = some (r1, r2) := H
          have A13 := Aside0.mk A130
          clear A130
          have H' := Aside0.mk H
          clear H
          have hcz14_0 : w6.cell? ⟨gb511, 0, none⟩ = some (.int .i64 a0_0) := (blk_cell BK511.out 0).trans rfl
          have hcz14_1 : w6.cell? ⟨gb511, 1, none⟩ = some (.int .i64 a0_1) := (blk_cell BK511.out 1).trans rfl
          have hcz14_2 : w6.cell? ⟨gb511, 2, none⟩ = some (.slice A0_2 l0_2.length c0_2) := (blk_cell BK511.out 2).trans rfl
          have hfz14_0 := blk_frozen BK511.out 0
          have hfz14_1 := blk_frozen BK511.out 1
          have hfz14_2 := blk_frozen BK511.out 2
          go_wp2_with (first | ((with_reducible refine gate_callee (f := 38) rfl ?_); refine goesL_ (some 14) rfl rfl Try.func38 (by kernel_rfl) rfl #[.agg #[.int .i64 a0_1, .slice A0_2 l0_2.length c0_2]] rfl (by (try simp only [List.map_toArray, List.map_cons, List.map_nil]); first | done | rfl | (simp only [List.length_drop, List.length_take]; rfl)) ?_; (with_reducible refine (wageofficeref05_Valid.calls k a0_1 _ _ l0_2 true _ ?side1 ?side2 A7.out).mono ?_); (case side1 => repeat (first | exact (Kd.C_below HR0_2.out HB.out) | (with_reducible refine Kd.C_alloc ?_ _) | (with_reducible refine Kd.C_drewN ?_ _) | (with_reducible refine Kd.C_drew ?_))); (case side2 => exact HC0_2.out); rintro e w15 ⟨rfl, hb⟩; refine ⟨_, rfl, ?_⟩; have n0_ := Aside0.mk (blk_below (g := gb511) (o := .cells #[.int .i64 a0_0, .int .i64 a0_1, .slice A0_2 l0_2.length c0_2] 44 (0, 0)) (by (with_reducible repeat (first | refine blk_drewN ?_ _ | refine blk_drew ?_ | refine blk_alloc ?_ _)); exact BK511.out) hb); have n1_ := Aside0.mk (below_step (by repeat (first | (with_reducible first | exact HB.out | apply below_alloc | apply pw_below_drewN | apply below_drew1 | refine below_set ?_ GE511.out) | exact HB.out)) hb); clear BK511; clear HB; have BK511 := n0_; have HB := n1_; clear n0_ n1_; (try clear hb); (try clear hb2); (try clear hk); (try clear hi)) | (go_at_call 40; (with_reducible refine (wageofficeref28_In.calls a1 true _ A9.out).mono ?_); rintro e w' ⟨rfl, ⟨nd, rfl⟩⟩) | (go_at_call 40; (with_reducible refine (wageofficeref28_In.calls a2 true _ A11.out).mono ?_); rintro e w' ⟨rfl, ⟨nd, rfl⟩⟩) | (go_at_call 40; (with_reducible refine (wageofficeref28_In.calls a3 t515 _ A13.out).mono ?_); rintro e w' ⟨rfl, ⟨nd, rfl⟩⟩))
          go_meet
          case rel => exact ⟨_, (!t515), (by first | rfl | (simp; done) | (simp [*]; done)), H', ⟨by first | omega | exact Nat.le_refl _⟩, ⟨by (with_reducible repeat (first | refine blk_drewN ?_ _ | refine blk_drew ?_ | refine blk_alloc ?_ _)); exact BK511.out⟩, ⟨by repeat (first | (with_reducible first | exact HB.out | apply below_alloc | apply pw_below_drewN | apply below_drew1 | refine below_set ?_ GE511.out) | exact HB.out)⟩⟩
        · replace c12 := Bool.eq_false_iff.mpr c12
          subst c12
          have H1 : (wageofficeref28_Month.j0 k a1 a2 a3 true a0_0 a0_1 l0_2) = some (r1, r2) := by rw [if_neg (show ¬ (false = true) by decide)] at H; exact H
          clear H
          have H := H1
          clear H1
          have H' := Aside0.mk H
          clear H
          have hcz16_0 : w6.cell? ⟨gb511, 0, none⟩ = some (.int .i64 a0_0) := (blk_cell BK511.out 0).trans rfl
          have hcz16_1 : w6.cell? ⟨gb511, 1, none⟩ = some (.int .i64 a0_1) := (blk_cell BK511.out 1).trans rfl
          have hcz16_2 : w6.cell? ⟨gb511, 2, none⟩ = some (.slice A0_2 l0_2.length c0_2) := (blk_cell BK511.out 2).trans rfl
          have hfz16_0 := blk_frozen BK511.out 0
          have hfz16_1 := blk_frozen BK511.out 1
          have hfz16_2 := blk_frozen BK511.out 2
          go_wp2_with (first | ((with_reducible refine gate_callee (f := 38) rfl ?_); refine goesL_ (some 14) rfl rfl Try.func38 (by kernel_rfl) rfl #[.agg #[.int .i64 a0_1, .slice A0_2 l0_2.length c0_2]] rfl (by (try simp only [List.map_toArray, List.map_cons, List.map_nil]); first | done | rfl | (simp only [List.length_drop, List.length_take]; rfl)) ?_; (with_reducible refine (wageofficeref05_Valid.calls k a0_1 _ _ l0_2 true _ ?side1 ?side2 A7.out).mono ?_); (case side1 => repeat (first | exact (Kd.C_below HR0_2.out HB.out) | (with_reducible refine Kd.C_alloc ?_ _) | (with_reducible refine Kd.C_drewN ?_ _) | (with_reducible refine Kd.C_drew ?_))); (case side2 => exact HC0_2.out); rintro e w17 ⟨rfl, hb⟩; refine ⟨_, rfl, ?_⟩; have n0_ := Aside0.mk (blk_below (g := gb511) (o := .cells #[.int .i64 a0_0, .int .i64 a0_1, .slice A0_2 l0_2.length c0_2] 44 (0, 0)) (by (with_reducible repeat (first | refine blk_drewN ?_ _ | refine blk_drew ?_ | refine blk_alloc ?_ _)); exact BK511.out) hb); have n1_ := Aside0.mk (below_step (by repeat (first | (with_reducible first | exact HB.out | apply below_alloc | apply pw_below_drewN | apply below_drew1 | refine below_set ?_ GE511.out) | exact HB.out)) hb); clear BK511; clear HB; have BK511 := n0_; have HB := n1_; clear n0_ n1_; (try clear hb); (try clear hb2); (try clear hk); (try clear hi)) | (go_at_call 40; (with_reducible refine (wageofficeref28_In.calls a1 true _ A9.out).mono ?_); rintro e w' ⟨rfl, ⟨nd, rfl⟩⟩) | (go_at_call 40; (with_reducible refine (wageofficeref28_In.calls a2 false _ A11.out).mono ?_); rintro e w' ⟨rfl, ⟨nd, rfl⟩⟩))
          go_meet
          case rel => exact ⟨_, (true), (by first | rfl | (simp; done) | (simp [*]; done)), H', ⟨by first | omega | exact Nat.le_refl _⟩, ⟨by (with_reducible repeat (first | refine blk_drewN ?_ _ | refine blk_drew ?_ | refine blk_alloc ?_ _)); exact BK511.out⟩, ⟨by repeat (first | (with_reducible first | exact HB.out | apply below_alloc | apply pw_below_drewN | apply below_drew1 | refine below_set ?_ GE511.out) | exact HB.out)⟩⟩
      · replace c10 := Bool.eq_false_iff.mpr c10
        subst c10
        have H1 : (wageofficeref28_Month.j0 k a1 a2 a3 true a0_0 a0_1 l0_2) = some (r1, r2) := by rw [if_neg (show ¬ (false = true) by decide)] at H; exact H
        clear H
        have H := H1
        clear H1
        have H' := Aside0.mk H
        clear H
        have hcz18_0 : w6.cell? ⟨gb511, 0, none⟩ = some (.int .i64 a0_0) := (blk_cell BK511.out 0).trans rfl
        have hcz18_1 : w6.cell? ⟨gb511, 1, none⟩ = some (.int .i64 a0_1) := (blk_cell BK511.out 1).trans rfl
        have hcz18_2 : w6.cell? ⟨gb511, 2, none⟩ = some (.slice A0_2 l0_2.length c0_2) := (blk_cell BK511.out 2).trans rfl
        have hfz18_0 := blk_frozen BK511.out 0
        have hfz18_1 := blk_frozen BK511.out 1
        have hfz18_2 := blk_frozen BK511.out 2
        go_wp2_with (first | ((with_reducible refine gate_callee (f := 38) rfl ?_); refine goesL_ (some 14) rfl rfl Try.func38 (by kernel_rfl) rfl #[.agg #[.int .i64 a0_1, .slice A0_2 l0_2.length c0_2]] rfl (by (try simp only [List.map_toArray, List.map_cons, List.map_nil]); first | done | rfl | (simp only [List.length_drop, List.length_take]; rfl)) ?_; (with_reducible refine (wageofficeref05_Valid.calls k a0_1 _ _ l0_2 true _ ?side1 ?side2 A7.out).mono ?_); (case side1 => repeat (first | exact (Kd.C_below HR0_2.out HB.out) | (with_reducible refine Kd.C_alloc ?_ _) | (with_reducible refine Kd.C_drewN ?_ _) | (with_reducible refine Kd.C_drew ?_))); (case side2 => exact HC0_2.out); rintro e w19 ⟨rfl, hb⟩; refine ⟨_, rfl, ?_⟩; have n0_ := Aside0.mk (blk_below (g := gb511) (o := .cells #[.int .i64 a0_0, .int .i64 a0_1, .slice A0_2 l0_2.length c0_2] 44 (0, 0)) (by (with_reducible repeat (first | refine blk_drewN ?_ _ | refine blk_drew ?_ | refine blk_alloc ?_ _)); exact BK511.out) hb); have n1_ := Aside0.mk (below_step (by repeat (first | (with_reducible first | exact HB.out | apply below_alloc | apply pw_below_drewN | apply below_drew1 | refine below_set ?_ GE511.out) | exact HB.out)) hb); clear BK511; clear HB; have BK511 := n0_; have HB := n1_; clear n0_ n1_; (try clear hb); (try clear hb2); (try clear hk); (try clear hi)) | (go_at_call 40; (with_reducible refine (wageofficeref28_In.calls a1 false _ A9.out).mono ?_); rintro e w' ⟨rfl, ⟨nd, rfl⟩⟩))
        go_meet
        case rel => exact ⟨_, (true), (by first | rfl | (simp; done) | (simp [*]; done)), H', ⟨by first | omega | exact Nat.le_refl _⟩, ⟨by (with_reducible repeat (first | refine blk_drewN ?_ _ | refine blk_drew ?_ | refine blk_alloc ?_ _)); exact BK511.out⟩, ⟨by repeat (first | (with_reducible first | exact HB.out | apply below_alloc | apply pw_below_drewN | apply below_drew1 | refine below_set ?_ GE511.out) | exact HB.out)⟩⟩
    · replace c8 := Bool.eq_false_iff.mpr c8
      subst c8
      have H1 : (wageofficeref28_Month.j0 k a1 a2 a3 true a0_0 a0_1 l0_2) = some (r1, r2) := by rw [if_neg (show ¬ (false = true) by decide)] at H; exact H
      clear H
      have H := H1
      clear H1
      have H' := Aside0.mk H
      clear H
      have hcz20_0 : w6.cell? ⟨gb511, 0, none⟩ = some (.int .i64 a0_0) := (blk_cell BK511.out 0).trans rfl
      have hcz20_1 : w6.cell? ⟨gb511, 1, none⟩ = some (.int .i64 a0_1) := (blk_cell BK511.out 1).trans rfl
      have hcz20_2 : w6.cell? ⟨gb511, 2, none⟩ = some (.slice A0_2 l0_2.length c0_2) := (blk_cell BK511.out 2).trans rfl
      have hfz20_0 := blk_frozen BK511.out 0
      have hfz20_1 := blk_frozen BK511.out 1
      have hfz20_2 := blk_frozen BK511.out 2
      go_wp2_with (first | ((with_reducible refine gate_callee (f := 38) rfl ?_); refine goesL_ (some 14) rfl rfl Try.func38 (by kernel_rfl) rfl #[.agg #[.int .i64 a0_1, .slice A0_2 l0_2.length c0_2]] rfl (by (try simp only [List.map_toArray, List.map_cons, List.map_nil]); first | done | rfl | (simp only [List.length_drop, List.length_take]; rfl)) ?_; (with_reducible refine (wageofficeref05_Valid.calls k a0_1 _ _ l0_2 false _ ?side1 ?side2 A7.out).mono ?_); (case side1 => repeat (first | exact (Kd.C_below HR0_2.out HB.out) | (with_reducible refine Kd.C_alloc ?_ _) | (with_reducible refine Kd.C_drewN ?_ _) | (with_reducible refine Kd.C_drew ?_))); (case side2 => exact HC0_2.out); rintro e w21 ⟨rfl, hb⟩; refine ⟨_, rfl, ?_⟩; have n0_ := Aside0.mk (blk_below (g := gb511) (o := .cells #[.int .i64 a0_0, .int .i64 a0_1, .slice A0_2 l0_2.length c0_2] 44 (0, 0)) (by (with_reducible repeat (first | refine blk_drewN ?_ _ | refine blk_drew ?_ | refine blk_alloc ?_ _)); exact BK511.out) hb); have n1_ := Aside0.mk (below_step (by repeat (first | (with_reducible first | exact HB.out | apply below_alloc | apply pw_below_drewN | apply below_drew1 | refine below_set ?_ GE511.out) | exact HB.out)) hb); clear BK511; clear HB; have BK511 := n0_; have HB := n1_; clear n0_ n1_; (try clear hb); (try clear hb2); (try clear hk); (try clear hi)))
      go_meet
      case rel => exact ⟨_, (true), (by first | rfl | (simp; done) | (simp [*]; done)), H', ⟨by first | omega | exact Nat.le_refl _⟩, ⟨by (with_reducible repeat (first | refine blk_drewN ?_ _ | refine blk_drew ?_ | refine blk_alloc ?_ _)); exact BK511.out⟩, ⟨by repeat (first | (with_reducible first | exact HB.out | apply below_alloc | apply pw_below_drewN | apply below_drew1 | refine below_set ?_ GE511.out) | exact HB.out)⟩⟩
  case rest =>
    clear HC5
    try clear c1
    try clear p2
    try clear c3
    try clear c8
    try clear c10
    try clear c12
    try clear hcz14_0
    try clear hcz14_1
    try clear hcz14_2
    try clear hcz16_0
    try clear hcz16_1
    try clear hcz16_2
    try clear hcz18_0
    try clear hcz18_1
    try clear hcz18_2
    try clear hcz20_0
    try clear hcz20_1
    try clear hcz20_2
    try clear hfz14_0
    try clear hfz14_1
    try clear hfz14_2
    try clear hfz16_0
    try clear hfz16_1
    try clear hfz16_2
    try clear hfz18_0
    try clear hfz18_1
    try clear hfz18_2
    try clear hfz20_0
    try clear hfz20_1
    try clear hfz20_2
    obtain ⟨kq, x30_4, rfl, HA, HJ4, BK511, HB⟩ := hcut
    cases kq with
    | zero => exact absurd HA.out (by simp [wageofficeref28_Month.j0])
    | succ kj4 =>
      have H := HA.out
      clear HA
      simp only [wageofficeref28_Month.j0] at H
      by_cases c22 : x30_4 = true
      · subst c22
        have H1 : (some (0, 1)) = some (r1, r2) := by rw [if_pos rfl] at H; exact H
        clear H
        have H := H1
        clear H1
        simp only [Option.some.injEq, Prod.mk.injEq] at H
        obtain ⟨rfl, rfl⟩ := H
        go_wp2
        go_ret2
        exact ⟨by first | rfl | (simp [errW_none, errW_some] <;> rfl) | (simp [*, errW_none, errW_some] <;> rfl), by repeat (first | (with_reducible first | exact HB.out | apply below_alloc | apply pw_below_drewN | apply below_drew1 | refine below_set ?_ GE511.out) | exact HB.out)⟩
      · replace c22 := Bool.eq_false_iff.mpr c22
        subst c22
        have H1 : ((wageofficeref28_In.f (wrap64 (a1 + a3))).bind fun t516 => (if t516 = true then ((wageofficeref28_Year.f kj4 a0_0 a0_1 l0_2 (wrap64 (a1 + a3))).bind fun bt517 => (if bt517.2 = 0 then ((wageofficeref28_In.f (wrap64 (bt517.1 - a2))).bind fun t519 => (if t519 = true then (some (wrap64 (bt517.1 - a2), 0)) else (some (0, 3)))) else (some (0, bt517.2)))) else (some (0, 3)))) = some (r1, r2) := by rw [if_neg (show ¬ (false = true) by decide)] at H; exact H
        clear H
        have H := H1
        clear H1
        replace H := Option.bind_eq_some_iff.mp H
        obtain ⟨t516, A230, H⟩ := H
        replace H : (if t516 = true then ((wageofficeref28_Year.f kj4 a0_0 a0_1 l0_2 (wrap64 (a1 + a3))).bind fun bt517 => (if bt517.2 = 0 then ((wageofficeref28_In.f (wrap64 (bt517.1 - a2))).bind fun t519 => (if t519 = true then (some (wrap64 (bt517.1 - a2), 0)) else (some (0, 3)))) else (some (0, bt517.2)))) else (some (0, 3))) = some (r1, r2) := H
        have A23 := Aside0.mk A230
        clear A230
        by_cases c24 : t516 = true
        · subst c24
          have H1 : ((wageofficeref28_Year.f kj4 a0_0 a0_1 l0_2 (wrap64 (a1 + a3))).bind fun bt517 => (if bt517.2 = 0 then ((wageofficeref28_In.f (wrap64 (bt517.1 - a2))).bind fun t519 => (if t519 = true then (some (wrap64 (bt517.1 - a2), 0)) else (some (0, 3)))) else (some (0, bt517.2)))) = some (r1, r2) := by rw [if_pos rfl] at H; exact H
          clear H
          have H := H1
          clear H1
          replace H := Option.bind_eq_some_iff.mp H
          obtain ⟨⟨t517, t518⟩, A250, H⟩ := H
          replace H : (if t518 = 0 then ((wageofficeref28_In.f (wrap64 (t517 - a2))).bind fun t519 => (if t519 = true then (some (wrap64 (t517 - a2), 0)) else (some (0, 3)))) else (some (0, t518))) = some (r1, r2) := H
          have A25 := Aside0.mk A250
          clear A250
          by_cases c26 : t518 = 0
          · rw [if_pos c26] at H
            have c26b0 : (t518 == 0) = true := beq_iff_eq.mpr c26
            have c26b1 : (t518 != 0) = false := bne_eq_false_iff_eq.mpr c26
            clear c26
            replace H := Option.bind_eq_some_iff.mp H
            obtain ⟨t519, A270, H⟩ := H
            replace H : (if t519 = true then (some (wrap64 (t517 - a2), 0)) else (some (0, 3))) = some (r1, r2) := H
            have A27 := Aside0.mk A270
            clear A270
            by_cases c28 : t519 = true
            · subst c28
              have H1 : (some (wrap64 (t517 - a2), 0)) = some (r1, r2) := by rw [if_pos rfl] at H; exact H
              clear H
              have H := H1
              clear H1
              simp only [Option.some.injEq, Prod.mk.injEq] at H
              obtain ⟨rfl, rfl⟩ := H
              go_wp2_with (first | ((with_reducible refine gate_callee (f := 40) rfl ?_); refine goesL_ (some 34) rfl rfl Try.func40 (by kernel_rfl) rfl #[.int .i64 (wrap64 (a1 + a3))] rfl (by (try simp only [List.map_toArray, List.map_cons, List.map_nil]); first | done | rfl | (simp only [List.length_drop, List.length_take]; rfl)) ?_; (with_reducible refine (wageofficeref28_In.calls (wrap64 (a1 + a3)) true _ A23.out).mono ?_); rintro e w' ⟨rfl, ⟨nd, rfl⟩⟩; refine ⟨_, rfl, ?_⟩; have hcz29_0 : wc.cell? ⟨gb511, 0, none⟩ = some (.int .i64 a0_0) := (blk_cell BK511.out 0).trans rfl; have hcz29_1 : wc.cell? ⟨gb511, 1, none⟩ = some (.int .i64 a0_1) := (blk_cell BK511.out 1).trans rfl; have hcz29_2 : wc.cell? ⟨gb511, 2, none⟩ = some (.slice A0_2 l0_2.length c0_2) := (blk_cell BK511.out 2).trans rfl; have hfz29_0 := blk_frozen BK511.out 0; have hfz29_1 := blk_frozen BK511.out 1; have hfz29_2 := blk_frozen BK511.out 2) | ((with_reducible refine gate_callee (f := 32) rfl ?_); refine goesL_ (some 41) rfl rfl Try.func32 (by kernel_rfl) rfl #[.agg #[.int .i64 a0_0, .int .i64 a0_1, .slice A0_2 l0_2.length c0_2], .int .i64 (wrap64 (a1 + a3))] rfl (by (try simp only [List.map_toArray, List.map_cons, List.map_nil]); first | done | rfl | (simp only [List.length_drop, List.length_take]; rfl)) ?_; (with_reducible refine (wageofficeref28_Year.calls kj4 a0_0 a0_1 _ _ l0_2 (wrap64 (a1 + a3)) t517 t518 _ ?side1 ?side2 A25.out).mono ?_); (case side1 => repeat (first | exact (Kd.C_below HR0_2.out (by repeat (first | (with_reducible first | exact HB.out | apply below_alloc | apply pw_below_drewN | apply below_drew1 | refine below_set ?_ GE511.out) | exact HB.out))) | (with_reducible refine Kd.C_alloc ?_ _) | (with_reducible refine Kd.C_drewN ?_ _) | (with_reducible refine Kd.C_drew ?_))); (case side2 => exact HC0_2.out); rintro e w30 ⟨rfl, hb⟩; refine ⟨_, rfl, ?_⟩; have n0_ := Aside0.mk (blk_below (g := gb511) (o := .cells #[.int .i64 a0_0, .int .i64 a0_1, .slice A0_2 l0_2.length c0_2] 44 (0, 0)) (by (with_reducible repeat (first | refine blk_drewN ?_ _ | refine blk_drew ?_ | refine blk_alloc ?_ _)); exact BK511.out) hb); have n1_ := Aside0.mk (below_step (by repeat (first | (with_reducible first | exact HB.out | apply below_alloc | apply pw_below_drewN | apply below_drew1 | refine below_set ?_ GE511.out) | exact HB.out)) hb); clear BK511; clear HB; have BK511 := n0_; have HB := n1_; clear n0_ n1_; (try clear hb); (try clear hb2); (try clear hk); (try clear hi)) | ((with_reducible refine gate_callee (f := 40) rfl ?_); refine goesL_ (some 50) rfl rfl Try.func40 (by kernel_rfl) rfl #[.int .i64 (wrap64 (t517 - a2))] rfl (by (try simp only [List.map_toArray, List.map_cons, List.map_nil]); first | done | rfl | (simp only [List.length_drop, List.length_take]; rfl)) ?_; (with_reducible refine (wageofficeref28_In.calls (wrap64 (t517 - a2)) true _ A27.out).mono ?_); rintro e w' ⟨rfl, ⟨nd, rfl⟩⟩; refine ⟨_, rfl, ?_⟩))
              go_ret2
              exact ⟨by first | rfl | (simp [errW_none, errW_some] <;> rfl) | (simp [*, errW_none, errW_some] <;> rfl), by repeat (first | (with_reducible first | exact HB.out | apply below_alloc | apply pw_below_drewN | apply below_drew1 | refine below_set ?_ GE511.out) | exact HB.out)⟩
            · replace c28 := Bool.eq_false_iff.mpr c28
              subst c28
              have H1 : (some (0, 3)) = some (r1, r2) := by rw [if_neg (show ¬ (false = true) by decide)] at H; exact H
              clear H
              have H := H1
              clear H1
              simp only [Option.some.injEq, Prod.mk.injEq] at H
              obtain ⟨rfl, rfl⟩ := H
              go_wp2_with (first | ((with_reducible refine gate_callee (f := 40) rfl ?_); refine goesL_ (some 34) rfl rfl Try.func40 (by kernel_rfl) rfl #[.int .i64 (wrap64 (a1 + a3))] rfl (by (try simp only [List.map_toArray, List.map_cons, List.map_nil]); first | done | rfl | (simp only [List.length_drop, List.length_take]; rfl)) ?_; (with_reducible refine (wageofficeref28_In.calls (wrap64 (a1 + a3)) true _ A23.out).mono ?_); rintro e w' ⟨rfl, ⟨nd, rfl⟩⟩; refine ⟨_, rfl, ?_⟩; have hcz31_0 : wc.cell? ⟨gb511, 0, none⟩ = some (.int .i64 a0_0) := (blk_cell BK511.out 0).trans rfl; have hcz31_1 : wc.cell? ⟨gb511, 1, none⟩ = some (.int .i64 a0_1) := (blk_cell BK511.out 1).trans rfl; have hcz31_2 : wc.cell? ⟨gb511, 2, none⟩ = some (.slice A0_2 l0_2.length c0_2) := (blk_cell BK511.out 2).trans rfl; have hfz31_0 := blk_frozen BK511.out 0; have hfz31_1 := blk_frozen BK511.out 1; have hfz31_2 := blk_frozen BK511.out 2) | ((with_reducible refine gate_callee (f := 32) rfl ?_); refine goesL_ (some 41) rfl rfl Try.func32 (by kernel_rfl) rfl #[.agg #[.int .i64 a0_0, .int .i64 a0_1, .slice A0_2 l0_2.length c0_2], .int .i64 (wrap64 (a1 + a3))] rfl (by (try simp only [List.map_toArray, List.map_cons, List.map_nil]); first | done | rfl | (simp only [List.length_drop, List.length_take]; rfl)) ?_; (with_reducible refine (wageofficeref28_Year.calls kj4 a0_0 a0_1 _ _ l0_2 (wrap64 (a1 + a3)) t517 t518 _ ?side1 ?side2 A25.out).mono ?_); (case side1 => repeat (first | exact (Kd.C_below HR0_2.out (by repeat (first | (with_reducible first | exact HB.out | apply below_alloc | apply pw_below_drewN | apply below_drew1 | refine below_set ?_ GE511.out) | exact HB.out))) | (with_reducible refine Kd.C_alloc ?_ _) | (with_reducible refine Kd.C_drewN ?_ _) | (with_reducible refine Kd.C_drew ?_))); (case side2 => exact HC0_2.out); rintro e w32 ⟨rfl, hb⟩; refine ⟨_, rfl, ?_⟩; have n0_ := Aside0.mk (blk_below (g := gb511) (o := .cells #[.int .i64 a0_0, .int .i64 a0_1, .slice A0_2 l0_2.length c0_2] 44 (0, 0)) (by (with_reducible repeat (first | refine blk_drewN ?_ _ | refine blk_drew ?_ | refine blk_alloc ?_ _)); exact BK511.out) hb); have n1_ := Aside0.mk (below_step (by repeat (first | (with_reducible first | exact HB.out | apply below_alloc | apply pw_below_drewN | apply below_drew1 | refine below_set ?_ GE511.out) | exact HB.out)) hb); clear BK511; clear HB; have BK511 := n0_; have HB := n1_; clear n0_ n1_; (try clear hb); (try clear hb2); (try clear hk); (try clear hi)) | ((with_reducible refine gate_callee (f := 40) rfl ?_); refine goesL_ (some 50) rfl rfl Try.func40 (by kernel_rfl) rfl #[.int .i64 (wrap64 (t517 - a2))] rfl (by (try simp only [List.map_toArray, List.map_cons, List.map_nil]); first | done | rfl | (simp only [List.length_drop, List.length_take]; rfl)) ?_; (with_reducible refine (wageofficeref28_In.calls (wrap64 (t517 - a2)) false _ A27.out).mono ?_); rintro e w' ⟨rfl, ⟨nd, rfl⟩⟩; refine ⟨_, rfl, ?_⟩))
              go_ret2
              exact ⟨by first | rfl | (simp [errW_none, errW_some] <;> rfl) | (simp [*, errW_none, errW_some] <;> rfl), by repeat (first | (with_reducible first | exact HB.out | apply below_alloc | apply pw_below_drewN | apply below_drew1 | refine below_set ?_ GE511.out) | exact HB.out)⟩
          · rw [if_neg c26] at H
            have c26b0 : (t518 == 0) = false := beq_eq_false_iff_ne.mpr c26
            have c26b1 : (t518 != 0) = true := bne_iff_ne.mpr c26
            simp only [Option.some.injEq, Prod.mk.injEq] at H
            obtain ⟨rfl, rfl⟩ := H
            go_wp2_with (first | ((with_reducible refine gate_callee (f := 40) rfl ?_); refine goesL_ (some 34) rfl rfl Try.func40 (by kernel_rfl) rfl #[.int .i64 (wrap64 (a1 + a3))] rfl (by (try simp only [List.map_toArray, List.map_cons, List.map_nil]); first | done | rfl | (simp only [List.length_drop, List.length_take]; rfl)) ?_; (with_reducible refine (wageofficeref28_In.calls (wrap64 (a1 + a3)) true _ A23.out).mono ?_); rintro e w' ⟨rfl, ⟨nd, rfl⟩⟩; refine ⟨_, rfl, ?_⟩; have hcz33_0 : wc.cell? ⟨gb511, 0, none⟩ = some (.int .i64 a0_0) := (blk_cell BK511.out 0).trans rfl; have hcz33_1 : wc.cell? ⟨gb511, 1, none⟩ = some (.int .i64 a0_1) := (blk_cell BK511.out 1).trans rfl; have hcz33_2 : wc.cell? ⟨gb511, 2, none⟩ = some (.slice A0_2 l0_2.length c0_2) := (blk_cell BK511.out 2).trans rfl; have hfz33_0 := blk_frozen BK511.out 0; have hfz33_1 := blk_frozen BK511.out 1; have hfz33_2 := blk_frozen BK511.out 2) | ((with_reducible refine gate_callee (f := 32) rfl ?_); refine goesL_ (some 41) rfl rfl Try.func32 (by kernel_rfl) rfl #[.agg #[.int .i64 a0_0, .int .i64 a0_1, .slice A0_2 l0_2.length c0_2], .int .i64 (wrap64 (a1 + a3))] rfl (by (try simp only [List.map_toArray, List.map_cons, List.map_nil]); first | done | rfl | (simp only [List.length_drop, List.length_take]; rfl)) ?_; (with_reducible refine (wageofficeref28_Year.calls kj4 a0_0 a0_1 _ _ l0_2 (wrap64 (a1 + a3)) t517 t518 _ ?side1 ?side2 A25.out).mono ?_); (case side1 => repeat (first | exact (Kd.C_below HR0_2.out (by repeat (first | (with_reducible first | exact HB.out | apply below_alloc | apply pw_below_drewN | apply below_drew1 | refine below_set ?_ GE511.out) | exact HB.out))) | (with_reducible refine Kd.C_alloc ?_ _) | (with_reducible refine Kd.C_drewN ?_ _) | (with_reducible refine Kd.C_drew ?_))); (case side2 => exact HC0_2.out); rintro e w34 ⟨rfl, hb⟩; refine ⟨_, rfl, ?_⟩; have n0_ := Aside0.mk (blk_below (g := gb511) (o := .cells #[.int .i64 a0_0, .int .i64 a0_1, .slice A0_2 l0_2.length c0_2] 44 (0, 0)) (by (with_reducible repeat (first | refine blk_drewN ?_ _ | refine blk_drew ?_ | refine blk_alloc ?_ _)); exact BK511.out) hb); have n1_ := Aside0.mk (below_step (by repeat (first | (with_reducible first | exact HB.out | apply below_alloc | apply pw_below_drewN | apply below_drew1 | refine below_set ?_ GE511.out) | exact HB.out)) hb); clear BK511; clear HB; have BK511 := n0_; have HB := n1_; clear n0_ n1_; (try clear hb); (try clear hb2); (try clear hk); (try clear hi)))
            go_ret2
            exact ⟨by first | rfl | (simp [errW_none, errW_some] <;> rfl) | (simp [*, errW_none, errW_some] <;> rfl), by repeat (first | (with_reducible first | exact HB.out | apply below_alloc | apply pw_below_drewN | apply below_drew1 | refine below_set ?_ GE511.out) | exact HB.out)⟩
        · replace c24 := Bool.eq_false_iff.mpr c24
          subst c24
          have H1 : (some (0, 3)) = some (r1, r2) := by rw [if_neg (show ¬ (false = true) by decide)] at H; exact H
          clear H
          have H := H1
          clear H1
          simp only [Option.some.injEq, Prod.mk.injEq] at H
          obtain ⟨rfl, rfl⟩ := H
          go_wp2_with (first | ((with_reducible refine gate_callee (f := 40) rfl ?_); refine goesL_ (some 34) rfl rfl Try.func40 (by kernel_rfl) rfl #[.int .i64 (wrap64 (a1 + a3))] rfl (by (try simp only [List.map_toArray, List.map_cons, List.map_nil]); first | done | rfl | (simp only [List.length_drop, List.length_take]; rfl)) ?_; (with_reducible refine (wageofficeref28_In.calls (wrap64 (a1 + a3)) false _ A23.out).mono ?_); rintro e w' ⟨rfl, ⟨nd, rfl⟩⟩; refine ⟨_, rfl, ?_⟩))
          go_ret2
          exact ⟨by first | rfl | (simp [errW_none, errW_some] <;> rfl) | (simp [*, errW_none, errW_some] <;> rfl), by repeat (first | (with_reducible first | exact HB.out | apply below_alloc | apply pw_below_drewN | apply below_drew1 | refine below_set ?_ GE511.out) | exact HB.out)⟩

end Go.Proofs.Ytnadfkhllfgoiaa.My
