-- Written by a program of this session (wip/myprint.py), which drives the kit's print over hand-written fragments. Not trusted: Lean checks it.
import Derived.Test.YtbmochegfdljfaaMyx0
import Derived.Test.YtbmochegfdljfaaMyx18
import Derived.Test.YtbmochegfdljfaaMyx21
import Derived.Test.YtbmochegfdljfaaMyx24
namespace Go.Proofs.Ytbmochegfdljfaa.My
open Go.Proofs.Ytbmochegfdljfaa.Aid Go.Proofs.Ytbmochegfdljfaa.KdX
open Go.RowKit Go.Proofs.YtbmochegfdljfaaW.PrintWords Go.Proofs.YtbmochegfdljfaaW.PrintLast Go.Proofs.YtbmochegfdljfaaW.PrintMore
attribute [local go_sem] max2_int min2_int max_two min_two max_three min_three max_four min_four   -- for this text's walks alone
set_option linter.unusedVariables false
set_option linter.unusedSimpArgs false

/-! ### wageofficelaw39_LedgerDifferences: function 9 -/
mutual
def wageofficelaw39_LedgerDifferences.j0 : Nat → ByteArray → Int → Int → Int → Bool → Bool → List (S26) → Option (Bool)
  | 0, _, _, _, _, _, _, _ => none
  | k + 1, x1, x2, x3, x4, x11, x29, x479000 => if x29 = true then (some x11) else (wageofficelaw39_LedgerDifferences.l0 k x1 x2 x3 x4 x11 0 0 x479000)
def wageofficelaw39_LedgerDifferences.l0 : Nat → ByteArray → Int → Int → Int → Bool → Int → Int → List (S26) → Option (Bool)
  | 0, _, _, _, _, _, _, _, _ => none
  | k + 1, x1, x2, x3, x4, x11, x12, x13, x479000 => if x13 < (x479000.length : Int) then (if 0 ≤ x13 then (if ((rd_T26 x479000 x13).f5) ≤ x3 then (wageofficelaw39_LedgerDifferences.j2 k x1 x2 x3 x4 x11 x12 x13 true x479000 ((rd_T26 x479000 x13).f0) ((rd_T26 x479000 x13).f1) ((rd_T26 x479000 x13).f2) ((rd_T26 x479000 x13).f3) ((rd_T26 x479000 x13).f4) ((rd_T26 x479000 x13).f5)) else (if ((rd_T26 x479000 x13).f5) > x4 then (wageofficelaw39_LedgerDifferences.j2 k x1 x2 x3 x4 x11 x12 x13 true x479000 ((rd_T26 x479000 x13).f0) ((rd_T26 x479000 x13).f1) ((rd_T26 x479000 x13).f2) ((rd_T26 x479000 x13).f3) ((rd_T26 x479000 x13).f4) ((rd_T26 x479000 x13).f5)) else (wageofficelaw39_LedgerDifferences.j2 k x1 x2 x3 x4 x11 x12 x13 (decide (((rd_T26 x479000 x13).f4) > x2)) x479000 ((rd_T26 x479000 x13).f0) ((rd_T26 x479000 x13).f1) ((rd_T26 x479000 x13).f2) ((rd_T26 x479000 x13).f3) ((rd_T26 x479000 x13).f4) ((rd_T26 x479000 x13).f5)))) else (none)) else (if x11 = true then ((ledger_Balance.f x479000 x1 x2 x4).bind fun t481 => ((ledger_Balance.f x479000 x1 x2 x3).bind fun t482 => (some ((wrap64 (t481 - t482)) == x12)))) else (some false))
def wageofficelaw39_LedgerDifferences.j2 : Nat → ByteArray → Int → Int → Int → Bool → Int → Int → Bool → List (S26) → Int → ByteArray → ByteArray → Int → Int → Int → Option (Bool)
  | 0, _, _, _, _, _, _, _, _, _, _, _, _, _, _, _ => none
  | k + 1, x1, x2, x3, x4, x11, x12, x13, x58, x479000, x485000, x485001, x485002, x485003, x485004, x485005 => if x58 = true then (wageofficelaw39_LedgerDifferences.l0 k x1 x2 x3 x4 x11 x12 (wrap64 (x13 + 1)) x479000) else (if x485001.toList = x1.toList then (if x485002.toList = x1.toList then (wageofficelaw39_LedgerDifferences.l0 k x1 x2 x3 x4 x11 (wrap64 ((wrap64 (x12 + x485003)) - x485003)) (wrap64 (x13 + 1)) x479000) else (wageofficelaw39_LedgerDifferences.l0 k x1 x2 x3 x4 x11 (wrap64 (x12 + x485003)) (wrap64 (x13 + 1)) x479000)) else (if x485002.toList = x1.toList then (wageofficelaw39_LedgerDifferences.l0 k x1 x2 x3 x4 x11 (wrap64 (x12 - x485003)) (wrap64 (x13 + 1)) x479000) else (wageofficelaw39_LedgerDifferences.l0 k x1 x2 x3 x4 x11 x12 (wrap64 (x13 + 1)) x479000)))
end
def wageofficelaw39_LedgerDifferences.f (k : Nat) (l0_0 : List (S26)) (a1 : ByteArray) (a2 : Int) (a3 : Int) (a4 : Int) : Option (Bool) := (wageofficelaw39_head.f k).bind fun t479 => (if (l0_0.length : Int) > 300 then (wageofficelaw39_LedgerDifferences.j0 k a1 a2 a3 a4 t479 true l0_0) else ((ledger_Valid.f l0_0).bind fun t480 => (if t480 = true then (wageofficelaw39_LedgerDifferences.j0 k a1 a2 a3 a4 t479 (decide (a3 > a4)) l0_0) else (wageofficelaw39_LedgerDifferences.j0 k a1 a2 a3 a4 t479 true l0_0))))
theorem wageofficelaw39_LedgerDifferences.mono_l : ∀ k, (∀ y0 y1 y2 y3 y4 y5 y6, LeO (wageofficelaw39_LedgerDifferences.j0 k y0 y1 y2 y3 y4 y5 y6) (wageofficelaw39_LedgerDifferences.j0 (k + 1) y0 y1 y2 y3 y4 y5 y6)) ∧ (∀ y0 y1 y2 y3 y4 y5 y6 y7, LeO (wageofficelaw39_LedgerDifferences.l0 k y0 y1 y2 y3 y4 y5 y6 y7) (wageofficelaw39_LedgerDifferences.l0 (k + 1) y0 y1 y2 y3 y4 y5 y6 y7)) ∧ (∀ y0 y1 y2 y3 y4 y5 y6 y7 y8 y9 y10 y11 y12 y13 y14, LeO (wageofficelaw39_LedgerDifferences.j2 k y0 y1 y2 y3 y4 y5 y6 y7 y8 y9 y10 y11 y12 y13 y14) (wageofficelaw39_LedgerDifferences.j2 (k + 1) y0 y1 y2 y3 y4 y5 y6 y7 y8 y9 y10 y11 y12 y13 y14))
  | 0 => ⟨fun _ _ _ _ _ _ _ r h => by simp [wageofficelaw39_LedgerDifferences.j0] at h, fun _ _ _ _ _ _ _ _ r h => by simp [wageofficelaw39_LedgerDifferences.l0] at h, fun _ _ _ _ _ _ _ _ _ _ _ _ _ _ _ r h => by simp [wageofficelaw39_LedgerDifferences.j2] at h⟩
  | k + 1 => by
    obtain ⟨ih0, ih1, ih2⟩ := wageofficelaw39_LedgerDifferences.mono_l k
    refine ⟨?_, ?_, ?_⟩
    · intro y0 y1 y2 y3 y4 y5 y6
      unfold wageofficelaw39_LedgerDifferences.j0
      repeat' first
      | (with_reducible exact ih0 _ _ _ _ _ _ _)
      | (with_reducible exact ih1 _ _ _ _ _ _ _ _)
      | (with_reducible exact ih2 _ _ _ _ _ _ _ _ _ _ _ _ _ _ _)
      | (with_reducible exact wageofficelaw39_head.mono _)
      | (with_reducible exact LeO.refl _)
      | (with_reducible exact LeO.none _)
      | (with_reducible refine LeO.ite ?_ ?_)
      | (with_reducible refine LeO.bind ?_ (fun _ => ?_))
      | exact ih0 _ _ _ _ _ _ _
      | exact ih1 _ _ _ _ _ _ _ _
      | exact ih2 _ _ _ _ _ _ _ _ _ _ _ _ _ _ _
      | exact wageofficelaw39_head.mono _
      | exact LeO.none _
      | refine LeO.ite ?_ ?_
      | refine LeO.bind ?_ (fun _ => ?_)
    · intro y0 y1 y2 y3 y4 y5 y6 y7
      unfold wageofficelaw39_LedgerDifferences.l0
      repeat' first
      | (with_reducible exact ih0 _ _ _ _ _ _ _)
      | (with_reducible exact ih1 _ _ _ _ _ _ _ _)
      | (with_reducible exact ih2 _ _ _ _ _ _ _ _ _ _ _ _ _ _ _)
      | (with_reducible exact wageofficelaw39_head.mono _)
      | (with_reducible exact LeO.refl _)
      | (with_reducible exact LeO.none _)
      | (with_reducible refine LeO.ite ?_ ?_)
      | (with_reducible refine LeO.bind ?_ (fun _ => ?_))
      | exact ih0 _ _ _ _ _ _ _
      | exact ih1 _ _ _ _ _ _ _ _
      | exact ih2 _ _ _ _ _ _ _ _ _ _ _ _ _ _ _
      | exact wageofficelaw39_head.mono _
      | exact LeO.none _
      | refine LeO.ite ?_ ?_
      | refine LeO.bind ?_ (fun _ => ?_)
    · intro y0 y1 y2 y3 y4 y5 y6 y7 y8 y9 y10 y11 y12 y13 y14
      unfold wageofficelaw39_LedgerDifferences.j2
      repeat' first
      | (with_reducible exact ih0 _ _ _ _ _ _ _)
      | (with_reducible exact ih1 _ _ _ _ _ _ _ _)
      | (with_reducible exact ih2 _ _ _ _ _ _ _ _ _ _ _ _ _ _ _)
      | (with_reducible exact wageofficelaw39_head.mono _)
      | (with_reducible exact LeO.refl _)
      | (with_reducible exact LeO.none _)
      | (with_reducible refine LeO.ite ?_ ?_)
      | (with_reducible refine LeO.bind ?_ (fun _ => ?_))
      | exact ih0 _ _ _ _ _ _ _
      | exact ih1 _ _ _ _ _ _ _ _
      | exact ih2 _ _ _ _ _ _ _ _ _ _ _ _ _ _ _
      | exact wageofficelaw39_head.mono _
      | exact LeO.none _
      | refine LeO.ite ?_ ?_
      | refine LeO.bind ?_ (fun _ => ?_)
theorem wageofficelaw39_LedgerDifferences.mono : ∀ a0 a1 a2 a3 a4 k, LeO (wageofficelaw39_LedgerDifferences.f k a0 a1 a2 a3 a4) (wageofficelaw39_LedgerDifferences.f (k + 1) a0 a1 a2 a3 a4) := by
  intro a0 a1 a2 a3 a4 k
  obtain ⟨ih0, ih1, ih2⟩ := wageofficelaw39_LedgerDifferences.mono_l k
  unfold wageofficelaw39_LedgerDifferences.f
  repeat' first
      | (with_reducible exact ih0 _ _ _ _ _ _ _)
      | (with_reducible exact ih1 _ _ _ _ _ _ _ _)
      | (with_reducible exact ih2 _ _ _ _ _ _ _ _ _ _ _ _ _ _ _)
      | (with_reducible exact wageofficelaw39_head.mono _)
      | (with_reducible exact LeO.refl _)
      | (with_reducible exact LeO.none _)
      | (with_reducible refine LeO.ite ?_ ?_)
      | (with_reducible refine LeO.bind ?_ (fun _ => ?_))
      | exact ih0 _ _ _ _ _ _ _
      | exact ih1 _ _ _ _ _ _ _ _
      | exact ih2 _ _ _ _ _ _ _ _ _ _ _ _ _ _ _
      | exact wageofficelaw39_head.mono _
      | exact LeO.none _
      | refine LeO.ite ?_ ?_
      | refine LeO.bind ?_ (fun _ => ?_)
def wageofficelaw39_LedgerDifferences.T14 : Bool × List (List Nat × List Nat) := (true, [([], []), ([0], [0]), ([1], [1]), ([1], [1]), ([1], [1]), ([1], [1]), ([2, 3, 4, 5, 1, 1], [1, 2, 3, 4, 5]), ([1], [1]), ([1], [1]), ([1], [1]), ([1], [1]), ([7, 8, 9, 10, 6, 1], [1, 7, 8, 9, 10]), ([6, 11, 1], [1, 6, 11]), ([1], [1]), ([12, 13, 1], [1, 12, 13]), ([1, 14], [1, 14]), ([15, 11, 0, 1, 2, 3, 4, 5, 6, 7, 8, 9, 10, 11, 12, 13, 14, 15], [15])])
def wageofficelaw39_LedgerDifferences.B14 : List Nat := [0, 1, 3, 3, 3, 3, 63, 3, 3, 3, 3, 2047, 4095, 3, 16383, 32767, 65535]
theorem wageofficelaw39_LedgerDifferences.tab14 : rtab .any (opsOf Try.f9 14) = wageofficelaw39_LedgerDifferences.T14 := by kernel_rfl
theorem wageofficelaw39_LedgerDifferences.bits14 : waitsOk wageofficelaw39_LedgerDifferences.T14.2 wageofficelaw39_LedgerDifferences.B14 = true := by kernel_rfl
set_option maxHeartbeats 8000000 in
set_option maxRecDepth 100000 in
theorem wageofficelaw39_LedgerDifferences.calls (k : Nat) (A0_0 : Option Addr) (c0_0 : Nat) (l0_0 : List (S26)) (a1 : ByteArray) (a2 : Int) (a3 : Int) (a4 : Int) (r : Bool) (w : World) (hr0_0 : Kd.C k26 w A0_0 l0_0.length l0_0) (hc0_0 : l0_0.length ≤ c0_0) (h : wageofficelaw39_LedgerDifferences.f k l0_0 a1 a2 a3 a4 = some r) :
    Calls Try.prog 9 #[.agg #[.slice A0_0 l0_0.length c0_0], .string a1, .int .i64 a2, .int .i64 a3, .int .i64 a4] w fun e w' => e = .returned (.bool r) ∧ Below w.heap.size w w' := by
  have hu24 := Try.underlying24
  have hu26 := Try.underlying26
  have HR0_0 := Aside0.mk hr0_0
  have HC0_0 := Aside0.mk hc0_0
  clear hr0_0 hc0_0
  have HB := Aside0.mk (Below.refl w.heap.size w)
  have H : ((wageofficelaw39_head.f k).bind fun t479 => (if (l0_0.length : Int) > 300 then (wageofficelaw39_LedgerDifferences.j0 k a1 a2 a3 a4 t479 true l0_0) else ((ledger_Valid.f l0_0).bind fun t480 => (if t480 = true then (wageofficelaw39_LedgerDifferences.j0 k a1 a2 a3 a4 t479 (decide (a3 > a4)) l0_0) else (wageofficelaw39_LedgerDifferences.j0 k a1 a2 a3 a4 t479 true l0_0))))) = some r := h
  clear h
  replace H := Option.bind_eq_some_iff.mp H
  obtain ⟨t479, A60, H⟩ := H
  replace H : (if (l0_0.length : Int) > 300 then (wageofficelaw39_LedgerDifferences.j0 k a1 a2 a3 a4 t479 true l0_0) else ((ledger_Valid.f l0_0).bind fun t480 => (if t480 = true then (wageofficelaw39_LedgerDifferences.j0 k a1 a2 a3 a4 t479 (decide (a3 > a4)) l0_0) else (wageofficelaw39_LedgerDifferences.j0 k a1 a2 a3 a4 t479 true l0_0)))) = some r := H
  have A6 := Aside0.mk A60
  clear A60
  have HC7 := Aside0.mk H
  clear H
  go_enter Try.func9, Try.ntmps9
  go_upto_region 2 with (first | ((with_reducible refine gate_dst (N := 5) rfl ?_); refine box_event ?hg (N := 5) ?hd (cs := #[.slice A0_0 l0_0.length c0_0]) (t := 24) ?hr ?_; (case hd => rfl); (case hg => rfl); (case hr => first | (go_simp; done) | (go_simp; rfl)); intro gb478 hg w8 hbox hb; have n0_ := Aside0.mk (below_step (by repeat (first | (with_reducible first | exact HB.out | apply below_alloc | apply pw_below_drewN | apply below_drew1) | exact HB.out)) hb); have n1_ := Aside0.mk (hbox); have n2_ := Aside0.mk ((by rw [hg]; exact (below_size (by repeat (first | (with_reducible first | exact HB.out | apply below_alloc | apply pw_below_drewN | apply below_drew1) | exact HB.out))) : w.heap.size ≤ gb478)); have n3_ := Aside0.mk ((by rw [hg]; exact (below_size (by repeat (first | (with_reducible first | exact HB.out | apply below_alloc | apply pw_below_drewN | apply below_drew1) | exact HB.out))) : w.heap.size ≤ gb478)); clear HB; have HB := n0_; have BK478 := n1_; have GW478 := n2_; have GE478 := n3_; clear n0_ n1_ n2_ n3_; clear hb hbox hg) | ((with_reducible refine gate_callee (f := 18) rfl ?_); refine goesL_ (some 15) rfl rfl Try.func18 (by kernel_rfl) rfl #[] rfl (by (try simp only [List.map_toArray, List.map_cons, List.map_nil]); first | done | rfl | (simp only [List.length_drop, List.length_take]; rfl)) ?_; (with_reducible refine (wageofficelaw39_head.calls k  t479 _ A6.out).mono ?_); rintro e w9 ⟨rfl, hb⟩; refine ⟨_, rfl, ?_⟩; have n0_ := Aside0.mk (blk_below (g := gb478) (o := .cells #[.slice A0_0 l0_0.length c0_0] 24 (0, 0)) (by (with_reducible repeat (first | refine blk_drewN ?_ _ | refine blk_drew ?_ | refine blk_alloc ?_ _)); exact BK478.out) hb); have n1_ := Aside0.mk (below_step (by repeat (first | (with_reducible first | exact HB.out | apply below_alloc | apply pw_below_drewN | apply below_drew1 | refine below_set ?_ GE478.out) | exact HB.out)) hb); clear BK478; clear HB; have BK478 := n0_; have HB := n1_; clear n0_ n1_; (try clear hb); (try clear hb2); (try clear hk); (try clear hi)))
  (try simp only [Act.put, List.setIfInBounds_toArray, List.set_cons_zero, List.set_cons_succ])
  go_cut [29] (fun v29 wc => ∃ (kq : Nat) (x29_6 : Bool), v29 = .bool x29_6 ∧ Aside0 (wageofficelaw39_LedgerDifferences.j0 kq a1 a2 a3 a4 t479 x29_6 l0_0 = some r) ∧ Aside0 (kq ≤ k) ∧ Aside0 (wc.heap[gb478]? = some (.cells #[(.slice A0_0 l0_0.length c0_0)] 24 (0, 0))) ∧ Aside0 (Below w.heap.size w wc))
  case first =>
    have H := HC7.out
    clear HC7
    by_cases c10 : (l0_0.length : Int) > 300
    · rw [if_pos c10] at H
      have c10b0 : decide (300 < (l0_0.length : Int)) = true := decide_eq_true c10
      have c10b1 : decide (300 < l0_0.length) = true := decide_eq_true (by omega)
      clear c10
      (first | rw [c10b0] | (simp only [i64_w, i32_w]; rw [c10b0]) | skip)
      have H' := Aside0.mk H
      clear H
      have hcz11_0 : w9.cell? ⟨gb478, 0, none⟩ = some (.slice A0_0 l0_0.length c0_0) := (blk_cell BK478.out 0).trans rfl
      have hfz11_0 := blk_frozen BK478.out 0
      go_wp2
      go_meet
      case rel => exact ⟨_, (true), (by first | rfl | (simp; done) | (simp [*]; done)), H', ⟨by first | omega | exact Nat.le_refl _⟩, ⟨by (with_reducible repeat (first | refine blk_drewN ?_ _ | refine blk_drew ?_ | refine blk_alloc ?_ _)); exact BK478.out⟩, ⟨by repeat (first | (with_reducible first | exact HB.out | apply below_alloc | apply pw_below_drewN | apply below_drew1 | refine below_set ?_ GE478.out) | exact HB.out)⟩⟩
    · rw [if_neg c10] at H
      have c10b0 : decide (300 < (l0_0.length : Int)) = false := decide_eq_false c10
      have c10b1 : decide (300 < l0_0.length) = false := decide_eq_false (by omega)
      clear c10
      (first | rw [c10b0] | (simp only [i64_w, i32_w]; rw [c10b0]) | skip)
      replace H := Option.bind_eq_some_iff.mp H
      obtain ⟨t480, A120, H⟩ := H
      replace H : (if t480 = true then (wageofficelaw39_LedgerDifferences.j0 k a1 a2 a3 a4 t479 (decide (a3 > a4)) l0_0) else (wageofficelaw39_LedgerDifferences.j0 k a1 a2 a3 a4 t479 true l0_0)) = some r := H
      have A12 := Aside0.mk A120
      clear A120
      by_cases c13 : t480 = true
      · subst c13
        have H1 : (wageofficelaw39_LedgerDifferences.j0 k a1 a2 a3 a4 t479 (decide (a3 > a4)) l0_0) = some r := by rw [if_pos rfl] at H; exact H
        clear H
        have H := H1
        clear H1
        have H' := Aside0.mk H
        clear H
        have hcz14_0 : w9.cell? ⟨gb478, 0, none⟩ = some (.slice A0_0 l0_0.length c0_0) := (blk_cell BK478.out 0).trans rfl
        have hfz14_0 := blk_frozen BK478.out 0
        go_wp2_with (first | (go_at_call 21; (with_reducible refine (ledger_Valid.calls _ _ l0_0 true _ ?side1 ?side2 A12.out).mono ?_); (case side1 => repeat (first | exact (Kd.C_below HR0_0.out HB.out) | (with_reducible refine Kd.C_alloc ?_ _) | (with_reducible refine Kd.C_drewN ?_ _) | (with_reducible refine Kd.C_drew ?_))); (case side2 => exact HC0_0.out); rintro e w15 ⟨rfl, hb⟩; have n0_ := Aside0.mk (blk_below (g := gb478) (o := .cells #[.slice A0_0 l0_0.length c0_0] 24 (0, 0)) (by (with_reducible repeat (first | refine blk_drewN ?_ _ | refine blk_drew ?_ | refine blk_alloc ?_ _)); exact BK478.out) hb); have n1_ := Aside0.mk (below_step (by repeat (first | (with_reducible first | exact HB.out | apply below_alloc | apply pw_below_drewN | apply below_drew1 | refine below_set ?_ GE478.out) | exact HB.out)) hb); clear BK478; clear HB; have BK478 := n0_; have HB := n1_; clear n0_ n1_; (try clear hb); (try clear hb2); (try clear hk); (try clear hi)))
        go_meet
        case rel => exact ⟨_, (decide (a3 > a4)), (by first | rfl | (simp; done) | (simp [*]; done)), H', ⟨by first | omega | exact Nat.le_refl _⟩, ⟨by (with_reducible repeat (first | refine blk_drewN ?_ _ | refine blk_drew ?_ | refine blk_alloc ?_ _)); exact BK478.out⟩, ⟨by repeat (first | (with_reducible first | exact HB.out | apply below_alloc | apply pw_below_drewN | apply below_drew1 | refine below_set ?_ GE478.out) | exact HB.out)⟩⟩
      · replace c13 := Bool.eq_false_iff.mpr c13
        subst c13
        have H1 : (wageofficelaw39_LedgerDifferences.j0 k a1 a2 a3 a4 t479 true l0_0) = some r := by rw [if_neg (show ¬ (false = true) by decide)] at H; exact H
        clear H
        have H := H1
        clear H1
        have H' := Aside0.mk H
        clear H
        have hcz16_0 : w9.cell? ⟨gb478, 0, none⟩ = some (.slice A0_0 l0_0.length c0_0) := (blk_cell BK478.out 0).trans rfl
        have hfz16_0 := blk_frozen BK478.out 0
        go_wp2_with (first | (go_at_call 21; (with_reducible refine (ledger_Valid.calls _ _ l0_0 false _ ?side1 ?side2 A12.out).mono ?_); (case side1 => repeat (first | exact (Kd.C_below HR0_0.out HB.out) | (with_reducible refine Kd.C_alloc ?_ _) | (with_reducible refine Kd.C_drewN ?_ _) | (with_reducible refine Kd.C_drew ?_))); (case side2 => exact HC0_0.out); rintro e w17 ⟨rfl, hb⟩; have n0_ := Aside0.mk (blk_below (g := gb478) (o := .cells #[.slice A0_0 l0_0.length c0_0] 24 (0, 0)) (by (with_reducible repeat (first | refine blk_drewN ?_ _ | refine blk_drew ?_ | refine blk_alloc ?_ _)); exact BK478.out) hb); have n1_ := Aside0.mk (below_step (by repeat (first | (with_reducible first | exact HB.out | apply below_alloc | apply pw_below_drewN | apply below_drew1 | refine below_set ?_ GE478.out) | exact HB.out)) hb); clear BK478; clear HB; have BK478 := n0_; have HB := n1_; clear n0_ n1_; (try clear hb); (try clear hb2); (try clear hk); (try clear hi)))
        go_meet
        case rel => exact ⟨_, (true), (by first | rfl | (simp; done) | (simp [*]; done)), H', ⟨by first | omega | exact Nat.le_refl _⟩, ⟨by (with_reducible repeat (first | refine blk_drewN ?_ _ | refine blk_drew ?_ | refine blk_alloc ?_ _)); exact BK478.out⟩, ⟨by repeat (first | (with_reducible first | exact HB.out | apply below_alloc | apply pw_below_drewN | apply below_drew1 | refine below_set ?_ GE478.out) | exact HB.out)⟩⟩
  case rest =>
    clear HC7
    try clear c1
    try clear p2
    try clear c9
    try clear c10
    try clear c10b0
    try clear c10b1
    try clear c13
    try clear hcz11_0
    try clear hcz14_0
    try clear hcz16_0
    try clear hfz11_0
    try clear hfz14_0
    try clear hfz16_0
    obtain ⟨kq, x29_6, rfl, HA, HJ6, BK478, HB⟩ := hcut
    cases kq with
    | zero => exact absurd HA.out (by simp [wageofficelaw39_LedgerDifferences.j0])
    | succ kj6 =>
      have H := HA.out
      clear HA
      simp only [wageofficelaw39_LedgerDifferences.j0] at H
      by_cases c18 : x29_6 = true
      · subst c18
        have H1 : (some t479) = some r := by rw [if_pos rfl] at H; exact H
        clear H
        have H := H1
        clear H1
        obtain rfl := Option.some.inj H
        go_wp2
        go_ret
        exact ⟨by first | rfl | (simp [errW_none, errW_some] <;> rfl) | (simp [*, errW_none, errW_some] <;> rfl), by repeat (first | (with_reducible first | exact HB.out | apply below_alloc | apply pw_below_drewN | apply below_drew1 | refine below_set ?_ GE478.out) | exact HB.out)⟩
      · replace c18 := Bool.eq_false_iff.mpr c18
        subst c18
        have H1 : (wageofficelaw39_LedgerDifferences.l0 kj6 a1 a2 a3 a4 t479 0 0 l0_0) = some r := by rw [if_neg (show ¬ (false = true) by decide)] at H; exact H
        clear H
        have H := H1
        clear H1
        have H' := Aside0.mk H
        clear H
        go_wp2
        go_loopg [12, 13] kj6 (fun kq v12 v13 w' => ∃ (x12_2 : Int) (x13_2 : Int), v12 = .int .i64 x12_2 ∧ v13 = .int .i64 x13_2 ∧ Aside0 (wageofficelaw39_LedgerDifferences.l0 kq a1 a2 a3 a4 t479 x12_2 x13_2 l0_0 = some r) ∧ Aside0 (kq ≤ kj6) ∧ Aside0 (w'.heap[gb478]? = some (.cells #[(.slice A0_0 l0_0.length c0_0)] 24 (0, 0))) ∧ Aside0 (Below w.heap.size w w'))
        case atStart => exact ⟨(0), (0), (by first | rfl | (simp; done) | (simp [*]; done)), (by first | rfl | (simp; done) | (simp [*]; done)), H', ⟨Nat.le_refl _⟩, ⟨by (with_reducible repeat (first | refine blk_drewN ?_ _ | refine blk_drew ?_ | refine blk_alloc ?_ _)); exact BK478.out⟩, ⟨by repeat (first | (with_reducible first | exact HB.out | apply below_alloc | apply pw_below_drewN | apply below_drew1 | refine below_set ?_ GE478.out) | exact HB.out)⟩⟩
        case round =>
          clear H'
          try clear c1
          try clear p2
          try clear c9
          try clear c10
          try clear c10b0
          try clear c10b1
          try clear c13
          try clear c18
          try clear hcz11_0
          try clear hcz14_0
          try clear hcz16_0
          try clear hfz11_0
          try clear hfz14_0
          try clear hfz16_0
          try clear p2
          obtain ⟨x12_2, x13_2, rfl, rfl, HA, HK2, BK478, HB⟩ := hrel
          cases gk with
          | zero => exact absurd HA.out (by simp [wageofficelaw39_LedgerDifferences.l0])
          | succ k2 =>
            have H := HA.out
            clear HA
            simp only [wageofficelaw39_LedgerDifferences.l0] at H
            by_cases c19 : x13_2 < (l0_0.length : Int)
            · rw [if_pos c19] at H
              have c19b0 : decide (x13_2 < (l0_0.length : Int)) = true := decide_eq_true c19
              clear c19
              by_cases c20 : 0 ≤ x13_2
              · rw [if_pos c20] at H
                have c20b0 : decide (0 ≤ x13_2) = true := decide_eq_true c20
                clear c20
                have HC21 := Aside0.mk H
                clear H
                have hcz22_0 : wr.cell? ⟨gb478, 0, none⟩ = some (.slice A0_0 l0_0.length c0_0) := (blk_cell BK478.out 0).trans rfl
                have hfz22_0 := blk_frozen BK478.out 0
                have p483 : 0 ≤ (x13_2 : Int) := of_decide_eq_true (by first | (with_reducible assumption) | assumption)
                have q483 : x13_2 < (l0_0.length : Int) := of_decide_eq_true (by first | (with_reducible assumption) | assumption)
                obtain ⟨ad483, e483, hx483_0, hx483_1, hx483_2, hx483_3, hx483_4, hx483_5⟩ := at_T26 HR0_0.out x13_2 p483 q483
                cases e483
                replace hx483_0 := (HB.out.cell (World.block_lt_of_cell? w _ hx483_0)).trans hx483_0
                replace hx483_1 := (HB.out.cell (World.block_lt_of_cell? w _ hx483_1)).trans hx483_1
                replace hx483_2 := (HB.out.cell (World.block_lt_of_cell? w _ hx483_2)).trans hx483_2
                replace hx483_3 := (HB.out.cell (World.block_lt_of_cell? w _ hx483_3)).trans hx483_3
                replace hx483_4 := (HB.out.cell (World.block_lt_of_cell? w _ hx483_4)).trans hx483_4
                replace hx483_5 := (HB.out.cell (World.block_lt_of_cell? w _ hx483_5)).trans hx483_5
                replace p483 := eq_true p483
                replace q483 := eq_true q483
                go_upto_region 9 with (first | ((with_reducible refine gate_dst (N := 14) rfl ?_); refine box_event ?hg (N := 14) ?hd (cs := #[.int .i64 0, .string (⟨#[]⟩ : ByteArray), .string (⟨#[]⟩ : ByteArray), .int .i64 0, .int .i64 0, .int .i64 0]) (t := 26) ?hr ?_; (case hd => rfl); (case hg => rfl); (case hr => first | (go_simp; done) | (go_simp; rfl)); intro gb484 hg w23 hbox hb; have n0_ := Aside0.mk (blk_below (g := gb478) (o := .cells #[.slice (some ad483) l0_0.length c0_0] 24 (0, 0)) (by (with_reducible repeat (first | refine blk_drewN ?_ _ | refine blk_drew ?_ | refine blk_alloc ?_ _)); exact BK478.out) hb); have n1_ := Aside0.mk (below_step (by repeat (first | (with_reducible first | exact HB.out | apply below_alloc | apply pw_below_drewN | apply below_drew1 | refine below_set ?_ GE478.out) | exact HB.out)) hb); have n2_ := Aside0.mk (hbox); have n3_ := Aside0.mk ((by rw [hg]; exact (below_size (by repeat (first | (with_reducible first | exact HB.out | apply below_alloc | apply pw_below_drewN | apply below_drew1 | refine below_set ?_ GE478.out) | exact HB.out))) : w.heap.size ≤ gb484)); have n4_ := Aside0.mk ((by rw [hg]; exact (below_size (by repeat (first | (with_reducible first | exact HB.out | apply below_alloc | apply pw_below_drewN | apply below_drew1 | refine below_set ?_ GE478.out) | exact HB.out))) : w.heap.size ≤ gb484)); have n5_ := Aside0.mk ((by rw [hg]; exact Nat.ne_of_lt (blk_lt (g := gb478) (o := .cells #[.slice (some ad483) l0_0.length c0_0] 24 (0, 0)) (by (with_reducible repeat (first | refine blk_drewN ?_ _ | refine blk_drew ?_ | refine blk_alloc ?_ _)); exact BK478.out)) : gb478 ≠ gb484)); have n6_ := Aside0.mk ((by rw [hg]; exact Nat.ne_of_gt (blk_lt (g := gb478) (o := .cells #[.slice (some ad483) l0_0.length c0_0] 24 (0, 0)) (by (with_reducible repeat (first | refine blk_drewN ?_ _ | refine blk_drew ?_ | refine blk_alloc ?_ _)); exact BK478.out)) : gb484 ≠ gb478)); clear BK478; clear HB; have BK478 := n0_; have HB := n1_; have BK484 := n2_; have GW484 := n3_; have GE484 := n4_; have NB478_484 := n5_; have NB484_478 := n6_; clear n0_ n1_ n2_ n3_ n4_ n5_ n6_; clear hb hbox hg; have hnb24 := NB484_478.out; have hnc24 := NB478_484.out; have hcz25_0 : w23.cell? ⟨gb484, 0, none⟩ = some (.int .i64 0) := (blk_cell BK484.out 0).trans rfl; have hcz25_1 : w23.cell? ⟨gb484, 1, none⟩ = some (.string (⟨#[]⟩ : ByteArray)) := (blk_cell BK484.out 1).trans rfl; have hcz25_2 : w23.cell? ⟨gb484, 2, none⟩ = some (.string (⟨#[]⟩ : ByteArray)) := (blk_cell BK484.out 2).trans rfl; have hcz25_3 : w23.cell? ⟨gb484, 3, none⟩ = some (.int .i64 0) := (blk_cell BK484.out 3).trans rfl; have hcz25_4 : w23.cell? ⟨gb484, 4, none⟩ = some (.int .i64 0) := (blk_cell BK484.out 4).trans rfl; have hcz25_5 : w23.cell? ⟨gb484, 5, none⟩ = some (.int .i64 0) := (blk_cell BK484.out 5).trans rfl; have hfz25_0 := blk_frozen BK484.out 0; have hfz25_1 := blk_frozen BK484.out 1; have hfz25_2 := blk_frozen BK484.out 2; have hfz25_3 := blk_frozen BK484.out 3; have hfz25_4 := blk_frozen BK484.out 4; have hfz25_5 := blk_frozen BK484.out 5))
                (try simp only [Act.put, List.setIfInBounds_toArray, List.set_cons_zero, List.set_cons_succ])
                go_cut [58] (fun v58 wc => ∃ (kq : Nat) (x58_20 : Bool), v58 = .bool x58_20 ∧ Aside0 (wageofficelaw39_LedgerDifferences.j2 kq a1 a2 a3 a4 t479 x12_2 x13_2 x58_20 l0_0 ((rd_T26 l0_0 x13_2).f0) ((rd_T26 l0_0 x13_2).f1) ((rd_T26 l0_0 x13_2).f2) ((rd_T26 l0_0 x13_2).f3) ((rd_T26 l0_0 x13_2).f4) ((rd_T26 l0_0 x13_2).f5) = some r) ∧ Aside0 (kq ≤ k2) ∧ Aside0 (wc.heap[gb478]? = some (.cells #[(.slice (some ad483) l0_0.length c0_0)] 24 (0, 0))) ∧ Aside0 (wc.heap[gb484]? = some (.cells #[.int .i64 ((rd_T26 l0_0 x13_2).f0), .string ((rd_T26 l0_0 x13_2).f1), .string ((rd_T26 l0_0 x13_2).f2), .int .i64 ((rd_T26 l0_0 x13_2).f3), .int .i64 ((rd_T26 l0_0 x13_2).f4), .int .i64 ((rd_T26 l0_0 x13_2).f5)] 26 (0, 0))) ∧ Aside0 (Below w.heap.size w wc))
                case first =>
                  have H := HC21.out
                  clear HC21
                  by_cases c26 : ((rd_T26 l0_0 x13_2).f5) ≤ a3
                  · rw [if_pos c26] at H
                    have c26b0 : decide (((rd_T26 l0_0 x13_2).f5) ≤ a3) = true := decide_eq_true c26
                    clear c26
                    (first | rw [c26b0] | (simp only [i64_w, i32_w]; rw [c26b0]) | skip)
                    have H' := Aside0.mk H
                    clear H
                    have hnb27 := NB484_478.out
                    have hnc27 := NB478_484.out
                    have hcz28_0 : w23.cell? ⟨gb484, 0, none⟩ = some (.int .i64 0) := (blk_cell BK484.out 0).trans rfl
                    have hcz28_1 : w23.cell? ⟨gb484, 1, none⟩ = some (.string (⟨#[]⟩ : ByteArray)) := (blk_cell BK484.out 1).trans rfl
                    have hcz28_2 : w23.cell? ⟨gb484, 2, none⟩ = some (.string (⟨#[]⟩ : ByteArray)) := (blk_cell BK484.out 2).trans rfl
                    have hcz28_3 : w23.cell? ⟨gb484, 3, none⟩ = some (.int .i64 0) := (blk_cell BK484.out 3).trans rfl
                    have hcz28_4 : w23.cell? ⟨gb484, 4, none⟩ = some (.int .i64 0) := (blk_cell BK484.out 4).trans rfl
                    have hcz28_5 : w23.cell? ⟨gb484, 5, none⟩ = some (.int .i64 0) := (blk_cell BK484.out 5).trans rfl
                    have hfz28_0 := blk_frozen BK484.out 0
                    have hfz28_1 := blk_frozen BK484.out 1
                    have hfz28_2 := blk_frozen BK484.out 2
                    have hfz28_3 := blk_frozen BK484.out 3
                    have hfz28_4 := blk_frozen BK484.out 4
                    have hfz28_5 := blk_frozen BK484.out 5
                    go_wp2
                    go_meet
                    case rel => exact ⟨_, (true), (by first | rfl | (simp; done) | (simp [*]; done)), H', ⟨by have := HJ6.out; have := HK2.out; first | omega | exact Nat.le_refl _⟩, ⟨by (with_reducible repeat (first | refine blk_drewN ?_ _ | refine blk_drew ?_ | refine blk_alloc ?_ _)); refine blk_far ?_ NB478_484.out _; (with_reducible repeat (first | refine blk_drewN ?_ _ | refine blk_drew ?_ | refine blk_alloc ?_ _)); refine blk_far ?_ NB478_484.out _; (with_reducible repeat (first | refine blk_drewN ?_ _ | refine blk_drew ?_ | refine blk_alloc ?_ _)); refine blk_far ?_ NB478_484.out _; (with_reducible repeat (first | refine blk_drewN ?_ _ | refine blk_drew ?_ | refine blk_alloc ?_ _)); refine blk_far ?_ NB478_484.out _; (with_reducible repeat (first | refine blk_drewN ?_ _ | refine blk_drew ?_ | refine blk_alloc ?_ _)); refine blk_far ?_ NB478_484.out _; (with_reducible repeat (first | refine blk_drewN ?_ _ | refine blk_drew ?_ | refine blk_alloc ?_ _)); refine blk_far ?_ NB478_484.out _; (with_reducible repeat (first | refine blk_drewN ?_ _ | refine blk_drew ?_ | refine blk_alloc ?_ _)); exact BK478.out⟩, ⟨by (with_reducible repeat (first | refine blk_drewN ?_ _ | refine blk_drew ?_ | refine blk_alloc ?_ _)); refine blk_put (cs := #[.int .i64 ((rd_T26 l0_0 x13_2).f0), .string ((rd_T26 l0_0 x13_2).f1), .string ((rd_T26 l0_0 x13_2).f2), .int .i64 ((rd_T26 l0_0 x13_2).f3), .int .i64 ((rd_T26 l0_0 x13_2).f4), .int .i64 0]) ?_ 5 _ rfl; (with_reducible repeat (first | refine blk_drewN ?_ _ | refine blk_drew ?_ | refine blk_alloc ?_ _)); refine blk_put (cs := #[.int .i64 ((rd_T26 l0_0 x13_2).f0), .string ((rd_T26 l0_0 x13_2).f1), .string ((rd_T26 l0_0 x13_2).f2), .int .i64 ((rd_T26 l0_0 x13_2).f3), .int .i64 0, .int .i64 0]) ?_ 4 _ rfl; (with_reducible repeat (first | refine blk_drewN ?_ _ | refine blk_drew ?_ | refine blk_alloc ?_ _)); refine blk_put (cs := #[.int .i64 ((rd_T26 l0_0 x13_2).f0), .string ((rd_T26 l0_0 x13_2).f1), .string ((rd_T26 l0_0 x13_2).f2), .int .i64 0, .int .i64 0, .int .i64 0]) ?_ 3 _ rfl; (with_reducible repeat (first | refine blk_drewN ?_ _ | refine blk_drew ?_ | refine blk_alloc ?_ _)); refine blk_put (cs := #[.int .i64 ((rd_T26 l0_0 x13_2).f0), .string ((rd_T26 l0_0 x13_2).f1), .string (⟨#[]⟩ : ByteArray), .int .i64 0, .int .i64 0, .int .i64 0]) ?_ 2 _ rfl; (with_reducible repeat (first | refine blk_drewN ?_ _ | refine blk_drew ?_ | refine blk_alloc ?_ _)); refine blk_put (cs := #[.int .i64 ((rd_T26 l0_0 x13_2).f0), .string (⟨#[]⟩ : ByteArray), .string (⟨#[]⟩ : ByteArray), .int .i64 0, .int .i64 0, .int .i64 0]) ?_ 1 _ rfl; (with_reducible repeat (first | refine blk_drewN ?_ _ | refine blk_drew ?_ | refine blk_alloc ?_ _)); refine blk_put (cs := #[.int .i64 0, .string (⟨#[]⟩ : ByteArray), .string (⟨#[]⟩ : ByteArray), .int .i64 0, .int .i64 0, .int .i64 0]) ?_ 0 _ rfl; (with_reducible repeat (first | refine blk_drewN ?_ _ | refine blk_drew ?_ | refine blk_alloc ?_ _)); exact BK484.out⟩, ⟨by repeat (first | (with_reducible first | exact HB.out | apply below_alloc | apply pw_below_drewN | apply below_drew1 | refine below_set ?_ GE478.out | refine below_set ?_ GE484.out) | exact HB.out)⟩⟩
                  · rw [if_neg c26] at H
                    have c26b0 : decide (((rd_T26 l0_0 x13_2).f5) ≤ a3) = false := decide_eq_false c26
                    clear c26
                    (first | rw [c26b0] | (simp only [i64_w, i32_w]; rw [c26b0]) | skip)
                    by_cases c29 : ((rd_T26 l0_0 x13_2).f5) > a4
                    · rw [if_pos c29] at H
                      have c29b0 : decide (a4 < ((rd_T26 l0_0 x13_2).f5)) = true := decide_eq_true c29
                      clear c29
                      have H' := Aside0.mk H
                      clear H
                      have hnb30 := NB484_478.out
                      have hnc30 := NB478_484.out
                      have hcz31_0 : w23.cell? ⟨gb484, 0, none⟩ = some (.int .i64 0) := (blk_cell BK484.out 0).trans rfl
                      have hcz31_1 : w23.cell? ⟨gb484, 1, none⟩ = some (.string (⟨#[]⟩ : ByteArray)) := (blk_cell BK484.out 1).trans rfl
                      have hcz31_2 : w23.cell? ⟨gb484, 2, none⟩ = some (.string (⟨#[]⟩ : ByteArray)) := (blk_cell BK484.out 2).trans rfl
                      have hcz31_3 : w23.cell? ⟨gb484, 3, none⟩ = some (.int .i64 0) := (blk_cell BK484.out 3).trans rfl
                      have hcz31_4 : w23.cell? ⟨gb484, 4, none⟩ = some (.int .i64 0) := (blk_cell BK484.out 4).trans rfl
                      have hcz31_5 : w23.cell? ⟨gb484, 5, none⟩ = some (.int .i64 0) := (blk_cell BK484.out 5).trans rfl
                      have hfz31_0 := blk_frozen BK484.out 0
                      have hfz31_1 := blk_frozen BK484.out 1
                      have hfz31_2 := blk_frozen BK484.out 2
                      have hfz31_3 := blk_frozen BK484.out 3
                      have hfz31_4 := blk_frozen BK484.out 4
                      have hfz31_5 := blk_frozen BK484.out 5
                      go_wp2
                      go_meet
                      case rel => exact ⟨_, (true), (by first | rfl | (simp; done) | (simp [*]; done)), H', ⟨by have := HJ6.out; have := HK2.out; first | omega | exact Nat.le_refl _⟩, ⟨by (with_reducible repeat (first | refine blk_drewN ?_ _ | refine blk_drew ?_ | refine blk_alloc ?_ _)); refine blk_far ?_ NB478_484.out _; (with_reducible repeat (first | refine blk_drewN ?_ _ | refine blk_drew ?_ | refine blk_alloc ?_ _)); refine blk_far ?_ NB478_484.out _; (with_reducible repeat (first | refine blk_drewN ?_ _ | refine blk_drew ?_ | refine blk_alloc ?_ _)); refine blk_far ?_ NB478_484.out _; (with_reducible repeat (first | refine blk_drewN ?_ _ | refine blk_drew ?_ | refine blk_alloc ?_ _)); refine blk_far ?_ NB478_484.out _; (with_reducible repeat (first | refine blk_drewN ?_ _ | refine blk_drew ?_ | refine blk_alloc ?_ _)); refine blk_far ?_ NB478_484.out _; (with_reducible repeat (first | refine blk_drewN ?_ _ | refine blk_drew ?_ | refine blk_alloc ?_ _)); refine blk_far ?_ NB478_484.out _; (with_reducible repeat (first | refine blk_drewN ?_ _ | refine blk_drew ?_ | refine blk_alloc ?_ _)); exact BK478.out⟩, ⟨by (with_reducible repeat (first | refine blk_drewN ?_ _ | refine blk_drew ?_ | refine blk_alloc ?_ _)); refine blk_put (cs := #[.int .i64 ((rd_T26 l0_0 x13_2).f0), .string ((rd_T26 l0_0 x13_2).f1), .string ((rd_T26 l0_0 x13_2).f2), .int .i64 ((rd_T26 l0_0 x13_2).f3), .int .i64 ((rd_T26 l0_0 x13_2).f4), .int .i64 0]) ?_ 5 _ rfl; (with_reducible repeat (first | refine blk_drewN ?_ _ | refine blk_drew ?_ | refine blk_alloc ?_ _)); refine blk_put (cs := #[.int .i64 ((rd_T26 l0_0 x13_2).f0), .string ((rd_T26 l0_0 x13_2).f1), .string ((rd_T26 l0_0 x13_2).f2), .int .i64 ((rd_T26 l0_0 x13_2).f3), .int .i64 0, .int .i64 0]) ?_ 4 _ rfl; (with_reducible repeat (first | refine blk_drewN ?_ _ | refine blk_drew ?_ | refine blk_alloc ?_ _)); refine blk_put (cs := #[.int .i64 ((rd_T26 l0_0 x13_2).f0), .string ((rd_T26 l0_0 x13_2).f1), .string ((rd_T26 l0_0 x13_2).f2), .int .i64 0, .int .i64 0, .int .i64 0]) ?_ 3 _ rfl; (with_reducible repeat (first | refine blk_drewN ?_ _ | refine blk_drew ?_ | refine blk_alloc ?_ _)); refine blk_put (cs := #[.int .i64 ((rd_T26 l0_0 x13_2).f0), .string ((rd_T26 l0_0 x13_2).f1), .string (⟨#[]⟩ : ByteArray), .int .i64 0, .int .i64 0, .int .i64 0]) ?_ 2 _ rfl; (with_reducible repeat (first | refine blk_drewN ?_ _ | refine blk_drew ?_ | refine blk_alloc ?_ _)); refine blk_put (cs := #[.int .i64 ((rd_T26 l0_0 x13_2).f0), .string (⟨#[]⟩ : ByteArray), .string (⟨#[]⟩ : ByteArray), .int .i64 0, .int .i64 0, .int .i64 0]) ?_ 1 _ rfl; (with_reducible repeat (first | refine blk_drewN ?_ _ | refine blk_drew ?_ | refine blk_alloc ?_ _)); refine blk_put (cs := #[.int .i64 0, .string (⟨#[]⟩ : ByteArray), .string (⟨#[]⟩ : ByteArray), .int .i64 0, .int .i64 0, .int .i64 0]) ?_ 0 _ rfl; (with_reducible repeat (first | refine blk_drewN ?_ _ | refine blk_drew ?_ | refine blk_alloc ?_ _)); exact BK484.out⟩, ⟨by repeat (first | (with_reducible first | exact HB.out | apply below_alloc | apply pw_below_drewN | apply below_drew1 | refine below_set ?_ GE478.out | refine below_set ?_ GE484.out) | exact HB.out)⟩⟩
                    · rw [if_neg c29] at H
                      have c29b0 : decide (a4 < ((rd_T26 l0_0 x13_2).f5)) = false := decide_eq_false c29
                      clear c29
                      have H' := Aside0.mk H
                      clear H
                      have hnb32 := NB484_478.out
                      have hnc32 := NB478_484.out
                      have hcz33_0 : w23.cell? ⟨gb484, 0, none⟩ = some (.int .i64 0) := (blk_cell BK484.out 0).trans rfl
                      have hcz33_1 : w23.cell? ⟨gb484, 1, none⟩ = some (.string (⟨#[]⟩ : ByteArray)) := (blk_cell BK484.out 1).trans rfl
                      have hcz33_2 : w23.cell? ⟨gb484, 2, none⟩ = some (.string (⟨#[]⟩ : ByteArray)) := (blk_cell BK484.out 2).trans rfl
                      have hcz33_3 : w23.cell? ⟨gb484, 3, none⟩ = some (.int .i64 0) := (blk_cell BK484.out 3).trans rfl
                      have hcz33_4 : w23.cell? ⟨gb484, 4, none⟩ = some (.int .i64 0) := (blk_cell BK484.out 4).trans rfl
                      have hcz33_5 : w23.cell? ⟨gb484, 5, none⟩ = some (.int .i64 0) := (blk_cell BK484.out 5).trans rfl
                      have hfz33_0 := blk_frozen BK484.out 0
                      have hfz33_1 := blk_frozen BK484.out 1
                      have hfz33_2 := blk_frozen BK484.out 2
                      have hfz33_3 := blk_frozen BK484.out 3
                      have hfz33_4 := blk_frozen BK484.out 4
                      have hfz33_5 := blk_frozen BK484.out 5
                      go_wp2
                      go_meet
                      case rel => exact ⟨_, (decide (((rd_T26 l0_0 x13_2).f4) > a2)), (by first | rfl | (simp; done) | (simp [*]; done)), H', ⟨by have := HJ6.out; have := HK2.out; first | omega | exact Nat.le_refl _⟩, ⟨by (with_reducible repeat (first | refine blk_drewN ?_ _ | refine blk_drew ?_ | refine blk_alloc ?_ _)); refine blk_far ?_ NB478_484.out _; (with_reducible repeat (first | refine blk_drewN ?_ _ | refine blk_drew ?_ | refine blk_alloc ?_ _)); refine blk_far ?_ NB478_484.out _; (with_reducible repeat (first | refine blk_drewN ?_ _ | refine blk_drew ?_ | refine blk_alloc ?_ _)); refine blk_far ?_ NB478_484.out _; (with_reducible repeat (first | refine blk_drewN ?_ _ | refine blk_drew ?_ | refine blk_alloc ?_ _)); refine blk_far ?_ NB478_484.out _; (with_reducible repeat (first | refine blk_drewN ?_ _ | refine blk_drew ?_ | refine blk_alloc ?_ _)); refine blk_far ?_ NB478_484.out _; (with_reducible repeat (first | refine blk_drewN ?_ _ | refine blk_drew ?_ | refine blk_alloc ?_ _)); refine blk_far ?_ NB478_484.out _; (with_reducible repeat (first | refine blk_drewN ?_ _ | refine blk_drew ?_ | refine blk_alloc ?_ _)); exact BK478.out⟩, ⟨by (with_reducible repeat (first | refine blk_drewN ?_ _ | refine blk_drew ?_ | refine blk_alloc ?_ _)); refine blk_put (cs := #[.int .i64 ((rd_T26 l0_0 x13_2).f0), .string ((rd_T26 l0_0 x13_2).f1), .string ((rd_T26 l0_0 x13_2).f2), .int .i64 ((rd_T26 l0_0 x13_2).f3), .int .i64 ((rd_T26 l0_0 x13_2).f4), .int .i64 0]) ?_ 5 _ rfl; (with_reducible repeat (first | refine blk_drewN ?_ _ | refine blk_drew ?_ | refine blk_alloc ?_ _)); refine blk_put (cs := #[.int .i64 ((rd_T26 l0_0 x13_2).f0), .string ((rd_T26 l0_0 x13_2).f1), .string ((rd_T26 l0_0 x13_2).f2), .int .i64 ((rd_T26 l0_0 x13_2).f3), .int .i64 0, .int .i64 0]) ?_ 4 _ rfl; (with_reducible repeat (first | refine blk_drewN ?_ _ | refine blk_drew ?_ | refine blk_alloc ?_ _)); refine blk_put (cs := #[.int .i64 ((rd_T26 l0_0 x13_2).f0), .string ((rd_T26 l0_0 x13_2).f1), .string ((rd_T26 l0_0 x13_2).f2), .int .i64 0, .int .i64 0, .int .i64 0]) ?_ 3 _ rfl; (with_reducible repeat (first | refine blk_drewN ?_ _ | refine blk_drew ?_ | refine blk_alloc ?_ _)); refine blk_put (cs := #[.int .i64 ((rd_T26 l0_0 x13_2).f0), .string ((rd_T26 l0_0 x13_2).f1), .string (⟨#[]⟩ : ByteArray), .int .i64 0, .int .i64 0, .int .i64 0]) ?_ 2 _ rfl; (with_reducible repeat (first | refine blk_drewN ?_ _ | refine blk_drew ?_ | refine blk_alloc ?_ _)); refine blk_put (cs := #[.int .i64 ((rd_T26 l0_0 x13_2).f0), .string (⟨#[]⟩ : ByteArray), .string (⟨#[]⟩ : ByteArray), .int .i64 0, .int .i64 0, .int .i64 0]) ?_ 1 _ rfl; (with_reducible repeat (first | refine blk_drewN ?_ _ | refine blk_drew ?_ | refine blk_alloc ?_ _)); refine blk_put (cs := #[.int .i64 0, .string (⟨#[]⟩ : ByteArray), .string (⟨#[]⟩ : ByteArray), .int .i64 0, .int .i64 0, .int .i64 0]) ?_ 0 _ rfl; (with_reducible repeat (first | refine blk_drewN ?_ _ | refine blk_drew ?_ | refine blk_alloc ?_ _)); exact BK484.out⟩, ⟨by repeat (first | (with_reducible first | exact HB.out | apply below_alloc | apply pw_below_drewN | apply below_drew1 | refine below_set ?_ GE478.out | refine below_set ?_ GE484.out) | exact HB.out)⟩⟩
                case rest =>
                  clear HC21
                  try clear c1
                  try clear c2
                  try clear p2
                  try clear c3
                  try clear p4
                  try clear q4
                  try clear hx4
                  try clear c9
                  try clear c10
                  try clear c10b0
                  try clear c10b1
                  try clear c13
                  try clear c18
                  try clear c19
                  try clear c19b0
                  try clear c20
                  try clear c20b0
                  try clear c24
                  try clear c26
                  try clear c26b0
                  try clear c27
                  try clear c29
                  try clear c29b0
                  try clear c30
                  try clear c32
                  try clear hcz11_0
                  try clear hcz14_0
                  try clear hcz16_0
                  try clear hcz22_0
                  try clear hcz25_0
                  try clear hcz25_1
                  try clear hcz25_2
                  try clear hcz25_3
                  try clear hcz25_4
                  try clear hcz25_5
                  try clear hcz28_0
                  try clear hcz28_1
                  try clear hcz28_2
                  try clear hcz28_3
                  try clear hcz28_4
                  try clear hcz28_5
                  try clear hcz31_0
                  try clear hcz31_1
                  try clear hcz31_2
                  try clear hcz31_3
                  try clear hcz31_4
                  try clear hcz31_5
                  try clear hcz33_0
                  try clear hcz33_1
                  try clear hcz33_2
                  try clear hcz33_3
                  try clear hcz33_4
                  try clear hcz33_5
                  try clear hfz11_0
                  try clear hfz14_0
                  try clear hfz16_0
                  try clear hfz22_0
                  try clear hfz25_0
                  try clear hfz25_1
                  try clear hfz25_2
                  try clear hfz25_3
                  try clear hfz25_4
                  try clear hfz25_5
                  try clear hfz28_0
                  try clear hfz28_1
                  try clear hfz28_2
                  try clear hfz28_3
                  try clear hfz28_4
                  try clear hfz28_5
                  try clear hfz31_0
                  try clear hfz31_1
                  try clear hfz31_2
                  try clear hfz31_3
                  try clear hfz31_4
                  try clear hfz31_5
                  try clear hfz33_0
                  try clear hfz33_1
                  try clear hfz33_2
                  try clear hfz33_3
                  try clear hfz33_4
                  try clear hfz33_5
                  try clear hx483_0
                  try clear hx483_1
                  try clear hx483_2
                  try clear hx483_3
                  try clear hx483_4
                  try clear hx483_5
                  try clear p2
                  try clear p483
                  try clear q483
                  obtain ⟨kq, x58_20, rfl, HA, HJ20, BK478, BK484, HB⟩ := hcut
                  cases kq with
                  | zero => exact absurd HA.out (by simp [wageofficelaw39_LedgerDifferences.j2])
                  | succ kj20 =>
                    have H := HA.out
                    clear HA
                    simp only [wageofficelaw39_LedgerDifferences.j2] at H
                    by_cases c34 : x58_20 = true
                    · subst c34
                      have H1 : (wageofficelaw39_LedgerDifferences.l0 kj20 a1 a2 a3 a4 t479 x12_2 (wrap64 (x13_2 + 1)) l0_0) = some r := by rw [if_pos rfl] at H; exact H
                      clear H
                      have H := H1
                      clear H1
                      have H' := Aside0.mk H
                      clear H
                      go_wp2
                      go_roundg kj20
                      case measure => have := HJ6.out; have := HK2.out; have := HJ20.out; omega
                      case rel => exact ⟨(x12_2), (wrap64 (x13_2 + 1)), (by first | rfl | (simp; done) | (simp [*]; done)), (by first | rfl | (simp; done) | (simp [*]; done)), H', ⟨by have := HJ6.out; have := HK2.out; have := HJ20.out; omega⟩, ⟨by (with_reducible repeat (first | refine blk_drewN ?_ _ | refine blk_drew ?_ | refine blk_alloc ?_ _)); exact BK478.out⟩, ⟨by repeat (first | (with_reducible first | exact HB.out | apply below_alloc | apply pw_below_drewN | apply below_drew1 | refine below_set ?_ GE478.out | refine below_set ?_ GE484.out) | exact HB.out)⟩⟩
                    · replace c34 := Bool.eq_false_iff.mpr c34
                      subst c34
                      have H1 : (if ((rd_T26 l0_0 x13_2).f1).toList = a1.toList then (if ((rd_T26 l0_0 x13_2).f2).toList = a1.toList then (wageofficelaw39_LedgerDifferences.l0 kj20 a1 a2 a3 a4 t479 (wrap64 ((wrap64 (x12_2 + ((rd_T26 l0_0 x13_2).f3))) - ((rd_T26 l0_0 x13_2).f3))) (wrap64 (x13_2 + 1)) l0_0) else (wageofficelaw39_LedgerDifferences.l0 kj20 a1 a2 a3 a4 t479 (wrap64 (x12_2 + ((rd_T26 l0_0 x13_2).f3))) (wrap64 (x13_2 + 1)) l0_0)) else (if ((rd_T26 l0_0 x13_2).f2).toList = a1.toList then (wageofficelaw39_LedgerDifferences.l0 kj20 a1 a2 a3 a4 t479 (wrap64 (x12_2 - ((rd_T26 l0_0 x13_2).f3))) (wrap64 (x13_2 + 1)) l0_0) else (wageofficelaw39_LedgerDifferences.l0 kj20 a1 a2 a3 a4 t479 x12_2 (wrap64 (x13_2 + 1)) l0_0))) = some r := by rw [if_neg (show ¬ (false = true) by decide)] at H; exact H
                      clear H
                      have H := H1
                      clear H1
                      by_cases c35 : ((rd_T26 l0_0 x13_2).f1).toList = a1.toList
                      · rw [if_pos c35] at H
                        have c35b0 : (((rd_T26 l0_0 x13_2).f1).toList == a1.toList) = true := beq_iff_eq.mpr c35
                        have c35b1 : (((rd_T26 l0_0 x13_2).f1).toList != a1.toList) = false := bne_eq_false_iff_eq.mpr c35
                        clear c35
                        by_cases c36 : ((rd_T26 l0_0 x13_2).f2).toList = a1.toList
                        · rw [if_pos c36] at H
                          have c36b0 : (((rd_T26 l0_0 x13_2).f2).toList == a1.toList) = true := beq_iff_eq.mpr c36
                          have c36b1 : (((rd_T26 l0_0 x13_2).f2).toList != a1.toList) = false := bne_eq_false_iff_eq.mpr c36
                          clear c36
                          have H' := Aside0.mk H
                          clear H
                          have hnb37 := NB484_478.out
                          have hnc37 := NB478_484.out
                          have hcz38_0 : wc.cell? ⟨gb484, 0, none⟩ = some (.int .i64 ((rd_T26 l0_0 x13_2).f0)) := (blk_cell BK484.out 0).trans rfl
                          have hcz38_1 : wc.cell? ⟨gb484, 1, none⟩ = some (.string ((rd_T26 l0_0 x13_2).f1)) := (blk_cell BK484.out 1).trans rfl
                          have hcz38_2 : wc.cell? ⟨gb484, 2, none⟩ = some (.string ((rd_T26 l0_0 x13_2).f2)) := (blk_cell BK484.out 2).trans rfl
                          have hcz38_3 : wc.cell? ⟨gb484, 3, none⟩ = some (.int .i64 ((rd_T26 l0_0 x13_2).f3)) := (blk_cell BK484.out 3).trans rfl
                          have hcz38_4 : wc.cell? ⟨gb484, 4, none⟩ = some (.int .i64 ((rd_T26 l0_0 x13_2).f4)) := (blk_cell BK484.out 4).trans rfl
                          have hcz38_5 : wc.cell? ⟨gb484, 5, none⟩ = some (.int .i64 ((rd_T26 l0_0 x13_2).f5)) := (blk_cell BK484.out 5).trans rfl
                          have hfz38_0 := blk_frozen BK484.out 0
                          have hfz38_1 := blk_frozen BK484.out 1
                          have hfz38_2 := blk_frozen BK484.out 2
                          have hfz38_3 := blk_frozen BK484.out 3
                          have hfz38_4 := blk_frozen BK484.out 4
                          have hfz38_5 := blk_frozen BK484.out 5
                          go_wp2
                          go_roundg kj20
                          case measure => have := HJ6.out; have := HK2.out; have := HJ20.out; omega
                          case rel => exact ⟨(wrap64 ((wrap64 (x12_2 + ((rd_T26 l0_0 x13_2).f3))) - ((rd_T26 l0_0 x13_2).f3))), (wrap64 (x13_2 + 1)), (by first | rfl | (simp; done) | (simp [*]; done)), (by first | rfl | (simp; done) | (simp [*]; done)), H', ⟨by have := HJ6.out; have := HK2.out; have := HJ20.out; omega⟩, ⟨by (with_reducible repeat (first | refine blk_drewN ?_ _ | refine blk_drew ?_ | refine blk_alloc ?_ _)); exact BK478.out⟩, ⟨by repeat (first | (with_reducible first | exact HB.out | apply below_alloc | apply pw_below_drewN | apply below_drew1 | refine below_set ?_ GE478.out | refine below_set ?_ GE484.out) | exact HB.out)⟩⟩
                        · rw [if_neg c36] at H
                          have c36b0 : (((rd_T26 l0_0 x13_2).f2).toList == a1.toList) = false := beq_eq_false_iff_ne.mpr c36
                          have c36b1 : (((rd_T26 l0_0 x13_2).f2).toList != a1.toList) = true := bne_iff_ne.mpr c36
                          have H' := Aside0.mk H
                          clear H
                          have hnb39 := NB484_478.out
                          have hnc39 := NB478_484.out
                          have hcz40_0 : wc.cell? ⟨gb484, 0, none⟩ = some (.int .i64 ((rd_T26 l0_0 x13_2).f0)) := (blk_cell BK484.out 0).trans rfl
                          have hcz40_1 : wc.cell? ⟨gb484, 1, none⟩ = some (.string ((rd_T26 l0_0 x13_2).f1)) := (blk_cell BK484.out 1).trans rfl
                          have hcz40_2 : wc.cell? ⟨gb484, 2, none⟩ = some (.string ((rd_T26 l0_0 x13_2).f2)) := (blk_cell BK484.out 2).trans rfl
                          have hcz40_3 : wc.cell? ⟨gb484, 3, none⟩ = some (.int .i64 ((rd_T26 l0_0 x13_2).f3)) := (blk_cell BK484.out 3).trans rfl
                          have hcz40_4 : wc.cell? ⟨gb484, 4, none⟩ = some (.int .i64 ((rd_T26 l0_0 x13_2).f4)) := (blk_cell BK484.out 4).trans rfl
                          have hcz40_5 : wc.cell? ⟨gb484, 5, none⟩ = some (.int .i64 ((rd_T26 l0_0 x13_2).f5)) := (blk_cell BK484.out 5).trans rfl
                          have hfz40_0 := blk_frozen BK484.out 0
                          have hfz40_1 := blk_frozen BK484.out 1
                          have hfz40_2 := blk_frozen BK484.out 2
                          have hfz40_3 := blk_frozen BK484.out 3
                          have hfz40_4 := blk_frozen BK484.out 4
                          have hfz40_5 := blk_frozen BK484.out 5
                          go_wp2
                          go_roundg kj20
                          case measure => have := HJ6.out; have := HK2.out; have := HJ20.out; omega
                          case rel => exact ⟨(wrap64 (x12_2 + ((rd_T26 l0_0 x13_2).f3))), (wrap64 (x13_2 + 1)), (by first | rfl | (simp; done) | (simp [*]; done)), (by first | rfl | (simp; done) | (simp [*]; done)), H', ⟨by have := HJ6.out; have := HK2.out; have := HJ20.out; omega⟩, ⟨by (with_reducible repeat (first | refine blk_drewN ?_ _ | refine blk_drew ?_ | refine blk_alloc ?_ _)); exact BK478.out⟩, ⟨by repeat (first | (with_reducible first | exact HB.out | apply below_alloc | apply pw_below_drewN | apply below_drew1 | refine below_set ?_ GE478.out | refine below_set ?_ GE484.out) | exact HB.out)⟩⟩
                      · rw [if_neg c35] at H
                        have c35b0 : (((rd_T26 l0_0 x13_2).f1).toList == a1.toList) = false := beq_eq_false_iff_ne.mpr c35
                        have c35b1 : (((rd_T26 l0_0 x13_2).f1).toList != a1.toList) = true := bne_iff_ne.mpr c35
                        by_cases c41 : ((rd_T26 l0_0 x13_2).f2).toList = a1.toList
                        · rw [if_pos c41] at H
                          have c41b0 : (((rd_T26 l0_0 x13_2).f2).toList == a1.toList) = true := beq_iff_eq.mpr c41
                          have c41b1 : (((rd_T26 l0_0 x13_2).f2).toList != a1.toList) = false := bne_eq_false_iff_eq.mpr c41
                          clear c41
                          have H' := Aside0.mk H
                          clear H
                          have hnb42 := NB484_478.out
                          have hnc42 := NB478_484.out
                          have hcz43_0 : wc.cell? ⟨gb484, 0, none⟩ = some (.int .i64 ((rd_T26 l0_0 x13_2).f0)) := (blk_cell BK484.out 0).trans rfl
                          have hcz43_1 : wc.cell? ⟨gb484, 1, none⟩ = some (.string ((rd_T26 l0_0 x13_2).f1)) := (blk_cell BK484.out 1).trans rfl
                          have hcz43_2 : wc.cell? ⟨gb484, 2, none⟩ = some (.string ((rd_T26 l0_0 x13_2).f2)) := (blk_cell BK484.out 2).trans rfl
                          have hcz43_3 : wc.cell? ⟨gb484, 3, none⟩ = some (.int .i64 ((rd_T26 l0_0 x13_2).f3)) := (blk_cell BK484.out 3).trans rfl
                          have hcz43_4 : wc.cell? ⟨gb484, 4, none⟩ = some (.int .i64 ((rd_T26 l0_0 x13_2).f4)) := (blk_cell BK484.out 4).trans rfl
                          have hcz43_5 : wc.cell? ⟨gb484, 5, none⟩ = some (.int .i64 ((rd_T26 l0_0 x13_2).f5)) := (blk_cell BK484.out 5).trans rfl
                          have hfz43_0 := blk_frozen BK484.out 0
                          have hfz43_1 := blk_frozen BK484.out 1
                          have hfz43_2 := blk_frozen BK484.out 2
                          have hfz43_3 := blk_frozen BK484.out 3
                          have hfz43_4 := blk_frozen BK484.out 4
                          have hfz43_5 := blk_frozen BK484.out 5
                          go_wp2
                          go_roundg kj20
                          case measure => have := HJ6.out; have := HK2.out; have := HJ20.out; omega
                          case rel => exact ⟨(wrap64 (x12_2 - ((rd_T26 l0_0 x13_2).f3))), (wrap64 (x13_2 + 1)), (by first | rfl | (simp; done) | (simp [*]; done)), (by first | rfl | (simp; done) | (simp [*]; done)), H', ⟨by have := HJ6.out; have := HK2.out; have := HJ20.out; omega⟩, ⟨by (with_reducible repeat (first | refine blk_drewN ?_ _ | refine blk_drew ?_ | refine blk_alloc ?_ _)); exact BK478.out⟩, ⟨by repeat (first | (with_reducible first | exact HB.out | apply below_alloc | apply pw_below_drewN | apply below_drew1 | refine below_set ?_ GE478.out | refine below_set ?_ GE484.out) | exact HB.out)⟩⟩
                        · rw [if_neg c41] at H
                          have c41b0 : (((rd_T26 l0_0 x13_2).f2).toList == a1.toList) = false := beq_eq_false_iff_ne.mpr c41
                          have c41b1 : (((rd_T26 l0_0 x13_2).f2).toList != a1.toList) = true := bne_iff_ne.mpr c41
                          have H' := Aside0.mk H
                          clear H
                          have hnb44 := NB484_478.out
                          have hnc44 := NB478_484.out
                          have hcz45_0 : wc.cell? ⟨gb484, 0, none⟩ = some (.int .i64 ((rd_T26 l0_0 x13_2).f0)) := (blk_cell BK484.out 0).trans rfl
                          have hcz45_1 : wc.cell? ⟨gb484, 1, none⟩ = some (.string ((rd_T26 l0_0 x13_2).f1)) := (blk_cell BK484.out 1).trans rfl
                          have hcz45_2 : wc.cell? ⟨gb484, 2, none⟩ = some (.string ((rd_T26 l0_0 x13_2).f2)) := (blk_cell BK484.out 2).trans rfl
                          have hcz45_3 : wc.cell? ⟨gb484, 3, none⟩ = some (.int .i64 ((rd_T26 l0_0 x13_2).f3)) := (blk_cell BK484.out 3).trans rfl
                          have hcz45_4 : wc.cell? ⟨gb484, 4, none⟩ = some (.int .i64 ((rd_T26 l0_0 x13_2).f4)) := (blk_cell BK484.out 4).trans rfl
                          have hcz45_5 : wc.cell? ⟨gb484, 5, none⟩ = some (.int .i64 ((rd_T26 l0_0 x13_2).f5)) := (blk_cell BK484.out 5).trans rfl
                          have hfz45_0 := blk_frozen BK484.out 0
                          have hfz45_1 := blk_frozen BK484.out 1
                          have hfz45_2 := blk_frozen BK484.out 2
                          have hfz45_3 := blk_frozen BK484.out 3
                          have hfz45_4 := blk_frozen BK484.out 4
                          have hfz45_5 := blk_frozen BK484.out 5
                          go_wp2
                          go_roundg kj20
                          case measure => have := HJ6.out; have := HK2.out; have := HJ20.out; omega
                          case rel => exact ⟨(x12_2), (wrap64 (x13_2 + 1)), (by first | rfl | (simp; done) | (simp [*]; done)), (by first | rfl | (simp; done) | (simp [*]; done)), H', ⟨by have := HJ6.out; have := HK2.out; have := HJ20.out; omega⟩, ⟨by (with_reducible repeat (first | refine blk_drewN ?_ _ | refine blk_drew ?_ | refine blk_alloc ?_ _)); exact BK478.out⟩, ⟨by repeat (first | (with_reducible first | exact HB.out | apply below_alloc | apply pw_below_drewN | apply below_drew1 | refine below_set ?_ GE478.out | refine below_set ?_ GE484.out) | exact HB.out)⟩⟩
              · rw [if_neg c20] at H
                exact absurd H (by simp)
            · rw [if_neg c19] at H
              have c19b0 : decide (x13_2 < (l0_0.length : Int)) = false := decide_eq_false c19
              clear c19
              by_cases c46 : t479 = true
              · subst c46
                have H1 : ((ledger_Balance.f l0_0 a1 a2 a4).bind fun t481 => ((ledger_Balance.f l0_0 a1 a2 a3).bind fun t482 => (some ((wrap64 (t481 - t482)) == x12_2)))) = some r := by rw [if_pos rfl] at H; exact H
                clear H
                have H := H1
                clear H1
                replace H := Option.bind_eq_some_iff.mp H
                obtain ⟨t481, A470, H⟩ := H
                replace H : ((ledger_Balance.f l0_0 a1 a2 a3).bind fun t482 => (some ((wrap64 (t481 - t482)) == x12_2))) = some r := H
                have A47 := Aside0.mk A470
                clear A470
                replace H := Option.bind_eq_some_iff.mp H
                obtain ⟨t482, A480, H⟩ := H
                replace H : (some ((wrap64 (t481 - t482)) == x12_2)) = some r := H
                have A48 := Aside0.mk A480
                clear A480
                obtain rfl := Option.some.inj H
                have hcz49_0 : wr.cell? ⟨gb478, 0, none⟩ = some (.slice A0_0 l0_0.length c0_0) := (blk_cell BK478.out 0).trans rfl
                have hfz49_0 := blk_frozen BK478.out 0
                try go_wp2
                have n0_ := Aside0.mk (blk_drew BK478.out)
                have n1_ := Aside0.mk (below_drew1 HB.out)
                clear BK478
                clear HB
                have BK478 := n0_
                have HB := n1_
                clear n0_ n1_
                refine start_ (n := 17) (S := fun w' => w'.cell? ⟨gb478, 0, none⟩ = some (.slice A0_0 l0_0.length c0_0)) (ds := []) #[false, false, false, false, false, false, false, false, false, false, false, false, false, false, false, false, false] (by kernel_rfl) rfl rfl ((blk_cell BK478.out 0).trans rfl) (fun hHeld => ?_); refine with_tabW wageofficelaw39_LedgerDifferences.tab14 wageofficelaw39_LedgerDifferences.bits14 (fun HT_ HW_ => ?_)
                generalize wr.drew = w50 at BK478 HB hHeld ⊢
                refine pure_ (i := 0) (N := some 75) (v := ?_) (a' := ?_) #[true, false, false, false, false, false, false, false, false, false, false, false, false, false, false, false, false] rfl rfl (any_of HT_.out (by kernel_rfl)) (fun _ _ _ h => h) (Or.inl ⟨by rfl, ?_⟩) ?_ ?_
                rotate_left
                · intro w'
                  go_simp
                  with_reducible rfl
                rotate_left
                · simp only [Act.put, List.setIfInBounds_toArray, List.set_cons_zero, List.set_cons_succ, i64_w, i32_w]
                  rfl
                refine pure_ (i := 1) (N := some 76) (v := ?_) (a' := ?_) #[true, true, false, false, false, false, false, false, false, false, false, false, false, false, false, false, false] rfl rfl (any_of HT_.out (by kernel_rfl)) (fun _ _ _ h => h) (Or.inl ⟨by rfl, ?_⟩) ?_ ?_
                rotate_left
                · intro w'
                  go_simp
                  with_reducible rfl
                rotate_left
                · simp only [Act.put, List.setIfInBounds_toArray, List.set_cons_zero, List.set_cons_succ, i64_w, i32_w]
                  rfl
                refine pure_ (i := 3) (N := some 78) (v := ?_) (a' := ?_) #[true, true, false, true, false, false, false, false, false, false, false, false, false, false, false, false, false] rfl rfl (any_of HT_.out (by kernel_rfl)) (fun _ _ _ h => h) (Or.inl ⟨by rfl, ?_⟩) ?_ ?_
                rotate_left
                · intro w'
                  go_simp
                  with_reducible rfl
                rotate_left
                · simp only [Act.put, List.setIfInBounds_toArray, List.set_cons_zero, List.set_cons_succ, i64_w, i32_w]
                  rfl
                refine pure_ (i := 4) (N := some 79) (v := ?_) (a' := ?_) #[true, true, false, true, true, false, false, false, false, false, false, false, false, false, false, false, false] rfl rfl (any_of HT_.out (by kernel_rfl)) (fun _ _ _ h => h) (Or.inl ⟨by rfl, ?_⟩) ?_ ?_
                rotate_left
                · intro w'
                  go_simp
                  with_reducible rfl
                rotate_left
                · simp only [Act.put, List.setIfInBounds_toArray, List.set_cons_zero, List.set_cons_succ, i64_w, i32_w]
                  rfl
                refine pure_ (i := 5) (N := some 80) (v := ?_) (a' := ?_) #[true, true, false, true, true, true, false, false, false, false, false, false, false, false, false, false, false] rfl rfl (any_of HT_.out (by kernel_rfl)) (fun _ _ _ h => h) (Or.inl ⟨by rfl, ?_⟩) ?_ ?_
                rotate_left
                · intro w'
                  go_simp
                  with_reducible rfl
                rotate_left
                · simp only [Act.put, List.setIfInBounds_toArray, List.set_cons_zero, List.set_cons_succ, i64_w, i32_w]
                  rfl
                refine pure_ (i := 8) (N := some 83) (v := ?_) (a' := ?_) #[true, true, false, true, true, true, false, false, true, false, false, false, false, false, false, false, false] rfl rfl (any_of HT_.out (by kernel_rfl)) (fun _ _ _ h => h) (Or.inl ⟨by rfl, ?_⟩) ?_ ?_
                rotate_left
                · intro w'
                  go_simp
                  with_reducible rfl
                rotate_left
                · simp only [Act.put, List.setIfInBounds_toArray, List.set_cons_zero, List.set_cons_succ, i64_w, i32_w]
                  rfl
                refine pure_ (i := 9) (N := some 84) (v := ?_) (a' := ?_) #[true, true, false, true, true, true, false, false, true, true, false, false, false, false, false, false, false] rfl rfl (any_of HT_.out (by kernel_rfl)) (fun _ _ _ h => h) (Or.inl ⟨by rfl, ?_⟩) ?_ ?_
                rotate_left
                · intro w'
                  go_simp
                  with_reducible rfl
                rotate_left
                · simp only [Act.put, List.setIfInBounds_toArray, List.set_cons_zero, List.set_cons_succ, i64_w, i32_w]
                  rfl
                refine pure_ (i := 10) (N := some 85) (v := ?_) (a' := ?_) #[true, true, false, true, true, true, false, false, true, true, true, false, false, false, false, false, false] rfl rfl (any_of HT_.out (by kernel_rfl)) (fun _ _ _ h => h) (Or.inl ⟨by rfl, ?_⟩) ?_ ?_
                rotate_left
                · intro w'
                  go_simp
                  with_reducible rfl
                rotate_left
                · simp only [Act.put, List.setIfInBounds_toArray, List.set_cons_zero, List.set_cons_succ, i64_w, i32_w]
                  rfl
                refine pure_ (i := 13) (N := some 88) (v := ?_) (a' := ?_) #[true, true, false, true, true, true, false, false, true, true, true, false, false, true, false, false, false] rfl rfl (any_of HT_.out (by kernel_rfl)) (fun _ _ _ h => h) (Or.inl ⟨by rfl, ?_⟩) ?_ ?_
                rotate_left
                · intro w'
                  go_simp
                  with_reducible rfl
                rotate_left
                · simp only [Act.put, List.setIfInBounds_toArray, List.set_cons_zero, List.set_cons_succ, i64_w, i32_w]
                  rfl
                refine take_ (i := 2) (N := some 77) (v := ?_) (a' := ?_) #[true, true, true, true, true, true, false, false, true, true, true, false, false, true, false, false, false] rfl rfl (take_ofW HT_.out HW_.out (by kernel_rfl)) (fun _ _ _ h => h) (Or.inl ⟨by rfl, ?_⟩) hHeld ?_ ?_
                rotate_left
                · intro w' s0
                  go_simp
                  with_reducible rfl
                rotate_left
                · simp only [Act.put, List.setIfInBounds_toArray, List.set_cons_zero, List.set_cons_succ, i64_w, i32_w]
                  rfl
                refine take_ (i := 7) (N := some 82) (v := ?_) (a' := ?_) #[true, true, true, true, true, true, false, true, true, true, true, false, false, true, false, false, false] rfl rfl (take_ofW HT_.out HW_.out (by kernel_rfl)) (fun _ _ _ h => h) (Or.inl ⟨by rfl, ?_⟩) hHeld ?_ ?_
                rotate_left
                · intro w' s0
                  go_simp
                  with_reducible rfl
                rotate_left
                · simp only [Act.put, List.setIfInBounds_toArray, List.set_cons_zero, List.set_cons_succ, i64_w, i32_w]
                  rfl
                refine one_ (i := 6) (N := some 81) #[true, true, true, true, true, true, true, true, true, true, true, false, false, true, false, false, false] rfl rfl (one_of HT_.out (by kernel_rfl)) (by decide) (fun K hK => ?_)
                refine goes_ Try.func24 (by kernel_rfl) rfl #[.agg #[.slice A0_0 l0_0.length c0_0], .string a1, .int .i64 a2, .int .i64 a4] (by rfl) rfl rfl (by (try simp only [List.map_toArray, List.map_cons, List.map_nil]); first | done | rfl | (simp only [List.length_drop, List.length_take]; rfl)) ?_
                with_reducible refine (ledger_Balance.calls _ _ l0_0 a1 a2 a4 t481 _ ?side1 ?side2 A47.out).mono ?_
                (case side1 => repeat (first | exact (Kd.C_below HR0_0.out HB.out) | (with_reducible refine Kd.C_alloc ?_ _) | (with_reducible refine Kd.C_drewN ?_ _) | (with_reducible refine Kd.C_drew ?_)))
                (case side2 => exact HC0_0.out)
                rintro e w51 ⟨rfl, hb⟩
                refine ⟨_, rfl, ?_⟩
                have n0_ := Aside0.mk (blk_below (g := gb478) (o := .cells #[.slice A0_0 l0_0.length c0_0] 24 (0, 0)) (by (with_reducible repeat (first | refine blk_drewN ?_ _ | refine blk_drew ?_ | refine blk_alloc ?_ _)); exact BK478.out) hb)
                have n1_ := Aside0.mk (below_step (by repeat (first | (with_reducible first | exact HB.out | apply below_alloc | apply pw_below_drewN | apply below_drew1 | refine below_set ?_ GE478.out) | exact HB.out)) hb)
                clear BK478
                clear HB
                have BK478 := n0_
                have HB := n1_
                clear n0_ n1_
                (try clear hb)
                (try clear hb2)
                (try clear hk)
                (try clear hi)
                refine hK.out _ _ ((blk_cell BK478.out 0).trans rfl) (fun hHeld => ?_)
                clear hK K
                refine norm_ (a' := ?_) ?_ ?_
                rotate_left
                · show Act.put _ (some 81) _ = _
                  simp only [Act.put, List.setIfInBounds_toArray, List.set_cons_zero, List.set_cons_succ, i64_w, i32_w]
                  rfl
                refine one_ (i := 11) (N := some 86) #[true, true, true, true, true, true, true, true, true, true, true, true, false, true, false, false, false] rfl rfl (one_of HT_.out (by kernel_rfl)) (by decide) (fun K hK => ?_)
                refine goes_ Try.func24 (by kernel_rfl) rfl #[.agg #[.slice A0_0 l0_0.length c0_0], .string a1, .int .i64 a2, .int .i64 a3] (by rfl) rfl rfl (by (try simp only [List.map_toArray, List.map_cons, List.map_nil]); first | done | rfl | (simp only [List.length_drop, List.length_take]; rfl)) ?_
                with_reducible refine (ledger_Balance.calls _ _ l0_0 a1 a2 a3 t482 _ ?side1 ?side2 A48.out).mono ?_
                (case side1 => repeat (first | exact (Kd.C_below HR0_0.out HB.out) | (with_reducible refine Kd.C_alloc ?_ _) | (with_reducible refine Kd.C_drewN ?_ _) | (with_reducible refine Kd.C_drew ?_)))
                (case side2 => exact HC0_0.out)
                rintro e w52 ⟨rfl, hb⟩
                refine ⟨_, rfl, ?_⟩
                have n0_ := Aside0.mk (blk_below (g := gb478) (o := .cells #[.slice A0_0 l0_0.length c0_0] 24 (0, 0)) (by (with_reducible repeat (first | refine blk_drewN ?_ _ | refine blk_drew ?_ | refine blk_alloc ?_ _)); exact BK478.out) hb)
                have n1_ := Aside0.mk (below_step (by repeat (first | (with_reducible first | exact HB.out | apply below_alloc | apply pw_below_drewN | apply below_drew1 | refine below_set ?_ GE478.out) | exact HB.out)) hb)
                clear BK478
                clear HB
                have BK478 := n0_
                have HB := n1_
                clear n0_ n1_
                (try clear hb)
                (try clear hb2)
                (try clear hk)
                (try clear hi)
                refine hK.out _ _ ((blk_cell BK478.out 0).trans rfl) (fun hHeld => ?_)
                clear hK K
                refine norm_ (a' := ?_) ?_ ?_
                rotate_left
                · show Act.put _ (some 86) _ = _
                  simp only [Act.put, List.setIfInBounds_toArray, List.set_cons_zero, List.set_cons_succ, i64_w, i32_w]
                  rfl
                refine pure_ (i := 12) (N := some 87) (v := ?_) (a' := ?_) #[true, true, true, true, true, true, true, true, true, true, true, true, true, true, false, false, false] rfl rfl (any_of HT_.out (by kernel_rfl)) (fun _ _ _ h => h) (Or.inl ⟨by rfl, ?_⟩) ?_ ?_
                rotate_left
                · intro w'
                  go_simp
                  with_reducible rfl
                rotate_left
                · simp only [Act.put, List.setIfInBounds_toArray, List.set_cons_zero, List.set_cons_succ, i64_w, i32_w]
                  rfl
                refine pure_ (i := 14) (N := some 89) (v := ?_) (a' := ?_) #[true, true, true, true, true, true, true, true, true, true, true, true, true, true, true, false, false] rfl rfl (any_of HT_.out (by kernel_rfl)) (fun _ _ _ h => h) (Or.inl ⟨by rfl, ?_⟩) ?_ ?_
                rotate_left
                · intro w'
                  go_simp
                  with_reducible rfl
                rotate_left
                · simp only [Act.put, List.setIfInBounds_toArray, List.set_cons_zero, List.set_cons_succ, i64_w, i32_w]
                  rfl
                refine pure_ (i := 15) (N := some 90) (v := ?_) (a' := ?_) #[true, true, true, true, true, true, true, true, true, true, true, true, true, true, true, true, false] rfl rfl (any_of HT_.out (by kernel_rfl)) (fun _ _ _ h => h) (Or.inl ⟨by rfl, ?_⟩) ?_ ?_
                rotate_left
                · intro w'
                  go_simp
                  with_reducible rfl
                rotate_left
                · simp only [Act.put, List.setIfInBounds_toArray, List.set_cons_zero, List.set_cons_succ, i64_w, i32_w]
                  rfl
                refine pure_ (i := 16) (N := some 10) (v := ?_) (a' := ?_) #[true, true, true, true, true, true, true, true, true, true, true, true, true, true, true, true, true] rfl rfl (any_of HT_.out (by kernel_rfl)) (fun _ _ _ h => h) (Or.inl ⟨by rfl, ?_⟩) ?_ ?_
                rotate_left
                · intro w'
                  go_simp
                  with_reducible rfl
                rotate_left
                · simp only [Act.put, List.setIfInBounds_toArray, List.set_cons_zero, List.set_cons_succ, i64_w, i32_w]
                  rfl
                refine done_ (done_of HT_.out (by kernel_rfl)) ?_
                try go_wp2
                go_ret
                exact ⟨by first | rfl | (simp [errW_none, errW_some] <;> rfl) | (simp [*, errW_none, errW_some] <;> rfl), by repeat (first | (with_reducible first | exact HB.out | apply below_alloc | apply pw_below_drewN | apply below_drew1 | refine below_set ?_ GE478.out) | exact HB.out)⟩
              · replace c46 := Bool.eq_false_iff.mpr c46
                subst c46
                have H1 : (some false) = some r := by rw [if_neg (show ¬ (false = true) by decide)] at H; exact H
                clear H
                have H := H1
                clear H1
                obtain rfl := Option.some.inj H
                have hcz53_0 : wr.cell? ⟨gb478, 0, none⟩ = some (.slice A0_0 l0_0.length c0_0) := (blk_cell BK478.out 0).trans rfl
                have hfz53_0 := blk_frozen BK478.out 0
                try go_wp2
                have n0_ := Aside0.mk (blk_drew BK478.out)
                have n1_ := Aside0.mk (below_drew1 HB.out)
                clear BK478
                clear HB
                have BK478 := n0_
                have HB := n1_
                clear n0_ n1_
                refine start_ (n := 17) (S := fun w' => True) (ds := []) #[false, false, false, false, false, false, false, false, false, false, false, false, false, false, false, false, false] (by kernel_rfl) rfl rfl trivial (fun hHeld => ?_); refine with_tabW wageofficelaw39_LedgerDifferences.tab14 wageofficelaw39_LedgerDifferences.bits14 (fun HT_ HW_ => ?_)
                generalize wr.drew = w54 at BK478 HB hHeld ⊢
                refine pure_ (i := 0) (N := some 75) (v := ?_) (a' := ?_) #[true, false, false, false, false, false, false, false, false, false, false, false, false, false, false, false, false] rfl rfl (any_of HT_.out (by kernel_rfl)) (fun _ _ _ h => h) (Or.inl ⟨by rfl, ?_⟩) ?_ ?_
                rotate_left
                · intro w'
                  go_simp
                  with_reducible rfl
                rotate_left
                · simp only [Act.put, List.setIfInBounds_toArray, List.set_cons_zero, List.set_cons_succ, i64_w, i32_w]
                  rfl
                refine pure_ (i := 1) (N := some 76) (v := ?_) (a' := ?_) #[true, true, false, false, false, false, false, false, false, false, false, false, false, false, false, false, false] rfl rfl (any_of HT_.out (by kernel_rfl)) (fun _ _ _ h => h) (Or.inl ⟨by rfl, ?_⟩) ?_ ?_
                rotate_left
                · intro w'
                  go_simp
                  with_reducible rfl
                rotate_left
                · simp only [Act.put, List.setIfInBounds_toArray, List.set_cons_zero, List.set_cons_succ, i64_w, i32_w]
                  rfl
                refine pure_ (i := 2) (N := some 77) (v := undef) (a' := ?_) #[true, true, true, false, false, false, false, false, false, false, false, false, false, false, false, false, false] rfl rfl (any_of HT_.out (by kernel_rfl)) (fun _ _ _ h => h) (Or.inr ⟨by rfl, rfl⟩) ?_ ?_
                rotate_left
                · simp only [Act.put, List.setIfInBounds_toArray, List.set_cons_zero, List.set_cons_succ, i64_w, i32_w]
                  rfl
                refine pure_ (i := 3) (N := some 78) (v := undef) (a' := ?_) #[true, true, true, true, false, false, false, false, false, false, false, false, false, false, false, false, false] rfl rfl (any_of HT_.out (by kernel_rfl)) (fun _ _ _ h => h) (Or.inr ⟨by rfl, rfl⟩) ?_ ?_
                rotate_left
                · simp only [Act.put, List.setIfInBounds_toArray, List.set_cons_zero, List.set_cons_succ, i64_w, i32_w]
                  rfl
                refine pure_ (i := 4) (N := some 79) (v := undef) (a' := ?_) #[true, true, true, true, true, false, false, false, false, false, false, false, false, false, false, false, false] rfl rfl (any_of HT_.out (by kernel_rfl)) (fun _ _ _ h => h) (Or.inr ⟨by rfl, rfl⟩) ?_ ?_
                rotate_left
                · simp only [Act.put, List.setIfInBounds_toArray, List.set_cons_zero, List.set_cons_succ, i64_w, i32_w]
                  rfl
                refine pure_ (i := 5) (N := some 80) (v := undef) (a' := ?_) #[true, true, true, true, true, true, false, false, false, false, false, false, false, false, false, false, false] rfl rfl (any_of HT_.out (by kernel_rfl)) (fun _ _ _ h => h) (Or.inr ⟨by rfl, rfl⟩) ?_ ?_
                rotate_left
                · simp only [Act.put, List.setIfInBounds_toArray, List.set_cons_zero, List.set_cons_succ, i64_w, i32_w]
                  rfl
                refine pure_ (i := 6) (N := some 81) (v := undef) (a' := ?_) #[true, true, true, true, true, true, true, false, false, false, false, false, false, false, false, false, false] rfl rfl (any_of HT_.out (by kernel_rfl)) (fun _ _ _ h => h) (Or.inr ⟨by rfl, rfl⟩) ?_ ?_
                rotate_left
                · simp only [Act.put, List.setIfInBounds_toArray, List.set_cons_zero, List.set_cons_succ, i64_w, i32_w]
                  rfl
                refine pure_ (i := 7) (N := some 82) (v := undef) (a' := ?_) #[true, true, true, true, true, true, true, true, false, false, false, false, false, false, false, false, false] rfl rfl (any_of HT_.out (by kernel_rfl)) (fun _ _ _ h => h) (Or.inr ⟨by rfl, rfl⟩) ?_ ?_
                rotate_left
                · simp only [Act.put, List.setIfInBounds_toArray, List.set_cons_zero, List.set_cons_succ, i64_w, i32_w]
                  rfl
                refine pure_ (i := 8) (N := some 83) (v := undef) (a' := ?_) #[true, true, true, true, true, true, true, true, true, false, false, false, false, false, false, false, false] rfl rfl (any_of HT_.out (by kernel_rfl)) (fun _ _ _ h => h) (Or.inr ⟨by rfl, rfl⟩) ?_ ?_
                rotate_left
                · simp only [Act.put, List.setIfInBounds_toArray, List.set_cons_zero, List.set_cons_succ, i64_w, i32_w]
                  rfl
                refine pure_ (i := 9) (N := some 84) (v := undef) (a' := ?_) #[true, true, true, true, true, true, true, true, true, true, false, false, false, false, false, false, false] rfl rfl (any_of HT_.out (by kernel_rfl)) (fun _ _ _ h => h) (Or.inr ⟨by rfl, rfl⟩) ?_ ?_
                rotate_left
                · simp only [Act.put, List.setIfInBounds_toArray, List.set_cons_zero, List.set_cons_succ, i64_w, i32_w]
                  rfl
                refine pure_ (i := 10) (N := some 85) (v := undef) (a' := ?_) #[true, true, true, true, true, true, true, true, true, true, true, false, false, false, false, false, false] rfl rfl (any_of HT_.out (by kernel_rfl)) (fun _ _ _ h => h) (Or.inr ⟨by rfl, rfl⟩) ?_ ?_
                rotate_left
                · simp only [Act.put, List.setIfInBounds_toArray, List.set_cons_zero, List.set_cons_succ, i64_w, i32_w]
                  rfl
                refine pure_ (i := 11) (N := some 86) (v := undef) (a' := ?_) #[true, true, true, true, true, true, true, true, true, true, true, true, false, false, false, false, false] rfl rfl (any_of HT_.out (by kernel_rfl)) (fun _ _ _ h => h) (Or.inr ⟨by rfl, rfl⟩) ?_ ?_
                rotate_left
                · simp only [Act.put, List.setIfInBounds_toArray, List.set_cons_zero, List.set_cons_succ, i64_w, i32_w]
                  rfl
                refine pure_ (i := 12) (N := some 87) (v := undef) (a' := ?_) #[true, true, true, true, true, true, true, true, true, true, true, true, true, false, false, false, false] rfl rfl (any_of HT_.out (by kernel_rfl)) (fun _ _ _ h => h) (Or.inr ⟨by rfl, rfl⟩) ?_ ?_
                rotate_left
                · simp only [Act.put, List.setIfInBounds_toArray, List.set_cons_zero, List.set_cons_succ, i64_w, i32_w]
                  rfl
                refine pure_ (i := 13) (N := some 88) (v := undef) (a' := ?_) #[true, true, true, true, true, true, true, true, true, true, true, true, true, true, false, false, false] rfl rfl (any_of HT_.out (by kernel_rfl)) (fun _ _ _ h => h) (Or.inr ⟨by rfl, rfl⟩) ?_ ?_
                rotate_left
                · simp only [Act.put, List.setIfInBounds_toArray, List.set_cons_zero, List.set_cons_succ, i64_w, i32_w]
                  rfl
                refine pure_ (i := 14) (N := some 89) (v := undef) (a' := ?_) #[true, true, true, true, true, true, true, true, true, true, true, true, true, true, true, false, false] rfl rfl (any_of HT_.out (by kernel_rfl)) (fun _ _ _ h => h) (Or.inr ⟨by rfl, rfl⟩) ?_ ?_
                rotate_left
                · simp only [Act.put, List.setIfInBounds_toArray, List.set_cons_zero, List.set_cons_succ, i64_w, i32_w]
                  rfl
                refine pure_ (i := 15) (N := some 90) (v := ?_) (a' := ?_) #[true, true, true, true, true, true, true, true, true, true, true, true, true, true, true, true, false] rfl rfl (any_of HT_.out (by kernel_rfl)) (fun _ _ _ h => h) (Or.inl ⟨by rfl, ?_⟩) ?_ ?_
                rotate_left
                · intro w'
                  go_simp
                  with_reducible rfl
                rotate_left
                · simp only [Act.put, List.setIfInBounds_toArray, List.set_cons_zero, List.set_cons_succ, i64_w, i32_w]
                  rfl
                refine pure_ (i := 16) (N := some 10) (v := ?_) (a' := ?_) #[true, true, true, true, true, true, true, true, true, true, true, true, true, true, true, true, true] rfl rfl (any_of HT_.out (by kernel_rfl)) (fun _ _ _ h => h) (Or.inl ⟨by rfl, ?_⟩) ?_ ?_
                rotate_left
                · intro w'
                  go_simp
                  with_reducible rfl
                rotate_left
                · simp only [Act.put, List.setIfInBounds_toArray, List.set_cons_zero, List.set_cons_succ, i64_w, i32_w]
                  rfl
                refine done_ (done_of HT_.out (by kernel_rfl)) ?_
                try go_wp2
                go_ret
                exact ⟨by first | rfl | (simp [errW_none, errW_some] <;> rfl) | (simp [*, errW_none, errW_some] <;> rfl), by repeat (first | (with_reducible first | exact HB.out | apply below_alloc | apply pw_below_drewN | apply below_drew1 | refine below_set ?_ GE478.out) | exact HB.out)⟩

end Go.Proofs.Ytbmochegfdljfaa.My
