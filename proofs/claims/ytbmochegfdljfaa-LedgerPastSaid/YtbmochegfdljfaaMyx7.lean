-- Written by a program of this session (wip/myprint.py), which drives the kit's print over hand-written fragments. Not trusted: Lean checks it.
import Derived.Test.YtbmochegfdljfaaMyx0
import Derived.Test.YtbmochegfdljfaaMyx18
import Derived.Test.YtbmochegfdljfaaMyx19
import Derived.Test.YtbmochegfdljfaaMyx24
namespace Go.Proofs.Ytbmochegfdljfaa.My
open Go.Proofs.Ytbmochegfdljfaa.Aid Go.Proofs.Ytbmochegfdljfaa.KdX
open Go.RowKit Go.Proofs.YtbmochegfdljfaaW.PrintWords Go.Proofs.YtbmochegfdljfaaW.PrintLast Go.Proofs.YtbmochegfdljfaaW.PrintMore
attribute [local go_sem] max2_int min2_int max_two min_two max_three min_three max_four min_four   -- for this text's walks alone
set_option linter.unusedVariables false
set_option linter.unusedSimpArgs false

/-! ### wageofficelaw39_LedgerPast: function 7 -/
mutual
def wageofficelaw39_LedgerPast.j0 : Nat → List (S26) → ByteArray → Int → Int → Bool → Bool → List (S26) → Option (Bool)
  | 0, _, _, _, _, _, _, _ => none
  | k + 1, x1, x2, x3, x4, x11, x25, x436000 => if x25 = true then (some x11) else (wageofficelaw39_LedgerPast.l0 k x1 x2 x3 x4 x11 0 x436000 x436000)
def wageofficelaw39_LedgerPast.l0 : Nat → List (S26) → ByteArray → Int → Int → Bool → Int → List (S26) → List (S26) → Option (Bool)
  | 0, _, _, _, _, _, _, _, _ => none
  | k + 1, x1, x2, x3, x4, x11, x13, x436000, x438000 => if x13 < (x1.length : Int) then (if 0 ≤ x13 then (if ((rd_T26 x1 x13).f5) ≤ x4 then (wageofficelaw39_LedgerPast.l0 k x1 x2 x3 x4 x11 (wrap64 (x13 + 1)) x436000 x438000) else ((ledger_Post.f x438000 ((rd_T26 x1 x13).f0) ((rd_T26 x1 x13).f1) ((rd_T26 x1 x13).f2) ((rd_T26 x1 x13).f3) ((rd_T26 x1 x13).f4) ((rd_T26 x1 x13).f5)).bind fun bt442 => (if bt442.2 = 0 then (wageofficelaw39_LedgerPast.l0 k x1 x2 x3 x4 x11 (wrap64 (x13 + 1)) x436000 bt442.1) else (wageofficelaw39_LedgerPast.l0 k x1 x2 x3 x4 x11 (wrap64 (x13 + 1)) x436000 x438000)))) else (none)) else (if x11 = true then ((ledger_Balance.f x436000 x2 x3 x4).bind fun t438 => ((ledger_Balance.f x438000 x2 x3 x4).bind fun t439 => (some (t438 == t439)))) else (some false))
end
def wageofficelaw39_LedgerPast.f (k : Nat) (l0_0 : List (S26)) (l1 : List (S26)) (a2 : ByteArray) (a3 : Int) (a4 : Int) : Option (Bool) := (wageofficelaw39_head.f k).bind fun t436 => (if (l0_0.length : Int) > 300 then (wageofficelaw39_LedgerPast.j0 k l1 a2 a3 a4 t436 true l0_0) else (wageofficelaw39_LedgerPast.j0 k l1 a2 a3 a4 t436 (decide ((l1.length : Int) > 20)) l0_0))
theorem wageofficelaw39_LedgerPast.mono_l : ∀ k, (∀ y0 y1 y2 y3 y4 y5 y6, LeO (wageofficelaw39_LedgerPast.j0 k y0 y1 y2 y3 y4 y5 y6) (wageofficelaw39_LedgerPast.j0 (k + 1) y0 y1 y2 y3 y4 y5 y6)) ∧ (∀ y0 y1 y2 y3 y4 y5 y6 y7, LeO (wageofficelaw39_LedgerPast.l0 k y0 y1 y2 y3 y4 y5 y6 y7) (wageofficelaw39_LedgerPast.l0 (k + 1) y0 y1 y2 y3 y4 y5 y6 y7))
  | 0 => ⟨fun _ _ _ _ _ _ _ r h => by simp [wageofficelaw39_LedgerPast.j0] at h, fun _ _ _ _ _ _ _ _ r h => by simp [wageofficelaw39_LedgerPast.l0] at h⟩
  | k + 1 => by
    obtain ⟨ih0, ih1⟩ := wageofficelaw39_LedgerPast.mono_l k
    refine ⟨?_, ?_⟩
    · intro y0 y1 y2 y3 y4 y5 y6
      unfold wageofficelaw39_LedgerPast.j0
      repeat' first
      | (with_reducible exact ih0 _ _ _ _ _ _ _)
      | (with_reducible exact ih1 _ _ _ _ _ _ _ _)
      | (with_reducible exact wageofficelaw39_head.mono _)
      | (with_reducible exact LeO.refl _)
      | (with_reducible exact LeO.none _)
      | (with_reducible refine LeO.ite ?_ ?_)
      | (with_reducible refine LeO.bind ?_ (fun _ => ?_))
      | exact ih0 _ _ _ _ _ _ _
      | exact ih1 _ _ _ _ _ _ _ _
      | exact wageofficelaw39_head.mono _
      | exact LeO.none _
      | refine LeO.ite ?_ ?_
      | refine LeO.bind ?_ (fun _ => ?_)
    · intro y0 y1 y2 y3 y4 y5 y6 y7
      unfold wageofficelaw39_LedgerPast.l0
      repeat' first
      | (with_reducible exact ih0 _ _ _ _ _ _ _)
      | (with_reducible exact ih1 _ _ _ _ _ _ _ _)
      | (with_reducible exact wageofficelaw39_head.mono _)
      | (with_reducible exact LeO.refl _)
      | (with_reducible exact LeO.none _)
      | (with_reducible refine LeO.ite ?_ ?_)
      | (with_reducible refine LeO.bind ?_ (fun _ => ?_))
      | exact ih0 _ _ _ _ _ _ _
      | exact ih1 _ _ _ _ _ _ _ _
      | exact wageofficelaw39_head.mono _
      | exact LeO.none _
      | refine LeO.ite ?_ ?_
      | refine LeO.bind ?_ (fun _ => ?_)
theorem wageofficelaw39_LedgerPast.mono : ∀ a0 a1 a2 a3 a4 k, LeO (wageofficelaw39_LedgerPast.f k a0 a1 a2 a3 a4) (wageofficelaw39_LedgerPast.f (k + 1) a0 a1 a2 a3 a4) := by
  intro a0 a1 a2 a3 a4 k
  obtain ⟨ih0, ih1⟩ := wageofficelaw39_LedgerPast.mono_l k
  unfold wageofficelaw39_LedgerPast.f
  repeat' first
      | (with_reducible exact ih0 _ _ _ _ _ _ _)
      | (with_reducible exact ih1 _ _ _ _ _ _ _ _)
      | (with_reducible exact wageofficelaw39_head.mono _)
      | (with_reducible exact LeO.refl _)
      | (with_reducible exact LeO.none _)
      | (with_reducible refine LeO.ite ?_ ?_)
      | (with_reducible refine LeO.bind ?_ (fun _ => ?_))
      | exact ih0 _ _ _ _ _ _ _
      | exact ih1 _ _ _ _ _ _ _ _
      | exact wageofficelaw39_head.mono _
      | exact LeO.none _
      | refine LeO.ite ?_ ?_
      | refine LeO.bind ?_ (fun _ => ?_)
def wageofficelaw39_LedgerPast.T9 : Bool × List (List Nat × List Nat) := (true, [([], []), ([], []), ([], []), ([1, 2], [1, 2]), ([3], [3]), ([0, 4], [0, 4]), ([5], [5]), ([6], [6]), ([6], [6]), ([], []), ([9, 7, 5, 0, 1, 2, 3, 4, 5, 6, 7, 9], [7, 9]), ([8, 10, 0, 1, 2, 3, 4, 5, 6, 7, 8, 9, 10], [8])])
def wageofficelaw39_LedgerPast.B9 : List Nat := [0, 0, 0, 6, 14, 31, 63, 127, 127, 0, 767, 2047]
theorem wageofficelaw39_LedgerPast.tab9 : rtab .any (opsOf Try.f7 9) = wageofficelaw39_LedgerPast.T9 := by kernel_rfl
theorem wageofficelaw39_LedgerPast.bits9 : waitsOk wageofficelaw39_LedgerPast.T9.2 wageofficelaw39_LedgerPast.B9 = true := by kernel_rfl
def wageofficelaw39_LedgerPast.T12 : Bool × List (List Nat × List Nat) := (true, [([], []), ([0], [0]), ([1], [1]), ([1], [1]), ([1], [1]), ([1], [1]), ([2, 3, 4, 5, 1, 1], [1, 2, 3, 4, 5]), ([1], [1]), ([1], [1]), ([1], [1]), ([1], [1]), ([7, 8, 9, 10, 6, 1], [1, 7, 8, 9, 10]), ([6, 11, 1], [1, 6, 11]), ([1, 12], [1, 12]), ([13, 11, 0, 1, 2, 3, 4, 5, 6, 7, 8, 9, 10, 11, 12, 13], [13])])
def wageofficelaw39_LedgerPast.B12 : List Nat := [0, 1, 3, 3, 3, 3, 63, 3, 3, 3, 3, 2047, 4095, 8191, 16383]
theorem wageofficelaw39_LedgerPast.tab12 : rtab .any (opsOf Try.f7 12) = wageofficelaw39_LedgerPast.T12 := by kernel_rfl
theorem wageofficelaw39_LedgerPast.bits12 : waitsOk wageofficelaw39_LedgerPast.T12.2 wageofficelaw39_LedgerPast.B12 = true := by kernel_rfl
set_option maxHeartbeats 8000000 in
set_option maxRecDepth 100000 in
theorem wageofficelaw39_LedgerPast.calls (k : Nat) (P0_0_ : Nat → Prop) (A0_0 : Option Addr) (c0_0 : Nat) (l0_0 : List (S26)) (A1 : Option Addr) (c1 : Nat) (l1 : List (S26)) (a2 : ByteArray) (a3 : Int) (a4 : Int) (r : Bool) (w : World) (hs0_0 : Kd.V k26 26 w w.heap.size (fun k_ => P0_0_ k_) (.slice A0_0 l0_0.length c0_0) l0_0) (hr1 : Kd.C k26 w A1 l1.length l1) (hc1 : l1.length ≤ c1) (h : wageofficelaw39_LedgerPast.f k l0_0 l1 a2 a3 a4 = some r) :
    Calls Try.prog 7 #[.agg #[.slice A0_0 l0_0.length c0_0], .slice A1 l1.length c1, .string a2, .int .i64 a3, .int .i64 a4] w fun e w' => e = .returned (.bool r) ∧ Below w.heap.size w w' := by
  have hu24 := Try.underlying24
  have hu26 := Try.underlying26
  have HO0_0 := Aside0.mk (show Kd.V k26 26 w w.heap.size (fun k_ => (P0_0_ k_ ∨ w.heap.size ≤ k_)) (.slice A0_0 l0_0.length c0_0) l0_0 from Kd.V_mono hs0_0 (fun k_ hk => .inl hk))
  have HR1 := Aside0.mk hr1
  have HC1 := Aside0.mk hc1
  clear hr1 hc1
  have HB := Aside0.mk (Below.refl w.heap.size w)
  have H : ((wageofficelaw39_head.f k).bind fun t436 => (if (l0_0.length : Int) > 300 then (wageofficelaw39_LedgerPast.j0 k l1 a2 a3 a4 t436 true l0_0) else (wageofficelaw39_LedgerPast.j0 k l1 a2 a3 a4 t436 (decide ((l1.length : Int) > 20)) l0_0))) = some r := h
  clear h
  replace H := Option.bind_eq_some_iff.mp H
  obtain ⟨t436, A60, H⟩ := H
  replace H : (if (l0_0.length : Int) > 300 then (wageofficelaw39_LedgerPast.j0 k l1 a2 a3 a4 t436 true l0_0) else (wageofficelaw39_LedgerPast.j0 k l1 a2 a3 a4 t436 (decide ((l1.length : Int) > 20)) l0_0)) = some r := H
  have A6 := Aside0.mk A60
  clear A60
  have HC7 := Aside0.mk H
  clear H
  go_enter Try.func7, Try.ntmps7
  go_upto_region 2 with (first | ((with_reducible refine gate_dst (N := 5) rfl ?_); (try (refine gate_guard (by rfl) ?_; dsimp only)); refine box_event ?hg (N := 5) ?hd (cs := #[.slice A0_0 l0_0.length c0_0]) (t := 24) ?hr ?_; (case hd => rfl); (case hg => rfl); (case hr => first | (go_simp; done) | (go_simp; rfl)); intro gb435 hg w8 hbox hb; have n0_ := Aside0.mk (Kd.V_below (Kd.V_elderB (by (with_reducible repeat (first | apply Kd.V_alloc | apply Kd.V_drewN | apply Kd.V_drew)); exact HO0_0.out) gb435 (Nat.le_of_eq hg.symm)) hb); have n1_ := Aside0.mk (below_step (by repeat (first | (with_reducible first | exact HB.out | apply below_alloc | apply pw_below_drewN | apply below_drew1) | exact HB.out)) hb); have n2_ := Aside0.mk (hbox); have n3_ := Aside0.mk ((by rw [hg]; exact (below_size (by repeat (first | (with_reducible first | exact HB.out | apply below_alloc | apply pw_below_drewN | apply below_drew1) | exact HB.out))) : w.heap.size ≤ gb435)); have n4_ := Aside0.mk ((by rw [hg]; exact (below_size (by repeat (first | (with_reducible first | exact HB.out | apply below_alloc | apply pw_below_drewN | apply below_drew1) | exact HB.out))) : w.heap.size ≤ gb435)); clear HO0_0; clear HB; have HO0_0 := n0_; have HB := n1_; have BK435 := n2_; have GW435 := n3_; have GE435 := n4_; clear n0_ n1_ n2_ n3_ n4_; clear hb hbox hg) | ((with_reducible refine gate_callee (f := 18) rfl ?_); refine goesL_ (some 16) rfl rfl Try.func18 (by kernel_rfl) rfl #[] rfl (by (try simp only [List.map_toArray, List.map_cons, List.map_nil]); first | done | rfl | (simp only [List.length_drop, List.length_take]; rfl)) ?_; (with_reducible refine (wageofficelaw39_head.calls k  t436 _ A6.out).mono ?_); rintro e w9 ⟨rfl, hb⟩; refine ⟨_, rfl, ?_⟩; have n0_ := Aside0.mk (Kd.V_below (by (with_reducible repeat (first | apply Kd.V_alloc | apply Kd.V_drewN | apply Kd.V_drew)); exact HO0_0.out) hb); have n1_ := Aside0.mk (blk_below (g := gb435) (o := .cells #[.slice A0_0 l0_0.length c0_0] 24 (0, 0)) (by (with_reducible repeat (first | refine blk_drewN ?_ _ | refine blk_drew ?_ | refine blk_alloc ?_ _)); exact BK435.out) hb); have n2_ := Aside0.mk (below_step (by repeat (first | (with_reducible first | exact HB.out | apply below_alloc | apply pw_below_drewN | apply below_drew1 | refine below_set ?_ GE435.out) | exact HB.out)) hb); clear HO0_0; clear BK435; clear HB; have HO0_0 := n0_; have BK435 := n1_; have HB := n2_; clear n0_ n1_ n2_; (try clear hb); (try clear hb2); (try clear hk); (try clear hi)))
  (try simp only [Act.put, List.setIfInBounds_toArray, List.set_cons_zero, List.set_cons_succ])
  go_cut [25] (fun v25 wc => ∃ (kq : Nat) (x25_6 : Bool), v25 = .bool x25_6 ∧ Aside0 (wageofficelaw39_LedgerPast.j0 kq l1 a2 a3 a4 t436 x25_6 l0_0 = some r) ∧ Aside0 (kq ≤ k) ∧ Aside0 (Kd.V k26 26 wc w.heap.size (fun k_ => (P0_0_ k_ ∨ w.heap.size ≤ k_) ∧ k_ ≠ gb435) (.slice A0_0 l0_0.length c0_0) l0_0) ∧ Aside0 (wc.heap[gb435]? = some (.cells #[(.slice A0_0 l0_0.length c0_0)] 24 (0, 0))) ∧ Aside0 (Below w.heap.size w wc))
  case first =>
    have H := HC7.out
    clear HC7
    by_cases c10 : (l0_0.length : Int) > 300
    · rw [if_pos c10] at H
      have c10b0 : decide (300 < (l0_0.length : Int)) = true := decide_eq_true c10
      have c10b1 : decide (300 < l0_0.length) = true := decide_eq_true (by omega)
      clear c10
      (first | rw [c10b0] | (simp only [i64_w, i32_w]; rw [c10b0]) | skip)
      have H' := Aside0.mk H
      clear H
      have hcz11_0 : w9.cell? ⟨gb435, 0, none⟩ = some (.slice A0_0 l0_0.length c0_0) := (blk_cell BK435.out 0).trans rfl
      have hfz11_0 := blk_frozen BK435.out 0
      go_wp2
      go_meet
      case rel => exact ⟨_, (true), (by first | rfl | (simp; done) | (simp [*]; done)), H', ⟨by first | omega | exact Nat.le_refl _⟩, ⟨by (with_reducible repeat (first | apply Kd.V_alloc | apply Kd.V_drewN | apply Kd.V_drew)); exact HO0_0.out⟩, ⟨by (with_reducible repeat (first | refine blk_drewN ?_ _ | refine blk_drew ?_ | refine blk_alloc ?_ _)); exact BK435.out⟩, ⟨by repeat (first | (with_reducible first | exact HB.out | apply below_alloc | apply pw_below_drewN | apply below_drew1 | refine below_set ?_ GE435.out) | exact HB.out)⟩⟩
    · rw [if_neg c10] at H
      have c10b0 : decide (300 < (l0_0.length : Int)) = false := decide_eq_false c10
      have c10b1 : decide (300 < l0_0.length) = false := decide_eq_false (by omega)
      clear c10
      (first | rw [c10b0] | (simp only [i64_w, i32_w]; rw [c10b0]) | skip)
      have H' := Aside0.mk H
      clear H
      have hcz12_0 : w9.cell? ⟨gb435, 0, none⟩ = some (.slice A0_0 l0_0.length c0_0) := (blk_cell BK435.out 0).trans rfl
      have hfz12_0 := blk_frozen BK435.out 0
      go_wp2
      go_meet
      case rel => exact ⟨_, (decide ((l1.length : Int) > 20)), (by first | rfl | (simp; done) | (simp [*]; done)), H', ⟨by first | omega | exact Nat.le_refl _⟩, ⟨by (with_reducible repeat (first | apply Kd.V_alloc | apply Kd.V_drewN | apply Kd.V_drew)); exact HO0_0.out⟩, ⟨by (with_reducible repeat (first | refine blk_drewN ?_ _ | refine blk_drew ?_ | refine blk_alloc ?_ _)); exact BK435.out⟩, ⟨by repeat (first | (with_reducible first | exact HB.out | apply below_alloc | apply pw_below_drewN | apply below_drew1 | refine below_set ?_ GE435.out) | exact HB.out)⟩⟩
  case rest =>
    clear HC7
    try clear c1
    try clear p2
    try clear c7
    try clear c10
    try clear c10b0
    try clear c10b1
    try clear hcz11_0
    try clear hcz12_0
    try clear hfz11_0
    try clear hfz12_0
    obtain ⟨kq, x25_6, rfl, HA, HJ6, HO_436000, BK435, HB⟩ := hcut
    cases kq with
    | zero => exact absurd HA.out (by simp [wageofficelaw39_LedgerPast.j0])
    | succ kj6 =>
      have H := HA.out
      clear HA
      simp only [wageofficelaw39_LedgerPast.j0] at H
      by_cases c13 : x25_6 = true
      · subst c13
        have H1 : (some t436) = some r := by rw [if_pos rfl] at H; exact H
        clear H
        have H := H1
        clear H1
        obtain rfl := Option.some.inj H
        go_wp2
        go_ret
        exact ⟨by first | rfl | (simp [errW_none, errW_some] <;> rfl) | (simp [*, errW_none, errW_some] <;> rfl), by repeat (first | (with_reducible first | exact HB.out | apply below_alloc | apply pw_below_drewN | apply below_drew1 | refine below_set ?_ GE435.out) | exact HB.out)⟩
      · replace c13 := Bool.eq_false_iff.mpr c13
        subst c13
        have H1 : (wageofficelaw39_LedgerPast.l0 kj6 l1 a2 a3 a4 t436 0 l0_0 l0_0) = some r := by rw [if_neg (show ¬ (false = true) by decide)] at H; exact H
        clear H
        have H := H1
        clear H1
        have H' := Aside0.mk H
        clear H
        have hcz14_0 : wc.cell? ⟨gb435, 0, none⟩ = some (.slice A0_0 l0_0.length c0_0) := (blk_cell BK435.out 0).trans rfl
        have hfz14_0 := blk_frozen BK435.out 0
        go_wp2_with (first | ((with_reducible refine gate_dst (N := 12) rfl ?_); (try (refine gate_guard (by rfl) ?_; dsimp only)); refine box_event ?hg (N := 12) ?hd (cs := #[.slice none 0 0]) (t := 24) ?hr ?_; (case hd => rfl); (case hg => rfl); (case hr => first | (go_simp; done) | (go_simp; rfl)); intro gb437 hg w15 hbox hb; have n0_ := Aside0.mk (Kd.V_below (Kd.V_elderB (by (with_reducible repeat (first | apply Kd.V_alloc | apply Kd.V_drewN | apply Kd.V_drew)); exact HO_436000.out) gb437 (Nat.le_of_eq hg.symm)) hb); have n1_ := Aside0.mk (blk_below (g := gb435) (o := .cells #[.slice A0_0 l0_0.length c0_0] 24 (0, 0)) (by (with_reducible repeat (first | refine blk_drewN ?_ _ | refine blk_drew ?_ | refine blk_alloc ?_ _)); exact BK435.out) hb); have n2_ := Aside0.mk (below_step (by repeat (first | (with_reducible first | exact HB.out | apply below_alloc | apply pw_below_drewN | apply below_drew1 | refine below_set ?_ GE435.out) | exact HB.out)) hb); have n3_ := Aside0.mk (hbox); have n4_ := Aside0.mk ((by rw [hg]; exact (below_size (by repeat (first | (with_reducible first | exact HB.out | apply below_alloc | apply pw_below_drewN | apply below_drew1 | refine below_set ?_ GE435.out) | exact HB.out))) : w.heap.size ≤ gb437)); have n5_ := Aside0.mk ((by rw [hg]; exact (below_size (by repeat (first | (with_reducible first | exact HB.out | apply below_alloc | apply pw_below_drewN | apply below_drew1 | refine below_set ?_ GE435.out) | exact HB.out))) : w.heap.size ≤ gb437)); have n6_ := Aside0.mk ((by rw [hg]; exact Nat.ne_of_lt (blk_lt (g := gb435) (o := .cells #[.slice A0_0 l0_0.length c0_0] 24 (0, 0)) (by (with_reducible repeat (first | refine blk_drewN ?_ _ | refine blk_drew ?_ | refine blk_alloc ?_ _)); exact BK435.out)) : gb435 ≠ gb437)); have n7_ := Aside0.mk ((by rw [hg]; exact Nat.ne_of_gt (blk_lt (g := gb435) (o := .cells #[.slice A0_0 l0_0.length c0_0] 24 (0, 0)) (by (with_reducible repeat (first | refine blk_drewN ?_ _ | refine blk_drew ?_ | refine blk_alloc ?_ _)); exact BK435.out)) : gb437 ≠ gb435)); clear HO_436000; clear BK435; clear HB; have HO_436000 := n0_; have BK435 := n1_; have HB := n2_; have BK437 := n3_; have GW437 := n4_; have GE437 := n5_; have NB435_437 := n6_; have NB437_435 := n7_; clear n0_ n1_ n2_ n3_ n4_ n5_ n6_ n7_; clear hb hbox hg; have hnb16 := NB437_435.out; have hnc16 := NB435_437.out; have hcz17_0 : w15.cell? ⟨gb437, 0, none⟩ = some (.slice none 0 0) := (blk_cell BK437.out 0).trans rfl; have hfz17_0 := blk_frozen BK437.out 0))
        go_loopg [13] kj6 (fun kq v13 w' => ∃ (x13_2 : Int) (x438000_2 : List (S26)) (u438000 : Value), v13 = .int .i64 x13_2 ∧ Aside0 (wageofficelaw39_LedgerPast.l0 kq l1 a2 a3 a4 t436 x13_2 l0_0 x438000_2 = some r) ∧ Aside0 (kq ≤ kj6) ∧ Aside0 (Kd.V k26 26 w' w.heap.size (fun k_ => (P0_0_ k_ ∨ w.heap.size ≤ k_) ∧ k_ ≠ gb435 ∧ k_ ≠ gb437) (.slice A0_0 l0_0.length c0_0) l0_0) ∧ Aside0 (Kd.V k26 26 w' w.heap.size (fun k_ => (P0_0_ k_ ∨ w.heap.size ≤ k_) ∧ k_ ≠ gb435 ∧ k_ ≠ gb437) u438000 x438000_2) ∧ Aside0 (w'.heap[gb435]? = some (.cells #[(.slice A0_0 l0_0.length c0_0)] 24 (0, 0))) ∧ Aside0 (w'.heap[gb437]? = some (.cells #[u438000] 24 (0, 0))) ∧ Aside0 (Below w.heap.size w w'))
        case atStart => exact ⟨(0), (l0_0), (.slice A0_0 l0_0.length c0_0), (by first | rfl | (simp; done) | (simp [*]; done)), H', ⟨Nat.le_refl _⟩, ⟨by (with_reducible repeat (first | apply Kd.V_alloc | apply Kd.V_drewN | apply Kd.V_drew)); exact Kd.V_mono (Kd.V_far (p := ⟨gb437, 0, none⟩) (Kd.V_mono HO_436000.out (fun k_ hk => (⟨hk, hk.2⟩ : _ ∧ k_ ≠ gb437))) (fun _ hk => hk.2) (.slice A0_0 l0_0.length c0_0)) (fun _ hk => ⟨hk.1.1.1, ⟨hk.1.1.2, hk.1.2⟩⟩)⟩, ⟨by (with_reducible repeat (first | apply Kd.V_alloc | apply Kd.V_drewN | apply Kd.V_drew)); exact Kd.V_mono (Kd.V_far (p := ⟨gb437, 0, none⟩) (Kd.V_mono HO_436000.out (fun k_ hk => (⟨hk, hk.2⟩ : _ ∧ k_ ≠ gb437))) (fun _ hk => hk.2) (.slice A0_0 l0_0.length c0_0)) (fun _ hk => ⟨hk.1.1.1, ⟨hk.1.1.2, hk.1.2⟩⟩)⟩, ⟨by (with_reducible repeat (first | refine blk_drewN ?_ _ | refine blk_drew ?_ | refine blk_alloc ?_ _)); refine blk_far ?_ NB435_437.out _; (with_reducible repeat (first | refine blk_drewN ?_ _ | refine blk_drew ?_ | refine blk_alloc ?_ _)); exact BK435.out⟩, ⟨by (with_reducible repeat (first | refine blk_drewN ?_ _ | refine blk_drew ?_ | refine blk_alloc ?_ _)); refine blk_put (cs := #[.slice none 0 0]) ?_ 0 _ rfl; (with_reducible repeat (first | refine blk_drewN ?_ _ | refine blk_drew ?_ | refine blk_alloc ?_ _)); exact BK437.out⟩, ⟨by repeat (first | (with_reducible first | exact HB.out | apply below_alloc | apply pw_below_drewN | apply below_drew1 | refine below_set ?_ GE435.out | refine below_set ?_ GE437.out) | exact HB.out)⟩⟩
        case round =>
          clear H'
          try clear c1
          try clear p2
          try clear c7
          try clear c10
          try clear c10b0
          try clear c10b1
          try clear c13
          try clear c16
          try clear hcz11_0
          try clear hcz12_0
          try clear hcz14_0
          try clear hcz17_0
          try clear hfz11_0
          try clear hfz12_0
          try clear hfz14_0
          try clear hfz17_0
          try clear p2
          obtain ⟨x13_2, x438000_2, u438000, rfl, HA, HK2, HO_436000, HO_438000, BK435, BK437, HB⟩ := hrel
          cases gk with
          | zero => exact absurd HA.out (by simp [wageofficelaw39_LedgerPast.l0])
          | succ k2 =>
            have H := HA.out
            clear HA
            simp only [wageofficelaw39_LedgerPast.l0] at H
            by_cases c18 : x13_2 < (l1.length : Int)
            · rw [if_pos c18] at H
              have c18b0 : decide (x13_2 < (l1.length : Int)) = true := decide_eq_true c18
              clear c18
              by_cases c19 : 0 ≤ x13_2
              · rw [if_pos c19] at H
                have c19b0 : decide (0 ≤ x13_2) = true := decide_eq_true c19
                clear c19
                by_cases c20 : ((rd_T26 l1 x13_2).f5) ≤ a4
                · rw [if_pos c20] at H
                  have c20b0 : decide (((rd_T26 l1 x13_2).f5) ≤ a4) = true := decide_eq_true c20
                  clear c20
                  have H' := Aside0.mk H
                  clear H
                  have p440 : 0 ≤ (x13_2 : Int) := of_decide_eq_true (by first | (with_reducible assumption) | assumption)
                  have q440 : x13_2 < (l1.length : Int) := of_decide_eq_true (by first | (with_reducible assumption) | assumption)
                  obtain ⟨ad440, e440, hx440_0, hx440_1, hx440_2, hx440_3, hx440_4, hx440_5⟩ := at_T26 HR1.out x13_2 p440 q440
                  cases e440
                  replace hx440_0 := (HB.out.cell (World.block_lt_of_cell? w _ hx440_0)).trans hx440_0
                  replace hx440_1 := (HB.out.cell (World.block_lt_of_cell? w _ hx440_1)).trans hx440_1
                  replace hx440_2 := (HB.out.cell (World.block_lt_of_cell? w _ hx440_2)).trans hx440_2
                  replace hx440_3 := (HB.out.cell (World.block_lt_of_cell? w _ hx440_3)).trans hx440_3
                  replace hx440_4 := (HB.out.cell (World.block_lt_of_cell? w _ hx440_4)).trans hx440_4
                  replace hx440_5 := (HB.out.cell (World.block_lt_of_cell? w _ hx440_5)).trans hx440_5
                  replace p440 := eq_true p440
                  replace q440 := eq_true q440
                  go_wp2
                  go_roundg k2
                  case measure => have := HJ6.out; have := HK2.out; omega
                  case rel => exact ⟨(wrap64 (x13_2 + 1)), (x438000_2), (u438000), (by first | rfl | (simp; done) | (simp [*]; done)), H', ⟨by have := HJ6.out; have := HK2.out; omega⟩, ⟨by (with_reducible repeat (first | apply Kd.V_alloc | apply Kd.V_drewN | apply Kd.V_drew)); exact HO_436000.out⟩, ⟨by (with_reducible repeat (first | apply Kd.V_alloc | apply Kd.V_drewN | apply Kd.V_drew)); exact HO_438000.out⟩, ⟨by (with_reducible repeat (first | refine blk_drewN ?_ _ | refine blk_drew ?_ | refine blk_alloc ?_ _)); exact BK435.out⟩, ⟨by (with_reducible repeat (first | refine blk_drewN ?_ _ | refine blk_drew ?_ | refine blk_alloc ?_ _)); exact BK437.out⟩, ⟨by repeat (first | (with_reducible first | exact HB.out | apply below_alloc | apply pw_below_drewN | apply below_drew1 | refine below_set ?_ GE435.out | refine below_set ?_ GE437.out) | exact HB.out)⟩⟩
                · rw [if_neg c20] at H
                  have c20b0 : decide (((rd_T26 l1 x13_2).f5) ≤ a4) = false := decide_eq_false c20
                  clear c20
                  replace H := Option.bind_eq_some_iff.mp H
                  obtain ⟨⟨t442, t445⟩, A210, H⟩ := H
                  replace H : (if t445 = 0 then (wageofficelaw39_LedgerPast.l0 k2 l1 a2 a3 a4 t436 (wrap64 (x13_2 + 1)) l0_0 t442) else (wageofficelaw39_LedgerPast.l0 k2 l1 a2 a3 a4 t436 (wrap64 (x13_2 + 1)) l0_0 x438000_2)) = some r := H
                  have A21 := Aside0.mk A210
                  clear A210
                  by_cases c22 : t445 = 0
                  · rw [if_pos c22] at H
                    have c22b0 : (t445 == 0) = true := beq_iff_eq.mpr c22
                    have c22b1 : (t445 != 0) = false := bne_eq_false_iff_eq.mpr c22
                    clear c22
                    have H' := Aside0.mk H
                    clear H
                    have p440 : 0 ≤ (x13_2 : Int) := of_decide_eq_true (by first | (with_reducible assumption) | assumption)
                    have q440 : x13_2 < (l1.length : Int) := of_decide_eq_true (by first | (with_reducible assumption) | assumption)
                    obtain ⟨ad440, e440, hx440_0, hx440_1, hx440_2, hx440_3, hx440_4, hx440_5⟩ := at_T26 HR1.out x13_2 p440 q440
                    cases e440
                    replace hx440_0 := (HB.out.cell (World.block_lt_of_cell? w _ hx440_0)).trans hx440_0
                    replace hx440_1 := (HB.out.cell (World.block_lt_of_cell? w _ hx440_1)).trans hx440_1
                    replace hx440_2 := (HB.out.cell (World.block_lt_of_cell? w _ hx440_2)).trans hx440_2
                    replace hx440_3 := (HB.out.cell (World.block_lt_of_cell? w _ hx440_3)).trans hx440_3
                    replace hx440_4 := (HB.out.cell (World.block_lt_of_cell? w _ hx440_4)).trans hx440_4
                    replace hx440_5 := (HB.out.cell (World.block_lt_of_cell? w _ hx440_5)).trans hx440_5
                    replace p440 := eq_true p440
                    replace q440 := eq_true q440
                    obtain ⟨Ao23, co23, eo23⟩ := Kd.V_slice HO_438000.out
                    subst eo23
                    try go_wp2
                    have n0_ := Aside0.mk (Kd.V_drew HO_436000.out)
                    have n1_ := Aside0.mk (Kd.V_drew HO_438000.out)
                    have n2_ := Aside0.mk (blk_drew BK435.out)
                    have n3_ := Aside0.mk (blk_drew BK437.out)
                    have n4_ := Aside0.mk (below_drew1 HB.out)
                    clear HO_436000
                    clear HO_438000
                    clear BK435
                    clear BK437
                    clear HB
                    have HO_436000 := n0_
                    have HO_438000 := n1_
                    have BK435 := n2_
                    have BK437 := n3_
                    have HB := n4_
                    clear n0_ n1_ n2_ n3_ n4_
                    have p441 : 0 ≤ (x13_2 : Int) := of_decide_eq_true (by first | (with_reducible assumption) | assumption)
                    have q441 : x13_2 < (l1.length : Int) := of_decide_eq_true (by first | (with_reducible assumption) | assumption)
                    obtain ⟨ad441, e441, hx441_0, hx441_1, hx441_2, hx441_3, hx441_4, hx441_5⟩ := at_T26 HR1.out x13_2 p441 q441
                    have hw441_5 := hx441_5
                    have hw441_4 := hx441_4
                    have hw441_3 := hx441_3
                    have hw441_2 := hx441_2
                    have hw441_1 := hx441_1
                    have hw441_0 := hx441_0
                    obtain rfl : ad440 = ad441 := (by injection e441)
                    replace hx441_0 := (HB.out.cell (World.block_lt_of_cell? w _ hx441_0)).trans hx441_0
                    replace hx441_1 := (HB.out.cell (World.block_lt_of_cell? w _ hx441_1)).trans hx441_1
                    replace hx441_2 := (HB.out.cell (World.block_lt_of_cell? w _ hx441_2)).trans hx441_2
                    replace hx441_3 := (HB.out.cell (World.block_lt_of_cell? w _ hx441_3)).trans hx441_3
                    replace hx441_4 := (HB.out.cell (World.block_lt_of_cell? w _ hx441_4)).trans hx441_4
                    replace hx441_5 := (HB.out.cell (World.block_lt_of_cell? w _ hx441_5)).trans hx441_5
                    replace p441 := eq_true p441
                    replace q441 := eq_true q441
                    refine start_ (n := 12) (S := fun w' => w'.cell? ⟨gb437, 0, none⟩ = some (.slice Ao23 x438000_2.length co23) ∧ w'.cell? (ad440.add ((x13_2).toNat * 6)) = some (.int .i64 ((rd_T26 l1 x13_2).f0)) ∧ w'.cell? ⟨(ad440.add ((x13_2).toNat * 6)).block, (ad440.add ((x13_2).toNat * 6)).off + 1, none⟩ = some (.string ((rd_T26 l1 x13_2).f1)) ∧ w'.cell? ⟨(ad440.add ((x13_2).toNat * 6)).block, (ad440.add ((x13_2).toNat * 6)).off + 2, none⟩ = some (.string ((rd_T26 l1 x13_2).f2)) ∧ w'.cell? ⟨(ad440.add ((x13_2).toNat * 6)).block, (ad440.add ((x13_2).toNat * 6)).off + 3, none⟩ = some (.int .i64 ((rd_T26 l1 x13_2).f3)) ∧ w'.cell? ⟨(ad440.add ((x13_2).toNat * 6)).block, (ad440.add ((x13_2).toNat * 6)).off + 4, none⟩ = some (.int .i64 ((rd_T26 l1 x13_2).f4)) ∧ w'.cell? ⟨(ad440.add ((x13_2).toNat * 6)).block, (ad440.add ((x13_2).toNat * 6)).off + 5, none⟩ = some (.int .i64 ((rd_T26 l1 x13_2).f5))) (ds := []) #[false, false, false, false, false, false, false, false, false, false, false, false] (by kernel_rfl) rfl rfl ⟨(blk_cell BK437.out 0).trans rfl, ((HB.out.cell (World.block_lt_of_cell? w _ hw441_0)).trans hw441_0), ((HB.out.cell (World.block_lt_of_cell? w _ hw441_1)).trans hw441_1), ((HB.out.cell (World.block_lt_of_cell? w _ hw441_2)).trans hw441_2), ((HB.out.cell (World.block_lt_of_cell? w _ hw441_3)).trans hw441_3), ((HB.out.cell (World.block_lt_of_cell? w _ hw441_4)).trans hw441_4), ((HB.out.cell (World.block_lt_of_cell? w _ hw441_5)).trans hw441_5)⟩ (fun hHeld => ?_); refine with_tabW wageofficelaw39_LedgerPast.tab9 wageofficelaw39_LedgerPast.bits9 (fun HT_ HW_ => ?_)
                    generalize wr.drew = w24 at HO_436000 HO_438000 BK435 BK437 HB hx441_0 hx441_1 hx441_2 hx441_3 hx441_4 hx441_5 hHeld ⊢
                    refine pure_ (i := 1) (N := some 43) (v := ?_) (a' := ?_) #[false, true, false, false, false, false, false, false, false, false, false, false] rfl rfl (any_of HT_.out (by kernel_rfl)) (fun _ _ _ h => h) (Or.inl ⟨by rfl, ?_⟩) ?_ ?_
                    rotate_left
                    · intro w'
                      go_simp
                      with_reducible rfl
                    rotate_left
                    · simp only [Act.put, List.setIfInBounds_toArray, List.set_cons_zero, List.set_cons_succ, i64_w, i32_w]
                      rfl
                    refine pure_ (i := 2) (N := some 44) (v := ?_) (a' := ?_) #[false, true, true, false, false, false, false, false, false, false, false, false] rfl rfl (any_of HT_.out (by kernel_rfl)) (fun _ _ _ h => h) (Or.inl ⟨by rfl, ?_⟩) ?_ ?_
                    rotate_left
                    · intro w'
                      go_simp
                      with_reducible rfl
                    rotate_left
                    · simp only [Act.put, List.setIfInBounds_toArray, List.set_cons_zero, List.set_cons_succ, i64_w, i32_w]
                      rfl
                    refine pure_ (i := 3) (N := some 45) (v := ?_) (a' := ?_) #[false, true, true, true, false, false, false, false, false, false, false, false] rfl rfl (any_of HT_.out (by kernel_rfl)) (fun _ _ _ h => h) (Or.inl ⟨by rfl, ?_⟩) ?_ ?_
                    rotate_left
                    · intro w'
                      go_simp
                      with_reducible rfl
                    rotate_left
                    · simp only [Act.put, List.setIfInBounds_toArray, List.set_cons_zero, List.set_cons_succ, i64_w, i32_w]
                      rfl
                    refine take_ (i := 0) (N := some 42) (v := ?_) (a' := ?_) #[true, true, true, true, false, false, false, false, false, false, false, false] rfl rfl (take_ofW HT_.out HW_.out (by kernel_rfl)) (fun _ _ _ h => h) (Or.inl ⟨by rfl, ?_⟩) hHeld ?_ ?_
                    rotate_left
                    · rintro w' ⟨s0, s1, s2, s3, s4, s5, s6⟩
                      go_simp
                      with_reducible rfl
                    rotate_left
                    · simp only [Act.put, List.setIfInBounds_toArray, List.set_cons_zero, List.set_cons_succ, i64_w, i32_w]
                      rfl
                    refine take_ (i := 4) (N := some 46) (v := ?_) (a' := ?_) #[true, true, true, true, true, false, false, false, false, false, false, false] rfl rfl (take_ofW HT_.out HW_.out (by kernel_rfl)) (fun _ _ _ h => h) (Or.inl ⟨by rfl, ?_⟩) hHeld ?_ ?_
                    rotate_left
                    · rintro w' ⟨s0, s1, s2, s3, s4, s5, s6⟩
                      go_simp
                      with_reducible rfl
                    rotate_left
                    · simp only [Act.put, List.setIfInBounds_toArray, List.set_cons_zero, List.set_cons_succ, i64_w, i32_w]
                      rfl
                    refine join_ (σ := Value × Nat) 2 #[true, true, true, true, true, true, true, true, true, true, false, false] (fun s_ => [(47, .tuple #[.agg #[s_.1], .int .i64 t445]), (14, .pointer (some ⟨s_.2, 0, none⟩)), (41, .tuple #[.agg #[s_.1], .int .i64 t445]), (48, .agg #[s_.1]), (49, .int .i64 t445)]) (fun s_ w' => (w'.cell? ⟨gb437, 0, none⟩ = some (.slice Ao23 x438000_2.length co23) ∧ w'.cell? (ad440.add ((x13_2).toNat * 6)) = some (.int .i64 ((rd_T26 l1 x13_2).f0)) ∧ w'.cell? ⟨(ad440.add ((x13_2).toNat * 6)).block, (ad440.add ((x13_2).toNat * 6)).off + 1, none⟩ = some (.string ((rd_T26 l1 x13_2).f1)) ∧ w'.cell? ⟨(ad440.add ((x13_2).toNat * 6)).block, (ad440.add ((x13_2).toNat * 6)).off + 2, none⟩ = some (.string ((rd_T26 l1 x13_2).f2)) ∧ w'.cell? ⟨(ad440.add ((x13_2).toNat * 6)).block, (ad440.add ((x13_2).toNat * 6)).off + 3, none⟩ = some (.int .i64 ((rd_T26 l1 x13_2).f3)) ∧ w'.cell? ⟨(ad440.add ((x13_2).toNat * 6)).block, (ad440.add ((x13_2).toNat * 6)).off + 4, none⟩ = some (.int .i64 ((rd_T26 l1 x13_2).f4)) ∧ w'.cell? ⟨(ad440.add ((x13_2).toNat * 6)).block, (ad440.add ((x13_2).toNat * 6)).off + 5, none⟩ = some (.int .i64 ((rd_T26 l1 x13_2).f5))) ∧ (Kd.R k26 26 w' w.heap.size (fun k_ => (w.heap.size ≤ k_)) s_.1 t442) ∧ (Kd.V k26 26 w' w.heap.size (fun k_ => (P0_0_ k_ ∨ w.heap.size ≤ k_) ∧ some k_ ≠ (s_.1 : Value).ownBlock ∧ k_ ≠ gb435 ∧ k_ ≠ gb437 ∧ k_ ≠ s_.2) (.slice A0_0 l0_0.length c0_0) l0_0) ∧ (Kd.V k26 26 w' w.heap.size (fun k_ => (P0_0_ k_ ∨ w.heap.size ≤ k_) ∧ some k_ ≠ (s_.1 : Value).ownBlock ∧ k_ ≠ gb435 ∧ k_ ≠ gb437 ∧ k_ ≠ s_.2) (.slice Ao23 x438000_2.length co23) x438000_2) ∧ (w'.heap[gb435]? = some (.cells #[.slice A0_0 l0_0.length c0_0] 24 (0, 0))) ∧ (w'.heap[gb437]? = some (.cells #[.slice Ao23 x438000_2.length co23] 24 (0, 0))) ∧ (w'.heap[s_.2]? = some (.cells #[.slice none 0 0] 24 (0, 0))) ∧ (w.heap.size ≤ s_.2) ∧ (w.heap.size ≤ s_.2) ∧ (gb435 ≠ s_.2) ∧ (s_.2 ≠ gb435) ∧ (gb437 ≠ s_.2) ∧ (s_.2 ≠ gb437) ∧ (Below w.heap.size w w')) ?_ ?_
                    rotate_left
                    · intro hCont
                      refine two_ (i := 5) (j := 9) (Ni := some 47) (Nj := some 14) #[true, true, true, true, true, true, false, false, false, false, false, false] #[true, true, true, true, true, false, false, false, false, true, false, false] rfl rfl rfl rfl (two_of HT_.out (by kernel_rfl)) (by decide) (by decide) (fun K hK => ?_) (fun K hK => ?_)
                      · skip
                        refine goes_ Try.func19 (by kernel_rfl) rfl #[.agg #[.slice Ao23 x438000_2.length co23], .agg #[.int .i64 ((rd_T26 l1 x13_2).f0), .string ((rd_T26 l1 x13_2).f1), .string ((rd_T26 l1 x13_2).f2), .int .i64 ((rd_T26 l1 x13_2).f3), .int .i64 ((rd_T26 l1 x13_2).f4), .int .i64 ((rd_T26 l1 x13_2).f5)]] (by rfl) rfl rfl (by (try simp only [List.map_toArray, List.map_cons, List.map_nil]); first | done | rfl | (simp only [List.length_drop, List.length_take]; rfl)) ?_
                        with_reducible refine (ledger_Post.calls _ _ x438000_2 ((rd_T26 l1 x13_2).f0) ((rd_T26 l1 x13_2).f1) ((rd_T26 l1 x13_2).f2) ((rd_T26 l1 x13_2).f3) ((rd_T26 l1 x13_2).f4) ((rd_T26 l1 x13_2).f5) t442 t445 _ ?side1 ?side2 A21.out).mono ?_
                        (case side1 => repeat (first | exact (Kd.V_reads' HO_438000.out).2.2 | (with_reducible refine Kd.C_alloc ?_ _) | (with_reducible refine Kd.C_drewN ?_ _) | (with_reducible refine Kd.C_drew ?_)))
                        (case side2 => exact (Kd.V_reads' HO_438000.out).2.1)
                        rintro e w25 ⟨v443, rfl, ho0, hb⟩
                        refine ⟨_, rfl, ?_⟩
                        have n0_ := Aside0.mk (Kd.V_elder' (by (with_reducible repeat (first | apply Kd.V_alloc | apply Kd.V_drewN | apply Kd.V_drew)); exact HO_436000.out) (Kd.R_base ho0) hb)
                        have n1_ := Aside0.mk (Kd.V_elder' (by (with_reducible repeat (first | apply Kd.V_alloc | apply Kd.V_drewN | apply Kd.V_drew)); exact HO_438000.out) (Kd.R_base ho0) hb)
                        have n2_ := Aside0.mk (Kd.R_lower (Kd.R_newM (M := fun k_ => (w.heap.size ≤ k_)) ho0 (below_size (by repeat (first | (with_reducible first | exact HB.out | apply below_alloc | apply pw_below_drewN | apply below_drew1 | refine below_set ?_ GE435.out | refine below_set ?_ GE437.out) | exact HB.out))) (fun k_ h_ => h_)) (below_size (by repeat (first | (with_reducible first | exact HB.out | apply below_alloc | apply pw_below_drewN | apply below_drew1 | refine below_set ?_ GE435.out | refine below_set ?_ GE437.out) | exact HB.out))))
                        have n3_ := Aside0.mk (blk_below (g := gb435) (o := .cells #[.slice A0_0 l0_0.length c0_0] 24 (0, 0)) (by (with_reducible repeat (first | refine blk_drewN ?_ _ | refine blk_drew ?_ | refine blk_alloc ?_ _)); exact BK435.out) hb)
                        have n4_ := Aside0.mk (blk_below (g := gb437) (o := .cells #[.slice Ao23 x438000_2.length co23] 24 (0, 0)) (by (with_reducible repeat (first | refine blk_drewN ?_ _ | refine blk_drew ?_ | refine blk_alloc ?_ _)); exact BK437.out) hb)
                        have n5_ := Aside0.mk (below_step (by repeat (first | (with_reducible first | exact HB.out | apply below_alloc | apply pw_below_drewN | apply below_drew1 | refine below_set ?_ GE435.out | refine below_set ?_ GE437.out) | exact HB.out)) hb)
                        clear HO_436000
                        clear HO_438000
                        clear BK435
                        clear BK437
                        clear HB
                        have HO_436000 := n0_
                        have HO_438000 := n1_
                        have HO444 := n2_
                        have BK435 := n3_
                        have BK437 := n4_
                        have HB := n5_
                        clear n0_ n1_ n2_ n3_ n4_ n5_
                        (try clear hb)
                        (try clear hb2)
                        (try clear hk)
                        (try clear hi)
                        (try clear ho0)
                        refine hK.out _ _ ⟨(blk_cell BK437.out 0).trans rfl, ((HB.out.cell (World.block_lt_of_cell? w _ hw441_0)).trans hw441_0), ((HB.out.cell (World.block_lt_of_cell? w _ hw441_1)).trans hw441_1), ((HB.out.cell (World.block_lt_of_cell? w _ hw441_2)).trans hw441_2), ((HB.out.cell (World.block_lt_of_cell? w _ hw441_3)).trans hw441_3), ((HB.out.cell (World.block_lt_of_cell? w _ hw441_4)).trans hw441_4), ((HB.out.cell (World.block_lt_of_cell? w _ hw441_5)).trans hw441_5)⟩ (fun hHeld => ?_)
                        clear hK K
                        refine norm_ (a' := ?_) ?_ ?_
                        rotate_left
                        · show Act.put _ (some 47) _ = _
                          simp only [Act.put, List.setIfInBounds_toArray, List.set_cons_zero, List.set_cons_succ, i64_w, i32_w]
                          rfl
                        refine pure_ (i := 6) (N := some 41) (v := ?_) (a' := ?_) #[true, true, true, true, true, true, true, false, false, false, false, false] rfl rfl (any_of HT_.out (by kernel_rfl)) (fun _ _ _ h => h) (Or.inl ⟨by rfl, ?_⟩) ?_ ?_
                        rotate_left
                        · intro w'
                          go_simp
                          with_reducible rfl
                        rotate_left
                        · simp only [Act.put, List.setIfInBounds_toArray, List.set_cons_zero, List.set_cons_succ, i64_w, i32_w]
                          rfl
                        refine pure_ (i := 7) (N := some 48) (v := ?_) (a' := ?_) #[true, true, true, true, true, true, true, true, false, false, false, false] rfl rfl (any_of HT_.out (by kernel_rfl)) (fun _ _ _ h => h) (Or.inl ⟨by rfl, ?_⟩) ?_ ?_
                        rotate_left
                        · intro w'
                          go_simp
                          with_reducible rfl
                        rotate_left
                        · simp only [Act.put, List.setIfInBounds_toArray, List.set_cons_zero, List.set_cons_succ, i64_w, i32_w]
                          rfl
                        refine pure_ (i := 8) (N := some 49) (v := ?_) (a' := ?_) #[true, true, true, true, true, true, true, true, true, false, false, false] rfl rfl (any_of HT_.out (by kernel_rfl)) (fun _ _ _ h => h) (Or.inl ⟨by rfl, ?_⟩) ?_ ?_
                        rotate_left
                        · intro w'
                          go_simp
                          with_reducible rfl
                        rotate_left
                        · simp only [Act.put, List.setIfInBounds_toArray, List.set_cons_zero, List.set_cons_succ, i64_w, i32_w]
                          rfl
                        refine one_ (i := 9) (N := some 14) #[true, true, true, true, true, true, true, true, true, true, false, false] rfl rfl (one_of HT_.out (by kernel_rfl)) (by decide) (fun K hK => ?_)
                        refine box_step ?hg (N := 14) ?hd (cs := #[.slice none 0 0]) (t := 24) ?hr ?_; (case hd => rfl); (case hg => rfl); (case hr => first | (go_simp; done) | (go_simp; rfl))
                        intro gb446 hg w26 hbox hb
                        have n0_ := Aside0.mk (Kd.V_below (Kd.V_elderB (by (with_reducible repeat (first | apply Kd.V_alloc | apply Kd.V_drewN | apply Kd.V_drew)); exact HO_436000.out) gb446 (Nat.le_of_eq hg.symm)) hb)
                        have n1_ := Aside0.mk (Kd.V_below (Kd.V_elderB (by (with_reducible repeat (first | apply Kd.V_alloc | apply Kd.V_drewN | apply Kd.V_drew)); exact HO_438000.out) gb446 (Nat.le_of_eq hg.symm)) hb)
                        have n2_ := Aside0.mk (Kd.R_below (by (with_reducible repeat (first | apply Kd.R_alloc | apply Kd.R_drewN | apply Kd.R_drew)); exact HO444.out) hb)
                        have n3_ := Aside0.mk (blk_below (g := gb435) (o := .cells #[.slice A0_0 l0_0.length c0_0] 24 (0, 0)) (by (with_reducible repeat (first | refine blk_drewN ?_ _ | refine blk_drew ?_ | refine blk_alloc ?_ _)); exact BK435.out) hb)
                        have n4_ := Aside0.mk (blk_below (g := gb437) (o := .cells #[.slice Ao23 x438000_2.length co23] 24 (0, 0)) (by (with_reducible repeat (first | refine blk_drewN ?_ _ | refine blk_drew ?_ | refine blk_alloc ?_ _)); exact BK437.out) hb)
                        have n5_ := Aside0.mk (below_step (by repeat (first | (with_reducible first | exact HB.out | apply below_alloc | apply pw_below_drewN | apply below_drew1 | refine below_set ?_ GE435.out | refine below_set ?_ GE437.out) | exact HB.out)) hb)
                        have n6_ := Aside0.mk (hbox)
                        have n7_ := Aside0.mk ((by rw [hg]; exact (below_size (by repeat (first | (with_reducible first | exact HB.out | apply below_alloc | apply pw_below_drewN | apply below_drew1 | refine below_set ?_ GE435.out | refine below_set ?_ GE437.out) | exact HB.out))) : w.heap.size ≤ gb446))
                        have n8_ := Aside0.mk ((by rw [hg]; exact (below_size (by repeat (first | (with_reducible first | exact HB.out | apply below_alloc | apply pw_below_drewN | apply below_drew1 | refine below_set ?_ GE435.out | refine below_set ?_ GE437.out) | exact HB.out))) : w.heap.size ≤ gb446))
                        have n9_ := Aside0.mk ((by rw [hg]; exact Nat.ne_of_lt (blk_lt (g := gb435) (o := .cells #[.slice A0_0 l0_0.length c0_0] 24 (0, 0)) (by (with_reducible repeat (first | refine blk_drewN ?_ _ | refine blk_drew ?_ | refine blk_alloc ?_ _)); exact BK435.out)) : gb435 ≠ gb446))
                        have n10_ := Aside0.mk ((by rw [hg]; exact Nat.ne_of_gt (blk_lt (g := gb435) (o := .cells #[.slice A0_0 l0_0.length c0_0] 24 (0, 0)) (by (with_reducible repeat (first | refine blk_drewN ?_ _ | refine blk_drew ?_ | refine blk_alloc ?_ _)); exact BK435.out)) : gb446 ≠ gb435))
                        have n11_ := Aside0.mk ((by rw [hg]; exact Nat.ne_of_lt (blk_lt (g := gb437) (o := .cells #[.slice Ao23 x438000_2.length co23] 24 (0, 0)) (by (with_reducible repeat (first | refine blk_drewN ?_ _ | refine blk_drew ?_ | refine blk_alloc ?_ _)); exact BK437.out)) : gb437 ≠ gb446))
                        have n12_ := Aside0.mk ((by rw [hg]; exact Nat.ne_of_gt (blk_lt (g := gb437) (o := .cells #[.slice Ao23 x438000_2.length co23] 24 (0, 0)) (by (with_reducible repeat (first | refine blk_drewN ?_ _ | refine blk_drew ?_ | refine blk_alloc ?_ _)); exact BK437.out)) : gb446 ≠ gb437))
                        clear HO_436000
                        clear HO_438000
                        clear HO444
                        clear BK435
                        clear BK437
                        clear HB
                        have HO_436000 := n0_
                        have HO_438000 := n1_
                        have HO444 := n2_
                        have BK435 := n3_
                        have BK437 := n4_
                        have HB := n5_
                        have BK446 := n6_
                        have GW446 := n7_
                        have GE446 := n8_
                        have NB435_446 := n9_
                        have NB446_435 := n10_
                        have NB437_446 := n11_
                        have NB446_437 := n12_
                        clear n0_ n1_ n2_ n3_ n4_ n5_ n6_ n7_ n8_ n9_ n10_ n11_ n12_
                        clear hb hbox hg
                        refine hK.out _ _ ⟨(blk_cell BK437.out 0).trans rfl, ((HB.out.cell (World.block_lt_of_cell? w _ hw441_0)).trans hw441_0), ((HB.out.cell (World.block_lt_of_cell? w _ hw441_1)).trans hw441_1), ((HB.out.cell (World.block_lt_of_cell? w _ hw441_2)).trans hw441_2), ((HB.out.cell (World.block_lt_of_cell? w _ hw441_3)).trans hw441_3), ((HB.out.cell (World.block_lt_of_cell? w _ hw441_4)).trans hw441_4), ((HB.out.cell (World.block_lt_of_cell? w _ hw441_5)).trans hw441_5)⟩ (fun hHeld => ?_)
                        clear hK K
                        refine norm_ (a' := ?_) ?_ ?_
                        rotate_left
                        · show Act.put _ (some 14) _ = _
                          simp only [Act.put, List.setIfInBounds_toArray, List.set_cons_zero, List.set_cons_succ, i64_w, i32_w]
                          rfl
                        exact norm_ (by simp only [putAll, Act.put, List.setIfInBounds_toArray, List.set_cons_zero, List.set_cons_succ]) (hCont (v443, gb446) _ ⟨hHeld, (by (with_reducible repeat (first | apply Kd.R_alloc | apply Kd.R_drewN | apply Kd.R_drew)); exact Kd.R_mono HO444.out (fun _ hk => hk.1)), (by (with_reducible repeat (first | apply Kd.V_alloc | apply Kd.V_drewN | apply Kd.V_drew)); exact Kd.V_mono HO_436000.out (fun _ hk => ⟨hk.1.1.1, ⟨hk.1.2, ⟨hk.1.1.2.1, ⟨hk.1.1.2.2, hk.2⟩⟩⟩⟩)), (by (with_reducible repeat (first | apply Kd.V_alloc | apply Kd.V_drewN | apply Kd.V_drew)); exact Kd.V_mono HO_438000.out (fun _ hk => ⟨hk.1.1.1, ⟨hk.1.2, ⟨hk.1.1.2.1, ⟨hk.1.1.2.2, hk.2⟩⟩⟩⟩)), (by (with_reducible repeat (first | refine blk_drewN ?_ _ | refine blk_drew ?_ | refine blk_alloc ?_ _)); exact BK435.out), (by (with_reducible repeat (first | refine blk_drewN ?_ _ | refine blk_drew ?_ | refine blk_alloc ?_ _)); exact BK437.out), (by (with_reducible repeat (first | refine blk_drewN ?_ _ | refine blk_drew ?_ | refine blk_alloc ?_ _)); exact BK446.out), GW446.out, GE446.out, NB435_446.out, NB446_435.out, NB437_446.out, NB446_437.out, (by repeat (first | (with_reducible first | exact HB.out | apply below_alloc | apply pw_below_drewN | apply below_drew1 | refine below_set ?_ GE435.out | refine below_set ?_ GE437.out | refine below_set ?_ GE446.out) | exact HB.out))⟩)
                      · skip
                        refine box_step ?hg (N := 14) ?hd (cs := #[.slice none 0 0]) (t := 24) ?hr ?_; (case hd => rfl); (case hg => rfl); (case hr => first | (go_simp; done) | (go_simp; rfl))
                        intro gb446 hg w25 hbox hb
                        have n0_ := Aside0.mk (Kd.V_below (Kd.V_elderB (by (with_reducible repeat (first | apply Kd.V_alloc | apply Kd.V_drewN | apply Kd.V_drew)); exact HO_436000.out) gb446 (Nat.le_of_eq hg.symm)) hb)
                        have n1_ := Aside0.mk (Kd.V_below (Kd.V_elderB (by (with_reducible repeat (first | apply Kd.V_alloc | apply Kd.V_drewN | apply Kd.V_drew)); exact HO_438000.out) gb446 (Nat.le_of_eq hg.symm)) hb)
                        have n2_ := Aside0.mk (blk_below (g := gb435) (o := .cells #[.slice A0_0 l0_0.length c0_0] 24 (0, 0)) (by (with_reducible repeat (first | refine blk_drewN ?_ _ | refine blk_drew ?_ | refine blk_alloc ?_ _)); exact BK435.out) hb)
                        have n3_ := Aside0.mk (blk_below (g := gb437) (o := .cells #[.slice Ao23 x438000_2.length co23] 24 (0, 0)) (by (with_reducible repeat (first | refine blk_drewN ?_ _ | refine blk_drew ?_ | refine blk_alloc ?_ _)); exact BK437.out) hb)
                        have n4_ := Aside0.mk (below_step (by repeat (first | (with_reducible first | exact HB.out | apply below_alloc | apply pw_below_drewN | apply below_drew1 | refine below_set ?_ GE435.out | refine below_set ?_ GE437.out) | exact HB.out)) hb)
                        have n5_ := Aside0.mk (hbox)
                        have n6_ := Aside0.mk ((by rw [hg]; exact (below_size (by repeat (first | (with_reducible first | exact HB.out | apply below_alloc | apply pw_below_drewN | apply below_drew1 | refine below_set ?_ GE435.out | refine below_set ?_ GE437.out) | exact HB.out))) : w.heap.size ≤ gb446))
                        have n7_ := Aside0.mk ((by rw [hg]; exact (below_size (by repeat (first | (with_reducible first | exact HB.out | apply below_alloc | apply pw_below_drewN | apply below_drew1 | refine below_set ?_ GE435.out | refine below_set ?_ GE437.out) | exact HB.out))) : w.heap.size ≤ gb446))
                        have n8_ := Aside0.mk ((by rw [hg]; exact Nat.ne_of_lt (blk_lt (g := gb435) (o := .cells #[.slice A0_0 l0_0.length c0_0] 24 (0, 0)) (by (with_reducible repeat (first | refine blk_drewN ?_ _ | refine blk_drew ?_ | refine blk_alloc ?_ _)); exact BK435.out)) : gb435 ≠ gb446))
                        have n9_ := Aside0.mk ((by rw [hg]; exact Nat.ne_of_gt (blk_lt (g := gb435) (o := .cells #[.slice A0_0 l0_0.length c0_0] 24 (0, 0)) (by (with_reducible repeat (first | refine blk_drewN ?_ _ | refine blk_drew ?_ | refine blk_alloc ?_ _)); exact BK435.out)) : gb446 ≠ gb435))
                        have n10_ := Aside0.mk ((by rw [hg]; exact Nat.ne_of_lt (blk_lt (g := gb437) (o := .cells #[.slice Ao23 x438000_2.length co23] 24 (0, 0)) (by (with_reducible repeat (first | refine blk_drewN ?_ _ | refine blk_drew ?_ | refine blk_alloc ?_ _)); exact BK437.out)) : gb437 ≠ gb446))
                        have n11_ := Aside0.mk ((by rw [hg]; exact Nat.ne_of_gt (blk_lt (g := gb437) (o := .cells #[.slice Ao23 x438000_2.length co23] 24 (0, 0)) (by (with_reducible repeat (first | refine blk_drewN ?_ _ | refine blk_drew ?_ | refine blk_alloc ?_ _)); exact BK437.out)) : gb446 ≠ gb437))
                        clear HO_436000
                        clear HO_438000
                        clear BK435
                        clear BK437
                        clear HB
                        have HO_436000 := n0_
                        have HO_438000 := n1_
                        have BK435 := n2_
                        have BK437 := n3_
                        have HB := n4_
                        have BK446 := n5_
                        have GW446 := n6_
                        have GE446 := n7_
                        have NB435_446 := n8_
                        have NB446_435 := n9_
                        have NB437_446 := n10_
                        have NB446_437 := n11_
                        clear n0_ n1_ n2_ n3_ n4_ n5_ n6_ n7_ n8_ n9_ n10_ n11_
                        clear hb hbox hg
                        refine hK.out _ _ ⟨(blk_cell BK437.out 0).trans rfl, ((HB.out.cell (World.block_lt_of_cell? w _ hw441_0)).trans hw441_0), ((HB.out.cell (World.block_lt_of_cell? w _ hw441_1)).trans hw441_1), ((HB.out.cell (World.block_lt_of_cell? w _ hw441_2)).trans hw441_2), ((HB.out.cell (World.block_lt_of_cell? w _ hw441_3)).trans hw441_3), ((HB.out.cell (World.block_lt_of_cell? w _ hw441_4)).trans hw441_4), ((HB.out.cell (World.block_lt_of_cell? w _ hw441_5)).trans hw441_5)⟩ (fun hHeld => ?_)
                        clear hK K
                        refine norm_ (a' := ?_) ?_ ?_
                        rotate_left
                        · show Act.put _ (some 14) _ = _
                          simp only [Act.put, List.setIfInBounds_toArray, List.set_cons_zero, List.set_cons_succ, i64_w, i32_w]
                          rfl
                        refine one_ (i := 5) (N := some 47) #[true, true, true, true, true, true, false, false, false, true, false, false] rfl rfl (one_of HT_.out (by kernel_rfl)) (by decide) (fun K hK => ?_)
                        refine goes_ Try.func19 (by kernel_rfl) rfl #[.agg #[.slice Ao23 x438000_2.length co23], .agg #[.int .i64 ((rd_T26 l1 x13_2).f0), .string ((rd_T26 l1 x13_2).f1), .string ((rd_T26 l1 x13_2).f2), .int .i64 ((rd_T26 l1 x13_2).f3), .int .i64 ((rd_T26 l1 x13_2).f4), .int .i64 ((rd_T26 l1 x13_2).f5)]] (by rfl) rfl rfl (by (try simp only [List.map_toArray, List.map_cons, List.map_nil]); first | done | rfl | (simp only [List.length_drop, List.length_take]; rfl)) ?_
                        with_reducible refine (ledger_Post.calls _ _ x438000_2 ((rd_T26 l1 x13_2).f0) ((rd_T26 l1 x13_2).f1) ((rd_T26 l1 x13_2).f2) ((rd_T26 l1 x13_2).f3) ((rd_T26 l1 x13_2).f4) ((rd_T26 l1 x13_2).f5) t442 t445 _ ?side1 ?side2 A21.out).mono ?_
                        (case side1 => repeat (first | exact (Kd.V_reads' HO_438000.out).2.2 | (with_reducible refine Kd.C_alloc ?_ _) | (with_reducible refine Kd.C_drewN ?_ _) | (with_reducible refine Kd.C_drew ?_)))
                        (case side2 => exact (Kd.V_reads' HO_438000.out).2.1)
                        rintro e w26 ⟨v443, rfl, ho0, hb⟩
                        refine ⟨_, rfl, ?_⟩
                        have n0_ := Aside0.mk (Kd.V_elder' (by (with_reducible repeat (first | apply Kd.V_alloc | apply Kd.V_drewN | apply Kd.V_drew)); exact HO_436000.out) (Kd.R_base ho0) hb)
                        have n1_ := Aside0.mk (Kd.V_elder' (by (with_reducible repeat (first | apply Kd.V_alloc | apply Kd.V_drewN | apply Kd.V_drew)); exact HO_438000.out) (Kd.R_base ho0) hb)
                        have n2_ := Aside0.mk (Kd.R_lower (Kd.R_newM (M := fun k_ => (w.heap.size ≤ k_)) ho0 (below_size (by repeat (first | (with_reducible first | exact HB.out | apply below_alloc | apply pw_below_drewN | apply below_drew1 | refine below_set ?_ GE435.out | refine below_set ?_ GE437.out | refine below_set ?_ GE446.out) | exact HB.out))) (fun k_ h_ => h_)) (below_size (by repeat (first | (with_reducible first | exact HB.out | apply below_alloc | apply pw_below_drewN | apply below_drew1 | refine below_set ?_ GE435.out | refine below_set ?_ GE437.out | refine below_set ?_ GE446.out) | exact HB.out))))
                        have n3_ := Aside0.mk (blk_below (g := gb435) (o := .cells #[.slice A0_0 l0_0.length c0_0] 24 (0, 0)) (by (with_reducible repeat (first | refine blk_drewN ?_ _ | refine blk_drew ?_ | refine blk_alloc ?_ _)); exact BK435.out) hb)
                        have n4_ := Aside0.mk (blk_below (g := gb437) (o := .cells #[.slice Ao23 x438000_2.length co23] 24 (0, 0)) (by (with_reducible repeat (first | refine blk_drewN ?_ _ | refine blk_drew ?_ | refine blk_alloc ?_ _)); exact BK437.out) hb)
                        have n5_ := Aside0.mk (blk_below (g := gb446) (o := .cells #[.slice none 0 0] 24 (0, 0)) (by (with_reducible repeat (first | refine blk_drewN ?_ _ | refine blk_drew ?_ | refine blk_alloc ?_ _)); exact BK446.out) hb)
                        have n6_ := Aside0.mk (below_step (by repeat (first | (with_reducible first | exact HB.out | apply below_alloc | apply pw_below_drewN | apply below_drew1 | refine below_set ?_ GE435.out | refine below_set ?_ GE437.out | refine below_set ?_ GE446.out) | exact HB.out)) hb)
                        clear HO_436000
                        clear HO_438000
                        clear BK435
                        clear BK437
                        clear BK446
                        clear HB
                        have HO_436000 := n0_
                        have HO_438000 := n1_
                        have HO444 := n2_
                        have BK435 := n3_
                        have BK437 := n4_
                        have BK446 := n5_
                        have HB := n6_
                        clear n0_ n1_ n2_ n3_ n4_ n5_ n6_
                        (try clear hb)
                        (try clear hb2)
                        (try clear hk)
                        (try clear hi)
                        (try clear ho0)
                        refine hK.out _ _ ⟨(blk_cell BK437.out 0).trans rfl, ((HB.out.cell (World.block_lt_of_cell? w _ hw441_0)).trans hw441_0), ((HB.out.cell (World.block_lt_of_cell? w _ hw441_1)).trans hw441_1), ((HB.out.cell (World.block_lt_of_cell? w _ hw441_2)).trans hw441_2), ((HB.out.cell (World.block_lt_of_cell? w _ hw441_3)).trans hw441_3), ((HB.out.cell (World.block_lt_of_cell? w _ hw441_4)).trans hw441_4), ((HB.out.cell (World.block_lt_of_cell? w _ hw441_5)).trans hw441_5)⟩ (fun hHeld => ?_)
                        clear hK K
                        refine norm_ (a' := ?_) ?_ ?_
                        rotate_left
                        · show Act.put _ (some 47) _ = _
                          simp only [Act.put, List.setIfInBounds_toArray, List.set_cons_zero, List.set_cons_succ, i64_w, i32_w]
                          rfl
                        refine pure_ (i := 6) (N := some 41) (v := ?_) (a' := ?_) #[true, true, true, true, true, true, true, false, false, true, false, false] rfl rfl (any_of HT_.out (by kernel_rfl)) (fun _ _ _ h => h) (Or.inl ⟨by rfl, ?_⟩) ?_ ?_
                        rotate_left
                        · intro w'
                          go_simp
                          with_reducible rfl
                        rotate_left
                        · simp only [Act.put, List.setIfInBounds_toArray, List.set_cons_zero, List.set_cons_succ, i64_w, i32_w]
                          rfl
                        refine pure_ (i := 7) (N := some 48) (v := ?_) (a' := ?_) #[true, true, true, true, true, true, true, true, false, true, false, false] rfl rfl (any_of HT_.out (by kernel_rfl)) (fun _ _ _ h => h) (Or.inl ⟨by rfl, ?_⟩) ?_ ?_
                        rotate_left
                        · intro w'
                          go_simp
                          with_reducible rfl
                        rotate_left
                        · simp only [Act.put, List.setIfInBounds_toArray, List.set_cons_zero, List.set_cons_succ, i64_w, i32_w]
                          rfl
                        refine pure_ (i := 8) (N := some 49) (v := ?_) (a' := ?_) #[true, true, true, true, true, true, true, true, true, true, false, false] rfl rfl (any_of HT_.out (by kernel_rfl)) (fun _ _ _ h => h) (Or.inl ⟨by rfl, ?_⟩) ?_ ?_
                        rotate_left
                        · intro w'
                          go_simp
                          with_reducible rfl
                        rotate_left
                        · simp only [Act.put, List.setIfInBounds_toArray, List.set_cons_zero, List.set_cons_succ, i64_w, i32_w]
                          rfl
                        exact norm_ (by simp only [putAll, Act.put, List.setIfInBounds_toArray, List.set_cons_zero, List.set_cons_succ]) (hCont (v443, gb446) _ ⟨hHeld, (by (with_reducible repeat (first | apply Kd.R_alloc | apply Kd.R_drewN | apply Kd.R_drew)); exact Kd.R_mono HO444.out (fun _ hk => hk.1)), (by (with_reducible repeat (first | apply Kd.V_alloc | apply Kd.V_drewN | apply Kd.V_drew)); exact Kd.V_mono HO_436000.out (fun _ hk => ⟨hk.1.1.1, ⟨hk.2, ⟨hk.1.1.2.1, ⟨hk.1.1.2.2, hk.1.2⟩⟩⟩⟩)), (by (with_reducible repeat (first | apply Kd.V_alloc | apply Kd.V_drewN | apply Kd.V_drew)); exact Kd.V_mono HO_438000.out (fun _ hk => ⟨hk.1.1.1, ⟨hk.2, ⟨hk.1.1.2.1, ⟨hk.1.1.2.2, hk.1.2⟩⟩⟩⟩)), (by (with_reducible repeat (first | refine blk_drewN ?_ _ | refine blk_drew ?_ | refine blk_alloc ?_ _)); exact BK435.out), (by (with_reducible repeat (first | refine blk_drewN ?_ _ | refine blk_drew ?_ | refine blk_alloc ?_ _)); exact BK437.out), (by (with_reducible repeat (first | refine blk_drewN ?_ _ | refine blk_drew ?_ | refine blk_alloc ?_ _)); exact BK446.out), GW446.out, GE446.out, NB435_446.out, NB446_435.out, NB437_446.out, NB446_437.out, (by repeat (first | (with_reducible first | exact HB.out | apply below_alloc | apply pw_below_drewN | apply below_drew1 | refine below_set ?_ GE435.out | refine below_set ?_ GE437.out | refine below_set ?_ GE446.out) | exact HB.out))⟩)
                    rintro ⟨v443, gb446⟩ w27 ⟨hS_, h0_, h1_, h2_, h3_, h4_, h5_, h6_, h7_, h8_, h9_, h10_, h11_, h12_⟩
                    have n0_ : Aside0 (Kd.R k26 26 w27 w.heap.size (fun k_ => (w.heap.size ≤ k_)) v443 t442) := ⟨h0_⟩
                    have n1_ : Aside0 (Kd.V k26 26 w27 w.heap.size (fun k_ => (P0_0_ k_ ∨ w.heap.size ≤ k_) ∧ some k_ ≠ (v443 : Value).ownBlock ∧ k_ ≠ gb435 ∧ k_ ≠ gb437 ∧ k_ ≠ gb446) (.slice A0_0 l0_0.length c0_0) l0_0) := ⟨h1_⟩
                    have n2_ : Aside0 (Kd.V k26 26 w27 w.heap.size (fun k_ => (P0_0_ k_ ∨ w.heap.size ≤ k_) ∧ some k_ ≠ (v443 : Value).ownBlock ∧ k_ ≠ gb435 ∧ k_ ≠ gb437 ∧ k_ ≠ gb446) (.slice Ao23 x438000_2.length co23) x438000_2) := ⟨h2_⟩
                    have n3_ : Aside0 (w27.heap[gb435]? = some (.cells #[.slice A0_0 l0_0.length c0_0] 24 (0, 0))) := ⟨h3_⟩
                    have n4_ : Aside0 (w27.heap[gb437]? = some (.cells #[.slice Ao23 x438000_2.length co23] 24 (0, 0))) := ⟨h4_⟩
                    have n5_ : Aside0 (w27.heap[gb446]? = some (.cells #[.slice none 0 0] 24 (0, 0))) := ⟨h5_⟩
                    have n6_ : Aside0 (w.heap.size ≤ gb446) := ⟨h6_⟩
                    have n7_ : Aside0 (w.heap.size ≤ gb446) := ⟨h7_⟩
                    have n8_ : Aside0 (gb435 ≠ gb446) := ⟨h8_⟩
                    have n9_ : Aside0 (gb446 ≠ gb435) := ⟨h9_⟩
                    have n10_ : Aside0 (gb437 ≠ gb446) := ⟨h10_⟩
                    have n11_ : Aside0 (gb446 ≠ gb437) := ⟨h11_⟩
                    have n12_ : Aside0 (Below w.heap.size w w27) := ⟨h12_⟩
                    clear HO_436000
                    clear HO_438000
                    clear BK435
                    clear BK437
                    clear HB
                    clear h0_ h1_ h2_ h3_ h4_ h5_ h6_ h7_ h8_ h9_ h10_ h11_ h12_
                    have HO444 := n0_
                    have HO_436000 := n1_
                    have HO_438000 := n2_
                    have BK435 := n3_
                    have BK437 := n4_
                    have BK446 := n5_
                    have GW446 := n6_
                    have GE446 := n7_
                    have NB435_446 := n8_
                    have NB446_435 := n9_
                    have NB437_446 := n10_
                    have NB446_437 := n11_
                    have HB := n12_
                    clear n0_ n1_ n2_ n3_ n4_ n5_ n6_ n7_ n8_ n9_ n10_ n11_ n12_
                    have hHeld : w27.cell? ⟨gb437, 0, none⟩ = some (.slice Ao23 x438000_2.length co23) ∧ w27.cell? (ad440.add ((x13_2).toNat * 6)) = some (.int .i64 ((rd_T26 l1 x13_2).f0)) ∧ w27.cell? ⟨(ad440.add ((x13_2).toNat * 6)).block, (ad440.add ((x13_2).toNat * 6)).off + 1, none⟩ = some (.string ((rd_T26 l1 x13_2).f1)) ∧ w27.cell? ⟨(ad440.add ((x13_2).toNat * 6)).block, (ad440.add ((x13_2).toNat * 6)).off + 2, none⟩ = some (.string ((rd_T26 l1 x13_2).f2)) ∧ w27.cell? ⟨(ad440.add ((x13_2).toNat * 6)).block, (ad440.add ((x13_2).toNat * 6)).off + 3, none⟩ = some (.int .i64 ((rd_T26 l1 x13_2).f3)) ∧ w27.cell? ⟨(ad440.add ((x13_2).toNat * 6)).block, (ad440.add ((x13_2).toNat * 6)).off + 4, none⟩ = some (.int .i64 ((rd_T26 l1 x13_2).f4)) ∧ w27.cell? ⟨(ad440.add ((x13_2).toNat * 6)).block, (ad440.add ((x13_2).toNat * 6)).off + 5, none⟩ = some (.int .i64 ((rd_T26 l1 x13_2).f5)) := hS_
                    obtain ⟨Ao28, co28, eo28⟩ := Kd.R_slice HO444.out
                    (first | subst eo28 | (injection eo28 with f1_ f2_ f3_; have f4_ := f1_.symm; have f5_ := f3_.symm; clear f1_ f2_ f3_; subst f4_; subst f5_))
                    refine norm_ (a' := ?_) ?_ ?_
                    rotate_left
                    · simp only [putAll, Act.put, List.setIfInBounds_toArray, List.set_cons_zero, List.set_cons_succ]
                      rfl
                    refine one_ (i := 10) (N := none) #[true, true, true, true, true, true, true, true, true, true, true, false] rfl rfl (one_of HT_.out (by kernel_rfl)) (by decide) (fun K hK => ?_)
                    have hs29 : w27.cell? ⟨gb446, 0, none⟩ = some (.slice none 0 0) := (blk_cell BK446.out 0).trans rfl
                    have hfs29 := blk_frozen BK446.out 0
                    have hns29_0 := NB435_446.out
                    have hns29_1 := NB437_446.out
                    have hms29_0 := NB446_435.out
                    have hms29_1 := NB446_437.out
                    refine skip_ (w1 := ?_) (by rfl) rfl ?_ ?_
                    rotate_left
                    · go_simp
                      rfl
                    refine hK.out _ _ ⟨((cell_far (p := ⟨gb446, _, none⟩) NB437_446.out _).trans (hHeld.1)), ((cell_far (p := ⟨gb446, _, none⟩) (by first | exact Nat.ne_of_lt (Nat.lt_of_lt_of_le (by have := World.block_lt_of_cell? _ _ hw441_0; first | rwa [add_block] at this | exact this) GW446.out) | (rw [add_block]; exact Nat.ne_of_lt (Nat.lt_of_lt_of_le (by have := World.block_lt_of_cell? _ _ hw441_0; first | rwa [add_block] at this | exact this) GW446.out)) | (show (Addr.add _ _).block ≠ _; rw [add_block]; exact Nat.ne_of_lt (Nat.lt_of_lt_of_le (by have := World.block_lt_of_cell? _ _ hw441_0; first | rwa [add_block] at this | exact this) GW446.out)) | (dsimp only; exact Nat.ne_of_lt (Nat.lt_of_lt_of_le (by have := World.block_lt_of_cell? _ _ hw441_0; first | rwa [add_block] at this | exact this) GW446.out))) _).trans (hHeld.2.1)), ((cell_far (p := ⟨gb446, _, none⟩) (by first | exact Nat.ne_of_lt (Nat.lt_of_lt_of_le (by have := World.block_lt_of_cell? _ _ hw441_1; first | rwa [add_block] at this | exact this) GW446.out) | (rw [add_block]; exact Nat.ne_of_lt (Nat.lt_of_lt_of_le (by have := World.block_lt_of_cell? _ _ hw441_1; first | rwa [add_block] at this | exact this) GW446.out)) | (show (Addr.add _ _).block ≠ _; rw [add_block]; exact Nat.ne_of_lt (Nat.lt_of_lt_of_le (by have := World.block_lt_of_cell? _ _ hw441_1; first | rwa [add_block] at this | exact this) GW446.out)) | (dsimp only; exact Nat.ne_of_lt (Nat.lt_of_lt_of_le (by have := World.block_lt_of_cell? _ _ hw441_1; first | rwa [add_block] at this | exact this) GW446.out))) _).trans (hHeld.2.2.1)), ((cell_far (p := ⟨gb446, _, none⟩) (by first | exact Nat.ne_of_lt (Nat.lt_of_lt_of_le (by have := World.block_lt_of_cell? _ _ hw441_2; first | rwa [add_block] at this | exact this) GW446.out) | (rw [add_block]; exact Nat.ne_of_lt (Nat.lt_of_lt_of_le (by have := World.block_lt_of_cell? _ _ hw441_2; first | rwa [add_block] at this | exact this) GW446.out)) | (show (Addr.add _ _).block ≠ _; rw [add_block]; exact Nat.ne_of_lt (Nat.lt_of_lt_of_le (by have := World.block_lt_of_cell? _ _ hw441_2; first | rwa [add_block] at this | exact this) GW446.out)) | (dsimp only; exact Nat.ne_of_lt (Nat.lt_of_lt_of_le (by have := World.block_lt_of_cell? _ _ hw441_2; first | rwa [add_block] at this | exact this) GW446.out))) _).trans (hHeld.2.2.2.1)), ((cell_far (p := ⟨gb446, _, none⟩) (by first | exact Nat.ne_of_lt (Nat.lt_of_lt_of_le (by have := World.block_lt_of_cell? _ _ hw441_3; first | rwa [add_block] at this | exact this) GW446.out) | (rw [add_block]; exact Nat.ne_of_lt (Nat.lt_of_lt_of_le (by have := World.block_lt_of_cell? _ _ hw441_3; first | rwa [add_block] at this | exact this) GW446.out)) | (show (Addr.add _ _).block ≠ _; rw [add_block]; exact Nat.ne_of_lt (Nat.lt_of_lt_of_le (by have := World.block_lt_of_cell? _ _ hw441_3; first | rwa [add_block] at this | exact this) GW446.out)) | (dsimp only; exact Nat.ne_of_lt (Nat.lt_of_lt_of_le (by have := World.block_lt_of_cell? _ _ hw441_3; first | rwa [add_block] at this | exact this) GW446.out))) _).trans (hHeld.2.2.2.2.1)), ((cell_far (p := ⟨gb446, _, none⟩) (by first | exact Nat.ne_of_lt (Nat.lt_of_lt_of_le (by have := World.block_lt_of_cell? _ _ hw441_4; first | rwa [add_block] at this | exact this) GW446.out) | (rw [add_block]; exact Nat.ne_of_lt (Nat.lt_of_lt_of_le (by have := World.block_lt_of_cell? _ _ hw441_4; first | rwa [add_block] at this | exact this) GW446.out)) | (show (Addr.add _ _).block ≠ _; rw [add_block]; exact Nat.ne_of_lt (Nat.lt_of_lt_of_le (by have := World.block_lt_of_cell? _ _ hw441_4; first | rwa [add_block] at this | exact this) GW446.out)) | (dsimp only; exact Nat.ne_of_lt (Nat.lt_of_lt_of_le (by have := World.block_lt_of_cell? _ _ hw441_4; first | rwa [add_block] at this | exact this) GW446.out))) _).trans (hHeld.2.2.2.2.2.1)), ((cell_far (p := ⟨gb446, _, none⟩) (by first | exact Nat.ne_of_lt (Nat.lt_of_lt_of_le (by have := World.block_lt_of_cell? _ _ hw441_5; first | rwa [add_block] at this | exact this) GW446.out) | (rw [add_block]; exact Nat.ne_of_lt (Nat.lt_of_lt_of_le (by have := World.block_lt_of_cell? _ _ hw441_5; first | rwa [add_block] at this | exact this) GW446.out)) | (show (Addr.add _ _).block ≠ _; rw [add_block]; exact Nat.ne_of_lt (Nat.lt_of_lt_of_le (by have := World.block_lt_of_cell? _ _ hw441_5; first | rwa [add_block] at this | exact this) GW446.out)) | (dsimp only; exact Nat.ne_of_lt (Nat.lt_of_lt_of_le (by have := World.block_lt_of_cell? _ _ hw441_5; first | rwa [add_block] at this | exact this) GW446.out))) _).trans (hHeld.2.2.2.2.2.2))⟩ (fun hHeld => ?_)
                    clear hK K
                    refine pure_ (i := 11) (N := some 15) (v := ?_) (a' := ?_) #[true, true, true, true, true, true, true, true, true, true, true, true] rfl rfl (any_of HT_.out (by kernel_rfl)) (fun _ _ _ h => h) (Or.inl ⟨by rfl, ?_⟩) ?_ ?_
                    rotate_left
                    · intro w'
                      go_simp
                      with_reducible rfl
                    rotate_left
                    · simp only [Act.put, List.setIfInBounds_toArray, List.set_cons_zero, List.set_cons_succ, i64_w, i32_w]
                      rfl
                    refine done_ (done_of HT_.out (by kernel_rfl)) ?_
                    have hnb30 := NB446_435.out
                    have hnc30 := NB435_446.out
                    have hnb31 := NB446_437.out
                    have hnc31 := NB437_446.out
                    have hcz32_0 : w27.cell? ⟨gb446, 0, none⟩ = some (.slice none 0 0) := (blk_cell BK446.out 0).trans rfl
                    have hfz32_0 := blk_frozen BK446.out 0
                    have hnb33 := NB437_435.out
                    have hnc33 := NB435_437.out
                    have hcz34_0 : w27.cell? ⟨gb437, 0, none⟩ = some (.slice Ao23 x438000_2.length co23) := (blk_cell BK437.out 0).trans rfl
                    have hfz34_0 := blk_frozen BK437.out 0
                    try go_wp2
                    go_roundg k2
                    case measure => have := HJ6.out; have := HK2.out; omega
                    case rel => exact ⟨(wrap64 (x13_2 + 1)), (t442), (.slice Ao28 t442.length co28), (by first | rfl | (simp; done) | (simp [*]; done)), H', ⟨by have := HJ6.out; have := HK2.out; omega⟩, ⟨by (with_reducible repeat (first | apply Kd.V_alloc | apply Kd.V_drewN | apply Kd.V_drew)); exact Kd.V_mono (Kd.V_far (p := ⟨gb437, 0, none⟩) (Kd.V_far (p := ⟨gb446, 0, none⟩) (Kd.V_mono (Kd.V_mono HO_436000.out (fun k_ hk => (⟨hk, hk.2.2.2.2⟩ : _ ∧ k_ ≠ gb446))) (fun k_ hk => (⟨hk, hk.1.2.2.2.1⟩ : _ ∧ k_ ≠ gb437))) (fun _ hk => hk.1.2) (.slice Ao28 t442.length co28)) (fun _ hk => hk.2) (.slice Ao28 t442.length co28)) (fun _ hk => ⟨hk.1.1.1, ⟨hk.1.1.2.2.1, hk.1.1.2.2.2.1⟩⟩)⟩, ⟨Kd.V_mono (Kd.R_V (by (with_reducible repeat (first | apply Kd.R_alloc | apply Kd.R_drewN | apply Kd.R_drew)); exact Kd.R_mono (ok' := fun k_ => w.heap.size ≤ k_ ∧ k_ ≠ gb435 ∧ k_ ≠ gb437) (Kd.R_far (p := ⟨gb437, 0, none⟩) (Kd.R_far (p := ⟨gb446, 0, none⟩) (Kd.R_types (Kd.R_types (Kd.R_types (Kd.R_types HO444.out BK435.out (by decide)) BK437.out (by decide)) BK446.out (by decide)) BK437.out (by decide)) (fun _ hk => hk.1.2) (.slice Ao28 t442.length co28)) (fun _ hk => hk.2) (.slice Ao28 t442.length co28)) (fun _ hk => ⟨hk.1.1.1.1, ⟨hk.1.1.1.2, hk.1.1.2⟩⟩))) (fun k_ hk => by first | exact ⟨(.inr (hk.1)), hk.2⟩ | exact (.inr (hk)))⟩, ⟨by (with_reducible repeat (first | refine blk_drewN ?_ _ | refine blk_drew ?_ | refine blk_alloc ?_ _)); refine blk_far ?_ NB435_437.out _; (with_reducible repeat (first | refine blk_drewN ?_ _ | refine blk_drew ?_ | refine blk_alloc ?_ _)); refine blk_far ?_ NB435_446.out _; (with_reducible repeat (first | refine blk_drewN ?_ _ | refine blk_drew ?_ | refine blk_alloc ?_ _)); exact BK435.out⟩, ⟨by (with_reducible repeat (first | refine blk_drewN ?_ _ | refine blk_drew ?_ | refine blk_alloc ?_ _)); refine blk_put (cs := #[.slice Ao23 x438000_2.length co23]) ?_ 0 _ rfl; (with_reducible repeat (first | refine blk_drewN ?_ _ | refine blk_drew ?_ | refine blk_alloc ?_ _)); refine blk_far ?_ NB437_446.out _; (with_reducible repeat (first | refine blk_drewN ?_ _ | refine blk_drew ?_ | refine blk_alloc ?_ _)); exact BK437.out⟩, ⟨by repeat (first | (with_reducible first | exact HB.out | apply below_alloc | apply pw_below_drewN | apply below_drew1 | refine below_set ?_ GE435.out | refine below_set ?_ GE437.out | refine below_set ?_ GE446.out) | exact HB.out)⟩⟩
                  · rw [if_neg c22] at H
                    have c22b0 : (t445 == 0) = false := beq_eq_false_iff_ne.mpr c22
                    have c22b1 : (t445 != 0) = true := bne_iff_ne.mpr c22
                    have H' := Aside0.mk H
                    clear H
                    have p440 : 0 ≤ (x13_2 : Int) := of_decide_eq_true (by first | (with_reducible assumption) | assumption)
                    have q440 : x13_2 < (l1.length : Int) := of_decide_eq_true (by first | (with_reducible assumption) | assumption)
                    obtain ⟨ad440, e440, hx440_0, hx440_1, hx440_2, hx440_3, hx440_4, hx440_5⟩ := at_T26 HR1.out x13_2 p440 q440
                    cases e440
                    replace hx440_0 := (HB.out.cell (World.block_lt_of_cell? w _ hx440_0)).trans hx440_0
                    replace hx440_1 := (HB.out.cell (World.block_lt_of_cell? w _ hx440_1)).trans hx440_1
                    replace hx440_2 := (HB.out.cell (World.block_lt_of_cell? w _ hx440_2)).trans hx440_2
                    replace hx440_3 := (HB.out.cell (World.block_lt_of_cell? w _ hx440_3)).trans hx440_3
                    replace hx440_4 := (HB.out.cell (World.block_lt_of_cell? w _ hx440_4)).trans hx440_4
                    replace hx440_5 := (HB.out.cell (World.block_lt_of_cell? w _ hx440_5)).trans hx440_5
                    replace p440 := eq_true p440
                    replace q440 := eq_true q440
                    obtain ⟨Ao35, co35, eo35⟩ := Kd.V_slice HO_438000.out
                    subst eo35
                    try go_wp2
                    have n0_ := Aside0.mk (Kd.V_drew HO_436000.out)
                    have n1_ := Aside0.mk (Kd.V_drew HO_438000.out)
                    have n2_ := Aside0.mk (blk_drew BK435.out)
                    have n3_ := Aside0.mk (blk_drew BK437.out)
                    have n4_ := Aside0.mk (below_drew1 HB.out)
                    clear HO_436000
                    clear HO_438000
                    clear BK435
                    clear BK437
                    clear HB
                    have HO_436000 := n0_
                    have HO_438000 := n1_
                    have BK435 := n2_
                    have BK437 := n3_
                    have HB := n4_
                    clear n0_ n1_ n2_ n3_ n4_
                    have p441 : 0 ≤ (x13_2 : Int) := of_decide_eq_true (by first | (with_reducible assumption) | assumption)
                    have q441 : x13_2 < (l1.length : Int) := of_decide_eq_true (by first | (with_reducible assumption) | assumption)
                    obtain ⟨ad441, e441, hx441_0, hx441_1, hx441_2, hx441_3, hx441_4, hx441_5⟩ := at_T26 HR1.out x13_2 p441 q441
                    have hw441_5 := hx441_5
                    have hw441_4 := hx441_4
                    have hw441_3 := hx441_3
                    have hw441_2 := hx441_2
                    have hw441_1 := hx441_1
                    have hw441_0 := hx441_0
                    obtain rfl : ad440 = ad441 := (by injection e441)
                    replace hx441_0 := (HB.out.cell (World.block_lt_of_cell? w _ hx441_0)).trans hx441_0
                    replace hx441_1 := (HB.out.cell (World.block_lt_of_cell? w _ hx441_1)).trans hx441_1
                    replace hx441_2 := (HB.out.cell (World.block_lt_of_cell? w _ hx441_2)).trans hx441_2
                    replace hx441_3 := (HB.out.cell (World.block_lt_of_cell? w _ hx441_3)).trans hx441_3
                    replace hx441_4 := (HB.out.cell (World.block_lt_of_cell? w _ hx441_4)).trans hx441_4
                    replace hx441_5 := (HB.out.cell (World.block_lt_of_cell? w _ hx441_5)).trans hx441_5
                    replace p441 := eq_true p441
                    replace q441 := eq_true q441
                    refine start_ (n := 12) (S := fun w' => w'.cell? ⟨gb437, 0, none⟩ = some (.slice Ao35 x438000_2.length co35) ∧ w'.cell? (ad440.add ((x13_2).toNat * 6)) = some (.int .i64 ((rd_T26 l1 x13_2).f0)) ∧ w'.cell? ⟨(ad440.add ((x13_2).toNat * 6)).block, (ad440.add ((x13_2).toNat * 6)).off + 1, none⟩ = some (.string ((rd_T26 l1 x13_2).f1)) ∧ w'.cell? ⟨(ad440.add ((x13_2).toNat * 6)).block, (ad440.add ((x13_2).toNat * 6)).off + 2, none⟩ = some (.string ((rd_T26 l1 x13_2).f2)) ∧ w'.cell? ⟨(ad440.add ((x13_2).toNat * 6)).block, (ad440.add ((x13_2).toNat * 6)).off + 3, none⟩ = some (.int .i64 ((rd_T26 l1 x13_2).f3)) ∧ w'.cell? ⟨(ad440.add ((x13_2).toNat * 6)).block, (ad440.add ((x13_2).toNat * 6)).off + 4, none⟩ = some (.int .i64 ((rd_T26 l1 x13_2).f4)) ∧ w'.cell? ⟨(ad440.add ((x13_2).toNat * 6)).block, (ad440.add ((x13_2).toNat * 6)).off + 5, none⟩ = some (.int .i64 ((rd_T26 l1 x13_2).f5))) (ds := []) #[false, false, false, false, false, false, false, false, false, false, false, false] (by kernel_rfl) rfl rfl ⟨(blk_cell BK437.out 0).trans rfl, ((HB.out.cell (World.block_lt_of_cell? w _ hw441_0)).trans hw441_0), ((HB.out.cell (World.block_lt_of_cell? w _ hw441_1)).trans hw441_1), ((HB.out.cell (World.block_lt_of_cell? w _ hw441_2)).trans hw441_2), ((HB.out.cell (World.block_lt_of_cell? w _ hw441_3)).trans hw441_3), ((HB.out.cell (World.block_lt_of_cell? w _ hw441_4)).trans hw441_4), ((HB.out.cell (World.block_lt_of_cell? w _ hw441_5)).trans hw441_5)⟩ (fun hHeld => ?_); refine with_tabW wageofficelaw39_LedgerPast.tab9 wageofficelaw39_LedgerPast.bits9 (fun HT_ HW_ => ?_)
                    generalize wr.drew = w36 at HO_436000 HO_438000 BK435 BK437 HB hx441_0 hx441_1 hx441_2 hx441_3 hx441_4 hx441_5 hHeld ⊢
                    refine pure_ (i := 1) (N := some 43) (v := ?_) (a' := ?_) #[false, true, false, false, false, false, false, false, false, false, false, false] rfl rfl (any_of HT_.out (by kernel_rfl)) (fun _ _ _ h => h) (Or.inl ⟨by rfl, ?_⟩) ?_ ?_
                    rotate_left
                    · intro w'
                      go_simp
                      with_reducible rfl
                    rotate_left
                    · simp only [Act.put, List.setIfInBounds_toArray, List.set_cons_zero, List.set_cons_succ, i64_w, i32_w]
                      rfl
                    refine pure_ (i := 2) (N := some 44) (v := ?_) (a' := ?_) #[false, true, true, false, false, false, false, false, false, false, false, false] rfl rfl (any_of HT_.out (by kernel_rfl)) (fun _ _ _ h => h) (Or.inl ⟨by rfl, ?_⟩) ?_ ?_
                    rotate_left
                    · intro w'
                      go_simp
                      with_reducible rfl
                    rotate_left
                    · simp only [Act.put, List.setIfInBounds_toArray, List.set_cons_zero, List.set_cons_succ, i64_w, i32_w]
                      rfl
                    refine pure_ (i := 3) (N := some 45) (v := ?_) (a' := ?_) #[false, true, true, true, false, false, false, false, false, false, false, false] rfl rfl (any_of HT_.out (by kernel_rfl)) (fun _ _ _ h => h) (Or.inl ⟨by rfl, ?_⟩) ?_ ?_
                    rotate_left
                    · intro w'
                      go_simp
                      with_reducible rfl
                    rotate_left
                    · simp only [Act.put, List.setIfInBounds_toArray, List.set_cons_zero, List.set_cons_succ, i64_w, i32_w]
                      rfl
                    refine take_ (i := 0) (N := some 42) (v := ?_) (a' := ?_) #[true, true, true, true, false, false, false, false, false, false, false, false] rfl rfl (take_ofW HT_.out HW_.out (by kernel_rfl)) (fun _ _ _ h => h) (Or.inl ⟨by rfl, ?_⟩) hHeld ?_ ?_
                    rotate_left
                    · rintro w' ⟨s0, s1, s2, s3, s4, s5, s6⟩
                      go_simp
                      with_reducible rfl
                    rotate_left
                    · simp only [Act.put, List.setIfInBounds_toArray, List.set_cons_zero, List.set_cons_succ, i64_w, i32_w]
                      rfl
                    refine take_ (i := 4) (N := some 46) (v := ?_) (a' := ?_) #[true, true, true, true, true, false, false, false, false, false, false, false] rfl rfl (take_ofW HT_.out HW_.out (by kernel_rfl)) (fun _ _ _ h => h) (Or.inl ⟨by rfl, ?_⟩) hHeld ?_ ?_
                    rotate_left
                    · rintro w' ⟨s0, s1, s2, s3, s4, s5, s6⟩
                      go_simp
                      with_reducible rfl
                    rotate_left
                    · simp only [Act.put, List.setIfInBounds_toArray, List.set_cons_zero, List.set_cons_succ, i64_w, i32_w]
                      rfl
                    refine join_ (σ := Value × Nat) 2 #[true, true, true, true, true, true, true, true, true, true, false, false] (fun s_ => [(47, .tuple #[.agg #[s_.1], .int .i64 t445]), (14, .pointer (some ⟨s_.2, 0, none⟩)), (41, .tuple #[.agg #[s_.1], .int .i64 t445]), (48, .agg #[s_.1]), (49, .int .i64 t445)]) (fun s_ w' => (w'.cell? ⟨gb437, 0, none⟩ = some (.slice Ao35 x438000_2.length co35) ∧ w'.cell? (ad440.add ((x13_2).toNat * 6)) = some (.int .i64 ((rd_T26 l1 x13_2).f0)) ∧ w'.cell? ⟨(ad440.add ((x13_2).toNat * 6)).block, (ad440.add ((x13_2).toNat * 6)).off + 1, none⟩ = some (.string ((rd_T26 l1 x13_2).f1)) ∧ w'.cell? ⟨(ad440.add ((x13_2).toNat * 6)).block, (ad440.add ((x13_2).toNat * 6)).off + 2, none⟩ = some (.string ((rd_T26 l1 x13_2).f2)) ∧ w'.cell? ⟨(ad440.add ((x13_2).toNat * 6)).block, (ad440.add ((x13_2).toNat * 6)).off + 3, none⟩ = some (.int .i64 ((rd_T26 l1 x13_2).f3)) ∧ w'.cell? ⟨(ad440.add ((x13_2).toNat * 6)).block, (ad440.add ((x13_2).toNat * 6)).off + 4, none⟩ = some (.int .i64 ((rd_T26 l1 x13_2).f4)) ∧ w'.cell? ⟨(ad440.add ((x13_2).toNat * 6)).block, (ad440.add ((x13_2).toNat * 6)).off + 5, none⟩ = some (.int .i64 ((rd_T26 l1 x13_2).f5))) ∧ (Kd.R k26 26 w' w.heap.size (fun k_ => (w.heap.size ≤ k_)) s_.1 t442) ∧ (Kd.V k26 26 w' w.heap.size (fun k_ => (P0_0_ k_ ∨ w.heap.size ≤ k_) ∧ some k_ ≠ (s_.1 : Value).ownBlock ∧ k_ ≠ gb435 ∧ k_ ≠ gb437 ∧ k_ ≠ s_.2) (.slice A0_0 l0_0.length c0_0) l0_0) ∧ (Kd.V k26 26 w' w.heap.size (fun k_ => (P0_0_ k_ ∨ w.heap.size ≤ k_) ∧ some k_ ≠ (s_.1 : Value).ownBlock ∧ k_ ≠ gb435 ∧ k_ ≠ gb437 ∧ k_ ≠ s_.2) (.slice Ao35 x438000_2.length co35) x438000_2) ∧ (w'.heap[gb435]? = some (.cells #[.slice A0_0 l0_0.length c0_0] 24 (0, 0))) ∧ (w'.heap[gb437]? = some (.cells #[.slice Ao35 x438000_2.length co35] 24 (0, 0))) ∧ (w'.heap[s_.2]? = some (.cells #[.slice none 0 0] 24 (0, 0))) ∧ (w.heap.size ≤ s_.2) ∧ (w.heap.size ≤ s_.2) ∧ (gb435 ≠ s_.2) ∧ (s_.2 ≠ gb435) ∧ (gb437 ≠ s_.2) ∧ (s_.2 ≠ gb437) ∧ (Below w.heap.size w w')) ?_ ?_
                    rotate_left
                    · intro hCont
                      refine two_ (i := 5) (j := 9) (Ni := some 47) (Nj := some 14) #[true, true, true, true, true, true, false, false, false, false, false, false] #[true, true, true, true, true, false, false, false, false, true, false, false] rfl rfl rfl rfl (two_of HT_.out (by kernel_rfl)) (by decide) (by decide) (fun K hK => ?_) (fun K hK => ?_)
                      · skip
                        refine goes_ Try.func19 (by kernel_rfl) rfl #[.agg #[.slice Ao35 x438000_2.length co35], .agg #[.int .i64 ((rd_T26 l1 x13_2).f0), .string ((rd_T26 l1 x13_2).f1), .string ((rd_T26 l1 x13_2).f2), .int .i64 ((rd_T26 l1 x13_2).f3), .int .i64 ((rd_T26 l1 x13_2).f4), .int .i64 ((rd_T26 l1 x13_2).f5)]] (by rfl) rfl rfl (by (try simp only [List.map_toArray, List.map_cons, List.map_nil]); first | done | rfl | (simp only [List.length_drop, List.length_take]; rfl)) ?_
                        with_reducible refine (ledger_Post.calls _ _ x438000_2 ((rd_T26 l1 x13_2).f0) ((rd_T26 l1 x13_2).f1) ((rd_T26 l1 x13_2).f2) ((rd_T26 l1 x13_2).f3) ((rd_T26 l1 x13_2).f4) ((rd_T26 l1 x13_2).f5) t442 t445 _ ?side1 ?side2 A21.out).mono ?_
                        (case side1 => repeat (first | exact (Kd.V_reads' HO_438000.out).2.2 | (with_reducible refine Kd.C_alloc ?_ _) | (with_reducible refine Kd.C_drewN ?_ _) | (with_reducible refine Kd.C_drew ?_)))
                        (case side2 => exact (Kd.V_reads' HO_438000.out).2.1)
                        rintro e w37 ⟨v443, rfl, ho0, hb⟩
                        refine ⟨_, rfl, ?_⟩
                        have n0_ := Aside0.mk (Kd.V_elder' (by (with_reducible repeat (first | apply Kd.V_alloc | apply Kd.V_drewN | apply Kd.V_drew)); exact HO_436000.out) (Kd.R_base ho0) hb)
                        have n1_ := Aside0.mk (Kd.V_elder' (by (with_reducible repeat (first | apply Kd.V_alloc | apply Kd.V_drewN | apply Kd.V_drew)); exact HO_438000.out) (Kd.R_base ho0) hb)
                        have n2_ := Aside0.mk (Kd.R_lower (Kd.R_newM (M := fun k_ => (w.heap.size ≤ k_)) ho0 (below_size (by repeat (first | (with_reducible first | exact HB.out | apply below_alloc | apply pw_below_drewN | apply below_drew1 | refine below_set ?_ GE435.out | refine below_set ?_ GE437.out) | exact HB.out))) (fun k_ h_ => h_)) (below_size (by repeat (first | (with_reducible first | exact HB.out | apply below_alloc | apply pw_below_drewN | apply below_drew1 | refine below_set ?_ GE435.out | refine below_set ?_ GE437.out) | exact HB.out))))
                        have n3_ := Aside0.mk (blk_below (g := gb435) (o := .cells #[.slice A0_0 l0_0.length c0_0] 24 (0, 0)) (by (with_reducible repeat (first | refine blk_drewN ?_ _ | refine blk_drew ?_ | refine blk_alloc ?_ _)); exact BK435.out) hb)
                        have n4_ := Aside0.mk (blk_below (g := gb437) (o := .cells #[.slice Ao35 x438000_2.length co35] 24 (0, 0)) (by (with_reducible repeat (first | refine blk_drewN ?_ _ | refine blk_drew ?_ | refine blk_alloc ?_ _)); exact BK437.out) hb)
                        have n5_ := Aside0.mk (below_step (by repeat (first | (with_reducible first | exact HB.out | apply below_alloc | apply pw_below_drewN | apply below_drew1 | refine below_set ?_ GE435.out | refine below_set ?_ GE437.out) | exact HB.out)) hb)
                        clear HO_436000
                        clear HO_438000
                        clear BK435
                        clear BK437
                        clear HB
                        have HO_436000 := n0_
                        have HO_438000 := n1_
                        have HO444 := n2_
                        have BK435 := n3_
                        have BK437 := n4_
                        have HB := n5_
                        clear n0_ n1_ n2_ n3_ n4_ n5_
                        (try clear hb)
                        (try clear hb2)
                        (try clear hk)
                        (try clear hi)
                        (try clear ho0)
                        refine hK.out _ _ ⟨(blk_cell BK437.out 0).trans rfl, ((HB.out.cell (World.block_lt_of_cell? w _ hw441_0)).trans hw441_0), ((HB.out.cell (World.block_lt_of_cell? w _ hw441_1)).trans hw441_1), ((HB.out.cell (World.block_lt_of_cell? w _ hw441_2)).trans hw441_2), ((HB.out.cell (World.block_lt_of_cell? w _ hw441_3)).trans hw441_3), ((HB.out.cell (World.block_lt_of_cell? w _ hw441_4)).trans hw441_4), ((HB.out.cell (World.block_lt_of_cell? w _ hw441_5)).trans hw441_5)⟩ (fun hHeld => ?_)
                        clear hK K
                        refine norm_ (a' := ?_) ?_ ?_
                        rotate_left
                        · show Act.put _ (some 47) _ = _
                          simp only [Act.put, List.setIfInBounds_toArray, List.set_cons_zero, List.set_cons_succ, i64_w, i32_w]
                          rfl
                        refine pure_ (i := 6) (N := some 41) (v := ?_) (a' := ?_) #[true, true, true, true, true, true, true, false, false, false, false, false] rfl rfl (any_of HT_.out (by kernel_rfl)) (fun _ _ _ h => h) (Or.inl ⟨by rfl, ?_⟩) ?_ ?_
                        rotate_left
                        · intro w'
                          go_simp
                          with_reducible rfl
                        rotate_left
                        · simp only [Act.put, List.setIfInBounds_toArray, List.set_cons_zero, List.set_cons_succ, i64_w, i32_w]
                          rfl
                        refine pure_ (i := 7) (N := some 48) (v := ?_) (a' := ?_) #[true, true, true, true, true, true, true, true, false, false, false, false] rfl rfl (any_of HT_.out (by kernel_rfl)) (fun _ _ _ h => h) (Or.inl ⟨by rfl, ?_⟩) ?_ ?_
                        rotate_left
                        · intro w'
                          go_simp
                          with_reducible rfl
                        rotate_left
                        · simp only [Act.put, List.setIfInBounds_toArray, List.set_cons_zero, List.set_cons_succ, i64_w, i32_w]
                          rfl
                        refine pure_ (i := 8) (N := some 49) (v := ?_) (a' := ?_) #[true, true, true, true, true, true, true, true, true, false, false, false] rfl rfl (any_of HT_.out (by kernel_rfl)) (fun _ _ _ h => h) (Or.inl ⟨by rfl, ?_⟩) ?_ ?_
                        rotate_left
                        · intro w'
                          go_simp
                          with_reducible rfl
                        rotate_left
                        · simp only [Act.put, List.setIfInBounds_toArray, List.set_cons_zero, List.set_cons_succ, i64_w, i32_w]
                          rfl
                        refine one_ (i := 9) (N := some 14) #[true, true, true, true, true, true, true, true, true, true, false, false] rfl rfl (one_of HT_.out (by kernel_rfl)) (by decide) (fun K hK => ?_)
                        refine box_step ?hg (N := 14) ?hd (cs := #[.slice none 0 0]) (t := 24) ?hr ?_; (case hd => rfl); (case hg => rfl); (case hr => first | (go_simp; done) | (go_simp; rfl))
                        intro gb446 hg w38 hbox hb
                        have n0_ := Aside0.mk (Kd.V_below (Kd.V_elderB (by (with_reducible repeat (first | apply Kd.V_alloc | apply Kd.V_drewN | apply Kd.V_drew)); exact HO_436000.out) gb446 (Nat.le_of_eq hg.symm)) hb)
                        have n1_ := Aside0.mk (Kd.V_below (Kd.V_elderB (by (with_reducible repeat (first | apply Kd.V_alloc | apply Kd.V_drewN | apply Kd.V_drew)); exact HO_438000.out) gb446 (Nat.le_of_eq hg.symm)) hb)
                        have n2_ := Aside0.mk (Kd.R_below (by (with_reducible repeat (first | apply Kd.R_alloc | apply Kd.R_drewN | apply Kd.R_drew)); exact HO444.out) hb)
                        have n3_ := Aside0.mk (blk_below (g := gb435) (o := .cells #[.slice A0_0 l0_0.length c0_0] 24 (0, 0)) (by (with_reducible repeat (first | refine blk_drewN ?_ _ | refine blk_drew ?_ | refine blk_alloc ?_ _)); exact BK435.out) hb)
                        have n4_ := Aside0.mk (blk_below (g := gb437) (o := .cells #[.slice Ao35 x438000_2.length co35] 24 (0, 0)) (by (with_reducible repeat (first | refine blk_drewN ?_ _ | refine blk_drew ?_ | refine blk_alloc ?_ _)); exact BK437.out) hb)
                        have n5_ := Aside0.mk (below_step (by repeat (first | (with_reducible first | exact HB.out | apply below_alloc | apply pw_below_drewN | apply below_drew1 | refine below_set ?_ GE435.out | refine below_set ?_ GE437.out) | exact HB.out)) hb)
                        have n6_ := Aside0.mk (hbox)
                        have n7_ := Aside0.mk ((by rw [hg]; exact (below_size (by repeat (first | (with_reducible first | exact HB.out | apply below_alloc | apply pw_below_drewN | apply below_drew1 | refine below_set ?_ GE435.out | refine below_set ?_ GE437.out) | exact HB.out))) : w.heap.size ≤ gb446))
                        have n8_ := Aside0.mk ((by rw [hg]; exact (below_size (by repeat (first | (with_reducible first | exact HB.out | apply below_alloc | apply pw_below_drewN | apply below_drew1 | refine below_set ?_ GE435.out | refine below_set ?_ GE437.out) | exact HB.out))) : w.heap.size ≤ gb446))
                        have n9_ := Aside0.mk ((by rw [hg]; exact Nat.ne_of_lt (blk_lt (g := gb435) (o := .cells #[.slice A0_0 l0_0.length c0_0] 24 (0, 0)) (by (with_reducible repeat (first | refine blk_drewN ?_ _ | refine blk_drew ?_ | refine blk_alloc ?_ _)); exact BK435.out)) : gb435 ≠ gb446))
                        have n10_ := Aside0.mk ((by rw [hg]; exact Nat.ne_of_gt (blk_lt (g := gb435) (o := .cells #[.slice A0_0 l0_0.length c0_0] 24 (0, 0)) (by (with_reducible repeat (first | refine blk_drewN ?_ _ | refine blk_drew ?_ | refine blk_alloc ?_ _)); exact BK435.out)) : gb446 ≠ gb435))
                        have n11_ := Aside0.mk ((by rw [hg]; exact Nat.ne_of_lt (blk_lt (g := gb437) (o := .cells #[.slice Ao35 x438000_2.length co35] 24 (0, 0)) (by (with_reducible repeat (first | refine blk_drewN ?_ _ | refine blk_drew ?_ | refine blk_alloc ?_ _)); exact BK437.out)) : gb437 ≠ gb446))
                        have n12_ := Aside0.mk ((by rw [hg]; exact Nat.ne_of_gt (blk_lt (g := gb437) (o := .cells #[.slice Ao35 x438000_2.length co35] 24 (0, 0)) (by (with_reducible repeat (first | refine blk_drewN ?_ _ | refine blk_drew ?_ | refine blk_alloc ?_ _)); exact BK437.out)) : gb446 ≠ gb437))
                        clear HO_436000
                        clear HO_438000
                        clear HO444
                        clear BK435
                        clear BK437
                        clear HB
                        have HO_436000 := n0_
                        have HO_438000 := n1_
                        have HO444 := n2_
                        have BK435 := n3_
                        have BK437 := n4_
                        have HB := n5_
                        have BK446 := n6_
                        have GW446 := n7_
                        have GE446 := n8_
                        have NB435_446 := n9_
                        have NB446_435 := n10_
                        have NB437_446 := n11_
                        have NB446_437 := n12_
                        clear n0_ n1_ n2_ n3_ n4_ n5_ n6_ n7_ n8_ n9_ n10_ n11_ n12_
                        clear hb hbox hg
                        refine hK.out _ _ ⟨(blk_cell BK437.out 0).trans rfl, ((HB.out.cell (World.block_lt_of_cell? w _ hw441_0)).trans hw441_0), ((HB.out.cell (World.block_lt_of_cell? w _ hw441_1)).trans hw441_1), ((HB.out.cell (World.block_lt_of_cell? w _ hw441_2)).trans hw441_2), ((HB.out.cell (World.block_lt_of_cell? w _ hw441_3)).trans hw441_3), ((HB.out.cell (World.block_lt_of_cell? w _ hw441_4)).trans hw441_4), ((HB.out.cell (World.block_lt_of_cell? w _ hw441_5)).trans hw441_5)⟩ (fun hHeld => ?_)
                        clear hK K
                        refine norm_ (a' := ?_) ?_ ?_
                        rotate_left
                        · show Act.put _ (some 14) _ = _
                          simp only [Act.put, List.setIfInBounds_toArray, List.set_cons_zero, List.set_cons_succ, i64_w, i32_w]
                          rfl
                        exact norm_ (by simp only [putAll, Act.put, List.setIfInBounds_toArray, List.set_cons_zero, List.set_cons_succ]) (hCont (v443, gb446) _ ⟨hHeld, (by (with_reducible repeat (first | apply Kd.R_alloc | apply Kd.R_drewN | apply Kd.R_drew)); exact Kd.R_mono HO444.out (fun _ hk => hk.1)), (by (with_reducible repeat (first | apply Kd.V_alloc | apply Kd.V_drewN | apply Kd.V_drew)); exact Kd.V_mono HO_436000.out (fun _ hk => ⟨hk.1.1.1, ⟨hk.1.2, ⟨hk.1.1.2.1, ⟨hk.1.1.2.2, hk.2⟩⟩⟩⟩)), (by (with_reducible repeat (first | apply Kd.V_alloc | apply Kd.V_drewN | apply Kd.V_drew)); exact Kd.V_mono HO_438000.out (fun _ hk => ⟨hk.1.1.1, ⟨hk.1.2, ⟨hk.1.1.2.1, ⟨hk.1.1.2.2, hk.2⟩⟩⟩⟩)), (by (with_reducible repeat (first | refine blk_drewN ?_ _ | refine blk_drew ?_ | refine blk_alloc ?_ _)); exact BK435.out), (by (with_reducible repeat (first | refine blk_drewN ?_ _ | refine blk_drew ?_ | refine blk_alloc ?_ _)); exact BK437.out), (by (with_reducible repeat (first | refine blk_drewN ?_ _ | refine blk_drew ?_ | refine blk_alloc ?_ _)); exact BK446.out), GW446.out, GE446.out, NB435_446.out, NB446_435.out, NB437_446.out, NB446_437.out, (by repeat (first | (with_reducible first | exact HB.out | apply below_alloc | apply pw_below_drewN | apply below_drew1 | refine below_set ?_ GE435.out | refine below_set ?_ GE437.out | refine below_set ?_ GE446.out) | exact HB.out))⟩)
                      · skip
                        refine box_step ?hg (N := 14) ?hd (cs := #[.slice none 0 0]) (t := 24) ?hr ?_; (case hd => rfl); (case hg => rfl); (case hr => first | (go_simp; done) | (go_simp; rfl))
                        intro gb446 hg w37 hbox hb
                        have n0_ := Aside0.mk (Kd.V_below (Kd.V_elderB (by (with_reducible repeat (first | apply Kd.V_alloc | apply Kd.V_drewN | apply Kd.V_drew)); exact HO_436000.out) gb446 (Nat.le_of_eq hg.symm)) hb)
                        have n1_ := Aside0.mk (Kd.V_below (Kd.V_elderB (by (with_reducible repeat (first | apply Kd.V_alloc | apply Kd.V_drewN | apply Kd.V_drew)); exact HO_438000.out) gb446 (Nat.le_of_eq hg.symm)) hb)
                        have n2_ := Aside0.mk (blk_below (g := gb435) (o := .cells #[.slice A0_0 l0_0.length c0_0] 24 (0, 0)) (by (with_reducible repeat (first | refine blk_drewN ?_ _ | refine blk_drew ?_ | refine blk_alloc ?_ _)); exact BK435.out) hb)
                        have n3_ := Aside0.mk (blk_below (g := gb437) (o := .cells #[.slice Ao35 x438000_2.length co35] 24 (0, 0)) (by (with_reducible repeat (first | refine blk_drewN ?_ _ | refine blk_drew ?_ | refine blk_alloc ?_ _)); exact BK437.out) hb)
                        have n4_ := Aside0.mk (below_step (by repeat (first | (with_reducible first | exact HB.out | apply below_alloc | apply pw_below_drewN | apply below_drew1 | refine below_set ?_ GE435.out | refine below_set ?_ GE437.out) | exact HB.out)) hb)
                        have n5_ := Aside0.mk (hbox)
                        have n6_ := Aside0.mk ((by rw [hg]; exact (below_size (by repeat (first | (with_reducible first | exact HB.out | apply below_alloc | apply pw_below_drewN | apply below_drew1 | refine below_set ?_ GE435.out | refine below_set ?_ GE437.out) | exact HB.out))) : w.heap.size ≤ gb446))
                        have n7_ := Aside0.mk ((by rw [hg]; exact (below_size (by repeat (first | (with_reducible first | exact HB.out | apply below_alloc | apply pw_below_drewN | apply below_drew1 | refine below_set ?_ GE435.out | refine below_set ?_ GE437.out) | exact HB.out))) : w.heap.size ≤ gb446))
                        have n8_ := Aside0.mk ((by rw [hg]; exact Nat.ne_of_lt (blk_lt (g := gb435) (o := .cells #[.slice A0_0 l0_0.length c0_0] 24 (0, 0)) (by (with_reducible repeat (first | refine blk_drewN ?_ _ | refine blk_drew ?_ | refine blk_alloc ?_ _)); exact BK435.out)) : gb435 ≠ gb446))
                        have n9_ := Aside0.mk ((by rw [hg]; exact Nat.ne_of_gt (blk_lt (g := gb435) (o := .cells #[.slice A0_0 l0_0.length c0_0] 24 (0, 0)) (by (with_reducible repeat (first | refine blk_drewN ?_ _ | refine blk_drew ?_ | refine blk_alloc ?_ _)); exact BK435.out)) : gb446 ≠ gb435))
                        have n10_ := Aside0.mk ((by rw [hg]; exact Nat.ne_of_lt (blk_lt (g := gb437) (o := .cells #[.slice Ao35 x438000_2.length co35] 24 (0, 0)) (by (with_reducible repeat (first | refine blk_drewN ?_ _ | refine blk_drew ?_ | refine blk_alloc ?_ _)); exact BK437.out)) : gb437 ≠ gb446))
                        have n11_ := Aside0.mk ((by rw [hg]; exact Nat.ne_of_gt (blk_lt (g := gb437) (o := .cells #[.slice Ao35 x438000_2.length co35] 24 (0, 0)) (by (with_reducible repeat (first | refine blk_drewN ?_ _ | refine blk_drew ?_ | refine blk_alloc ?_ _)); exact BK437.out)) : gb446 ≠ gb437))
                        clear HO_436000
                        clear HO_438000
                        clear BK435
                        clear BK437
                        clear HB
                        have HO_436000 := n0_
                        have HO_438000 := n1_
                        have BK435 := n2_
                        have BK437 := n3_
                        have HB := n4_
                        have BK446 := n5_
                        have GW446 := n6_
                        have GE446 := n7_
                        have NB435_446 := n8_
                        have NB446_435 := n9_
                        have NB437_446 := n10_
                        have NB446_437 := n11_
                        clear n0_ n1_ n2_ n3_ n4_ n5_ n6_ n7_ n8_ n9_ n10_ n11_
                        clear hb hbox hg
                        refine hK.out _ _ ⟨(blk_cell BK437.out 0).trans rfl, ((HB.out.cell (World.block_lt_of_cell? w _ hw441_0)).trans hw441_0), ((HB.out.cell (World.block_lt_of_cell? w _ hw441_1)).trans hw441_1), ((HB.out.cell (World.block_lt_of_cell? w _ hw441_2)).trans hw441_2), ((HB.out.cell (World.block_lt_of_cell? w _ hw441_3)).trans hw441_3), ((HB.out.cell (World.block_lt_of_cell? w _ hw441_4)).trans hw441_4), ((HB.out.cell (World.block_lt_of_cell? w _ hw441_5)).trans hw441_5)⟩ (fun hHeld => ?_)
                        clear hK K
                        refine norm_ (a' := ?_) ?_ ?_
                        rotate_left
                        · show Act.put _ (some 14) _ = _
                          simp only [Act.put, List.setIfInBounds_toArray, List.set_cons_zero, List.set_cons_succ, i64_w, i32_w]
                          rfl
                        refine one_ (i := 5) (N := some 47) #[true, true, true, true, true, true, false, false, false, true, false, false] rfl rfl (one_of HT_.out (by kernel_rfl)) (by decide) (fun K hK => ?_)
                        refine goes_ Try.func19 (by kernel_rfl) rfl #[.agg #[.slice Ao35 x438000_2.length co35], .agg #[.int .i64 ((rd_T26 l1 x13_2).f0), .string ((rd_T26 l1 x13_2).f1), .string ((rd_T26 l1 x13_2).f2), .int .i64 ((rd_T26 l1 x13_2).f3), .int .i64 ((rd_T26 l1 x13_2).f4), .int .i64 ((rd_T26 l1 x13_2).f5)]] (by rfl) rfl rfl (by (try simp only [List.map_toArray, List.map_cons, List.map_nil]); first | done | rfl | (simp only [List.length_drop, List.length_take]; rfl)) ?_
                        with_reducible refine (ledger_Post.calls _ _ x438000_2 ((rd_T26 l1 x13_2).f0) ((rd_T26 l1 x13_2).f1) ((rd_T26 l1 x13_2).f2) ((rd_T26 l1 x13_2).f3) ((rd_T26 l1 x13_2).f4) ((rd_T26 l1 x13_2).f5) t442 t445 _ ?side1 ?side2 A21.out).mono ?_
                        (case side1 => repeat (first | exact (Kd.V_reads' HO_438000.out).2.2 | (with_reducible refine Kd.C_alloc ?_ _) | (with_reducible refine Kd.C_drewN ?_ _) | (with_reducible refine Kd.C_drew ?_)))
                        (case side2 => exact (Kd.V_reads' HO_438000.out).2.1)
                        rintro e w38 ⟨v443, rfl, ho0, hb⟩
                        refine ⟨_, rfl, ?_⟩
                        have n0_ := Aside0.mk (Kd.V_elder' (by (with_reducible repeat (first | apply Kd.V_alloc | apply Kd.V_drewN | apply Kd.V_drew)); exact HO_436000.out) (Kd.R_base ho0) hb)
                        have n1_ := Aside0.mk (Kd.V_elder' (by (with_reducible repeat (first | apply Kd.V_alloc | apply Kd.V_drewN | apply Kd.V_drew)); exact HO_438000.out) (Kd.R_base ho0) hb)
                        have n2_ := Aside0.mk (Kd.R_lower (Kd.R_newM (M := fun k_ => (w.heap.size ≤ k_)) ho0 (below_size (by repeat (first | (with_reducible first | exact HB.out | apply below_alloc | apply pw_below_drewN | apply below_drew1 | refine below_set ?_ GE435.out | refine below_set ?_ GE437.out | refine below_set ?_ GE446.out) | exact HB.out))) (fun k_ h_ => h_)) (below_size (by repeat (first | (with_reducible first | exact HB.out | apply below_alloc | apply pw_below_drewN | apply below_drew1 | refine below_set ?_ GE435.out | refine below_set ?_ GE437.out | refine below_set ?_ GE446.out) | exact HB.out))))
                        have n3_ := Aside0.mk (blk_below (g := gb435) (o := .cells #[.slice A0_0 l0_0.length c0_0] 24 (0, 0)) (by (with_reducible repeat (first | refine blk_drewN ?_ _ | refine blk_drew ?_ | refine blk_alloc ?_ _)); exact BK435.out) hb)
                        have n4_ := Aside0.mk (blk_below (g := gb437) (o := .cells #[.slice Ao35 x438000_2.length co35] 24 (0, 0)) (by (with_reducible repeat (first | refine blk_drewN ?_ _ | refine blk_drew ?_ | refine blk_alloc ?_ _)); exact BK437.out) hb)
                        have n5_ := Aside0.mk (blk_below (g := gb446) (o := .cells #[.slice none 0 0] 24 (0, 0)) (by (with_reducible repeat (first | refine blk_drewN ?_ _ | refine blk_drew ?_ | refine blk_alloc ?_ _)); exact BK446.out) hb)
                        have n6_ := Aside0.mk (below_step (by repeat (first | (with_reducible first | exact HB.out | apply below_alloc | apply pw_below_drewN | apply below_drew1 | refine below_set ?_ GE435.out | refine below_set ?_ GE437.out | refine below_set ?_ GE446.out) | exact HB.out)) hb)
                        clear HO_436000
                        clear HO_438000
                        clear BK435
                        clear BK437
                        clear BK446
                        clear HB
                        have HO_436000 := n0_
                        have HO_438000 := n1_
                        have HO444 := n2_
                        have BK435 := n3_
                        have BK437 := n4_
                        have BK446 := n5_
                        have HB := n6_
                        clear n0_ n1_ n2_ n3_ n4_ n5_ n6_
                        (try clear hb)
                        (try clear hb2)
                        (try clear hk)
                        (try clear hi)
                        (try clear ho0)
                        refine hK.out _ _ ⟨(blk_cell BK437.out 0).trans rfl, ((HB.out.cell (World.block_lt_of_cell? w _ hw441_0)).trans hw441_0), ((HB.out.cell (World.block_lt_of_cell? w _ hw441_1)).trans hw441_1), ((HB.out.cell (World.block_lt_of_cell? w _ hw441_2)).trans hw441_2), ((HB.out.cell (World.block_lt_of_cell? w _ hw441_3)).trans hw441_3), ((HB.out.cell (World.block_lt_of_cell? w _ hw441_4)).trans hw441_4), ((HB.out.cell (World.block_lt_of_cell? w _ hw441_5)).trans hw441_5)⟩ (fun hHeld => ?_)
                        clear hK K
                        refine norm_ (a' := ?_) ?_ ?_
                        rotate_left
                        · show Act.put _ (some 47) _ = _
                          simp only [Act.put, List.setIfInBounds_toArray, List.set_cons_zero, List.set_cons_succ, i64_w, i32_w]
                          rfl
                        refine pure_ (i := 6) (N := some 41) (v := ?_) (a' := ?_) #[true, true, true, true, true, true, true, false, false, true, false, false] rfl rfl (any_of HT_.out (by kernel_rfl)) (fun _ _ _ h => h) (Or.inl ⟨by rfl, ?_⟩) ?_ ?_
                        rotate_left
                        · intro w'
                          go_simp
                          with_reducible rfl
                        rotate_left
                        · simp only [Act.put, List.setIfInBounds_toArray, List.set_cons_zero, List.set_cons_succ, i64_w, i32_w]
                          rfl
                        refine pure_ (i := 7) (N := some 48) (v := ?_) (a' := ?_) #[true, true, true, true, true, true, true, true, false, true, false, false] rfl rfl (any_of HT_.out (by kernel_rfl)) (fun _ _ _ h => h) (Or.inl ⟨by rfl, ?_⟩) ?_ ?_
                        rotate_left
                        · intro w'
                          go_simp
                          with_reducible rfl
                        rotate_left
                        · simp only [Act.put, List.setIfInBounds_toArray, List.set_cons_zero, List.set_cons_succ, i64_w, i32_w]
                          rfl
                        refine pure_ (i := 8) (N := some 49) (v := ?_) (a' := ?_) #[true, true, true, true, true, true, true, true, true, true, false, false] rfl rfl (any_of HT_.out (by kernel_rfl)) (fun _ _ _ h => h) (Or.inl ⟨by rfl, ?_⟩) ?_ ?_
                        rotate_left
                        · intro w'
                          go_simp
                          with_reducible rfl
                        rotate_left
                        · simp only [Act.put, List.setIfInBounds_toArray, List.set_cons_zero, List.set_cons_succ, i64_w, i32_w]
                          rfl
                        exact norm_ (by simp only [putAll, Act.put, List.setIfInBounds_toArray, List.set_cons_zero, List.set_cons_succ]) (hCont (v443, gb446) _ ⟨hHeld, (by (with_reducible repeat (first | apply Kd.R_alloc | apply Kd.R_drewN | apply Kd.R_drew)); exact Kd.R_mono HO444.out (fun _ hk => hk.1)), (by (with_reducible repeat (first | apply Kd.V_alloc | apply Kd.V_drewN | apply Kd.V_drew)); exact Kd.V_mono HO_436000.out (fun _ hk => ⟨hk.1.1.1, ⟨hk.2, ⟨hk.1.1.2.1, ⟨hk.1.1.2.2, hk.1.2⟩⟩⟩⟩)), (by (with_reducible repeat (first | apply Kd.V_alloc | apply Kd.V_drewN | apply Kd.V_drew)); exact Kd.V_mono HO_438000.out (fun _ hk => ⟨hk.1.1.1, ⟨hk.2, ⟨hk.1.1.2.1, ⟨hk.1.1.2.2, hk.1.2⟩⟩⟩⟩)), (by (with_reducible repeat (first | refine blk_drewN ?_ _ | refine blk_drew ?_ | refine blk_alloc ?_ _)); exact BK435.out), (by (with_reducible repeat (first | refine blk_drewN ?_ _ | refine blk_drew ?_ | refine blk_alloc ?_ _)); exact BK437.out), (by (with_reducible repeat (first | refine blk_drewN ?_ _ | refine blk_drew ?_ | refine blk_alloc ?_ _)); exact BK446.out), GW446.out, GE446.out, NB435_446.out, NB446_435.out, NB437_446.out, NB446_437.out, (by repeat (first | (with_reducible first | exact HB.out | apply below_alloc | apply pw_below_drewN | apply below_drew1 | refine below_set ?_ GE435.out | refine below_set ?_ GE437.out | refine below_set ?_ GE446.out) | exact HB.out))⟩)
                    rintro ⟨v443, gb446⟩ w39 ⟨hS_, h0_, h1_, h2_, h3_, h4_, h5_, h6_, h7_, h8_, h9_, h10_, h11_, h12_⟩
                    have n0_ : Aside0 (Kd.R k26 26 w39 w.heap.size (fun k_ => (w.heap.size ≤ k_)) v443 t442) := ⟨h0_⟩
                    have n1_ : Aside0 (Kd.V k26 26 w39 w.heap.size (fun k_ => (P0_0_ k_ ∨ w.heap.size ≤ k_) ∧ some k_ ≠ (v443 : Value).ownBlock ∧ k_ ≠ gb435 ∧ k_ ≠ gb437 ∧ k_ ≠ gb446) (.slice A0_0 l0_0.length c0_0) l0_0) := ⟨h1_⟩
                    have n2_ : Aside0 (Kd.V k26 26 w39 w.heap.size (fun k_ => (P0_0_ k_ ∨ w.heap.size ≤ k_) ∧ some k_ ≠ (v443 : Value).ownBlock ∧ k_ ≠ gb435 ∧ k_ ≠ gb437 ∧ k_ ≠ gb446) (.slice Ao35 x438000_2.length co35) x438000_2) := ⟨h2_⟩
                    have n3_ : Aside0 (w39.heap[gb435]? = some (.cells #[.slice A0_0 l0_0.length c0_0] 24 (0, 0))) := ⟨h3_⟩
                    have n4_ : Aside0 (w39.heap[gb437]? = some (.cells #[.slice Ao35 x438000_2.length co35] 24 (0, 0))) := ⟨h4_⟩
                    have n5_ : Aside0 (w39.heap[gb446]? = some (.cells #[.slice none 0 0] 24 (0, 0))) := ⟨h5_⟩
                    have n6_ : Aside0 (w.heap.size ≤ gb446) := ⟨h6_⟩
                    have n7_ : Aside0 (w.heap.size ≤ gb446) := ⟨h7_⟩
                    have n8_ : Aside0 (gb435 ≠ gb446) := ⟨h8_⟩
                    have n9_ : Aside0 (gb446 ≠ gb435) := ⟨h9_⟩
                    have n10_ : Aside0 (gb437 ≠ gb446) := ⟨h10_⟩
                    have n11_ : Aside0 (gb446 ≠ gb437) := ⟨h11_⟩
                    have n12_ : Aside0 (Below w.heap.size w w39) := ⟨h12_⟩
                    clear HO_436000
                    clear HO_438000
                    clear BK435
                    clear BK437
                    clear HB
                    clear h0_ h1_ h2_ h3_ h4_ h5_ h6_ h7_ h8_ h9_ h10_ h11_ h12_
                    have HO444 := n0_
                    have HO_436000 := n1_
                    have HO_438000 := n2_
                    have BK435 := n3_
                    have BK437 := n4_
                    have BK446 := n5_
                    have GW446 := n6_
                    have GE446 := n7_
                    have NB435_446 := n8_
                    have NB446_435 := n9_
                    have NB437_446 := n10_
                    have NB446_437 := n11_
                    have HB := n12_
                    clear n0_ n1_ n2_ n3_ n4_ n5_ n6_ n7_ n8_ n9_ n10_ n11_ n12_
                    have hHeld : w39.cell? ⟨gb437, 0, none⟩ = some (.slice Ao35 x438000_2.length co35) ∧ w39.cell? (ad440.add ((x13_2).toNat * 6)) = some (.int .i64 ((rd_T26 l1 x13_2).f0)) ∧ w39.cell? ⟨(ad440.add ((x13_2).toNat * 6)).block, (ad440.add ((x13_2).toNat * 6)).off + 1, none⟩ = some (.string ((rd_T26 l1 x13_2).f1)) ∧ w39.cell? ⟨(ad440.add ((x13_2).toNat * 6)).block, (ad440.add ((x13_2).toNat * 6)).off + 2, none⟩ = some (.string ((rd_T26 l1 x13_2).f2)) ∧ w39.cell? ⟨(ad440.add ((x13_2).toNat * 6)).block, (ad440.add ((x13_2).toNat * 6)).off + 3, none⟩ = some (.int .i64 ((rd_T26 l1 x13_2).f3)) ∧ w39.cell? ⟨(ad440.add ((x13_2).toNat * 6)).block, (ad440.add ((x13_2).toNat * 6)).off + 4, none⟩ = some (.int .i64 ((rd_T26 l1 x13_2).f4)) ∧ w39.cell? ⟨(ad440.add ((x13_2).toNat * 6)).block, (ad440.add ((x13_2).toNat * 6)).off + 5, none⟩ = some (.int .i64 ((rd_T26 l1 x13_2).f5)) := hS_
                    obtain ⟨Ao40, co40, eo40⟩ := Kd.R_slice HO444.out
                    (first | subst eo40 | (injection eo40 with f1_ f2_ f3_; have f4_ := f1_.symm; have f5_ := f3_.symm; clear f1_ f2_ f3_; subst f4_; subst f5_))
                    refine norm_ (a' := ?_) ?_ ?_
                    rotate_left
                    · simp only [putAll, Act.put, List.setIfInBounds_toArray, List.set_cons_zero, List.set_cons_succ]
                      rfl
                    refine one_ (i := 10) (N := none) #[true, true, true, true, true, true, true, true, true, true, true, false] rfl rfl (one_of HT_.out (by kernel_rfl)) (by decide) (fun K hK => ?_)
                    have hs41 : w39.cell? ⟨gb446, 0, none⟩ = some (.slice none 0 0) := (blk_cell BK446.out 0).trans rfl
                    have hfs41 := blk_frozen BK446.out 0
                    have hns41_0 := NB435_446.out
                    have hns41_1 := NB437_446.out
                    have hms41_0 := NB446_435.out
                    have hms41_1 := NB446_437.out
                    refine skip_ (w1 := ?_) (by rfl) rfl ?_ ?_
                    rotate_left
                    · go_simp
                      rfl
                    refine hK.out _ _ ⟨((cell_far (p := ⟨gb446, _, none⟩) NB437_446.out _).trans (hHeld.1)), ((cell_far (p := ⟨gb446, _, none⟩) (by first | exact Nat.ne_of_lt (Nat.lt_of_lt_of_le (by have := World.block_lt_of_cell? _ _ hw441_0; first | rwa [add_block] at this | exact this) GW446.out) | (rw [add_block]; exact Nat.ne_of_lt (Nat.lt_of_lt_of_le (by have := World.block_lt_of_cell? _ _ hw441_0; first | rwa [add_block] at this | exact this) GW446.out)) | (show (Addr.add _ _).block ≠ _; rw [add_block]; exact Nat.ne_of_lt (Nat.lt_of_lt_of_le (by have := World.block_lt_of_cell? _ _ hw441_0; first | rwa [add_block] at this | exact this) GW446.out)) | (dsimp only; exact Nat.ne_of_lt (Nat.lt_of_lt_of_le (by have := World.block_lt_of_cell? _ _ hw441_0; first | rwa [add_block] at this | exact this) GW446.out))) _).trans (hHeld.2.1)), ((cell_far (p := ⟨gb446, _, none⟩) (by first | exact Nat.ne_of_lt (Nat.lt_of_lt_of_le (by have := World.block_lt_of_cell? _ _ hw441_1; first | rwa [add_block] at this | exact this) GW446.out) | (rw [add_block]; exact Nat.ne_of_lt (Nat.lt_of_lt_of_le (by have := World.block_lt_of_cell? _ _ hw441_1; first | rwa [add_block] at this | exact this) GW446.out)) | (show (Addr.add _ _).block ≠ _; rw [add_block]; exact Nat.ne_of_lt (Nat.lt_of_lt_of_le (by have := World.block_lt_of_cell? _ _ hw441_1; first | rwa [add_block] at this | exact this) GW446.out)) | (dsimp only; exact Nat.ne_of_lt (Nat.lt_of_lt_of_le (by have := World.block_lt_of_cell? _ _ hw441_1; first | rwa [add_block] at this | exact this) GW446.out))) _).trans (hHeld.2.2.1)), ((cell_far (p := ⟨gb446, _, none⟩) (by first | exact Nat.ne_of_lt (Nat.lt_of_lt_of_le (by have := World.block_lt_of_cell? _ _ hw441_2; first | rwa [add_block] at this | exact this) GW446.out) | (rw [add_block]; exact Nat.ne_of_lt (Nat.lt_of_lt_of_le (by have := World.block_lt_of_cell? _ _ hw441_2; first | rwa [add_block] at this | exact this) GW446.out)) | (show (Addr.add _ _).block ≠ _; rw [add_block]; exact Nat.ne_of_lt (Nat.lt_of_lt_of_le (by have := World.block_lt_of_cell? _ _ hw441_2; first | rwa [add_block] at this | exact this) GW446.out)) | (dsimp only; exact Nat.ne_of_lt (Nat.lt_of_lt_of_le (by have := World.block_lt_of_cell? _ _ hw441_2; first | rwa [add_block] at this | exact this) GW446.out))) _).trans (hHeld.2.2.2.1)), ((cell_far (p := ⟨gb446, _, none⟩) (by first | exact Nat.ne_of_lt (Nat.lt_of_lt_of_le (by have := World.block_lt_of_cell? _ _ hw441_3; first | rwa [add_block] at this | exact this) GW446.out) | (rw [add_block]; exact Nat.ne_of_lt (Nat.lt_of_lt_of_le (by have := World.block_lt_of_cell? _ _ hw441_3; first | rwa [add_block] at this | exact this) GW446.out)) | (show (Addr.add _ _).block ≠ _; rw [add_block]; exact Nat.ne_of_lt (Nat.lt_of_lt_of_le (by have := World.block_lt_of_cell? _ _ hw441_3; first | rwa [add_block] at this | exact this) GW446.out)) | (dsimp only; exact Nat.ne_of_lt (Nat.lt_of_lt_of_le (by have := World.block_lt_of_cell? _ _ hw441_3; first | rwa [add_block] at this | exact this) GW446.out))) _).trans (hHeld.2.2.2.2.1)), ((cell_far (p := ⟨gb446, _, none⟩) (by first | exact Nat.ne_of_lt (Nat.lt_of_lt_of_le (by have := World.block_lt_of_cell? _ _ hw441_4; first | rwa [add_block] at this | exact this) GW446.out) | (rw [add_block]; exact Nat.ne_of_lt (Nat.lt_of_lt_of_le (by have := World.block_lt_of_cell? _ _ hw441_4; first | rwa [add_block] at this | exact this) GW446.out)) | (show (Addr.add _ _).block ≠ _; rw [add_block]; exact Nat.ne_of_lt (Nat.lt_of_lt_of_le (by have := World.block_lt_of_cell? _ _ hw441_4; first | rwa [add_block] at this | exact this) GW446.out)) | (dsimp only; exact Nat.ne_of_lt (Nat.lt_of_lt_of_le (by have := World.block_lt_of_cell? _ _ hw441_4; first | rwa [add_block] at this | exact this) GW446.out))) _).trans (hHeld.2.2.2.2.2.1)), ((cell_far (p := ⟨gb446, _, none⟩) (by first | exact Nat.ne_of_lt (Nat.lt_of_lt_of_le (by have := World.block_lt_of_cell? _ _ hw441_5; first | rwa [add_block] at this | exact this) GW446.out) | (rw [add_block]; exact Nat.ne_of_lt (Nat.lt_of_lt_of_le (by have := World.block_lt_of_cell? _ _ hw441_5; first | rwa [add_block] at this | exact this) GW446.out)) | (show (Addr.add _ _).block ≠ _; rw [add_block]; exact Nat.ne_of_lt (Nat.lt_of_lt_of_le (by have := World.block_lt_of_cell? _ _ hw441_5; first | rwa [add_block] at this | exact this) GW446.out)) | (dsimp only; exact Nat.ne_of_lt (Nat.lt_of_lt_of_le (by have := World.block_lt_of_cell? _ _ hw441_5; first | rwa [add_block] at this | exact this) GW446.out))) _).trans (hHeld.2.2.2.2.2.2))⟩ (fun hHeld => ?_)
                    clear hK K
                    refine pure_ (i := 11) (N := some 15) (v := ?_) (a' := ?_) #[true, true, true, true, true, true, true, true, true, true, true, true] rfl rfl (any_of HT_.out (by kernel_rfl)) (fun _ _ _ h => h) (Or.inl ⟨by rfl, ?_⟩) ?_ ?_
                    rotate_left
                    · intro w'
                      go_simp
                      with_reducible rfl
                    rotate_left
                    · simp only [Act.put, List.setIfInBounds_toArray, List.set_cons_zero, List.set_cons_succ, i64_w, i32_w]
                      rfl
                    refine done_ (done_of HT_.out (by kernel_rfl)) ?_
                    try go_wp2
                    go_roundg k2
                    case measure => have := HJ6.out; have := HK2.out; omega
                    case rel => exact ⟨(wrap64 (x13_2 + 1)), (x438000_2), (.slice Ao35 x438000_2.length co35), (by first | rfl | (simp; done) | (simp [*]; done)), H', ⟨by have := HJ6.out; have := HK2.out; omega⟩, ⟨by (with_reducible repeat (first | apply Kd.V_alloc | apply Kd.V_drewN | apply Kd.V_drew)); exact Kd.V_mono (Kd.V_far (p := ⟨gb446, 0, none⟩) (Kd.V_mono HO_436000.out (fun k_ hk => (⟨hk, hk.2.2.2.2⟩ : _ ∧ k_ ≠ gb446))) (fun _ hk => hk.2) (.slice Ao40 t442.length co40)) (fun _ hk => ⟨hk.1.1, ⟨hk.1.2.2.1, hk.1.2.2.2.1⟩⟩)⟩, ⟨by (with_reducible repeat (first | apply Kd.V_alloc | apply Kd.V_drewN | apply Kd.V_drew)); exact Kd.V_mono (Kd.V_far (p := ⟨gb446, 0, none⟩) (Kd.V_mono HO_438000.out (fun k_ hk => (⟨hk, hk.2.2.2.2⟩ : _ ∧ k_ ≠ gb446))) (fun _ hk => hk.2) (.slice Ao40 t442.length co40)) (fun _ hk => ⟨hk.1.1, ⟨hk.1.2.2.1, hk.1.2.2.2.1⟩⟩)⟩, ⟨by (with_reducible repeat (first | refine blk_drewN ?_ _ | refine blk_drew ?_ | refine blk_alloc ?_ _)); refine blk_far ?_ NB435_446.out _; (with_reducible repeat (first | refine blk_drewN ?_ _ | refine blk_drew ?_ | refine blk_alloc ?_ _)); exact BK435.out⟩, ⟨by (with_reducible repeat (first | refine blk_drewN ?_ _ | refine blk_drew ?_ | refine blk_alloc ?_ _)); refine blk_far ?_ NB437_446.out _; (with_reducible repeat (first | refine blk_drewN ?_ _ | refine blk_drew ?_ | refine blk_alloc ?_ _)); exact BK437.out⟩, ⟨by repeat (first | (with_reducible first | exact HB.out | apply below_alloc | apply pw_below_drewN | apply below_drew1 | refine below_set ?_ GE435.out | refine below_set ?_ GE437.out | refine below_set ?_ GE446.out) | exact HB.out)⟩⟩
              · rw [if_neg c19] at H
                exact absurd H (by simp)
            · rw [if_neg c18] at H
              have c18b0 : decide (x13_2 < (l1.length : Int)) = false := decide_eq_false c18
              clear c18
              by_cases c42 : t436 = true
              · subst c42
                have H1 : ((ledger_Balance.f l0_0 a2 a3 a4).bind fun t438 => ((ledger_Balance.f x438000_2 a2 a3 a4).bind fun t439 => (some (t438 == t439)))) = some r := by rw [if_pos rfl] at H; exact H
                clear H
                have H := H1
                clear H1
                replace H := Option.bind_eq_some_iff.mp H
                obtain ⟨t438, A430, H⟩ := H
                replace H : ((ledger_Balance.f x438000_2 a2 a3 a4).bind fun t439 => (some (t438 == t439))) = some r := H
                have A43 := Aside0.mk A430
                clear A430
                replace H := Option.bind_eq_some_iff.mp H
                obtain ⟨t439, A440, H⟩ := H
                replace H : (some (t438 == t439)) = some r := H
                have A44 := Aside0.mk A440
                clear A440
                obtain rfl := Option.some.inj H
                try go_wp2
                have n0_ := Aside0.mk (Kd.V_drew HO_436000.out)
                have n1_ := Aside0.mk (Kd.V_drew HO_438000.out)
                have n2_ := Aside0.mk (blk_drew BK435.out)
                have n3_ := Aside0.mk (blk_drew BK437.out)
                have n4_ := Aside0.mk (below_drew1 HB.out)
                clear HO_436000
                clear HO_438000
                clear BK435
                clear BK437
                clear HB
                have HO_436000 := n0_
                have HO_438000 := n1_
                have BK435 := n2_
                have BK437 := n3_
                have HB := n4_
                clear n0_ n1_ n2_ n3_ n4_
                refine start_ (n := 15) (S := fun w' => w'.cell? ⟨gb435, 0, none⟩ = some (.slice A0_0 l0_0.length c0_0) ∧ w'.cell? ⟨gb437, 0, none⟩ = some (u438000)) (ds := []) #[false, false, false, false, false, false, false, false, false, false, false, false, false, false, false] (by kernel_rfl) rfl rfl ⟨(blk_cell BK435.out 0).trans rfl, (blk_cell BK437.out 0).trans rfl⟩ (fun hHeld => ?_); refine with_tabW wageofficelaw39_LedgerPast.tab12 wageofficelaw39_LedgerPast.bits12 (fun HT_ HW_ => ?_)
                generalize wr.drew = w45 at HO_436000 HO_438000 BK435 BK437 HB hHeld ⊢
                refine pure_ (i := 0) (N := some 53) (v := ?_) (a' := ?_) #[true, false, false, false, false, false, false, false, false, false, false, false, false, false, false] rfl rfl (any_of HT_.out (by kernel_rfl)) (fun _ _ _ h => h) (Or.inl ⟨by rfl, ?_⟩) ?_ ?_
                rotate_left
                · intro w'
                  go_simp
                  with_reducible rfl
                rotate_left
                · simp only [Act.put, List.setIfInBounds_toArray, List.set_cons_zero, List.set_cons_succ, i64_w, i32_w]
                  rfl
                refine pure_ (i := 1) (N := some 54) (v := ?_) (a' := ?_) #[true, true, false, false, false, false, false, false, false, false, false, false, false, false, false] rfl rfl (any_of HT_.out (by kernel_rfl)) (fun _ _ _ h => h) (Or.inl ⟨by rfl, ?_⟩) ?_ ?_
                rotate_left
                · intro w'
                  go_simp
                  with_reducible rfl
                rotate_left
                · simp only [Act.put, List.setIfInBounds_toArray, List.set_cons_zero, List.set_cons_succ, i64_w, i32_w]
                  rfl
                refine pure_ (i := 3) (N := some 56) (v := ?_) (a' := ?_) #[true, true, false, true, false, false, false, false, false, false, false, false, false, false, false] rfl rfl (any_of HT_.out (by kernel_rfl)) (fun _ _ _ h => h) (Or.inl ⟨by rfl, ?_⟩) ?_ ?_
                rotate_left
                · intro w'
                  go_simp
                  with_reducible rfl
                rotate_left
                · simp only [Act.put, List.setIfInBounds_toArray, List.set_cons_zero, List.set_cons_succ, i64_w, i32_w]
                  rfl
                refine pure_ (i := 4) (N := some 57) (v := ?_) (a' := ?_) #[true, true, false, true, true, false, false, false, false, false, false, false, false, false, false] rfl rfl (any_of HT_.out (by kernel_rfl)) (fun _ _ _ h => h) (Or.inl ⟨by rfl, ?_⟩) ?_ ?_
                rotate_left
                · intro w'
                  go_simp
                  with_reducible rfl
                rotate_left
                · simp only [Act.put, List.setIfInBounds_toArray, List.set_cons_zero, List.set_cons_succ, i64_w, i32_w]
                  rfl
                refine pure_ (i := 5) (N := some 58) (v := ?_) (a' := ?_) #[true, true, false, true, true, true, false, false, false, false, false, false, false, false, false] rfl rfl (any_of HT_.out (by kernel_rfl)) (fun _ _ _ h => h) (Or.inl ⟨by rfl, ?_⟩) ?_ ?_
                rotate_left
                · intro w'
                  go_simp
                  with_reducible rfl
                rotate_left
                · simp only [Act.put, List.setIfInBounds_toArray, List.set_cons_zero, List.set_cons_succ, i64_w, i32_w]
                  rfl
                refine pure_ (i := 8) (N := some 61) (v := ?_) (a' := ?_) #[true, true, false, true, true, true, false, false, true, false, false, false, false, false, false] rfl rfl (any_of HT_.out (by kernel_rfl)) (fun _ _ _ h => h) (Or.inl ⟨by rfl, ?_⟩) ?_ ?_
                rotate_left
                · intro w'
                  go_simp
                  with_reducible rfl
                rotate_left
                · simp only [Act.put, List.setIfInBounds_toArray, List.set_cons_zero, List.set_cons_succ, i64_w, i32_w]
                  rfl
                refine pure_ (i := 9) (N := some 62) (v := ?_) (a' := ?_) #[true, true, false, true, true, true, false, false, true, true, false, false, false, false, false] rfl rfl (any_of HT_.out (by kernel_rfl)) (fun _ _ _ h => h) (Or.inl ⟨by rfl, ?_⟩) ?_ ?_
                rotate_left
                · intro w'
                  go_simp
                  with_reducible rfl
                rotate_left
                · simp only [Act.put, List.setIfInBounds_toArray, List.set_cons_zero, List.set_cons_succ, i64_w, i32_w]
                  rfl
                refine pure_ (i := 10) (N := some 63) (v := ?_) (a' := ?_) #[true, true, false, true, true, true, false, false, true, true, true, false, false, false, false] rfl rfl (any_of HT_.out (by kernel_rfl)) (fun _ _ _ h => h) (Or.inl ⟨by rfl, ?_⟩) ?_ ?_
                rotate_left
                · intro w'
                  go_simp
                  with_reducible rfl
                rotate_left
                · simp only [Act.put, List.setIfInBounds_toArray, List.set_cons_zero, List.set_cons_succ, i64_w, i32_w]
                  rfl
                refine take_ (i := 2) (N := some 55) (v := ?_) (a' := ?_) #[true, true, true, true, true, true, false, false, true, true, true, false, false, false, false] rfl rfl (take_ofW HT_.out HW_.out (by kernel_rfl)) (fun _ _ _ h => h) (Or.inl ⟨by rfl, ?_⟩) hHeld ?_ ?_
                rotate_left
                · rintro w' ⟨s0, s1⟩
                  go_simp
                  with_reducible rfl
                rotate_left
                · simp only [Act.put, List.setIfInBounds_toArray, List.set_cons_zero, List.set_cons_succ, i64_w, i32_w]
                  rfl
                refine take_ (i := 7) (N := some 60) (v := ?_) (a' := ?_) #[true, true, true, true, true, true, false, true, true, true, true, false, false, false, false] rfl rfl (take_ofW HT_.out HW_.out (by kernel_rfl)) (fun _ _ _ h => h) (Or.inl ⟨by rfl, ?_⟩) hHeld ?_ ?_
                rotate_left
                · rintro w' ⟨s0, s1⟩
                  go_simp
                  with_reducible rfl
                rotate_left
                · simp only [Act.put, List.setIfInBounds_toArray, List.set_cons_zero, List.set_cons_succ, i64_w, i32_w]
                  rfl
                refine one_ (i := 6) (N := some 59) #[true, true, true, true, true, true, true, true, true, true, true, false, false, false, false] rfl rfl (one_of HT_.out (by kernel_rfl)) (by decide) (fun K hK => ?_)
                refine goes_ Try.func24 (by kernel_rfl) rfl #[.agg #[.slice A0_0 l0_0.length c0_0], .string a2, .int .i64 a3, .int .i64 a4] (by rfl) rfl rfl (by (try simp only [List.map_toArray, List.map_cons, List.map_nil]); first | done | rfl | (simp only [List.length_drop, List.length_take]; rfl)) ?_
                with_reducible refine (ledger_Balance.calls _ _ l0_0 a2 a3 a4 t438 _ ?side1 ?side2 A43.out).mono ?_
                (case side1 => repeat (first | exact (Kd.V_reads' HO_436000.out).2.2 | (with_reducible refine Kd.C_alloc ?_ _) | (with_reducible refine Kd.C_drewN ?_ _) | (with_reducible refine Kd.C_drew ?_)))
                (case side2 => exact (Kd.V_reads' HO_436000.out).2.1)
                rintro e w46 ⟨rfl, hb⟩
                refine ⟨_, rfl, ?_⟩
                have n0_ := Aside0.mk (Kd.V_below (by (with_reducible repeat (first | apply Kd.V_alloc | apply Kd.V_drewN | apply Kd.V_drew)); exact HO_436000.out) hb)
                have n1_ := Aside0.mk (Kd.V_below (by (with_reducible repeat (first | apply Kd.V_alloc | apply Kd.V_drewN | apply Kd.V_drew)); exact HO_438000.out) hb)
                have n2_ := Aside0.mk (blk_below (g := gb435) (o := .cells #[.slice A0_0 l0_0.length c0_0] 24 (0, 0)) (by (with_reducible repeat (first | refine blk_drewN ?_ _ | refine blk_drew ?_ | refine blk_alloc ?_ _)); exact BK435.out) hb)
                have n3_ := Aside0.mk (blk_below (g := gb437) (o := .cells #[u438000] 24 (0, 0)) (by (with_reducible repeat (first | refine blk_drewN ?_ _ | refine blk_drew ?_ | refine blk_alloc ?_ _)); exact BK437.out) hb)
                have n4_ := Aside0.mk (below_step (by repeat (first | (with_reducible first | exact HB.out | apply below_alloc | apply pw_below_drewN | apply below_drew1 | refine below_set ?_ GE435.out | refine below_set ?_ GE437.out) | exact HB.out)) hb)
                clear HO_436000
                clear HO_438000
                clear BK435
                clear BK437
                clear HB
                have HO_436000 := n0_
                have HO_438000 := n1_
                have BK435 := n2_
                have BK437 := n3_
                have HB := n4_
                clear n0_ n1_ n2_ n3_ n4_
                (try clear hb)
                (try clear hb2)
                (try clear hk)
                (try clear hi)
                obtain ⟨Ao47, co47, eo47⟩ := Kd.V_slice HO_438000.out
                (first | subst eo47 | (injection eo47 with f1_ f2_ f3_; have f4_ := f1_.symm; have f5_ := f3_.symm; clear f1_ f2_ f3_; subst f4_; subst f5_))
                refine hK.out _ _ ⟨(blk_cell BK435.out 0).trans rfl, (blk_cell BK437.out 0).trans rfl⟩ (fun hHeld => ?_)
                clear hK K
                refine norm_ (a' := ?_) ?_ ?_
                rotate_left
                · show Act.put _ (some 59) _ = _
                  simp only [Act.put, List.setIfInBounds_toArray, List.set_cons_zero, List.set_cons_succ, i64_w, i32_w]
                  rfl
                refine one_ (i := 11) (N := some 64) #[true, true, true, true, true, true, true, true, true, true, true, true, false, false, false] rfl rfl (one_of HT_.out (by kernel_rfl)) (by decide) (fun K hK => ?_)
                refine goes_ Try.func24 (by kernel_rfl) rfl #[.agg #[.slice Ao47 x438000_2.length co47], .string a2, .int .i64 a3, .int .i64 a4] (by rfl) rfl rfl (by (try simp only [List.map_toArray, List.map_cons, List.map_nil]); first | done | rfl | (simp only [List.length_drop, List.length_take]; rfl)) ?_
                with_reducible refine (ledger_Balance.calls _ _ x438000_2 a2 a3 a4 t439 _ ?side1 ?side2 A44.out).mono ?_
                (case side1 => repeat (first | exact (Kd.V_reads' HO_438000.out).2.2 | (with_reducible refine Kd.C_alloc ?_ _) | (with_reducible refine Kd.C_drewN ?_ _) | (with_reducible refine Kd.C_drew ?_)))
                (case side2 => exact (Kd.V_reads' HO_438000.out).2.1)
                rintro e w48 ⟨rfl, hb⟩
                refine ⟨_, rfl, ?_⟩
                have n0_ := Aside0.mk (Kd.V_below (by (with_reducible repeat (first | apply Kd.V_alloc | apply Kd.V_drewN | apply Kd.V_drew)); exact HO_436000.out) hb)
                have n1_ := Aside0.mk (Kd.V_below (by (with_reducible repeat (first | apply Kd.V_alloc | apply Kd.V_drewN | apply Kd.V_drew)); exact HO_438000.out) hb)
                have n2_ := Aside0.mk (blk_below (g := gb435) (o := .cells #[.slice A0_0 l0_0.length c0_0] 24 (0, 0)) (by (with_reducible repeat (first | refine blk_drewN ?_ _ | refine blk_drew ?_ | refine blk_alloc ?_ _)); exact BK435.out) hb)
                have n3_ := Aside0.mk (blk_below (g := gb437) (o := .cells #[.slice Ao47 x438000_2.length co47] 24 (0, 0)) (by (with_reducible repeat (first | refine blk_drewN ?_ _ | refine blk_drew ?_ | refine blk_alloc ?_ _)); exact BK437.out) hb)
                have n4_ := Aside0.mk (below_step (by repeat (first | (with_reducible first | exact HB.out | apply below_alloc | apply pw_below_drewN | apply below_drew1 | refine below_set ?_ GE435.out | refine below_set ?_ GE437.out) | exact HB.out)) hb)
                clear HO_436000
                clear HO_438000
                clear BK435
                clear BK437
                clear HB
                have HO_436000 := n0_
                have HO_438000 := n1_
                have BK435 := n2_
                have BK437 := n3_
                have HB := n4_
                clear n0_ n1_ n2_ n3_ n4_
                (try clear hb)
                (try clear hb2)
                (try clear hk)
                (try clear hi)
                refine hK.out _ _ ⟨(blk_cell BK435.out 0).trans rfl, (blk_cell BK437.out 0).trans rfl⟩ (fun hHeld => ?_)
                clear hK K
                refine norm_ (a' := ?_) ?_ ?_
                rotate_left
                · show Act.put _ (some 64) _ = _
                  simp only [Act.put, List.setIfInBounds_toArray, List.set_cons_zero, List.set_cons_succ, i64_w, i32_w]
                  rfl
                refine pure_ (i := 12) (N := some 65) (v := ?_) (a' := ?_) #[true, true, true, true, true, true, true, true, true, true, true, true, true, false, false] rfl rfl (any_of HT_.out (by kernel_rfl)) (fun _ _ _ h => h) (Or.inl ⟨by rfl, ?_⟩) ?_ ?_
                rotate_left
                · intro w'
                  go_simp
                  with_reducible rfl
                rotate_left
                · simp only [Act.put, List.setIfInBounds_toArray, List.set_cons_zero, List.set_cons_succ, i64_w, i32_w]
                  rfl
                refine pure_ (i := 13) (N := some 66) (v := ?_) (a' := ?_) #[true, true, true, true, true, true, true, true, true, true, true, true, true, true, false] rfl rfl (any_of HT_.out (by kernel_rfl)) (fun _ _ _ h => h) (Or.inl ⟨by rfl, ?_⟩) ?_ ?_
                rotate_left
                · intro w'
                  go_simp
                  with_reducible rfl
                rotate_left
                · simp only [Act.put, List.setIfInBounds_toArray, List.set_cons_zero, List.set_cons_succ, i64_w, i32_w]
                  rfl
                refine pure_ (i := 14) (N := some 10) (v := ?_) (a' := ?_) #[true, true, true, true, true, true, true, true, true, true, true, true, true, true, true] rfl rfl (any_of HT_.out (by kernel_rfl)) (fun _ _ _ h => h) (Or.inl ⟨by rfl, ?_⟩) ?_ ?_
                rotate_left
                · intro w'
                  go_simp
                  with_reducible rfl
                rotate_left
                · simp only [Act.put, List.setIfInBounds_toArray, List.set_cons_zero, List.set_cons_succ, i64_w, i32_w]
                  rfl
                refine done_ (done_of HT_.out (by kernel_rfl)) ?_
                try go_wp2
                go_ret
                exact ⟨by first | rfl | (simp [errW_none, errW_some] <;> rfl) | (simp [*, errW_none, errW_some] <;> rfl), by repeat (first | (with_reducible first | exact HB.out | apply below_alloc | apply pw_below_drewN | apply below_drew1 | refine below_set ?_ GE435.out | refine below_set ?_ GE437.out) | exact HB.out)⟩
              · replace c42 := Bool.eq_false_iff.mpr c42
                subst c42
                have H1 : (some false) = some r := by rw [if_neg (show ¬ (false = true) by decide)] at H; exact H
                clear H
                have H := H1
                clear H1
                obtain rfl := Option.some.inj H
                try go_wp2
                have n0_ := Aside0.mk (Kd.V_drew HO_436000.out)
                have n1_ := Aside0.mk (Kd.V_drew HO_438000.out)
                have n2_ := Aside0.mk (blk_drew BK435.out)
                have n3_ := Aside0.mk (blk_drew BK437.out)
                have n4_ := Aside0.mk (below_drew1 HB.out)
                clear HO_436000
                clear HO_438000
                clear BK435
                clear BK437
                clear HB
                have HO_436000 := n0_
                have HO_438000 := n1_
                have BK435 := n2_
                have BK437 := n3_
                have HB := n4_
                clear n0_ n1_ n2_ n3_ n4_
                refine start_ (n := 15) (S := fun w' => True) (ds := []) #[false, false, false, false, false, false, false, false, false, false, false, false, false, false, false] (by kernel_rfl) rfl rfl trivial (fun hHeld => ?_); refine with_tabW wageofficelaw39_LedgerPast.tab12 wageofficelaw39_LedgerPast.bits12 (fun HT_ HW_ => ?_)
                generalize wr.drew = w49 at HO_436000 HO_438000 BK435 BK437 HB hHeld ⊢
                refine pure_ (i := 0) (N := some 53) (v := ?_) (a' := ?_) #[true, false, false, false, false, false, false, false, false, false, false, false, false, false, false] rfl rfl (any_of HT_.out (by kernel_rfl)) (fun _ _ _ h => h) (Or.inl ⟨by rfl, ?_⟩) ?_ ?_
                rotate_left
                · intro w'
                  go_simp
                  with_reducible rfl
                rotate_left
                · simp only [Act.put, List.setIfInBounds_toArray, List.set_cons_zero, List.set_cons_succ, i64_w, i32_w]
                  rfl
                refine pure_ (i := 1) (N := some 54) (v := ?_) (a' := ?_) #[true, true, false, false, false, false, false, false, false, false, false, false, false, false, false] rfl rfl (any_of HT_.out (by kernel_rfl)) (fun _ _ _ h => h) (Or.inl ⟨by rfl, ?_⟩) ?_ ?_
                rotate_left
                · intro w'
                  go_simp
                  with_reducible rfl
                rotate_left
                · simp only [Act.put, List.setIfInBounds_toArray, List.set_cons_zero, List.set_cons_succ, i64_w, i32_w]
                  rfl
                refine pure_ (i := 2) (N := some 55) (v := undef) (a' := ?_) #[true, true, true, false, false, false, false, false, false, false, false, false, false, false, false] rfl rfl (any_of HT_.out (by kernel_rfl)) (fun _ _ _ h => h) (Or.inr ⟨by rfl, rfl⟩) ?_ ?_
                rotate_left
                · simp only [Act.put, List.setIfInBounds_toArray, List.set_cons_zero, List.set_cons_succ, i64_w, i32_w]
                  rfl
                refine pure_ (i := 3) (N := some 56) (v := undef) (a' := ?_) #[true, true, true, true, false, false, false, false, false, false, false, false, false, false, false] rfl rfl (any_of HT_.out (by kernel_rfl)) (fun _ _ _ h => h) (Or.inr ⟨by rfl, rfl⟩) ?_ ?_
                rotate_left
                · simp only [Act.put, List.setIfInBounds_toArray, List.set_cons_zero, List.set_cons_succ, i64_w, i32_w]
                  rfl
                refine pure_ (i := 4) (N := some 57) (v := undef) (a' := ?_) #[true, true, true, true, true, false, false, false, false, false, false, false, false, false, false] rfl rfl (any_of HT_.out (by kernel_rfl)) (fun _ _ _ h => h) (Or.inr ⟨by rfl, rfl⟩) ?_ ?_
                rotate_left
                · simp only [Act.put, List.setIfInBounds_toArray, List.set_cons_zero, List.set_cons_succ, i64_w, i32_w]
                  rfl
                refine pure_ (i := 5) (N := some 58) (v := undef) (a' := ?_) #[true, true, true, true, true, true, false, false, false, false, false, false, false, false, false] rfl rfl (any_of HT_.out (by kernel_rfl)) (fun _ _ _ h => h) (Or.inr ⟨by rfl, rfl⟩) ?_ ?_
                rotate_left
                · simp only [Act.put, List.setIfInBounds_toArray, List.set_cons_zero, List.set_cons_succ, i64_w, i32_w]
                  rfl
                refine pure_ (i := 6) (N := some 59) (v := undef) (a' := ?_) #[true, true, true, true, true, true, true, false, false, false, false, false, false, false, false] rfl rfl (any_of HT_.out (by kernel_rfl)) (fun _ _ _ h => h) (Or.inr ⟨by rfl, rfl⟩) ?_ ?_
                rotate_left
                · simp only [Act.put, List.setIfInBounds_toArray, List.set_cons_zero, List.set_cons_succ, i64_w, i32_w]
                  rfl
                refine pure_ (i := 7) (N := some 60) (v := undef) (a' := ?_) #[true, true, true, true, true, true, true, true, false, false, false, false, false, false, false] rfl rfl (any_of HT_.out (by kernel_rfl)) (fun _ _ _ h => h) (Or.inr ⟨by rfl, rfl⟩) ?_ ?_
                rotate_left
                · simp only [Act.put, List.setIfInBounds_toArray, List.set_cons_zero, List.set_cons_succ, i64_w, i32_w]
                  rfl
                refine pure_ (i := 8) (N := some 61) (v := undef) (a' := ?_) #[true, true, true, true, true, true, true, true, true, false, false, false, false, false, false] rfl rfl (any_of HT_.out (by kernel_rfl)) (fun _ _ _ h => h) (Or.inr ⟨by rfl, rfl⟩) ?_ ?_
                rotate_left
                · simp only [Act.put, List.setIfInBounds_toArray, List.set_cons_zero, List.set_cons_succ, i64_w, i32_w]
                  rfl
                refine pure_ (i := 9) (N := some 62) (v := undef) (a' := ?_) #[true, true, true, true, true, true, true, true, true, true, false, false, false, false, false] rfl rfl (any_of HT_.out (by kernel_rfl)) (fun _ _ _ h => h) (Or.inr ⟨by rfl, rfl⟩) ?_ ?_
                rotate_left
                · simp only [Act.put, List.setIfInBounds_toArray, List.set_cons_zero, List.set_cons_succ, i64_w, i32_w]
                  rfl
                refine pure_ (i := 10) (N := some 63) (v := undef) (a' := ?_) #[true, true, true, true, true, true, true, true, true, true, true, false, false, false, false] rfl rfl (any_of HT_.out (by kernel_rfl)) (fun _ _ _ h => h) (Or.inr ⟨by rfl, rfl⟩) ?_ ?_
                rotate_left
                · simp only [Act.put, List.setIfInBounds_toArray, List.set_cons_zero, List.set_cons_succ, i64_w, i32_w]
                  rfl
                refine pure_ (i := 11) (N := some 64) (v := undef) (a' := ?_) #[true, true, true, true, true, true, true, true, true, true, true, true, false, false, false] rfl rfl (any_of HT_.out (by kernel_rfl)) (fun _ _ _ h => h) (Or.inr ⟨by rfl, rfl⟩) ?_ ?_
                rotate_left
                · simp only [Act.put, List.setIfInBounds_toArray, List.set_cons_zero, List.set_cons_succ, i64_w, i32_w]
                  rfl
                refine pure_ (i := 12) (N := some 65) (v := undef) (a' := ?_) #[true, true, true, true, true, true, true, true, true, true, true, true, true, false, false] rfl rfl (any_of HT_.out (by kernel_rfl)) (fun _ _ _ h => h) (Or.inr ⟨by rfl, rfl⟩) ?_ ?_
                rotate_left
                · simp only [Act.put, List.setIfInBounds_toArray, List.set_cons_zero, List.set_cons_succ, i64_w, i32_w]
                  rfl
                refine pure_ (i := 13) (N := some 66) (v := ?_) (a' := ?_) #[true, true, true, true, true, true, true, true, true, true, true, true, true, true, false] rfl rfl (any_of HT_.out (by kernel_rfl)) (fun _ _ _ h => h) (Or.inl ⟨by rfl, ?_⟩) ?_ ?_
                rotate_left
                · intro w'
                  go_simp
                  with_reducible rfl
                rotate_left
                · simp only [Act.put, List.setIfInBounds_toArray, List.set_cons_zero, List.set_cons_succ, i64_w, i32_w]
                  rfl
                refine pure_ (i := 14) (N := some 10) (v := ?_) (a' := ?_) #[true, true, true, true, true, true, true, true, true, true, true, true, true, true, true] rfl rfl (any_of HT_.out (by kernel_rfl)) (fun _ _ _ h => h) (Or.inl ⟨by rfl, ?_⟩) ?_ ?_
                rotate_left
                · intro w'
                  go_simp
                  with_reducible rfl
                rotate_left
                · simp only [Act.put, List.setIfInBounds_toArray, List.set_cons_zero, List.set_cons_succ, i64_w, i32_w]
                  rfl
                refine done_ (done_of HT_.out (by kernel_rfl)) ?_
                try go_wp2
                go_ret
                exact ⟨by first | rfl | (simp [errW_none, errW_some] <;> rfl) | (simp [*, errW_none, errW_some] <;> rfl), by repeat (first | (with_reducible first | exact HB.out | apply below_alloc | apply pw_below_drewN | apply below_drew1 | refine below_set ?_ GE435.out | refine below_set ?_ GE437.out) | exact HB.out)⟩

end Go.Proofs.Ytbmochegfdljfaa.My
