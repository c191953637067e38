-- Written by a program of this session (wip/myprint.py), which drives the kit's print over hand-written fragments. Not trusted: Lean checks it.
import Derived.Test.YtbmochegfdljfaaMyx0
import Derived.Test.YtbmochegfdljfaaMyx18
import Derived.Test.YtbmochegfdljfaaMyx19
import Derived.Test.YtbmochegfdljfaaMyx23
import Derived.Test.YtbmochegfdljfaaMyx24
namespace Go.Proofs.Ytbmochegfdljfaa.My
open Go.Proofs.Ytbmochegfdljfaa.Aid Go.Proofs.Ytbmochegfdljfaa.KdX
open Go.RowKit Go.Proofs.YtbmochegfdljfaaW.PrintWords Go.Proofs.YtbmochegfdljfaaW.PrintLast Go.Proofs.YtbmochegfdljfaaW.PrintMore
attribute [local go_sem] max2_int min2_int max_two min_two max_three min_three max_four min_four   -- for this text's walks alone
set_option linter.unusedVariables false
set_option linter.unusedSimpArgs false

/-! ### wageofficelaw39_LedgerPosting: function 5 -/
mutual
def wageofficelaw39_LedgerPosting.j0 : Nat → ByteArray → Int → Int → Bool → Int → Bool → List (S26) → Int → ByteArray → ByteArray → Int → Int → Int → List (S26) → Option (Bool)
  | 0, _, _, _, _, _, _, _, _, _, _, _, _, _, _ => none
  | k + 1, x2, x3, x4, x11, x13, x38, x400000, x401000, x401001, x401002, x401003, x401004, x401005, x407000 => if x38 = true then (if x11 = true then (if x13 = 0 then ((wageofficeref39_Same.f k x400000 x407000).bind fun t407 => (some t407)) else (some true)) else (some false)) else ((ledger_Balance.f x400000 x2 x3 x4).bind fun t408 => (if x3 ≥ x401004 then (wageofficelaw39_LedgerPosting.j1 k x2 x3 x4 x11 t408 (decide (x4 ≥ x401005)) x401000 x401001 x401002 x401003 x401004 x401005 x407000) else (wageofficelaw39_LedgerPosting.j1 k x2 x3 x4 x11 t408 false x401000 x401001 x401002 x401003 x401004 x401005 x407000)))
def wageofficelaw39_LedgerPosting.j1 : Nat → ByteArray → Int → Int → Bool → Int → Bool → Int → ByteArray → ByteArray → Int → Int → Int → List (S26) → Option (Bool)
  | 0, _, _, _, _, _, _, _, _, _, _, _, _, _ => none
  | k + 1, x2, x3, x4, x11, x14, x63, x401000, x401001, x401002, x401003, x401004, x401005, x407000 => if x63 = true then (if x2.toList = x401001.toList then (if x2.toList = x401002.toList then (if x11 = true then ((ledger_Balance.f x407000 x2 x3 x4).bind fun t409 => (some (t409 == (wrap64 ((wrap64 (x14 + x401003)) - x401003))))) else (some false)) else (if x11 = true then ((ledger_Balance.f x407000 x2 x3 x4).bind fun t410 => (some (t410 == (wrap64 (x14 + x401003))))) else (some false))) else (if x2.toList = x401002.toList then (if x11 = true then ((ledger_Balance.f x407000 x2 x3 x4).bind fun t411 => (some (t411 == (wrap64 (x14 - x401003))))) else (some false)) else (if x11 = true then ((ledger_Balance.f x407000 x2 x3 x4).bind fun t412 => (some (t412 == x14))) else (some false)))) else (if x11 = true then ((ledger_Balance.f x407000 x2 x3 x4).bind fun t413 => (some (t413 == x14))) else (some false))
end
def wageofficelaw39_LedgerPosting.f (k : Nat) (l0_0 : List (S26)) (a1_0 : Int) (a1_1 : ByteArray) (a1_2 : ByteArray) (a1_3 : Int) (a1_4 : Int) (a1_5 : Int) (a2 : ByteArray) (a3 : Int) (a4 : Int) : Option (Bool) := (wageofficelaw39_head.f k).bind fun t401 => (if (l0_0.length : Int) > 300 then (some t401) else ((ledger_Post.f l0_0 a1_0 a1_1 a1_2 a1_3 a1_4 a1_5).bind fun bt402 => (if bt402.2 = 0 then (wageofficelaw39_LedgerPosting.j0 k a2 a3 a4 t401 bt402.2 ((bt402.1.length : Int) != (wrap64 ((l0_0.length : Int) + 1))) l0_0 a1_0 a1_1 a1_2 a1_3 a1_4 a1_5 bt402.1) else (wageofficelaw39_LedgerPosting.j0 k a2 a3 a4 t401 bt402.2 true l0_0 a1_0 a1_1 a1_2 a1_3 a1_4 a1_5 bt402.1))))
theorem wageofficelaw39_LedgerPosting.mono_l : ∀ k, (∀ y0 y1 y2 y3 y4 y5 y6 y7 y8 y9 y10 y11 y12 y13, LeO (wageofficelaw39_LedgerPosting.j0 k y0 y1 y2 y3 y4 y5 y6 y7 y8 y9 y10 y11 y12 y13) (wageofficelaw39_LedgerPosting.j0 (k + 1) y0 y1 y2 y3 y4 y5 y6 y7 y8 y9 y10 y11 y12 y13)) ∧ (∀ y0 y1 y2 y3 y4 y5 y6 y7 y8 y9 y10 y11 y12, LeO (wageofficelaw39_LedgerPosting.j1 k y0 y1 y2 y3 y4 y5 y6 y7 y8 y9 y10 y11 y12) (wageofficelaw39_LedgerPosting.j1 (k + 1) y0 y1 y2 y3 y4 y5 y6 y7 y8 y9 y10 y11 y12))
  | 0 => ⟨fun _ _ _ _ _ _ _ _ _ _ _ _ _ _ r h => by simp [wageofficelaw39_LedgerPosting.j0] at h, fun _ _ _ _ _ _ _ _ _ _ _ _ _ r h => by simp [wageofficelaw39_LedgerPosting.j1] at h⟩
  | k + 1 => by
    obtain ⟨ih0, ih1⟩ := wageofficelaw39_LedgerPosting.mono_l k
    refine ⟨?_, ?_⟩
    · intro y0 y1 y2 y3 y4 y5 y6 y7 y8 y9 y10 y11 y12 y13
      unfold wageofficelaw39_LedgerPosting.j0
      repeat' first
      | (with_reducible exact ih0 _ _ _ _ _ _ _ _ _ _ _ _ _ _)
      | (with_reducible exact ih1 _ _ _ _ _ _ _ _ _ _ _ _ _)
      | (with_reducible exact wageofficelaw39_head.mono _)
      | (with_reducible exact wageofficeref39_Same.mono _ _ _)
      | (with_reducible exact LeO.refl _)
      | (with_reducible exact LeO.none _)
      | (with_reducible refine LeO.ite ?_ ?_)
      | (with_reducible refine LeO.bind ?_ (fun _ => ?_))
      | exact ih0 _ _ _ _ _ _ _ _ _ _ _ _ _ _
      | exact ih1 _ _ _ _ _ _ _ _ _ _ _ _ _
      | exact wageofficelaw39_head.mono _
      | exact wageofficeref39_Same.mono _ _ _
      | exact LeO.none _
      | refine LeO.ite ?_ ?_
      | refine LeO.bind ?_ (fun _ => ?_)
    · intro y0 y1 y2 y3 y4 y5 y6 y7 y8 y9 y10 y11 y12
      unfold wageofficelaw39_LedgerPosting.j1
      repeat' first
      | (with_reducible exact ih0 _ _ _ _ _ _ _ _ _ _ _ _ _ _)
      | (with_reducible exact ih1 _ _ _ _ _ _ _ _ _ _ _ _ _)
      | (with_reducible exact wageofficelaw39_head.mono _)
      | (with_reducible exact wageofficeref39_Same.mono _ _ _)
      | (with_reducible exact LeO.refl _)
      | (with_reducible exact LeO.none _)
      | (with_reducible refine LeO.ite ?_ ?_)
      | (with_reducible refine LeO.bind ?_ (fun _ => ?_))
      | exact ih0 _ _ _ _ _ _ _ _ _ _ _ _ _ _
      | exact ih1 _ _ _ _ _ _ _ _ _ _ _ _ _
      | exact wageofficelaw39_head.mono _
      | exact wageofficeref39_Same.mono _ _ _
      | exact LeO.none _
      | refine LeO.ite ?_ ?_
      | refine LeO.bind ?_ (fun _ => ?_)
theorem wageofficelaw39_LedgerPosting.mono : ∀ a0 a1 a2 a3 a4 a5 a6 a7 a8 a9 k, LeO (wageofficelaw39_LedgerPosting.f k a0 a1 a2 a3 a4 a5 a6 a7 a8 a9) (wageofficelaw39_LedgerPosting.f (k + 1) a0 a1 a2 a3 a4 a5 a6 a7 a8 a9) := by
  intro a0 a1 a2 a3 a4 a5 a6 a7 a8 a9 k
  obtain ⟨ih0, ih1⟩ := wageofficelaw39_LedgerPosting.mono_l k
  unfold wageofficelaw39_LedgerPosting.f
  repeat' first
      | (with_reducible exact ih0 _ _ _ _ _ _ _ _ _ _ _ _ _ _)
      | (with_reducible exact ih1 _ _ _ _ _ _ _ _ _ _ _ _ _)
      | (with_reducible exact wageofficelaw39_head.mono _)
      | (with_reducible exact wageofficeref39_Same.mono _ _ _)
      | (with_reducible exact LeO.refl _)
      | (with_reducible exact LeO.none _)
      | (with_reducible refine LeO.ite ?_ ?_)
      | (with_reducible refine LeO.bind ?_ (fun _ => ?_))
      | exact ih0 _ _ _ _ _ _ _ _ _ _ _ _ _ _
      | exact ih1 _ _ _ _ _ _ _ _ _ _ _ _ _
      | exact wageofficelaw39_head.mono _
      | exact wageofficeref39_Same.mono _ _ _
      | exact LeO.none _
      | refine LeO.ite ?_ ?_
      | refine LeO.bind ?_ (fun _ => ?_)
set_option maxHeartbeats 8000000 in
set_option maxRecDepth 100000 in
theorem wageofficelaw39_LedgerPosting.calls (k : Nat) (A0_0 : Option Addr) (c0_0 : Nat) (l0_0 : List (S26)) (a1_0 : Int) (a1_1 : ByteArray) (a1_2 : ByteArray) (a1_3 : Int) (a1_4 : Int) (a1_5 : Int) (a2 : ByteArray) (a3 : Int) (a4 : Int) (r : Bool) (w : World) (hr0_0 : Kd.C k26 w A0_0 l0_0.length l0_0) (hc0_0 : l0_0.length ≤ c0_0) (h : wageofficelaw39_LedgerPosting.f k l0_0 a1_0 a1_1 a1_2 a1_3 a1_4 a1_5 a2 a3 a4 = some r) :
    Calls Try.prog 5 #[.agg #[.slice A0_0 l0_0.length c0_0], .agg #[.int .i64 a1_0, .string a1_1, .string a1_2, .int .i64 a1_3, .int .i64 a1_4, .int .i64 a1_5], .string a2, .int .i64 a3, .int .i64 a4] w fun e w' => e = .returned (.bool r) ∧ Below w.heap.size w w' := by
  have hu24 := Try.underlying24
  have hu26 := Try.underlying26
  have HR0_0 := Aside0.mk hr0_0
  have HC0_0 := Aside0.mk hc0_0
  clear hr0_0 hc0_0
  have HB := Aside0.mk (Below.refl w.heap.size w)
  have H : ((wageofficelaw39_head.f k).bind fun t401 => (if (l0_0.length : Int) > 300 then (some t401) else ((ledger_Post.f l0_0 a1_0 a1_1 a1_2 a1_3 a1_4 a1_5).bind fun bt402 => (if bt402.2 = 0 then (wageofficelaw39_LedgerPosting.j0 k a2 a3 a4 t401 bt402.2 ((bt402.1.length : Int) != (wrap64 ((l0_0.length : Int) + 1))) l0_0 a1_0 a1_1 a1_2 a1_3 a1_4 a1_5 bt402.1) else (wageofficelaw39_LedgerPosting.j0 k a2 a3 a4 t401 bt402.2 true l0_0 a1_0 a1_1 a1_2 a1_3 a1_4 a1_5 bt402.1))))) = some r := h
  clear h
  replace H := Option.bind_eq_some_iff.mp H
  obtain ⟨t401, A60, H⟩ := H
  replace H : (if (l0_0.length : Int) > 300 then (some t401) else ((ledger_Post.f l0_0 a1_0 a1_1 a1_2 a1_3 a1_4 a1_5).bind fun bt402 => (if bt402.2 = 0 then (wageofficelaw39_LedgerPosting.j0 k a2 a3 a4 t401 bt402.2 ((bt402.1.length : Int) != (wrap64 ((l0_0.length : Int) + 1))) l0_0 a1_0 a1_1 a1_2 a1_3 a1_4 a1_5 bt402.1) else (wageofficelaw39_LedgerPosting.j0 k a2 a3 a4 t401 bt402.2 true l0_0 a1_0 a1_1 a1_2 a1_3 a1_4 a1_5 bt402.1)))) = some r := H
  have A6 := Aside0.mk A60
  clear A60
  by_cases c7 : (l0_0.length : Int) > 300
  · rw [if_pos c7] at H
    have c7b0 : decide (300 < (l0_0.length : Int)) = true := decide_eq_true c7
    have c7b1 : decide (300 < l0_0.length) = true := decide_eq_true (by omega)
    clear c7
    obtain rfl := Option.some.inj H
    go_enter Try.func5, Try.ntmps5
    go_wp2_with (first | ((with_reducible refine gate_dst (N := 5) rfl ?_); (try (refine gate_guard (by rfl) ?_; dsimp only)); refine box_event ?hg (N := 5) ?hd (cs := #[.slice A0_0 l0_0.length c0_0]) (t := 24) ?hr ?_; (case hd => rfl); (case hg => rfl); (case hr => first | (go_simp; done) | (go_simp; rfl)); intro gb399 hg w8 hbox hb; have n0_ := Aside0.mk (below_step (by repeat (first | (with_reducible first | exact HB.out | apply below_alloc | apply pw_below_drewN | apply below_drew1) | exact HB.out)) hb); have n1_ := Aside0.mk (hbox); have n2_ := Aside0.mk ((by rw [hg]; exact (below_size (by repeat (first | (with_reducible first | exact HB.out | apply below_alloc | apply pw_below_drewN | apply below_drew1) | exact HB.out))) : w.heap.size ≤ gb399)); have n3_ := Aside0.mk ((by rw [hg]; exact (below_size (by repeat (first | (with_reducible first | exact HB.out | apply below_alloc | apply pw_below_drewN | apply below_drew1) | exact HB.out))) : w.heap.size ≤ gb399)); clear HB; have HB := n0_; have BK399 := n1_; have GW399 := n2_; have GE399 := n3_; clear n0_ n1_ n2_ n3_; clear hb hbox hg) | ((with_reducible refine gate_dst (N := 6) rfl ?_); (try (refine gate_guard (by rfl) ?_; dsimp only)); refine box_event ?hg (N := 6) ?hd (cs := #[.int .i64 a1_0, .string a1_1, .string a1_2, .int .i64 a1_3, .int .i64 a1_4, .int .i64 a1_5]) (t := 26) ?hr ?_; (case hd => rfl); (case hg => rfl); (case hr => first | (go_simp; done) | (go_simp; rfl)); intro gb400 hg w9 hbox hb; have n0_ := Aside0.mk (blk_below (g := gb399) (o := .cells #[.slice A0_0 l0_0.length c0_0] 24 (0, 0)) (by (with_reducible repeat (first | refine blk_drewN ?_ _ | refine blk_drew ?_ | refine blk_alloc ?_ _)); exact BK399.out) hb); have n1_ := Aside0.mk (below_step (by repeat (first | (with_reducible first | exact HB.out | apply below_alloc | apply pw_below_drewN | apply below_drew1 | refine below_set ?_ GE399.out) | exact HB.out)) hb); have n2_ := Aside0.mk (hbox); have n3_ := Aside0.mk ((by rw [hg]; exact (below_size (by repeat (first | (with_reducible first | exact HB.out | apply below_alloc | apply pw_below_drewN | apply below_drew1 | refine below_set ?_ GE399.out) | exact HB.out))) : w.heap.size ≤ gb400)); have n4_ := Aside0.mk ((by rw [hg]; exact (below_size (by repeat (first | (with_reducible first | exact HB.out | apply below_alloc | apply pw_below_drewN | apply below_drew1 | refine below_set ?_ GE399.out) | exact HB.out))) : w.heap.size ≤ gb400)); have n5_ := Aside0.mk ((by rw [hg]; exact Nat.ne_of_lt (blk_lt (g := gb399) (o := .cells #[.slice A0_0 l0_0.length c0_0] 24 (0, 0)) (by (with_reducible repeat (first | refine blk_drewN ?_ _ | refine blk_drew ?_ | refine blk_alloc ?_ _)); exact BK399.out)) : gb399 ≠ gb400)); have n6_ := Aside0.mk ((by rw [hg]; exact Nat.ne_of_gt (blk_lt (g := gb399) (o := .cells #[.slice A0_0 l0_0.length c0_0] 24 (0, 0)) (by (with_reducible repeat (first | refine blk_drewN ?_ _ | refine blk_drew ?_ | refine blk_alloc ?_ _)); exact BK399.out)) : gb400 ≠ gb399)); clear BK399; clear HB; have BK399 := n0_; have HB := n1_; have BK400 := n2_; have GW400 := n3_; have GE400 := n4_; have NB399_400 := n5_; have NB400_399 := n6_; clear n0_ n1_ n2_ n3_ n4_ n5_ n6_; clear hb hbox hg) | ((with_reducible refine gate_callee (f := 18) rfl ?_); refine goesL_ (some 15) rfl rfl Try.func18 (by kernel_rfl) rfl #[] rfl (by (try simp only [List.map_toArray, List.map_cons, List.map_nil]); first | done | rfl | (simp only [List.length_drop, List.length_take]; rfl)) ?_; (with_reducible refine (wageofficelaw39_head.calls k  t401 _ A6.out).mono ?_); rintro e w10 ⟨rfl, hb⟩; refine ⟨_, rfl, ?_⟩; have n0_ := Aside0.mk (blk_below (g := gb399) (o := .cells #[.slice A0_0 l0_0.length c0_0] 24 (0, 0)) (by (with_reducible repeat (first | refine blk_drewN ?_ _ | refine blk_drew ?_ | refine blk_alloc ?_ _)); exact BK399.out) hb); have n1_ := Aside0.mk (blk_below (g := gb400) (o := .cells #[.int .i64 a1_0, .string a1_1, .string a1_2, .int .i64 a1_3, .int .i64 a1_4, .int .i64 a1_5] 26 (0, 0)) (by (with_reducible repeat (first | refine blk_drewN ?_ _ | refine blk_drew ?_ | refine blk_alloc ?_ _)); exact BK400.out) hb); have n2_ := Aside0.mk (below_step (by repeat (first | (with_reducible first | exact HB.out | apply below_alloc | apply pw_below_drewN | apply below_drew1 | refine below_set ?_ GE399.out | refine below_set ?_ GE400.out) | exact HB.out)) hb); clear BK399; clear BK400; clear HB; have BK399 := n0_; have BK400 := n1_; have HB := n2_; clear n0_ n1_ n2_; (try clear hb); (try clear hb2); (try clear hk); (try clear hi); have hnb11 := NB399_400.out; have hnc11 := NB400_399.out; have hcz12_0 : w10.cell? ⟨gb399, 0, none⟩ = some (.slice A0_0 l0_0.length c0_0) := (blk_cell BK399.out 0).trans rfl; have hfz12_0 := blk_frozen BK399.out 0))
    go_ret
    exact ⟨by first | rfl | (simp [errW_none, errW_some] <;> rfl) | (simp [*, errW_none, errW_some] <;> rfl), by repeat (first | (with_reducible first | exact HB.out | apply below_alloc | apply pw_below_drewN | apply below_drew1 | refine below_set ?_ GE399.out | refine below_set ?_ GE400.out) | exact HB.out)⟩
  · rw [if_neg c7] at H
    have c7b0 : decide (300 < (l0_0.length : Int)) = false := decide_eq_false c7
    have c7b1 : decide (300 < l0_0.length) = false := decide_eq_false (by omega)
    clear c7
    replace H := Option.bind_eq_some_iff.mp H
    obtain ⟨⟨t402, t405⟩, A130, H⟩ := H
    replace H : (if t405 = 0 then (wageofficelaw39_LedgerPosting.j0 k a2 a3 a4 t401 t405 ((t402.length : Int) != (wrap64 ((l0_0.length : Int) + 1))) l0_0 a1_0 a1_1 a1_2 a1_3 a1_4 a1_5 t402) else (wageofficelaw39_LedgerPosting.j0 k a2 a3 a4 t401 t405 true l0_0 a1_0 a1_1 a1_2 a1_3 a1_4 a1_5 t402)) = some r := H
    have A13 := Aside0.mk A130
    clear A130
    have HC14 := Aside0.mk H
    clear H
    go_enter Try.func5, Try.ntmps5
    go_upto_region 5 with (first | ((with_reducible refine gate_dst (N := 5) rfl ?_); (try (refine gate_guard (by rfl) ?_; dsimp only)); refine box_event ?hg (N := 5) ?hd (cs := #[.slice A0_0 l0_0.length c0_0]) (t := 24) ?hr ?_; (case hd => rfl); (case hg => rfl); (case hr => first | (go_simp; done) | (go_simp; rfl)); intro gb399 hg w15 hbox hb; have n0_ := Aside0.mk (below_step (by repeat (first | (with_reducible first | exact HB.out | apply below_alloc | apply pw_below_drewN | apply below_drew1) | exact HB.out)) hb); have n1_ := Aside0.mk (hbox); have n2_ := Aside0.mk ((by rw [hg]; exact (below_size (by repeat (first | (with_reducible first | exact HB.out | apply below_alloc | apply pw_below_drewN | apply below_drew1) | exact HB.out))) : w.heap.size ≤ gb399)); have n3_ := Aside0.mk ((by rw [hg]; exact (below_size (by repeat (first | (with_reducible first | exact HB.out | apply below_alloc | apply pw_below_drewN | apply below_drew1) | exact HB.out))) : w.heap.size ≤ gb399)); clear HB; have HB := n0_; have BK399 := n1_; have GW399 := n2_; have GE399 := n3_; clear n0_ n1_ n2_ n3_; clear hb hbox hg) | ((with_reducible refine gate_dst (N := 6) rfl ?_); (try (refine gate_guard (by rfl) ?_; dsimp only)); refine box_event ?hg (N := 6) ?hd (cs := #[.int .i64 a1_0, .string a1_1, .string a1_2, .int .i64 a1_3, .int .i64 a1_4, .int .i64 a1_5]) (t := 26) ?hr ?_; (case hd => rfl); (case hg => rfl); (case hr => first | (go_simp; done) | (go_simp; rfl)); intro gb400 hg w16 hbox hb; have n0_ := Aside0.mk (blk_below (g := gb399) (o := .cells #[.slice A0_0 l0_0.length c0_0] 24 (0, 0)) (by (with_reducible repeat (first | refine blk_drewN ?_ _ | refine blk_drew ?_ | refine blk_alloc ?_ _)); exact BK399.out) hb); have n1_ := Aside0.mk (below_step (by repeat (first | (with_reducible first | exact HB.out | apply below_alloc | apply pw_below_drewN | apply below_drew1 | refine below_set ?_ GE399.out) | exact HB.out)) hb); have n2_ := Aside0.mk (hbox); have n3_ := Aside0.mk ((by rw [hg]; exact (below_size (by repeat (first | (with_reducible first | exact HB.out | apply below_alloc | apply pw_below_drewN | apply below_drew1 | refine below_set ?_ GE399.out) | exact HB.out))) : w.heap.size ≤ gb400)); have n4_ := Aside0.mk ((by rw [hg]; exact (below_size (by repeat (first | (with_reducible first | exact HB.out | apply below_alloc | apply pw_below_drewN | apply below_drew1 | refine below_set ?_ GE399.out) | exact HB.out))) : w.heap.size ≤ gb400)); have n5_ := Aside0.mk ((by rw [hg]; exact Nat.ne_of_lt (blk_lt (g := gb399) (o := .cells #[.slice A0_0 l0_0.length c0_0] 24 (0, 0)) (by (with_reducible repeat (first | refine blk_drewN ?_ _ | refine blk_drew ?_ | refine blk_alloc ?_ _)); exact BK399.out)) : gb399 ≠ gb400)); have n6_ := Aside0.mk ((by rw [hg]; exact Nat.ne_of_gt (blk_lt (g := gb399) (o := .cells #[.slice A0_0 l0_0.length c0_0] 24 (0, 0)) (by (with_reducible repeat (first | refine blk_drewN ?_ _ | refine blk_drew ?_ | refine blk_alloc ?_ _)); exact BK399.out)) : gb400 ≠ gb399)); clear BK399; clear HB; have BK399 := n0_; have HB := n1_; have BK400 := n2_; have GW400 := n3_; have GE400 := n4_; have NB399_400 := n5_; have NB400_399 := n6_; clear n0_ n1_ n2_ n3_ n4_ n5_ n6_; clear hb hbox hg) | ((with_reducible refine gate_callee (f := 18) rfl ?_); refine goesL_ (some 15) rfl rfl Try.func18 (by kernel_rfl) rfl #[] rfl (by (try simp only [List.map_toArray, List.map_cons, List.map_nil]); first | done | rfl | (simp only [List.length_drop, List.length_take]; rfl)) ?_; (with_reducible refine (wageofficelaw39_head.calls k  t401 _ A6.out).mono ?_); rintro e w17 ⟨rfl, hb⟩; refine ⟨_, rfl, ?_⟩; have n0_ := Aside0.mk (blk_below (g := gb399) (o := .cells #[.slice A0_0 l0_0.length c0_0] 24 (0, 0)) (by (with_reducible repeat (first | refine blk_drewN ?_ _ | refine blk_drew ?_ | refine blk_alloc ?_ _)); exact BK399.out) hb); have n1_ := Aside0.mk (blk_below (g := gb400) (o := .cells #[.int .i64 a1_0, .string a1_1, .string a1_2, .int .i64 a1_3, .int .i64 a1_4, .int .i64 a1_5] 26 (0, 0)) (by (with_reducible repeat (first | refine blk_drewN ?_ _ | refine blk_drew ?_ | refine blk_alloc ?_ _)); exact BK400.out) hb); have n2_ := Aside0.mk (below_step (by repeat (first | (with_reducible first | exact HB.out | apply below_alloc | apply pw_below_drewN | apply below_drew1 | refine below_set ?_ GE399.out | refine below_set ?_ GE400.out) | exact HB.out)) hb); clear BK399; clear BK400; clear HB; have BK399 := n0_; have BK400 := n1_; have HB := n2_; clear n0_ n1_ n2_; (try clear hb); (try clear hb2); (try clear hk); (try clear hi); have hnb18 := NB399_400.out; have hnc18 := NB400_399.out; have hcz19_0 : w17.cell? ⟨gb399, 0, none⟩ = some (.slice A0_0 l0_0.length c0_0) := (blk_cell BK399.out 0).trans rfl; have hfz19_0 := blk_frozen BK399.out 0; have hcz20_0 : w17.cell? ⟨gb400, 0, none⟩ = some (.int .i64 a1_0) := (blk_cell BK400.out 0).trans rfl; have hcz20_1 : w17.cell? ⟨gb400, 1, none⟩ = some (.string a1_1) := (blk_cell BK400.out 1).trans rfl; have hcz20_2 : w17.cell? ⟨gb400, 2, none⟩ = some (.string a1_2) := (blk_cell BK400.out 2).trans rfl; have hcz20_3 : w17.cell? ⟨gb400, 3, none⟩ = some (.int .i64 a1_3) := (blk_cell BK400.out 3).trans rfl; have hcz20_4 : w17.cell? ⟨gb400, 4, none⟩ = some (.int .i64 a1_4) := (blk_cell BK400.out 4).trans rfl; have hcz20_5 : w17.cell? ⟨gb400, 5, none⟩ = some (.int .i64 a1_5) := (blk_cell BK400.out 5).trans rfl; have hfz20_0 := blk_frozen BK400.out 0; have hfz20_1 := blk_frozen BK400.out 1; have hfz20_2 := blk_frozen BK400.out 2; have hfz20_3 := blk_frozen BK400.out 3; have hfz20_4 := blk_frozen BK400.out 4; have hfz20_5 := blk_frozen BK400.out 5) | ((with_reducible refine gate_callee (f := 19) rfl ?_); refine goesL_ (some 24) rfl rfl Try.func19 (by kernel_rfl) rfl #[.agg #[.slice A0_0 l0_0.length c0_0], .agg #[.int .i64 a1_0, .string a1_1, .string a1_2, .int .i64 a1_3, .int .i64 a1_4, .int .i64 a1_5]] rfl (by (try simp only [List.map_toArray, List.map_cons, List.map_nil]); first | done | rfl | (simp only [List.length_drop, List.length_take]; rfl)) ?_; (with_reducible refine (ledger_Post.calls _ _ l0_0 a1_0 a1_1 a1_2 a1_3 a1_4 a1_5 t402 t405 _ ?side1 ?side2 A13.out).mono ?_); (case side1 => repeat (first | exact (Kd.C_below HR0_0.out HB.out) | (with_reducible refine Kd.C_alloc ?_ _) | (with_reducible refine Kd.C_drewN ?_ _) | (with_reducible refine Kd.C_drew ?_))); (case side2 => exact HC0_0.out); rintro e w21 ⟨v403, rfl, ho0, hb⟩; refine ⟨_, rfl, ?_⟩; have n0_ := Aside0.mk (Kd.R_lower (Kd.R_newB ho0 (g := gb400) (o := .cells #[.int .i64 a1_0, .string a1_1, .string a1_2, .int .i64 a1_3, .int .i64 a1_4, .int .i64 a1_5] 26 (0, 0)) (by (with_reducible repeat (first | refine blk_drewN ?_ _ | refine blk_drew ?_ | refine blk_alloc ?_ _)); exact BK400.out)) (below_size (by repeat (first | (with_reducible first | exact HB.out | apply below_alloc | apply pw_below_drewN | apply below_drew1 | refine below_set ?_ GE399.out | refine below_set ?_ GE400.out) | exact HB.out)))); have n1_ := Aside0.mk (blk_below (g := gb399) (o := .cells #[.slice A0_0 l0_0.length c0_0] 24 (0, 0)) (by (with_reducible repeat (first | refine blk_drewN ?_ _ | refine blk_drew ?_ | refine blk_alloc ?_ _)); exact BK399.out) hb); have n2_ := Aside0.mk (blk_below (g := gb400) (o := .cells #[.int .i64 a1_0, .string a1_1, .string a1_2, .int .i64 a1_3, .int .i64 a1_4, .int .i64 a1_5] 26 (0, 0)) (by (with_reducible repeat (first | refine blk_drewN ?_ _ | refine blk_drew ?_ | refine blk_alloc ?_ _)); exact BK400.out) hb); have n3_ := Aside0.mk (below_step (by repeat (first | (with_reducible first | exact HB.out | apply below_alloc | apply pw_below_drewN | apply below_drew1 | refine below_set ?_ GE399.out | refine below_set ?_ GE400.out) | exact HB.out)) hb); clear BK399; clear BK400; clear HB; have HO404 := n0_; have BK399 := n1_; have BK400 := n2_; have HB := n3_; clear n0_ n1_ n2_ n3_; (try clear hb); (try clear hb2); (try clear hk); (try clear hi); (try clear ho0)) | ((with_reducible refine gate_dst (N := 12) rfl ?_); (try (refine gate_guard (by rfl) ?_; dsimp only)); refine box_event ?hg (N := 12) ?hd (cs := #[.slice none 0 0]) (t := 24) ?hr ?_; (case hd => rfl); (case hg => rfl); (case hr => first | (go_simp; done) | (go_simp; rfl)); intro gb406 hg w22 hbox hb; have n0_ := Aside0.mk (Kd.R_below (by (with_reducible repeat (first | apply Kd.R_alloc | apply Kd.R_drewN | apply Kd.R_drew)); exact HO404.out) hb); have n1_ := Aside0.mk (blk_below (g := gb399) (o := .cells #[.slice A0_0 l0_0.length c0_0] 24 (0, 0)) (by (with_reducible repeat (first | refine blk_drewN ?_ _ | refine blk_drew ?_ | refine blk_alloc ?_ _)); exact BK399.out) hb); have n2_ := Aside0.mk (blk_below (g := gb400) (o := .cells #[.int .i64 a1_0, .string a1_1, .string a1_2, .int .i64 a1_3, .int .i64 a1_4, .int .i64 a1_5] 26 (0, 0)) (by (with_reducible repeat (first | refine blk_drewN ?_ _ | refine blk_drew ?_ | refine blk_alloc ?_ _)); exact BK400.out) hb); have n3_ := Aside0.mk (below_step (by repeat (first | (with_reducible first | exact HB.out | apply below_alloc | apply pw_below_drewN | apply below_drew1 | refine below_set ?_ GE399.out | refine below_set ?_ GE400.out) | exact HB.out)) hb); have n4_ := Aside0.mk (hbox); have n5_ := Aside0.mk ((by rw [hg]; exact (below_size (by repeat (first | (with_reducible first | exact HB.out | apply below_alloc | apply pw_below_drewN | apply below_drew1 | refine below_set ?_ GE399.out | refine below_set ?_ GE400.out) | exact HB.out))) : w.heap.size ≤ gb406)); have n6_ := Aside0.mk ((by rw [hg]; exact (below_size (by repeat (first | (with_reducible first | exact HB.out | apply below_alloc | apply pw_below_drewN | apply below_drew1 | refine below_set ?_ GE399.out | refine below_set ?_ GE400.out) | exact HB.out))) : w.heap.size ≤ gb406)); have n7_ := Aside0.mk ((by rw [hg]; exact Nat.ne_of_lt (blk_lt (g := gb399) (o := .cells #[.slice A0_0 l0_0.length c0_0] 24 (0, 0)) (by (with_reducible repeat (first | refine blk_drewN ?_ _ | refine blk_drew ?_ | refine blk_alloc ?_ _)); exact BK399.out)) : gb399 ≠ gb406)); have n8_ := Aside0.mk ((by rw [hg]; exact Nat.ne_of_gt (blk_lt (g := gb399) (o := .cells #[.slice A0_0 l0_0.length c0_0] 24 (0, 0)) (by (with_reducible repeat (first | refine blk_drewN ?_ _ | refine blk_drew ?_ | refine blk_alloc ?_ _)); exact BK399.out)) : gb406 ≠ gb399)); have n9_ := Aside0.mk ((by rw [hg]; exact Nat.ne_of_lt (blk_lt (g := gb400) (o := .cells #[.int .i64 a1_0, .string a1_1, .string a1_2, .int .i64 a1_3, .int .i64 a1_4, .int .i64 a1_5] 26 (0, 0)) (by (with_reducible repeat (first | refine blk_drewN ?_ _ | refine blk_drew ?_ | refine blk_alloc ?_ _)); exact BK400.out)) : gb400 ≠ gb406)); have n10_ := Aside0.mk ((by rw [hg]; exact Nat.ne_of_gt (blk_lt (g := gb400) (o := .cells #[.int .i64 a1_0, .string a1_1, .string a1_2, .int .i64 a1_3, .int .i64 a1_4, .int .i64 a1_5] 26 (0, 0)) (by (with_reducible repeat (first | refine blk_drewN ?_ _ | refine blk_drew ?_ | refine blk_alloc ?_ _)); exact BK400.out)) : gb406 ≠ gb400)); clear HO404; clear BK399; clear BK400; clear HB; have HO404 := n0_; have BK399 := n1_; have BK400 := n2_; have HB := n3_; have BK406 := n4_; have GW406 := n5_; have GE406 := n6_; have NB399_406 := n7_; have NB406_399 := n8_; have NB400_406 := n9_; have NB406_400 := n10_; clear n0_ n1_ n2_ n3_ n4_ n5_ n6_ n7_ n8_ n9_ n10_; clear hb hbox hg; obtain ⟨Ao23, co23, eo23⟩ := Kd.R_slice HO404.out; subst eo23; have hnb24 := NB406_399.out; have hnc24 := NB399_406.out; have hnb25 := NB406_400.out; have hnc25 := NB400_406.out; have hcz26_0 : w22.cell? ⟨gb406, 0, none⟩ = some (.slice none 0 0) := (blk_cell BK406.out 0).trans rfl; have hfz26_0 := blk_frozen BK406.out 0))
    (try simp only [Act.put, List.setIfInBounds_toArray, List.set_cons_zero, List.set_cons_succ])
    go_cut [38] (fun v38 wc => ∃ (kq : Nat) (x38_13 : Bool), v38 = .bool x38_13 ∧ Aside0 (wageofficelaw39_LedgerPosting.j0 kq a2 a3 a4 t401 t405 x38_13 l0_0 a1_0 a1_1 a1_2 a1_3 a1_4 a1_5 t402 = some r) ∧ Aside0 (kq ≤ k) ∧ Aside0 (Kd.R k26 26 wc w.heap.size (fun k_ => k_ ≠ gb400) (.slice Ao23 t402.length co23) t402) ∧ Aside0 (wc.heap[gb399]? = some (.cells #[(.slice A0_0 l0_0.length c0_0)] 24 (0, 0))) ∧ Aside0 (wc.heap[gb400]? = some (.cells #[.int .i64 a1_0, .string a1_1, .string a1_2, .int .i64 a1_3, .int .i64 a1_4, .int .i64 a1_5] 26 (0, 0))) ∧ Aside0 (wc.heap[gb406]? = some (.cells #[(.slice Ao23 t402.length co23)] 24 (0, 0))) ∧ Aside0 (Below w.heap.size w wc))
    case first =>
      have H := HC14.out
      clear HC14
      by_cases c27 : t405 = 0
      · rw [if_pos c27] at H
        have c27b0 : (t405 == 0) = true := beq_iff_eq.mpr c27
        have c27b1 : (t405 != 0) = false := bne_eq_false_iff_eq.mpr c27
        clear c27
        (first | rw [c27b0] | (simp only [i64_w, i32_w]; rw [c27b0]) | skip)
        have H' := Aside0.mk H
        clear H
        have hnb28 := NB406_399.out
        have hnc28 := NB399_406.out
        have hnb29 := NB406_400.out
        have hnc29 := NB400_406.out
        have hcz30_0 : w22.cell? ⟨gb406, 0, none⟩ = some (.slice none 0 0) := (blk_cell BK406.out 0).trans rfl
        have hfz30_0 := blk_frozen BK406.out 0
        have hnb31 := NB399_400.out
        have hnc31 := NB400_399.out
        have hcz32_0 : w22.cell? ⟨gb399, 0, none⟩ = some (.slice A0_0 l0_0.length c0_0) := (blk_cell BK399.out 0).trans rfl
        have hfz32_0 := blk_frozen BK399.out 0
        go_wp2
        go_meet
        case rel => exact ⟨_, (((t402.length : Int) != (wrap64 ((l0_0.length : Int) + 1)))), (by first | rfl | (simp; done) | (simp [*]; done)), H', ⟨by first | omega | exact Nat.le_refl _⟩, ⟨by (with_reducible repeat (first | apply Kd.R_alloc | apply Kd.R_drewN | apply Kd.R_drew)); exact Kd.R_mono (Kd.R_far (p := ⟨gb406, 0, none⟩) (Kd.R_types HO404.out BK406.out (by decide)) (fun _ hk => hk.2) (.slice Ao23 t402.length co23)) (fun _ hk => hk.1.2)⟩, ⟨by (with_reducible repeat (first | refine blk_drewN ?_ _ | refine blk_drew ?_ | refine blk_alloc ?_ _)); refine blk_far ?_ NB399_406.out _; (with_reducible repeat (first | refine blk_drewN ?_ _ | refine blk_drew ?_ | refine blk_alloc ?_ _)); exact BK399.out⟩, ⟨by (with_reducible repeat (first | refine blk_drewN ?_ _ | refine blk_drew ?_ | refine blk_alloc ?_ _)); refine blk_far ?_ NB400_406.out _; (with_reducible repeat (first | refine blk_drewN ?_ _ | refine blk_drew ?_ | refine blk_alloc ?_ _)); exact BK400.out⟩, ⟨by (with_reducible repeat (first | refine blk_drewN ?_ _ | refine blk_drew ?_ | refine blk_alloc ?_ _)); refine blk_put (cs := #[.slice none 0 0]) ?_ 0 _ rfl; (with_reducible repeat (first | refine blk_drewN ?_ _ | refine blk_drew ?_ | refine blk_alloc ?_ _)); exact BK406.out⟩, ⟨by repeat (first | (with_reducible first | exact HB.out | apply below_alloc | apply pw_below_drewN | apply below_drew1 | refine below_set ?_ GE399.out | refine below_set ?_ GE400.out | refine below_set ?_ GE406.out) | exact HB.out)⟩⟩
      · rw [if_neg c27] at H
        have c27b0 : (t405 == 0) = false := beq_eq_false_iff_ne.mpr c27
        have c27b1 : (t405 != 0) = true := bne_iff_ne.mpr c27
        (first | rw [c27b0] | (simp only [i64_w, i32_w]; rw [c27b0]) | skip)
        have H' := Aside0.mk H
        clear H
        go_wp2
        go_meet
        case rel => exact ⟨_, (true), (by first | rfl | (simp; done) | (simp [*]; done)), H', ⟨by first | omega | exact Nat.le_refl _⟩, ⟨by (with_reducible repeat (first | apply Kd.R_alloc | apply Kd.R_drewN | apply Kd.R_drew)); exact Kd.R_mono (Kd.R_far (p := ⟨gb406, 0, none⟩) (Kd.R_types HO404.out BK406.out (by decide)) (fun _ hk => hk.2) (.slice Ao23 t402.length co23)) (fun _ hk => hk.1.2)⟩, ⟨by (with_reducible repeat (first | refine blk_drewN ?_ _ | refine blk_drew ?_ | refine blk_alloc ?_ _)); refine blk_far ?_ NB399_406.out _; (with_reducible repeat (first | refine blk_drewN ?_ _ | refine blk_drew ?_ | refine blk_alloc ?_ _)); exact BK399.out⟩, ⟨by (with_reducible repeat (first | refine blk_drewN ?_ _ | refine blk_drew ?_ | refine blk_alloc ?_ _)); refine blk_far ?_ NB400_406.out _; (with_reducible repeat (first | refine blk_drewN ?_ _ | refine blk_drew ?_ | refine blk_alloc ?_ _)); exact BK400.out⟩, ⟨by (with_reducible repeat (first | refine blk_drewN ?_ _ | refine blk_drew ?_ | refine blk_alloc ?_ _)); refine blk_put (cs := #[.slice none 0 0]) ?_ 0 _ rfl; (with_reducible repeat (first | refine blk_drewN ?_ _ | refine blk_drew ?_ | refine blk_alloc ?_ _)); exact BK406.out⟩, ⟨by repeat (first | (with_reducible first | exact HB.out | apply below_alloc | apply pw_below_drewN | apply below_drew1 | refine below_set ?_ GE399.out | refine below_set ?_ GE400.out | refine below_set ?_ GE406.out) | exact HB.out)⟩⟩
    case rest =>
      clear HC14
      try clear c1
      try clear c2
      try clear p2
      try clear c3
      try clear c5
      try clear p6
      try clear c7
      try clear c7b0
      try clear c7b1
      try clear c11
      try clear c18
      try clear c19
      try clear c24
      try clear c25
      try clear c27
      try clear c27b0
      try clear c27b1
      try clear c28
      try clear c29
      try clear c31
      try clear hcz12_0
      try clear hcz19_0
      try clear hcz20_0
      try clear hcz20_1
      try clear hcz20_2
      try clear hcz20_3
      try clear hcz20_4
      try clear hcz20_5
      try clear hcz26_0
      try clear hcz30_0
      try clear hcz32_0
      try clear hfz12_0
      try clear hfz19_0
      try clear hfz20_0
      try clear hfz20_1
      try clear hfz20_2
      try clear hfz20_3
      try clear hfz20_4
      try clear hfz20_5
      try clear hfz26_0
      try clear hfz30_0
      try clear hfz32_0
      obtain ⟨kq, x38_13, rfl, HA, HJ13, HO_407000, BK399, BK400, BK406, HB⟩ := hcut
      cases kq with
      | zero => exact absurd HA.out (by simp [wageofficelaw39_LedgerPosting.j0])
      | succ kj13 =>
        have H := HA.out
        clear HA
        simp only [wageofficelaw39_LedgerPosting.j0] at H
        by_cases c33 : x38_13 = true
        · subst c33
          have H1 : (if t401 = true then (if t405 = 0 then ((wageofficeref39_Same.f kj13 l0_0 t402).bind fun t407 => (some t407)) else (some true)) else (some false)) = some r := by rw [if_pos rfl] at H; exact H
          clear H
          have H := H1
          clear H1
          by_cases c34 : t401 = true
          · subst c34
            have H1 : (if t405 = 0 then ((wageofficeref39_Same.f kj13 l0_0 t402).bind fun t407 => (some t407)) else (some true)) = some r := by rw [if_pos rfl] at H; exact H
            clear H
            have H := H1
            clear H1
            by_cases c35 : t405 = 0
            · rw [if_pos c35] at H
              have c35b0 : (t405 == 0) = true := beq_iff_eq.mpr c35
              have c35b1 : (t405 != 0) = false := bne_eq_false_iff_eq.mpr c35
              clear c35
              replace H := Option.bind_eq_some_iff.mp H
              obtain ⟨t407, A360, H⟩ := H
              replace H : (some t407) = some r := H
              have A36 := Aside0.mk A360
              clear A360
              obtain rfl := Option.some.inj H
              have hnb37 := NB399_400.out
              have hnc37 := NB400_399.out
              have hnb38 := NB399_406.out
              have hnc38 := NB406_399.out
              have hcz39_0 : wc.cell? ⟨gb399, 0, none⟩ = some (.slice A0_0 l0_0.length c0_0) := (blk_cell BK399.out 0).trans rfl
              have hfz39_0 := blk_frozen BK399.out 0
              have hnb40 := NB406_400.out
              have hnc40 := NB400_406.out
              have hcz41_0 : wc.cell? ⟨gb406, 0, none⟩ = some (.slice Ao23 t402.length co23) := (blk_cell BK406.out 0).trans rfl
              have hfz41_0 := blk_frozen BK406.out 0
              go_wp2_with (first | (go_at_call 23; (with_reducible refine (wageofficeref39_Same.calls kj13 _ _ l0_0 _ _ t402 t407 _ ?side1 ?side2 ?side3 ?side4 A36.out).mono ?_); (case side1 => repeat (first | exact (Kd.C_below HR0_0.out HB.out) | (with_reducible refine Kd.C_alloc ?_ _) | (with_reducible refine Kd.C_drewN ?_ _) | (with_reducible refine Kd.C_drew ?_))); (case side2 => exact HC0_0.out); (case side3 => repeat (first | exact (Kd.R_reads' HO_407000.out).2.2 | (with_reducible refine Kd.C_alloc ?_ _) | (with_reducible refine Kd.C_drewN ?_ _) | (with_reducible refine Kd.C_drew ?_))); (case side4 => exact (Kd.R_reads' HO_407000.out).2.1); rintro e w42 ⟨rfl, hb⟩; have n0_ := Aside0.mk (Kd.R_below (by (with_reducible repeat (first | apply Kd.R_alloc | apply Kd.R_drewN | apply Kd.R_drew)); exact HO_407000.out) hb); have n1_ := Aside0.mk (blk_below (g := gb399) (o := .cells #[.slice A0_0 l0_0.length c0_0] 24 (0, 0)) (by (with_reducible repeat (first | refine blk_drewN ?_ _ | refine blk_drew ?_ | refine blk_alloc ?_ _)); exact BK399.out) hb); have n2_ := Aside0.mk (blk_below (g := gb400) (o := .cells #[.int .i64 a1_0, .string a1_1, .string a1_2, .int .i64 a1_3, .int .i64 a1_4, .int .i64 a1_5] 26 (0, 0)) (by (with_reducible repeat (first | refine blk_drewN ?_ _ | refine blk_drew ?_ | refine blk_alloc ?_ _)); exact BK400.out) hb); have n3_ := Aside0.mk (blk_below (g := gb406) (o := .cells #[.slice Ao23 t402.length co23] 24 (0, 0)) (by (with_reducible repeat (first | refine blk_drewN ?_ _ | refine blk_drew ?_ | refine blk_alloc ?_ _)); exact BK406.out) hb); have n4_ := Aside0.mk (below_step (by repeat (first | (with_reducible first | exact HB.out | apply below_alloc | apply pw_below_drewN | apply below_drew1 | refine below_set ?_ GE399.out | refine below_set ?_ GE400.out | refine below_set ?_ GE406.out) | exact HB.out)) hb); clear HO_407000; clear BK399; clear BK400; clear BK406; clear HB; have HO_407000 := n0_; have BK399 := n1_; have BK400 := n2_; have BK406 := n3_; have HB := n4_; clear n0_ n1_ n2_ n3_ n4_; (try clear hb); (try clear hb2); (try clear hk); (try clear hi)))
              go_ret
              exact ⟨by first | rfl | (simp [errW_none, errW_some] <;> rfl) | (simp [*, errW_none, errW_some] <;> rfl), by repeat (first | (with_reducible first | exact HB.out | apply below_alloc | apply pw_below_drewN | apply below_drew1 | refine below_set ?_ GE399.out | refine below_set ?_ GE400.out | refine below_set ?_ GE406.out) | exact HB.out)⟩
            · rw [if_neg c35] at H
              have c35b0 : (t405 == 0) = false := beq_eq_false_iff_ne.mpr c35
              have c35b1 : (t405 != 0) = true := bne_iff_ne.mpr c35
              obtain rfl := Option.some.inj H
              go_wp2
              go_ret
              exact ⟨by first | rfl | (simp [errW_none, errW_some] <;> rfl) | (simp [*, errW_none, errW_some] <;> rfl), by repeat (first | (with_reducible first | exact HB.out | apply below_alloc | apply pw_below_drewN | apply below_drew1 | refine below_set ?_ GE399.out | refine below_set ?_ GE400.out | refine below_set ?_ GE406.out) | exact HB.out)⟩
          · replace c34 := Bool.eq_false_iff.mpr c34
            subst c34
            have H1 : (some false) = some r := by rw [if_neg (show ¬ (false = true) by decide)] at H; exact H
            clear H
            have H := H1
            clear H1
            obtain rfl := Option.some.inj H
            go_wp2
            go_ret
            exact ⟨by first | rfl | (simp [errW_none, errW_some] <;> rfl) | (simp [*, errW_none, errW_some] <;> rfl), by repeat (first | (with_reducible first | exact HB.out | apply below_alloc | apply pw_below_drewN | apply below_drew1 | refine below_set ?_ GE399.out | refine below_set ?_ GE400.out | refine below_set ?_ GE406.out) | exact HB.out)⟩
        · replace c33 := Bool.eq_false_iff.mpr c33
          subst c33
          have H1 : ((ledger_Balance.f l0_0 a2 a3 a4).bind fun t408 => (if a3 ≥ a1_4 then (wageofficelaw39_LedgerPosting.j1 kj13 a2 a3 a4 t401 t408 (decide (a4 ≥ a1_5)) a1_0 a1_1 a1_2 a1_3 a1_4 a1_5 t402) else (wageofficelaw39_LedgerPosting.j1 kj13 a2 a3 a4 t401 t408 false a1_0 a1_1 a1_2 a1_3 a1_4 a1_5 t402))) = some r := by rw [if_neg (show ¬ (false = true) by decide)] at H; exact H
          clear H
          have H := H1
          clear H1
          replace H := Option.bind_eq_some_iff.mp H
          obtain ⟨t408, A430, H⟩ := H
          replace H : (if a3 ≥ a1_4 then (wageofficelaw39_LedgerPosting.j1 kj13 a2 a3 a4 t401 t408 (decide (a4 ≥ a1_5)) a1_0 a1_1 a1_2 a1_3 a1_4 a1_5 t402) else (wageofficelaw39_LedgerPosting.j1 kj13 a2 a3 a4 t401 t408 false a1_0 a1_1 a1_2 a1_3 a1_4 a1_5 t402)) = some r := H
          have A43 := Aside0.mk A430
          clear A430
          have HC44 := Aside0.mk H
          clear H
          have hnb45 := NB399_400.out
          have hnc45 := NB400_399.out
          have hnb46 := NB399_406.out
          have hnc46 := NB406_399.out
          have hcz47_0 : wc.cell? ⟨gb399, 0, none⟩ = some (.slice A0_0 l0_0.length c0_0) := (blk_cell BK399.out 0).trans rfl
          have hfz47_0 := blk_frozen BK399.out 0
          go_upto_region 8 with (first | ((with_reducible refine gate_callee (f := 24) rfl ?_); refine goesL_ (some 53) rfl rfl Try.func24 (by kernel_rfl) rfl #[.agg #[.slice A0_0 l0_0.length c0_0], .string a2, .int .i64 a3, .int .i64 a4] rfl (by (try simp only [List.map_toArray, List.map_cons, List.map_nil]); first | done | rfl | (simp only [List.length_drop, List.length_take]; rfl)) ?_; (with_reducible refine (ledger_Balance.calls _ _ l0_0 a2 a3 a4 t408 _ ?side1 ?side2 A43.out).mono ?_); (case side1 => repeat (first | exact (Kd.C_below HR0_0.out HB.out) | (with_reducible refine Kd.C_alloc ?_ _) | (with_reducible refine Kd.C_drewN ?_ _) | (with_reducible refine Kd.C_drew ?_))); (case side2 => exact HC0_0.out); rintro e w48 ⟨rfl, hb⟩; refine ⟨_, rfl, ?_⟩; have n0_ := Aside0.mk (Kd.R_below (by (with_reducible repeat (first | apply Kd.R_alloc | apply Kd.R_drewN | apply Kd.R_drew)); exact HO_407000.out) hb); have n1_ := Aside0.mk (blk_below (g := gb399) (o := .cells #[.slice A0_0 l0_0.length c0_0] 24 (0, 0)) (by (with_reducible repeat (first | refine blk_drewN ?_ _ | refine blk_drew ?_ | refine blk_alloc ?_ _)); exact BK399.out) hb); have n2_ := Aside0.mk (blk_below (g := gb400) (o := .cells #[.int .i64 a1_0, .string a1_1, .string a1_2, .int .i64 a1_3, .int .i64 a1_4, .int .i64 a1_5] 26 (0, 0)) (by (with_reducible repeat (first | refine blk_drewN ?_ _ | refine blk_drew ?_ | refine blk_alloc ?_ _)); exact BK400.out) hb); have n3_ := Aside0.mk (blk_below (g := gb406) (o := .cells #[.slice Ao23 t402.length co23] 24 (0, 0)) (by (with_reducible repeat (first | refine blk_drewN ?_ _ | refine blk_drew ?_ | refine blk_alloc ?_ _)); exact BK406.out) hb); have n4_ := Aside0.mk (below_step (by repeat (first | (with_reducible first | exact HB.out | apply below_alloc | apply pw_below_drewN | apply below_drew1 | refine below_set ?_ GE399.out | refine below_set ?_ GE400.out | refine below_set ?_ GE406.out) | exact HB.out)) hb); clear HO_407000; clear BK399; clear BK400; clear BK406; clear HB; have HO_407000 := n0_; have BK399 := n1_; have BK400 := n2_; have BK406 := n3_; have HB := n4_; clear n0_ n1_ n2_ n3_ n4_; (try clear hb); (try clear hb2); (try clear hk); (try clear hi)))
          (try simp only [Act.put, List.setIfInBounds_toArray, List.set_cons_zero, List.set_cons_succ])
          go_cut [63] (fun v63 wc => ∃ (kq : Nat) (x63_43 : Bool), v63 = .bool x63_43 ∧ Aside0 (wageofficelaw39_LedgerPosting.j1 kq a2 a3 a4 t401 t408 x63_43 a1_0 a1_1 a1_2 a1_3 a1_4 a1_5 t402 = some r) ∧ Aside0 (kq ≤ kj13) ∧ Aside0 (Kd.R k26 26 wc w.heap.size (fun k_ => k_ ≠ gb400) (.slice Ao23 t402.length co23) t402) ∧ Aside0 (wc.heap[gb399]? = some (.cells #[(.slice A0_0 l0_0.length c0_0)] 24 (0, 0))) ∧ Aside0 (wc.heap[gb400]? = some (.cells #[.int .i64 a1_0, .string a1_1, .string a1_2, .int .i64 a1_3, .int .i64 a1_4, .int .i64 a1_5] 26 (0, 0))) ∧ Aside0 (wc.heap[gb406]? = some (.cells #[(.slice Ao23 t402.length co23)] 24 (0, 0))) ∧ Aside0 (Below w.heap.size w wc))
          case first =>
            have H := HC44.out
            clear HC44
            by_cases c49 : a3 ≥ a1_4
            · rw [if_pos c49] at H
              have c49b0 : decide (a1_4 ≤ a3) = true := decide_eq_true c49
              clear c49
              (first | rw [c49b0] | (simp only [i64_w, i32_w]; rw [c49b0]) | skip)
              have H' := Aside0.mk H
              clear H
              have hnb50 := NB400_399.out
              have hnc50 := NB399_400.out
              have hnb51 := NB400_406.out
              have hnc51 := NB406_400.out
              have hcz52_0 : w48.cell? ⟨gb400, 0, none⟩ = some (.int .i64 a1_0) := (blk_cell BK400.out 0).trans rfl
              have hcz52_1 : w48.cell? ⟨gb400, 1, none⟩ = some (.string a1_1) := (blk_cell BK400.out 1).trans rfl
              have hcz52_2 : w48.cell? ⟨gb400, 2, none⟩ = some (.string a1_2) := (blk_cell BK400.out 2).trans rfl
              have hcz52_3 : w48.cell? ⟨gb400, 3, none⟩ = some (.int .i64 a1_3) := (blk_cell BK400.out 3).trans rfl
              have hcz52_4 : w48.cell? ⟨gb400, 4, none⟩ = some (.int .i64 a1_4) := (blk_cell BK400.out 4).trans rfl
              have hcz52_5 : w48.cell? ⟨gb400, 5, none⟩ = some (.int .i64 a1_5) := (blk_cell BK400.out 5).trans rfl
              have hfz52_0 := blk_frozen BK400.out 0
              have hfz52_1 := blk_frozen BK400.out 1
              have hfz52_2 := blk_frozen BK400.out 2
              have hfz52_3 := blk_frozen BK400.out 3
              have hfz52_4 := blk_frozen BK400.out 4
              have hfz52_5 := blk_frozen BK400.out 5
              go_wp2
              go_meet
              case rel => exact ⟨_, (decide (a4 ≥ a1_5)), (by first | rfl | (simp; done) | (simp [*]; done)), H', ⟨by have := HJ13.out; first | omega | exact Nat.le_refl _⟩, ⟨by (with_reducible repeat (first | apply Kd.R_alloc | apply Kd.R_drewN | apply Kd.R_drew)); exact HO_407000.out⟩, ⟨by (with_reducible repeat (first | refine blk_drewN ?_ _ | refine blk_drew ?_ | refine blk_alloc ?_ _)); exact BK399.out⟩, ⟨by (with_reducible repeat (first | refine blk_drewN ?_ _ | refine blk_drew ?_ | refine blk_alloc ?_ _)); exact BK400.out⟩, ⟨by (with_reducible repeat (first | refine blk_drewN ?_ _ | refine blk_drew ?_ | refine blk_alloc ?_ _)); exact BK406.out⟩, ⟨by repeat (first | (with_reducible first | exact HB.out | apply below_alloc | apply pw_below_drewN | apply below_drew1 | refine below_set ?_ GE399.out | refine below_set ?_ GE400.out | refine below_set ?_ GE406.out) | exact HB.out)⟩⟩
            · rw [if_neg c49] at H
              have c49b0 : decide (a1_4 ≤ a3) = false := decide_eq_false c49
              clear c49
              (first | rw [c49b0] | (simp only [i64_w, i32_w]; rw [c49b0]) | skip)
              have H' := Aside0.mk H
              clear H
              have hnb53 := NB400_399.out
              have hnc53 := NB399_400.out
              have hnb54 := NB400_406.out
              have hnc54 := NB406_400.out
              have hcz55_0 : w48.cell? ⟨gb400, 0, none⟩ = some (.int .i64 a1_0) := (blk_cell BK400.out 0).trans rfl
              have hcz55_1 : w48.cell? ⟨gb400, 1, none⟩ = some (.string a1_1) := (blk_cell BK400.out 1).trans rfl
              have hcz55_2 : w48.cell? ⟨gb400, 2, none⟩ = some (.string a1_2) := (blk_cell BK400.out 2).trans rfl
              have hcz55_3 : w48.cell? ⟨gb400, 3, none⟩ = some (.int .i64 a1_3) := (blk_cell BK400.out 3).trans rfl
              have hcz55_4 : w48.cell? ⟨gb400, 4, none⟩ = some (.int .i64 a1_4) := (blk_cell BK400.out 4).trans rfl
              have hcz55_5 : w48.cell? ⟨gb400, 5, none⟩ = some (.int .i64 a1_5) := (blk_cell BK400.out 5).trans rfl
              have hfz55_0 := blk_frozen BK400.out 0
              have hfz55_1 := blk_frozen BK400.out 1
              have hfz55_2 := blk_frozen BK400.out 2
              have hfz55_3 := blk_frozen BK400.out 3
              have hfz55_4 := blk_frozen BK400.out 4
              have hfz55_5 := blk_frozen BK400.out 5
              go_wp2
              go_meet
              case rel => exact ⟨_, (false), (by first | rfl | (simp; done) | (simp [*]; done)), H', ⟨by have := HJ13.out; first | omega | exact Nat.le_refl _⟩, ⟨by (with_reducible repeat (first | apply Kd.R_alloc | apply Kd.R_drewN | apply Kd.R_drew)); exact HO_407000.out⟩, ⟨by (with_reducible repeat (first | refine blk_drewN ?_ _ | refine blk_drew ?_ | refine blk_alloc ?_ _)); exact BK399.out⟩, ⟨by (with_reducible repeat (first | refine blk_drewN ?_ _ | refine blk_drew ?_ | refine blk_alloc ?_ _)); exact BK400.out⟩, ⟨by (with_reducible repeat (first | refine blk_drewN ?_ _ | refine blk_drew ?_ | refine blk_alloc ?_ _)); exact BK406.out⟩, ⟨by repeat (first | (with_reducible first | exact HB.out | apply below_alloc | apply pw_below_drewN | apply below_drew1 | refine below_set ?_ GE399.out | refine below_set ?_ GE400.out | refine below_set ?_ GE406.out) | exact HB.out)⟩⟩
          case rest =>
            clear HC44
            try clear c1
            try clear c2
            try clear p2
            try clear c3
            try clear c4
            try clear c5
            try clear p6
            try clear c7
            try clear c7b0
            try clear c7b1
            try clear c11
            try clear c18
            try clear c19
            try clear c24
            try clear c25
            try clear c27
            try clear c27b0
            try clear c27b1
            try clear c28
            try clear c29
            try clear c31
            try clear c33
            try clear c34
            try clear c35
            try clear c35b0
            try clear c35b1
            try clear c37
            try clear c38
            try clear c40
            try clear c45
            try clear c46
            try clear c49
            try clear c49b0
            try clear c50
            try clear c51
            try clear c53
            try clear c54
            try clear hcz12_0
            try clear hcz19_0
            try clear hcz20_0
            try clear hcz20_1
            try clear hcz20_2
            try clear hcz20_3
            try clear hcz20_4
            try clear hcz20_5
            try clear hcz26_0
            try clear hcz30_0
            try clear hcz32_0
            try clear hcz39_0
            try clear hcz41_0
            try clear hcz47_0
            try clear hcz52_0
            try clear hcz52_1
            try clear hcz52_2
            try clear hcz52_3
            try clear hcz52_4
            try clear hcz52_5
            try clear hcz55_0
            try clear hcz55_1
            try clear hcz55_2
            try clear hcz55_3
            try clear hcz55_4
            try clear hcz55_5
            try clear hfz12_0
            try clear hfz19_0
            try clear hfz20_0
            try clear hfz20_1
            try clear hfz20_2
            try clear hfz20_3
            try clear hfz20_4
            try clear hfz20_5
            try clear hfz26_0
            try clear hfz30_0
            try clear hfz32_0
            try clear hfz39_0
            try clear hfz41_0
            try clear hfz47_0
            try clear hfz52_0
            try clear hfz52_1
            try clear hfz52_2
            try clear hfz52_3
            try clear hfz52_4
            try clear hfz52_5
            try clear hfz55_0
            try clear hfz55_1
            try clear hfz55_2
            try clear hfz55_3
            try clear hfz55_4
            try clear hfz55_5
            try clear p2
            try clear p6
            obtain ⟨kq, x63_43, rfl, HA, HJ43, HO_407000, BK399, BK400, BK406, HB⟩ := hcut
            cases kq with
            | zero => exact absurd HA.out (by simp [wageofficelaw39_LedgerPosting.j1])
            | succ kj43 =>
              have H := HA.out
              clear HA
              simp only [wageofficelaw39_LedgerPosting.j1] at H
              by_cases c56 : x63_43 = true
              · subst c56
                have H1 : (if a2.toList = a1_1.toList then (if a2.toList = a1_2.toList then (if t401 = true then ((ledger_Balance.f t402 a2 a3 a4).bind fun t409 => (some (t409 == (wrap64 ((wrap64 (t408 + a1_3)) - a1_3))))) else (some false)) else (if t401 = true then ((ledger_Balance.f t402 a2 a3 a4).bind fun t410 => (some (t410 == (wrap64 (t408 + a1_3))))) else (some false))) else (if a2.toList = a1_2.toList then (if t401 = true then ((ledger_Balance.f t402 a2 a3 a4).bind fun t411 => (some (t411 == (wrap64 (t408 - a1_3))))) else (some false)) else (if t401 = true then ((ledger_Balance.f t402 a2 a3 a4).bind fun t412 => (some (t412 == t408))) else (some false)))) = some r := by rw [if_pos rfl] at H; exact H
                clear H
                have H := H1
                clear H1
                by_cases c57 : a2.toList = a1_1.toList
                · rw [if_pos c57] at H
                  have c57b0 : (a2.toList == a1_1.toList) = true := beq_iff_eq.mpr c57
                  have c57b1 : (a2.toList != a1_1.toList) = false := bne_eq_false_iff_eq.mpr c57
                  clear c57
                  by_cases c58 : a2.toList = a1_2.toList
                  · rw [if_pos c58] at H
                    have c58b0 : (a2.toList == a1_2.toList) = true := beq_iff_eq.mpr c58
                    have c58b1 : (a2.toList != a1_2.toList) = false := bne_eq_false_iff_eq.mpr c58
                    clear c58
                    by_cases c59 : t401 = true
                    · subst c59
                      have H1 : ((ledger_Balance.f t402 a2 a3 a4).bind fun t409 => (some (t409 == (wrap64 ((wrap64 (t408 + a1_3)) - a1_3))))) = some r := by rw [if_pos rfl] at H; exact H
                      clear H
                      have H := H1
                      clear H1
                      replace H := Option.bind_eq_some_iff.mp H
                      obtain ⟨t409, A600, H⟩ := H
                      replace H : (some (t409 == (wrap64 ((wrap64 (t408 + a1_3)) - a1_3)))) = some r := H
                      have A60 := Aside0.mk A600
                      clear A600
                      obtain rfl := Option.some.inj H
                      have hnb61 := NB400_399.out
                      have hnc61 := NB399_400.out
                      have hnb62 := NB400_406.out
                      have hnc62 := NB406_400.out
                      have hcz63_0 : wc.cell? ⟨gb400, 0, none⟩ = some (.int .i64 a1_0) := (blk_cell BK400.out 0).trans rfl
                      have hcz63_1 : wc.cell? ⟨gb400, 1, none⟩ = some (.string a1_1) := (blk_cell BK400.out 1).trans rfl
                      have hcz63_2 : wc.cell? ⟨gb400, 2, none⟩ = some (.string a1_2) := (blk_cell BK400.out 2).trans rfl
                      have hcz63_3 : wc.cell? ⟨gb400, 3, none⟩ = some (.int .i64 a1_3) := (blk_cell BK400.out 3).trans rfl
                      have hcz63_4 : wc.cell? ⟨gb400, 4, none⟩ = some (.int .i64 a1_4) := (blk_cell BK400.out 4).trans rfl
                      have hcz63_5 : wc.cell? ⟨gb400, 5, none⟩ = some (.int .i64 a1_5) := (blk_cell BK400.out 5).trans rfl
                      have hfz63_0 := blk_frozen BK400.out 0
                      have hfz63_1 := blk_frozen BK400.out 1
                      have hfz63_2 := blk_frozen BK400.out 2
                      have hfz63_3 := blk_frozen BK400.out 3
                      have hfz63_4 := blk_frozen BK400.out 4
                      have hfz63_5 := blk_frozen BK400.out 5
                      have hnb64 := NB406_399.out
                      have hnc64 := NB399_406.out
                      have hcz65_0 : wc.cell? ⟨gb406, 0, none⟩ = some (.slice Ao23 t402.length co23) := (blk_cell BK406.out 0).trans rfl
                      have hfz65_0 := blk_frozen BK406.out 0
                      go_wp2_with (first | (go_at_call 24; (with_reducible refine (ledger_Balance.calls _ _ t402 a2 a3 a4 t409 _ ?side1 ?side2 A60.out).mono ?_); (case side1 => repeat (first | exact (Kd.R_reads' HO_407000.out).2.2 | (with_reducible refine Kd.C_alloc ?_ _) | (with_reducible refine Kd.C_drewN ?_ _) | (with_reducible refine Kd.C_drew ?_))); (case side2 => exact (Kd.R_reads' HO_407000.out).2.1); rintro e w66 ⟨rfl, hb⟩; have n0_ := Aside0.mk (Kd.R_below (by (with_reducible repeat (first | apply Kd.R_alloc | apply Kd.R_drewN | apply Kd.R_drew)); exact HO_407000.out) hb); have n1_ := Aside0.mk (blk_below (g := gb399) (o := .cells #[.slice A0_0 l0_0.length c0_0] 24 (0, 0)) (by (with_reducible repeat (first | refine blk_drewN ?_ _ | refine blk_drew ?_ | refine blk_alloc ?_ _)); exact BK399.out) hb); have n2_ := Aside0.mk (blk_below (g := gb400) (o := .cells #[.int .i64 a1_0, .string a1_1, .string a1_2, .int .i64 a1_3, .int .i64 a1_4, .int .i64 a1_5] 26 (0, 0)) (by (with_reducible repeat (first | refine blk_drewN ?_ _ | refine blk_drew ?_ | refine blk_alloc ?_ _)); exact BK400.out) hb); have n3_ := Aside0.mk (blk_below (g := gb406) (o := .cells #[.slice Ao23 t402.length co23] 24 (0, 0)) (by (with_reducible repeat (first | refine blk_drewN ?_ _ | refine blk_drew ?_ | refine blk_alloc ?_ _)); exact BK406.out) hb); have n4_ := Aside0.mk (below_step (by repeat (first | (with_reducible first | exact HB.out | apply below_alloc | apply pw_below_drewN | apply below_drew1 | refine below_set ?_ GE399.out | refine below_set ?_ GE400.out | refine below_set ?_ GE406.out) | exact HB.out)) hb); clear HO_407000; clear BK399; clear BK400; clear BK406; clear HB; have HO_407000 := n0_; have BK399 := n1_; have BK400 := n2_; have BK406 := n3_; have HB := n4_; clear n0_ n1_ n2_ n3_ n4_; (try clear hb); (try clear hb2); (try clear hk); (try clear hi)))
                      go_ret
                      exact ⟨by first | rfl | (simp [errW_none, errW_some] <;> rfl) | (simp [*, errW_none, errW_some] <;> rfl), by repeat (first | (with_reducible first | exact HB.out | apply below_alloc | apply pw_below_drewN | apply below_drew1 | refine below_set ?_ GE399.out | refine below_set ?_ GE400.out | refine below_set ?_ GE406.out) | exact HB.out)⟩
                    · replace c59 := Bool.eq_false_iff.mpr c59
                      subst c59
                      have H1 : (some false) = some r := by rw [if_neg (show ¬ (false = true) by decide)] at H; exact H
                      clear H
                      have H := H1
                      clear H1
                      obtain rfl := Option.some.inj H
                      have hnb67 := NB400_399.out
                      have hnc67 := NB399_400.out
                      have hnb68 := NB400_406.out
                      have hnc68 := NB406_400.out
                      have hcz69_0 : wc.cell? ⟨gb400, 0, none⟩ = some (.int .i64 a1_0) := (blk_cell BK400.out 0).trans rfl
                      have hcz69_1 : wc.cell? ⟨gb400, 1, none⟩ = some (.string a1_1) := (blk_cell BK400.out 1).trans rfl
                      have hcz69_2 : wc.cell? ⟨gb400, 2, none⟩ = some (.string a1_2) := (blk_cell BK400.out 2).trans rfl
                      have hcz69_3 : wc.cell? ⟨gb400, 3, none⟩ = some (.int .i64 a1_3) := (blk_cell BK400.out 3).trans rfl
                      have hcz69_4 : wc.cell? ⟨gb400, 4, none⟩ = some (.int .i64 a1_4) := (blk_cell BK400.out 4).trans rfl
                      have hcz69_5 : wc.cell? ⟨gb400, 5, none⟩ = some (.int .i64 a1_5) := (blk_cell BK400.out 5).trans rfl
                      have hfz69_0 := blk_frozen BK400.out 0
                      have hfz69_1 := blk_frozen BK400.out 1
                      have hfz69_2 := blk_frozen BK400.out 2
                      have hfz69_3 := blk_frozen BK400.out 3
                      have hfz69_4 := blk_frozen BK400.out 4
                      have hfz69_5 := blk_frozen BK400.out 5
                      go_wp2
                      go_ret
                      exact ⟨by first | rfl | (simp [errW_none, errW_some] <;> rfl) | (simp [*, errW_none, errW_some] <;> rfl), by repeat (first | (with_reducible first | exact HB.out | apply below_alloc | apply pw_below_drewN | apply below_drew1 | refine below_set ?_ GE399.out | refine below_set ?_ GE400.out | refine below_set ?_ GE406.out) | exact HB.out)⟩
                  · rw [if_neg c58] at H
                    have c58b0 : (a2.toList == a1_2.toList) = false := beq_eq_false_iff_ne.mpr c58
                    have c58b1 : (a2.toList != a1_2.toList) = true := bne_iff_ne.mpr c58
                    by_cases c70 : t401 = true
                    · subst c70
                      have H1 : ((ledger_Balance.f t402 a2 a3 a4).bind fun t410 => (some (t410 == (wrap64 (t408 + a1_3))))) = some r := by rw [if_pos rfl] at H; exact H
                      clear H
                      have H := H1
                      clear H1
                      replace H := Option.bind_eq_some_iff.mp H
                      obtain ⟨t410, A710, H⟩ := H
                      replace H : (some (t410 == (wrap64 (t408 + a1_3)))) = some r := H
                      have A71 := Aside0.mk A710
                      clear A710
                      obtain rfl := Option.some.inj H
                      have hnb72 := NB400_399.out
                      have hnc72 := NB399_400.out
                      have hnb73 := NB400_406.out
                      have hnc73 := NB406_400.out
                      have hcz74_0 : wc.cell? ⟨gb400, 0, none⟩ = some (.int .i64 a1_0) := (blk_cell BK400.out 0).trans rfl
                      have hcz74_1 : wc.cell? ⟨gb400, 1, none⟩ = some (.string a1_1) := (blk_cell BK400.out 1).trans rfl
                      have hcz74_2 : wc.cell? ⟨gb400, 2, none⟩ = some (.string a1_2) := (blk_cell BK400.out 2).trans rfl
                      have hcz74_3 : wc.cell? ⟨gb400, 3, none⟩ = some (.int .i64 a1_3) := (blk_cell BK400.out 3).trans rfl
                      have hcz74_4 : wc.cell? ⟨gb400, 4, none⟩ = some (.int .i64 a1_4) := (blk_cell BK400.out 4).trans rfl
                      have hcz74_5 : wc.cell? ⟨gb400, 5, none⟩ = some (.int .i64 a1_5) := (blk_cell BK400.out 5).trans rfl
                      have hfz74_0 := blk_frozen BK400.out 0
                      have hfz74_1 := blk_frozen BK400.out 1
                      have hfz74_2 := blk_frozen BK400.out 2
                      have hfz74_3 := blk_frozen BK400.out 3
                      have hfz74_4 := blk_frozen BK400.out 4
                      have hfz74_5 := blk_frozen BK400.out 5
                      have hnb75 := NB406_399.out
                      have hnc75 := NB399_406.out
                      have hcz76_0 : wc.cell? ⟨gb406, 0, none⟩ = some (.slice Ao23 t402.length co23) := (blk_cell BK406.out 0).trans rfl
                      have hfz76_0 := blk_frozen BK406.out 0
                      go_wp2_with (first | (go_at_call 24; (with_reducible refine (ledger_Balance.calls _ _ t402 a2 a3 a4 t410 _ ?side1 ?side2 A71.out).mono ?_); (case side1 => repeat (first | exact (Kd.R_reads' HO_407000.out).2.2 | (with_reducible refine Kd.C_alloc ?_ _) | (with_reducible refine Kd.C_drewN ?_ _) | (with_reducible refine Kd.C_drew ?_))); (case side2 => exact (Kd.R_reads' HO_407000.out).2.1); rintro e w77 ⟨rfl, hb⟩; have n0_ := Aside0.mk (Kd.R_below (by (with_reducible repeat (first | apply Kd.R_alloc | apply Kd.R_drewN | apply Kd.R_drew)); exact HO_407000.out) hb); have n1_ := Aside0.mk (blk_below (g := gb399) (o := .cells #[.slice A0_0 l0_0.length c0_0] 24 (0, 0)) (by (with_reducible repeat (first | refine blk_drewN ?_ _ | refine blk_drew ?_ | refine blk_alloc ?_ _)); exact BK399.out) hb); have n2_ := Aside0.mk (blk_below (g := gb400) (o := .cells #[.int .i64 a1_0, .string a1_1, .string a1_2, .int .i64 a1_3, .int .i64 a1_4, .int .i64 a1_5] 26 (0, 0)) (by (with_reducible repeat (first | refine blk_drewN ?_ _ | refine blk_drew ?_ | refine blk_alloc ?_ _)); exact BK400.out) hb); have n3_ := Aside0.mk (blk_below (g := gb406) (o := .cells #[.slice Ao23 t402.length co23] 24 (0, 0)) (by (with_reducible repeat (first | refine blk_drewN ?_ _ | refine blk_drew ?_ | refine blk_alloc ?_ _)); exact BK406.out) hb); have n4_ := Aside0.mk (below_step (by repeat (first | (with_reducible first | exact HB.out | apply below_alloc | apply pw_below_drewN | apply below_drew1 | refine below_set ?_ GE399.out | refine below_set ?_ GE400.out | refine below_set ?_ GE406.out) | exact HB.out)) hb); clear HO_407000; clear BK399; clear BK400; clear BK406; clear HB; have HO_407000 := n0_; have BK399 := n1_; have BK400 := n2_; have BK406 := n3_; have HB := n4_; clear n0_ n1_ n2_ n3_ n4_; (try clear hb); (try clear hb2); (try clear hk); (try clear hi)))
                      go_ret
                      exact ⟨by first | rfl | (simp [errW_none, errW_some] <;> rfl) | (simp [*, errW_none, errW_some] <;> rfl), by repeat (first | (with_reducible first | exact HB.out | apply below_alloc | apply pw_below_drewN | apply below_drew1 | refine below_set ?_ GE399.out | refine below_set ?_ GE400.out | refine below_set ?_ GE406.out) | exact HB.out)⟩
                    · replace c70 := Bool.eq_false_iff.mpr c70
                      subst c70
                      have H1 : (some false) = some r := by rw [if_neg (show ¬ (false = true) by decide)] at H; exact H
                      clear H
                      have H := H1
                      clear H1
                      obtain rfl := Option.some.inj H
                      have hnb78 := NB400_399.out
                      have hnc78 := NB399_400.out
                      have hnb79 := NB400_406.out
                      have hnc79 := NB406_400.out
                      have hcz80_0 : wc.cell? ⟨gb400, 0, none⟩ = some (.int .i64 a1_0) := (blk_cell BK400.out 0).trans rfl
                      have hcz80_1 : wc.cell? ⟨gb400, 1, none⟩ = some (.string a1_1) := (blk_cell BK400.out 1).trans rfl
                      have hcz80_2 : wc.cell? ⟨gb400, 2, none⟩ = some (.string a1_2) := (blk_cell BK400.out 2).trans rfl
                      have hcz80_3 : wc.cell? ⟨gb400, 3, none⟩ = some (.int .i64 a1_3) := (blk_cell BK400.out 3).trans rfl
                      have hcz80_4 : wc.cell? ⟨gb400, 4, none⟩ = some (.int .i64 a1_4) := (blk_cell BK400.out 4).trans rfl
                      have hcz80_5 : wc.cell? ⟨gb400, 5, none⟩ = some (.int .i64 a1_5) := (blk_cell BK400.out 5).trans rfl
                      have hfz80_0 := blk_frozen BK400.out 0
                      have hfz80_1 := blk_frozen BK400.out 1
                      have hfz80_2 := blk_frozen BK400.out 2
                      have hfz80_3 := blk_frozen BK400.out 3
                      have hfz80_4 := blk_frozen BK400.out 4
                      have hfz80_5 := blk_frozen BK400.out 5
                      go_wp2
                      go_ret
                      exact ⟨by first | rfl | (simp [errW_none, errW_some] <;> rfl) | (simp [*, errW_none, errW_some] <;> rfl), by repeat (first | (with_reducible first | exact HB.out | apply below_alloc | apply pw_below_drewN | apply below_drew1 | refine below_set ?_ GE399.out | refine below_set ?_ GE400.out | refine below_set ?_ GE406.out) | exact HB.out)⟩
                · rw [if_neg c57] at H
                  have c57b0 : (a2.toList == a1_1.toList) = false := beq_eq_false_iff_ne.mpr c57
                  have c57b1 : (a2.toList != a1_1.toList) = true := bne_iff_ne.mpr c57
                  by_cases c81 : a2.toList = a1_2.toList
                  · rw [if_pos c81] at H
                    have c81b0 : (a2.toList == a1_2.toList) = true := beq_iff_eq.mpr c81
                    have c81b1 : (a2.toList != a1_2.toList) = false := bne_eq_false_iff_eq.mpr c81
                    clear c81
                    by_cases c82 : t401 = true
                    · subst c82
                      have H1 : ((ledger_Balance.f t402 a2 a3 a4).bind fun t411 => (some (t411 == (wrap64 (t408 - a1_3))))) = some r := by rw [if_pos rfl] at H; exact H
                      clear H
                      have H := H1
                      clear H1
                      replace H := Option.bind_eq_some_iff.mp H
                      obtain ⟨t411, A830, H⟩ := H
                      replace H : (some (t411 == (wrap64 (t408 - a1_3)))) = some r := H
                      have A83 := Aside0.mk A830
                      clear A830
                      obtain rfl := Option.some.inj H
                      have hnb84 := NB400_399.out
                      have hnc84 := NB399_400.out
                      have hnb85 := NB400_406.out
                      have hnc85 := NB406_400.out
                      have hcz86_0 : wc.cell? ⟨gb400, 0, none⟩ = some (.int .i64 a1_0) := (blk_cell BK400.out 0).trans rfl
                      have hcz86_1 : wc.cell? ⟨gb400, 1, none⟩ = some (.string a1_1) := (blk_cell BK400.out 1).trans rfl
                      have hcz86_2 : wc.cell? ⟨gb400, 2, none⟩ = some (.string a1_2) := (blk_cell BK400.out 2).trans rfl
                      have hcz86_3 : wc.cell? ⟨gb400, 3, none⟩ = some (.int .i64 a1_3) := (blk_cell BK400.out 3).trans rfl
                      have hcz86_4 : wc.cell? ⟨gb400, 4, none⟩ = some (.int .i64 a1_4) := (blk_cell BK400.out 4).trans rfl
                      have hcz86_5 : wc.cell? ⟨gb400, 5, none⟩ = some (.int .i64 a1_5) := (blk_cell BK400.out 5).trans rfl
                      have hfz86_0 := blk_frozen BK400.out 0
                      have hfz86_1 := blk_frozen BK400.out 1
                      have hfz86_2 := blk_frozen BK400.out 2
                      have hfz86_3 := blk_frozen BK400.out 3
                      have hfz86_4 := blk_frozen BK400.out 4
                      have hfz86_5 := blk_frozen BK400.out 5
                      have hnb87 := NB406_399.out
                      have hnc87 := NB399_406.out
                      have hcz88_0 : wc.cell? ⟨gb406, 0, none⟩ = some (.slice Ao23 t402.length co23) := (blk_cell BK406.out 0).trans rfl
                      have hfz88_0 := blk_frozen BK406.out 0
                      go_wp2_with (first | (go_at_call 24; (with_reducible refine (ledger_Balance.calls _ _ t402 a2 a3 a4 t411 _ ?side1 ?side2 A83.out).mono ?_); (case side1 => repeat (first | exact (Kd.R_reads' HO_407000.out).2.2 | (with_reducible refine Kd.C_alloc ?_ _) | (with_reducible refine Kd.C_drewN ?_ _) | (with_reducible refine Kd.C_drew ?_))); (case side2 => exact (Kd.R_reads' HO_407000.out).2.1); rintro e w89 ⟨rfl, hb⟩; have n0_ := Aside0.mk (Kd.R_below (by (with_reducible repeat (first | apply Kd.R_alloc | apply Kd.R_drewN | apply Kd.R_drew)); exact HO_407000.out) hb); have n1_ := Aside0.mk (blk_below (g := gb399) (o := .cells #[.slice A0_0 l0_0.length c0_0] 24 (0, 0)) (by (with_reducible repeat (first | refine blk_drewN ?_ _ | refine blk_drew ?_ | refine blk_alloc ?_ _)); exact BK399.out) hb); have n2_ := Aside0.mk (blk_below (g := gb400) (o := .cells #[.int .i64 a1_0, .string a1_1, .string a1_2, .int .i64 a1_3, .int .i64 a1_4, .int .i64 a1_5] 26 (0, 0)) (by (with_reducible repeat (first | refine blk_drewN ?_ _ | refine blk_drew ?_ | refine blk_alloc ?_ _)); exact BK400.out) hb); have n3_ := Aside0.mk (blk_below (g := gb406) (o := .cells #[.slice Ao23 t402.length co23] 24 (0, 0)) (by (with_reducible repeat (first | refine blk_drewN ?_ _ | refine blk_drew ?_ | refine blk_alloc ?_ _)); exact BK406.out) hb); have n4_ := Aside0.mk (below_step (by repeat (first | (with_reducible first | exact HB.out | apply below_alloc | apply pw_below_drewN | apply below_drew1 | refine below_set ?_ GE399.out | refine below_set ?_ GE400.out | refine below_set ?_ GE406.out) | exact HB.out)) hb); clear HO_407000; clear BK399; clear BK400; clear BK406; clear HB; have HO_407000 := n0_; have BK399 := n1_; have BK400 := n2_; have BK406 := n3_; have HB := n4_; clear n0_ n1_ n2_ n3_ n4_; (try clear hb); (try clear hb2); (try clear hk); (try clear hi)))
                      go_ret
                      exact ⟨by first | rfl | (simp [errW_none, errW_some] <;> rfl) | (simp [*, errW_none, errW_some] <;> rfl), by repeat (first | (with_reducible first | exact HB.out | apply below_alloc | apply pw_below_drewN | apply below_drew1 | refine below_set ?_ GE399.out | refine below_set ?_ GE400.out | refine below_set ?_ GE406.out) | exact HB.out)⟩
                    · replace c82 := Bool.eq_false_iff.mpr c82
                      subst c82
                      have H1 : (some false) = some r := by rw [if_neg (show ¬ (false = true) by decide)] at H; exact H
                      clear H
                      have H := H1
                      clear H1
                      obtain rfl := Option.some.inj H
                      have hnb90 := NB400_399.out
                      have hnc90 := NB399_400.out
                      have hnb91 := NB400_406.out
                      have hnc91 := NB406_400.out
                      have hcz92_0 : wc.cell? ⟨gb400, 0, none⟩ = some (.int .i64 a1_0) := (blk_cell BK400.out 0).trans rfl
                      have hcz92_1 : wc.cell? ⟨gb400, 1, none⟩ = some (.string a1_1) := (blk_cell BK400.out 1).trans rfl
                      have hcz92_2 : wc.cell? ⟨gb400, 2, none⟩ = some (.string a1_2) := (blk_cell BK400.out 2).trans rfl
                      have hcz92_3 : wc.cell? ⟨gb400, 3, none⟩ = some (.int .i64 a1_3) := (blk_cell BK400.out 3).trans rfl
                      have hcz92_4 : wc.cell? ⟨gb400, 4, none⟩ = some (.int .i64 a1_4) := (blk_cell BK400.out 4).trans rfl
                      have hcz92_5 : wc.cell? ⟨gb400, 5, none⟩ = some (.int .i64 a1_5) := (blk_cell BK400.out 5).trans rfl
                      have hfz92_0 := blk_frozen BK400.out 0
                      have hfz92_1 := blk_frozen BK400.out 1
                      have hfz92_2 := blk_frozen BK400.out 2
                      have hfz92_3 := blk_frozen BK400.out 3
                      have hfz92_4 := blk_frozen BK400.out 4
                      have hfz92_5 := blk_frozen BK400.out 5
                      go_wp2
                      go_ret
                      exact ⟨by first | rfl | (simp [errW_none, errW_some] <;> rfl) | (simp [*, errW_none, errW_some] <;> rfl), by repeat (first | (with_reducible first | exact HB.out | apply below_alloc | apply pw_below_drewN | apply below_drew1 | refine below_set ?_ GE399.out | refine below_set ?_ GE400.out | refine below_set ?_ GE406.out) | exact HB.out)⟩
                  · rw [if_neg c81] at H
                    have c81b0 : (a2.toList == a1_2.toList) = false := beq_eq_false_iff_ne.mpr c81
                    have c81b1 : (a2.toList != a1_2.toList) = true := bne_iff_ne.mpr c81
                    by_cases c93 : t401 = true
                    · subst c93
                      have H1 : ((ledger_Balance.f t402 a2 a3 a4).bind fun t412 => (some (t412 == t408))) = some r := by rw [if_pos rfl] at H; exact H
                      clear H
                      have H := H1
                      clear H1
                      replace H := Option.bind_eq_some_iff.mp H
                      obtain ⟨t412, A940, H⟩ := H
                      replace H : (some (t412 == t408)) = some r := H
                      have A94 := Aside0.mk A940
                      clear A940
                      obtain rfl := Option.some.inj H
                      have hnb95 := NB400_399.out
                      have hnc95 := NB399_400.out
                      have hnb96 := NB400_406.out
                      have hnc96 := NB406_400.out
                      have hcz97_0 : wc.cell? ⟨gb400, 0, none⟩ = some (.int .i64 a1_0) := (blk_cell BK400.out 0).trans rfl
                      have hcz97_1 : wc.cell? ⟨gb400, 1, none⟩ = some (.string a1_1) := (blk_cell BK400.out 1).trans rfl
                      have hcz97_2 : wc.cell? ⟨gb400, 2, none⟩ = some (.string a1_2) := (blk_cell BK400.out 2).trans rfl
                      have hcz97_3 : wc.cell? ⟨gb400, 3, none⟩ = some (.int .i64 a1_3) := (blk_cell BK400.out 3).trans rfl
                      have hcz97_4 : wc.cell? ⟨gb400, 4, none⟩ = some (.int .i64 a1_4) := (blk_cell BK400.out 4).trans rfl
                      have hcz97_5 : wc.cell? ⟨gb400, 5, none⟩ = some (.int .i64 a1_5) := (blk_cell BK400.out 5).trans rfl
                      have hfz97_0 := blk_frozen BK400.out 0
                      have hfz97_1 := blk_frozen BK400.out 1
                      have hfz97_2 := blk_frozen BK400.out 2
                      have hfz97_3 := blk_frozen BK400.out 3
                      have hfz97_4 := blk_frozen BK400.out 4
                      have hfz97_5 := blk_frozen BK400.out 5
                      have hnb98 := NB406_399.out
                      have hnc98 := NB399_406.out
                      have hcz99_0 : wc.cell? ⟨gb406, 0, none⟩ = some (.slice Ao23 t402.length co23) := (blk_cell BK406.out 0).trans rfl
                      have hfz99_0 := blk_frozen BK406.out 0
                      go_wp2_with (first | (go_at_call 24; (with_reducible refine (ledger_Balance.calls _ _ t402 a2 a3 a4 t412 _ ?side1 ?side2 A94.out).mono ?_); (case side1 => repeat (first | exact (Kd.R_reads' HO_407000.out).2.2 | (with_reducible refine Kd.C_alloc ?_ _) | (with_reducible refine Kd.C_drewN ?_ _) | (with_reducible refine Kd.C_drew ?_))); (case side2 => exact (Kd.R_reads' HO_407000.out).2.1); rintro e w100 ⟨rfl, hb⟩; have n0_ := Aside0.mk (Kd.R_below (by (with_reducible repeat (first | apply Kd.R_alloc | apply Kd.R_drewN | apply Kd.R_drew)); exact HO_407000.out) hb); have n1_ := Aside0.mk (blk_below (g := gb399) (o := .cells #[.slice A0_0 l0_0.length c0_0] 24 (0, 0)) (by (with_reducible repeat (first | refine blk_drewN ?_ _ | refine blk_drew ?_ | refine blk_alloc ?_ _)); exact BK399.out) hb); have n2_ := Aside0.mk (blk_below (g := gb400) (o := .cells #[.int .i64 a1_0, .string a1_1, .string a1_2, .int .i64 a1_3, .int .i64 a1_4, .int .i64 a1_5] 26 (0, 0)) (by (with_reducible repeat (first | refine blk_drewN ?_ _ | refine blk_drew ?_ | refine blk_alloc ?_ _)); exact BK400.out) hb); have n3_ := Aside0.mk (blk_below (g := gb406) (o := .cells #[.slice Ao23 t402.length co23] 24 (0, 0)) (by (with_reducible repeat (first | refine blk_drewN ?_ _ | refine blk_drew ?_ | refine blk_alloc ?_ _)); exact BK406.out) hb); have n4_ := Aside0.mk (below_step (by repeat (first | (with_reducible first | exact HB.out | apply below_alloc | apply pw_below_drewN | apply below_drew1 | refine below_set ?_ GE399.out | refine below_set ?_ GE400.out | refine below_set ?_ GE406.out) | exact HB.out)) hb); clear HO_407000; clear BK399; clear BK400; clear BK406; clear HB; have HO_407000 := n0_; have BK399 := n1_; have BK400 := n2_; have BK406 := n3_; have HB := n4_; clear n0_ n1_ n2_ n3_ n4_; (try clear hb); (try clear hb2); (try clear hk); (try clear hi)))
                      go_ret
                      exact ⟨by first | rfl | (simp [errW_none, errW_some] <;> rfl) | (simp [*, errW_none, errW_some] <;> rfl), by repeat (first | (with_reducible first | exact HB.out | apply below_alloc | apply pw_below_drewN | apply below_drew1 | refine below_set ?_ GE399.out | refine below_set ?_ GE400.out | refine below_set ?_ GE406.out) | exact HB.out)⟩
                    · replace c93 := Bool.eq_false_iff.mpr c93
                      subst c93
                      have H1 : (some false) = some r := by rw [if_neg (show ¬ (false = true) by decide)] at H; exact H
                      clear H
                      have H := H1
                      clear H1
                      obtain rfl := Option.some.inj H
                      have hnb101 := NB400_399.out
                      have hnc101 := NB399_400.out
                      have hnb102 := NB400_406.out
                      have hnc102 := NB406_400.out
                      have hcz103_0 : wc.cell? ⟨gb400, 0, none⟩ = some (.int .i64 a1_0) := (blk_cell BK400.out 0).trans rfl
                      have hcz103_1 : wc.cell? ⟨gb400, 1, none⟩ = some (.string a1_1) := (blk_cell BK400.out 1).trans rfl
                      have hcz103_2 : wc.cell? ⟨gb400, 2, none⟩ = some (.string a1_2) := (blk_cell BK400.out 2).trans rfl
                      have hcz103_3 : wc.cell? ⟨gb400, 3, none⟩ = some (.int .i64 a1_3) := (blk_cell BK400.out 3).trans rfl
                      have hcz103_4 : wc.cell? ⟨gb400, 4, none⟩ = some (.int .i64 a1_4) := (blk_cell BK400.out 4).trans rfl
                      have hcz103_5 : wc.cell? ⟨gb400, 5, none⟩ = some (.int .i64 a1_5) := (blk_cell BK400.out 5).trans rfl
                      have hfz103_0 := blk_frozen BK400.out 0
                      have hfz103_1 := blk_frozen BK400.out 1
                      have hfz103_2 := blk_frozen BK400.out 2
                      have hfz103_3 := blk_frozen BK400.out 3
                      have hfz103_4 := blk_frozen BK400.out 4
                      have hfz103_5 := blk_frozen BK400.out 5
                      go_wp2
                      go_ret
                      exact ⟨by first | rfl | (simp [errW_none, errW_some] <;> rfl) | (simp [*, errW_none, errW_some] <;> rfl), by repeat (first | (with_reducible first | exact HB.out | apply below_alloc | apply pw_below_drewN | apply below_drew1 | refine below_set ?_ GE399.out | refine below_set ?_ GE400.out | refine below_set ?_ GE406.out) | exact HB.out)⟩
              · replace c56 := Bool.eq_false_iff.mpr c56
                subst c56
                have H1 : (if t401 = true then ((ledger_Balance.f t402 a2 a3 a4).bind fun t413 => (some (t413 == t408))) else (some false)) = some r := by rw [if_neg (show ¬ (false = true) by decide)] at H; exact H
                clear H
                have H := H1
                clear H1
                by_cases c104 : t401 = true
                · subst c104
                  have H1 : ((ledger_Balance.f t402 a2 a3 a4).bind fun t413 => (some (t413 == t408))) = some r := by rw [if_pos rfl] at H; exact H
                  clear H
                  have H := H1
                  clear H1
                  replace H := Option.bind_eq_some_iff.mp H
                  obtain ⟨t413, A1050, H⟩ := H
                  replace H : (some (t413 == t408)) = some r := H
                  have A105 := Aside0.mk A1050
                  clear A1050
                  obtain rfl := Option.some.inj H
                  have hnb106 := NB406_399.out
                  have hnc106 := NB399_406.out
                  have hnb107 := NB406_400.out
                  have hnc107 := NB400_406.out
                  have hcz108_0 : wc.cell? ⟨gb406, 0, none⟩ = some (.slice Ao23 t402.length co23) := (blk_cell BK406.out 0).trans rfl
                  have hfz108_0 := blk_frozen BK406.out 0
                  go_wp2_with (first | (go_at_call 24; (with_reducible refine (ledger_Balance.calls _ _ t402 a2 a3 a4 t413 _ ?side1 ?side2 A105.out).mono ?_); (case side1 => repeat (first | exact (Kd.R_reads' HO_407000.out).2.2 | (with_reducible refine Kd.C_alloc ?_ _) | (with_reducible refine Kd.C_drewN ?_ _) | (with_reducible refine Kd.C_drew ?_))); (case side2 => exact (Kd.R_reads' HO_407000.out).2.1); rintro e w109 ⟨rfl, hb⟩; have n0_ := Aside0.mk (Kd.R_below (by (with_reducible repeat (first | apply Kd.R_alloc | apply Kd.R_drewN | apply Kd.R_drew)); exact HO_407000.out) hb); have n1_ := Aside0.mk (blk_below (g := gb399) (o := .cells #[.slice A0_0 l0_0.length c0_0] 24 (0, 0)) (by (with_reducible repeat (first | refine blk_drewN ?_ _ | refine blk_drew ?_ | refine blk_alloc ?_ _)); exact BK399.out) hb); have n2_ := Aside0.mk (blk_below (g := gb400) (o := .cells #[.int .i64 a1_0, .string a1_1, .string a1_2, .int .i64 a1_3, .int .i64 a1_4, .int .i64 a1_5] 26 (0, 0)) (by (with_reducible repeat (first | refine blk_drewN ?_ _ | refine blk_drew ?_ | refine blk_alloc ?_ _)); exact BK400.out) hb); have n3_ := Aside0.mk (blk_below (g := gb406) (o := .cells #[.slice Ao23 t402.length co23] 24 (0, 0)) (by (with_reducible repeat (first | refine blk_drewN ?_ _ | refine blk_drew ?_ | refine blk_alloc ?_ _)); exact BK406.out) hb); have n4_ := Aside0.mk (below_step (by repeat (first | (with_reducible first | exact HB.out | apply below_alloc | apply pw_below_drewN | apply below_drew1 | refine below_set ?_ GE399.out | refine below_set ?_ GE400.out | refine below_set ?_ GE406.out) | exact HB.out)) hb); clear HO_407000; clear BK399; clear BK400; clear BK406; clear HB; have HO_407000 := n0_; have BK399 := n1_; have BK400 := n2_; have BK406 := n3_; have HB := n4_; clear n0_ n1_ n2_ n3_ n4_; (try clear hb); (try clear hb2); (try clear hk); (try clear hi)))
                  go_ret
                  exact ⟨by first | rfl | (simp [errW_none, errW_some] <;> rfl) | (simp [*, errW_none, errW_some] <;> rfl), by repeat (first | (with_reducible first | exact HB.out | apply below_alloc | apply pw_below_drewN | apply below_drew1 | refine below_set ?_ GE399.out | refine below_set ?_ GE400.out | refine below_set ?_ GE406.out) | exact HB.out)⟩
                · replace c104 := Bool.eq_false_iff.mpr c104
                  subst c104
                  have H1 : (some false) = some r := by rw [if_neg (show ¬ (false = true) by decide)] at H; exact H
                  clear H
                  have H := H1
                  clear H1
                  obtain rfl := Option.some.inj H
                  go_wp2
                  go_ret
                  exact ⟨by first | rfl | (simp [errW_none, errW_some] <;> rfl) | (simp [*, errW_none, errW_some] <;> rfl), by repeat (first | (with_reducible first | exact HB.out | apply below_alloc | apply pw_below_drewN | apply below_drew1 | refine below_set ?_ GE399.out | refine below_set ?_ GE400.out | refine below_set ?_ GE406.out) | exact HB.out)⟩

end Go.Proofs.Ytbmochegfdljfaa.My
