-- Written by a program of this session (wip/myprint.py), which drives the kit's print over hand-written fragments. Not trusted: Lean checks it.
import Derived.Test.YtnadfkhllfgoiaaMyx0
namespace Go.Proofs.Ytnadfkhllfgoiaa.My
open Go.Proofs.Ytnadfkhllfgoiaa.Aid Go.Proofs.Ytnadfkhllfgoiaa.KdX
open Go.RowKit Go.Proofs.YtnadfkhllfgoiaaW.PrintWords Go.Proofs.YtnadfkhllfgoiaaW.PrintLast Go.Proofs.YtnadfkhllfgoiaaW.PrintMore
attribute [local go_sem] max2_int min2_int max_two min_two max_three min_three max_four min_four   -- for this text's walks alone
set_option linter.unusedVariables false
set_option linter.unusedSimpArgs false

/-! ### wageofficelaw28_gentle: function 39 -/
mutual
def wageofficelaw28_gentle.l0 : Nat → Bool → List (S75) → Int → Int → Int → List (S75) → Option (Bool)
  | 0, _, _, _, _, _, _ => none
  | k + 1, x1, x10, x11, x12, x632000, x632001 => if x12 < x11 then (if 0 ≤ x12 then (if x12 < (x10.length : Int) then (if ((rd_T75 x10 x12).f2) < 0 then (wageofficelaw28_gentle.j1 k x1 x12 x10 x11 x12 true x632000 x632001 ((rd_T75 x10 x12).f0) ((rd_T75 x10 x12).f1) ((rd_T75 x10 x12).f2)) else (if x1 = true then (if x12 = 0 then (wageofficelaw28_gentle.j1 k x1 x12 x10 x11 x12 false x632000 x632001 ((rd_T75 x10 x12).f0) ((rd_T75 x10 x12).f1) ((rd_T75 x10 x12).f2)) else (wageofficelaw28_gentle.j1 k x1 x12 x10 x11 x12 false x632000 x632001 ((rd_T75 x10 x12).f0) ((rd_T75 x10 x12).f1) ((rd_T75 x10 x12).f2))) else (if ((rd_T75 x10 x12).f2) > x632000 then (wageofficelaw28_gentle.j1 k x1 x12 x10 x11 x12 true x632000 x632001 ((rd_T75 x10 x12).f0) ((rd_T75 x10 x12).f1) ((rd_T75 x10 x12).f2)) else (if x12 = 0 then (wageofficelaw28_gentle.j1 k x1 x12 x10 x11 x12 (decide (((rd_T75 x10 x12).f1) > 0)) x632000 x632001 ((rd_T75 x10 x12).f0) ((rd_T75 x10 x12).f1) ((rd_T75 x10 x12).f2)) else (wageofficelaw28_gentle.j1 k x1 x12 x10 x11 x12 false x632000 x632001 ((rd_T75 x10 x12).f0) ((rd_T75 x10 x12).f1) ((rd_T75 x10 x12).f2)))))) else (none)) else (none)) else (some true)
def wageofficelaw28_gentle.j1 : Nat → Bool → Int → List (S75) → Int → Int → Bool → Int → List (S75) → Int → Int → Int → Option (Bool)
  | 0, _, _, _, _, _, _, _, _, _, _, _ => none
  | k + 1, x1, x5, x10, x11, x12, x43, x632000, x632001, x634000, x634001, x634002 => if x43 = true then (some false) else (if x5 = 0 then (wageofficelaw28_gentle.l0 k x1 x10 x11 (wrap64 (x12 + 1)) x632000 x632001) else (if 0 ≤ (wrap64 (x5 - 1)) then (if (wrap64 (x5 - 1)) < (x632001.length : Int) then (if x634001 < (wrap64 (((rd_T75 x632001 (wrap64 (x5 - 1))).f1) + (wrap64 (((rd_T75 x632001 (wrap64 (x5 - 1))).f2) * (wrap64 ((wrap64 (x634000 - 1)) - ((rd_T75 x632001 (wrap64 (x5 - 1))).f0))))))) then (some false) else (if x1 = true then (wageofficelaw28_gentle.l0 k x1 x10 x11 (wrap64 (x12 + 1)) x632000 x632001) else (if (wrap64 (x634001 - (wrap64 (((rd_T75 x632001 (wrap64 (x5 - 1))).f1) + (wrap64 (((rd_T75 x632001 (wrap64 (x5 - 1))).f2) * (wrap64 ((wrap64 (x634000 - 1)) - ((rd_T75 x632001 (wrap64 (x5 - 1))).f0))))))))) > x632000 then (some false) else (wageofficelaw28_gentle.l0 k x1 x10 x11 (wrap64 (x12 + 1)) x632000 x632001)))) else (none)) else (none)))
end
def wageofficelaw28_gentle.f (k : Nat) (a0_0 : Int) (l0_1 : List (S75)) (a1 : Bool) : Option (Bool) := wageofficelaw28_gentle.l0 k a1 l0_1 (l0_1.length : Int) 0 a0_0 l0_1
theorem wageofficelaw28_gentle.mono_l : ∀ k, (∀ y0 y1 y2 y3 y4 y5, LeO (wageofficelaw28_gentle.l0 k y0 y1 y2 y3 y4 y5) (wageofficelaw28_gentle.l0 (k + 1) y0 y1 y2 y3 y4 y5)) ∧ (∀ y0 y1 y2 y3 y4 y5 y6 y7 y8 y9 y10, LeO (wageofficelaw28_gentle.j1 k y0 y1 y2 y3 y4 y5 y6 y7 y8 y9 y10) (wageofficelaw28_gentle.j1 (k + 1) y0 y1 y2 y3 y4 y5 y6 y7 y8 y9 y10))
  | 0 => ⟨fun _ _ _ _ _ _ r h => by simp [wageofficelaw28_gentle.l0] at h, fun _ _ _ _ _ _ _ _ _ _ _ r h => by simp [wageofficelaw28_gentle.j1] at h⟩
  | k + 1 => by
    obtain ⟨ih0, ih1⟩ := wageofficelaw28_gentle.mono_l k
    refine ⟨?_, ?_⟩
    · intro y0 y1 y2 y3 y4 y5
      unfold wageofficelaw28_gentle.l0
      repeat' first
      | (with_reducible exact ih0 _ _ _ _ _ _)
      | (with_reducible exact ih1 _ _ _ _ _ _ _ _ _ _ _)
      | (with_reducible exact LeO.refl _)
      | (with_reducible exact LeO.none _)
      | (with_reducible refine LeO.ite ?_ ?_)
      | (with_reducible refine LeO.bind ?_ (fun _ => ?_))
      | exact ih0 _ _ _ _ _ _
      | exact ih1 _ _ _ _ _ _ _ _ _ _ _
      | exact LeO.none _
      | refine LeO.ite ?_ ?_
      | refine LeO.bind ?_ (fun _ => ?_)
    · intro y0 y1 y2 y3 y4 y5 y6 y7 y8 y9 y10
      unfold wageofficelaw28_gentle.j1
      repeat' first
      | (with_reducible exact ih0 _ _ _ _ _ _)
      | (with_reducible exact ih1 _ _ _ _ _ _ _ _ _ _ _)
      | (with_reducible exact LeO.refl _)
      | (with_reducible exact LeO.none _)
      | (with_reducible refine LeO.ite ?_ ?_)
      | (with_reducible refine LeO.bind ?_ (fun _ => ?_))
      | exact ih0 _ _ _ _ _ _
      | exact ih1 _ _ _ _ _ _ _ _ _ _ _
      | exact LeO.none _
      | refine LeO.ite ?_ ?_
      | refine LeO.bind ?_ (fun _ => ?_)
theorem wageofficelaw28_gentle.mono : ∀ a0 a1 a2 k, LeO (wageofficelaw28_gentle.f k a0 a1 a2) (wageofficelaw28_gentle.f (k + 1) a0 a1 a2) := by
  intro a0 a1 a2 k
  obtain ⟨ih0, ih1⟩ := wageofficelaw28_gentle.mono_l k
  unfold wageofficelaw28_gentle.f
  repeat' first
      | (with_reducible exact ih0 _ _ _ _ _ _)
      | (with_reducible exact ih1 _ _ _ _ _ _ _ _ _ _ _)
      | (with_reducible exact LeO.refl _)
      | (with_reducible exact LeO.none _)
      | (with_reducible refine LeO.ite ?_ ?_)
      | (with_reducible refine LeO.bind ?_ (fun _ => ?_))
      | exact ih0 _ _ _ _ _ _
      | exact ih1 _ _ _ _ _ _ _ _ _ _ _
      | exact LeO.none _
      | refine LeO.ite ?_ ?_
      | refine LeO.bind ?_ (fun _ => ?_)
set_option maxHeartbeats 8000000 in
set_option maxRecDepth 100000 in
theorem wageofficelaw28_gentle.calls (k : Nat) (a0_0 : Int) (A0_1 : Option Addr) (c0_1 : Nat) (l0_1 : List (S75)) (a1 : Bool) (r : Bool) (w : World) (hr0_1 : Kd.C k75 w A0_1 l0_1.length l0_1) (hc0_1 : l0_1.length ≤ c0_1) (h : wageofficelaw28_gentle.f k a0_0 l0_1 a1 = some r) :
    Calls Try.prog 39 #[.agg #[.int .i64 a0_0, .slice A0_1 l0_1.length c0_1], .bool a1] w fun e w' => e = .returned (.bool r) ∧ Below w.heap.size w w' := by
  have hu42 := Try.underlying42
  have hu75 := Try.underlying75
  have HR0_1 := Aside0.mk hr0_1
  have HC0_1 := Aside0.mk hc0_1
  clear hr0_1 hc0_1
  have HB := Aside0.mk (Below.refl w.heap.size w)
  have H : (wageofficelaw28_gentle.l0 k a1 l0_1 (l0_1.length : Int) 0 a0_0 l0_1) = some r := h
  clear h
  have H' := Aside0.mk H
  clear H
  go_enter Try.func39, Try.ntmps39
  go_wp2_with (first | ((with_reducible refine gate_dst (N := 2) rfl ?_); refine box_event ?hg (N := 2) ?hd (cs := #[.int .i64 a0_0, .slice A0_1 l0_1.length c0_1]) (t := 42) ?hr ?_; (case hd => rfl); (case hg => rfl); (case hr => first | (go_simp; done) | (go_simp; rfl)); intro gb631 hg w3 hbox hb; have n0_ := Aside0.mk (below_step (by repeat (first | (with_reducible first | exact HB.out | apply below_alloc | apply pw_below_drewN | apply below_drew1) | exact HB.out)) hb); have n1_ := Aside0.mk (hbox); have n2_ := Aside0.mk ((by rw [hg]; exact (below_size (by repeat (first | (with_reducible first | exact HB.out | apply below_alloc | apply pw_below_drewN | apply below_drew1) | exact HB.out))) : w.heap.size ≤ gb631)); have n3_ := Aside0.mk ((by rw [hg]; exact (below_size (by repeat (first | (with_reducible first | exact HB.out | apply below_alloc | apply pw_below_drewN | apply below_drew1) | exact HB.out))) : w.heap.size ≤ gb631)); clear HB; have HB := n0_; have BK631 := n1_; have GW631 := n2_; have GE631 := n3_; clear n0_ n1_ n2_ n3_; clear hb hbox hg; have hcz4_0 : w3.cell? ⟨gb631, 0, none⟩ = some (.int .i64 a0_0) := (blk_cell BK631.out 0).trans rfl; have hcz4_1 : w3.cell? ⟨gb631, 1, none⟩ = some (.slice A0_1 l0_1.length c0_1) := (blk_cell BK631.out 1).trans rfl; have hfz4_0 := blk_frozen BK631.out 0; have hfz4_1 := blk_frozen BK631.out 1))
  go_loopg [12] k (fun kq v12 w' => ∃ (x12_1 : Int), v12 = .int .i64 x12_1 ∧ Aside0 (wageofficelaw28_gentle.l0 kq a1 l0_1 (l0_1.length : Int) x12_1 a0_0 l0_1 = some r) ∧ Aside0 (kq ≤ k) ∧ Aside0 (w'.heap[gb631]? = some (.cells #[.int .i64 a0_0, (.slice A0_1 l0_1.length c0_1)] 42 (0, 0))) ∧ Aside0 (Below w.heap.size w w'))
  case atStart => exact ⟨(0), (by first | rfl | (simp; done) | (simp [*]; done)), H', ⟨Nat.le_refl _⟩, ⟨by (with_reducible repeat (first | refine blk_drewN ?_ _ | refine blk_drew ?_ | refine blk_alloc ?_ _)); exact BK631.out⟩, ⟨by repeat (first | (with_reducible first | exact HB.out | apply below_alloc | apply pw_below_drewN | apply below_drew1 | refine below_set ?_ GE631.out) | exact HB.out)⟩⟩
  case round =>
    clear H'
    try clear p2
    try clear c3
    try clear hcz4_0
    try clear hcz4_1
    try clear hfz4_0
    try clear hfz4_1
    obtain ⟨x12_1, rfl, HA, HK1, BK631, HB⟩ := hrel
    cases gk with
    | zero => exact absurd HA.out (by simp [wageofficelaw28_gentle.l0])
    | succ k1 =>
      have H := HA.out
      clear HA
      simp only [wageofficelaw28_gentle.l0] at H
      by_cases c5 : x12_1 < (l0_1.length : Int)
      · rw [if_pos c5] at H
        have c5b0 : decide (x12_1 < (l0_1.length : Int)) = true := decide_eq_true c5
        clear c5
        by_cases c6 : 0 ≤ x12_1
        · rw [if_pos c6] at H
          have c6b0 : decide (0 ≤ x12_1) = true := decide_eq_true c6
          clear c6
          by_cases c7 : x12_1 < (l0_1.length : Int)
          · rw [if_pos c7] at H
            have c7b0 : decide (x12_1 < (l0_1.length : Int)) = true := decide_eq_true c7
            clear c7
            have HC8 := Aside0.mk H
            clear H
            have p632 : 0 ≤ (x12_1 : Int) := of_decide_eq_true (by first | (with_reducible assumption) | assumption)
            have q632 : x12_1 < (l0_1.length : Int) := of_decide_eq_true (by first | (with_reducible assumption) | assumption)
            obtain ⟨ad632, e632, hx632_0, hx632_1, hx632_2⟩ := at_T75 HR0_1.out x12_1 p632 q632
            cases e632
            replace hx632_0 := (HB.out.cell (World.block_lt_of_cell? w _ hx632_0)).trans hx632_0
            replace hx632_1 := (HB.out.cell (World.block_lt_of_cell? w _ hx632_1)).trans hx632_1
            replace hx632_2 := (HB.out.cell (World.block_lt_of_cell? w _ hx632_2)).trans hx632_2
            replace p632 := eq_true p632
            replace q632 := eq_true q632
            go_upto_region 4 with (first | ((with_reducible refine gate_dst (N := 6) rfl ?_); refine box_event ?hg (N := 6) ?hd (cs := #[.int .i64 0, .int .i64 0, .int .i64 0]) (t := 75) ?hr ?_; (case hd => rfl); (case hg => rfl); (case hr => first | (go_simp; done) | (go_simp; rfl)); intro gb633 hg w9 hbox hb; have n0_ := Aside0.mk (blk_below (g := gb631) (o := .cells #[.int .i64 a0_0, .slice (some ad632) l0_1.length c0_1] 42 (0, 0)) (by (with_reducible repeat (first | refine blk_drewN ?_ _ | refine blk_drew ?_ | refine blk_alloc ?_ _)); exact BK631.out) hb); have n1_ := Aside0.mk (below_step (by repeat (first | (with_reducible first | exact HB.out | apply below_alloc | apply pw_below_drewN | apply below_drew1 | refine below_set ?_ GE631.out) | exact HB.out)) hb); have n2_ := Aside0.mk (hbox); have n3_ := Aside0.mk ((by rw [hg]; exact (below_size (by repeat (first | (with_reducible first | exact HB.out | apply below_alloc | apply pw_below_drewN | apply below_drew1 | refine below_set ?_ GE631.out) | exact HB.out))) : w.heap.size ≤ gb633)); have n4_ := Aside0.mk ((by rw [hg]; exact (below_size (by repeat (first | (with_reducible first | exact HB.out | apply below_alloc | apply pw_below_drewN | apply below_drew1 | refine below_set ?_ GE631.out) | exact HB.out))) : w.heap.size ≤ gb633)); have n5_ := Aside0.mk ((by rw [hg]; exact Nat.ne_of_lt (blk_lt (g := gb631) (o := .cells #[.int .i64 a0_0, .slice (some ad632) l0_1.length c0_1] 42 (0, 0)) (by (with_reducible repeat (first | refine blk_drewN ?_ _ | refine blk_drew ?_ | refine blk_alloc ?_ _)); exact BK631.out)) : gb631 ≠ gb633)); have n6_ := Aside0.mk ((by rw [hg]; exact Nat.ne_of_gt (blk_lt (g := gb631) (o := .cells #[.int .i64 a0_0, .slice (some ad632) l0_1.length c0_1] 42 (0, 0)) (by (with_reducible repeat (first | refine blk_drewN ?_ _ | refine blk_drew ?_ | refine blk_alloc ?_ _)); exact BK631.out)) : gb633 ≠ gb631)); clear BK631; clear HB; have BK631 := n0_; have HB := n1_; have BK633 := n2_; have GW633 := n3_; have GE633 := n4_; have NB631_633 := n5_; have NB633_631 := n6_; clear n0_ n1_ n2_ n3_ n4_ n5_ n6_; clear hb hbox hg; have hnb10 := NB633_631.out; have hnc10 := NB631_633.out; have hcz11_0 : w9.cell? ⟨gb633, 0, none⟩ = some (.int .i64 0) := (blk_cell BK633.out 0).trans rfl; have hcz11_1 : w9.cell? ⟨gb633, 1, none⟩ = some (.int .i64 0) := (blk_cell BK633.out 1).trans rfl; have hcz11_2 : w9.cell? ⟨gb633, 2, none⟩ = some (.int .i64 0) := (blk_cell BK633.out 2).trans rfl; have hfz11_0 := blk_frozen BK633.out 0; have hfz11_1 := blk_frozen BK633.out 1; have hfz11_2 := blk_frozen BK633.out 2))
            (try simp only [Act.put, List.setIfInBounds_toArray, List.set_cons_zero, List.set_cons_succ])
            go_cut [43] (fun v43 wc => ∃ (kq : Nat) (x43_7 : Bool), v43 = .bool x43_7 ∧ Aside0 (wageofficelaw28_gentle.j1 kq a1 x12_1 l0_1 (l0_1.length : Int) x12_1 x43_7 a0_0 l0_1 ((rd_T75 l0_1 x12_1).f0) ((rd_T75 l0_1 x12_1).f1) ((rd_T75 l0_1 x12_1).f2) = some r) ∧ Aside0 (kq ≤ k1) ∧ Aside0 (wc.heap[gb631]? = some (.cells #[.int .i64 a0_0, (.slice (some ad632) l0_1.length c0_1)] 42 (0, 0))) ∧ Aside0 (wc.heap[gb633]? = some (.cells #[.int .i64 ((rd_T75 l0_1 x12_1).f0), .int .i64 ((rd_T75 l0_1 x12_1).f1), .int .i64 ((rd_T75 l0_1 x12_1).f2)] 75 (0, 0))) ∧ Aside0 (Below w.heap.size w wc))
            case first =>
              have H := HC8.out
              clear HC8
              by_cases c12 : ((rd_T75 l0_1 x12_1).f2) < 0
              · rw [if_pos c12] at H
                have c12b0 : decide (((rd_T75 l0_1 x12_1).f2) < 0) = true := decide_eq_true c12
                clear c12
                (first | rw [c12b0] | (simp only [i64_w, i32_w]; rw [c12b0]) | skip)
                have H' := Aside0.mk H
                clear H
                have hnb13 := NB633_631.out
                have hnc13 := NB631_633.out
                have hcz14_0 : w9.cell? ⟨gb633, 0, none⟩ = some (.int .i64 0) := (blk_cell BK633.out 0).trans rfl
                have hcz14_1 : w9.cell? ⟨gb633, 1, none⟩ = some (.int .i64 0) := (blk_cell BK633.out 1).trans rfl
                have hcz14_2 : w9.cell? ⟨gb633, 2, none⟩ = some (.int .i64 0) := (blk_cell BK633.out 2).trans rfl
                have hfz14_0 := blk_frozen BK633.out 0
                have hfz14_1 := blk_frozen BK633.out 1
                have hfz14_2 := blk_frozen BK633.out 2
                go_wp2
                go_meet
                case rel => exact ⟨_, (true), (by first | rfl | (simp; done) | (simp [*]; done)), H', ⟨by have := HK1.out; first | omega | exact Nat.le_refl _⟩, ⟨by (with_reducible repeat (first | refine blk_drewN ?_ _ | refine blk_drew ?_ | refine blk_alloc ?_ _)); refine blk_far ?_ NB631_633.out _; (with_reducible repeat (first | refine blk_drewN ?_ _ | refine blk_drew ?_ | refine blk_alloc ?_ _)); refine blk_far ?_ NB631_633.out _; (with_reducible repeat (first | refine blk_drewN ?_ _ | refine blk_drew ?_ | refine blk_alloc ?_ _)); refine blk_far ?_ NB631_633.out _; (with_reducible repeat (first | refine blk_drewN ?_ _ | refine blk_drew ?_ | refine blk_alloc ?_ _)); exact BK631.out⟩, ⟨by (with_reducible repeat (first | refine blk_drewN ?_ _ | refine blk_drew ?_ | refine blk_alloc ?_ _)); refine blk_put (cs := #[.int .i64 ((rd_T75 l0_1 x12_1).f0), .int .i64 ((rd_T75 l0_1 x12_1).f1), .int .i64 0]) ?_ 2 _ rfl; (with_reducible repeat (first | refine blk_drewN ?_ _ | refine blk_drew ?_ | refine blk_alloc ?_ _)); refine blk_put (cs := #[.int .i64 ((rd_T75 l0_1 x12_1).f0), .int .i64 0, .int .i64 0]) ?_ 1 _ rfl; (with_reducible repeat (first | refine blk_drewN ?_ _ | refine blk_drew ?_ | refine blk_alloc ?_ _)); refine blk_put (cs := #[.int .i64 0, .int .i64 0, .int .i64 0]) ?_ 0 _ rfl; (with_reducible repeat (first | refine blk_drewN ?_ _ | refine blk_drew ?_ | refine blk_alloc ?_ _)); exact BK633.out⟩, ⟨by repeat (first | (with_reducible first | exact HB.out | apply below_alloc | apply pw_below_drewN | apply below_drew1 | refine below_set ?_ GE631.out | refine below_set ?_ GE633.out) | exact HB.out)⟩⟩
              · rw [if_neg c12] at H
                have c12b0 : decide (((rd_T75 l0_1 x12_1).f2) < 0) = false := decide_eq_false c12
                clear c12
                (first | rw [c12b0] | (simp only [i64_w, i32_w]; rw [c12b0]) | skip)
                by_cases c15 : a1 = true
                · subst c15
                  have H1 : (if x12_1 = 0 then (wageofficelaw28_gentle.j1 k1 true x12_1 l0_1 (l0_1.length : Int) x12_1 false a0_0 l0_1 ((rd_T75 l0_1 x12_1).f0) ((rd_T75 l0_1 x12_1).f1) ((rd_T75 l0_1 x12_1).f2)) else (wageofficelaw28_gentle.j1 k1 true x12_1 l0_1 (l0_1.length : Int) x12_1 false a0_0 l0_1 ((rd_T75 l0_1 x12_1).f0) ((rd_T75 l0_1 x12_1).f1) ((rd_T75 l0_1 x12_1).f2))) = some r := by rw [if_pos rfl] at H; exact H
                  clear H
                  have H := H1
                  clear H1
                  by_cases c16 : x12_1 = 0
                  · rw [if_pos c16] at H
                    have c16b0 : (x12_1 == 0) = true := beq_iff_eq.mpr c16
                    have c16b1 : (x12_1 != 0) = false := bne_eq_false_iff_eq.mpr c16
                    clear c16
                    have H' := Aside0.mk H
                    clear H
                    have hnb17 := NB633_631.out
                    have hnc17 := NB631_633.out
                    have hcz18_0 : w9.cell? ⟨gb633, 0, none⟩ = some (.int .i64 0) := (blk_cell BK633.out 0).trans rfl
                    have hcz18_1 : w9.cell? ⟨gb633, 1, none⟩ = some (.int .i64 0) := (blk_cell BK633.out 1).trans rfl
                    have hcz18_2 : w9.cell? ⟨gb633, 2, none⟩ = some (.int .i64 0) := (blk_cell BK633.out 2).trans rfl
                    have hfz18_0 := blk_frozen BK633.out 0
                    have hfz18_1 := blk_frozen BK633.out 1
                    have hfz18_2 := blk_frozen BK633.out 2
                    go_wp2
                    go_meet
                    case rel => exact ⟨_, (false), (by first | rfl | (simp; done) | (simp [*]; done)), H', ⟨by have := HK1.out; first | omega | exact Nat.le_refl _⟩, ⟨by (with_reducible repeat (first | refine blk_drewN ?_ _ | refine blk_drew ?_ | refine blk_alloc ?_ _)); refine blk_far ?_ NB631_633.out _; (with_reducible repeat (first | refine blk_drewN ?_ _ | refine blk_drew ?_ | refine blk_alloc ?_ _)); refine blk_far ?_ NB631_633.out _; (with_reducible repeat (first | refine blk_drewN ?_ _ | refine blk_drew ?_ | refine blk_alloc ?_ _)); refine blk_far ?_ NB631_633.out _; (with_reducible repeat (first | refine blk_drewN ?_ _ | refine blk_drew ?_ | refine blk_alloc ?_ _)); exact BK631.out⟩, ⟨by (with_reducible repeat (first | refine blk_drewN ?_ _ | refine blk_drew ?_ | refine blk_alloc ?_ _)); refine blk_put (cs := #[.int .i64 ((rd_T75 l0_1 x12_1).f0), .int .i64 ((rd_T75 l0_1 x12_1).f1), .int .i64 0]) ?_ 2 _ rfl; (with_reducible repeat (first | refine blk_drewN ?_ _ | refine blk_drew ?_ | refine blk_alloc ?_ _)); refine blk_put (cs := #[.int .i64 ((rd_T75 l0_1 x12_1).f0), .int .i64 0, .int .i64 0]) ?_ 1 _ rfl; (with_reducible repeat (first | refine blk_drewN ?_ _ | refine blk_drew ?_ | refine blk_alloc ?_ _)); refine blk_put (cs := #[.int .i64 0, .int .i64 0, .int .i64 0]) ?_ 0 _ rfl; (with_reducible repeat (first | refine blk_drewN ?_ _ | refine blk_drew ?_ | refine blk_alloc ?_ _)); exact BK633.out⟩, ⟨by repeat (first | (with_reducible first | exact HB.out | apply below_alloc | apply pw_below_drewN | apply below_drew1 | refine below_set ?_ GE631.out | refine below_set ?_ GE633.out) | exact HB.out)⟩⟩
                  · rw [if_neg c16] at H
                    have c16b0 : (x12_1 == 0) = false := beq_eq_false_iff_ne.mpr c16
                    have c16b1 : (x12_1 != 0) = true := bne_iff_ne.mpr c16
                    have H' := Aside0.mk H
                    clear H
                    have hnb19 := NB633_631.out
                    have hnc19 := NB631_633.out
                    have hcz20_0 : w9.cell? ⟨gb633, 0, none⟩ = some (.int .i64 0) := (blk_cell BK633.out 0).trans rfl
                    have hcz20_1 : w9.cell? ⟨gb633, 1, none⟩ = some (.int .i64 0) := (blk_cell BK633.out 1).trans rfl
                    have hcz20_2 : w9.cell? ⟨gb633, 2, none⟩ = some (.int .i64 0) := (blk_cell BK633.out 2).trans rfl
                    have hfz20_0 := blk_frozen BK633.out 0
                    have hfz20_1 := blk_frozen BK633.out 1
                    have hfz20_2 := blk_frozen BK633.out 2
                    go_wp2
                    go_meet
                    case rel => exact ⟨_, (false), (by first | rfl | (simp; done) | (simp [*]; done)), H', ⟨by have := HK1.out; first | omega | exact Nat.le_refl _⟩, ⟨by (with_reducible repeat (first | refine blk_drewN ?_ _ | refine blk_drew ?_ | refine blk_alloc ?_ _)); refine blk_far ?_ NB631_633.out _; (with_reducible repeat (first | refine blk_drewN ?_ _ | refine blk_drew ?_ | refine blk_alloc ?_ _)); refine blk_far ?_ NB631_633.out _; (with_reducible repeat (first | refine blk_drewN ?_ _ | refine blk_drew ?_ | refine blk_alloc ?_ _)); refine blk_far ?_ NB631_633.out _; (with_reducible repeat (first | refine blk_drewN ?_ _ | refine blk_drew ?_ | refine blk_alloc ?_ _)); exact BK631.out⟩, ⟨by (with_reducible repeat (first | refine blk_drewN ?_ _ | refine blk_drew ?_ | refine blk_alloc ?_ _)); refine blk_put (cs := #[.int .i64 ((rd_T75 l0_1 x12_1).f0), .int .i64 ((rd_T75 l0_1 x12_1).f1), .int .i64 0]) ?_ 2 _ rfl; (with_reducible repeat (first | refine blk_drewN ?_ _ | refine blk_drew ?_ | refine blk_alloc ?_ _)); refine blk_put (cs := #[.int .i64 ((rd_T75 l0_1 x12_1).f0), .int .i64 0, .int .i64 0]) ?_ 1 _ rfl; (with_reducible repeat (first | refine blk_drewN ?_ _ | refine blk_drew ?_ | refine blk_alloc ?_ _)); refine blk_put (cs := #[.int .i64 0, .int .i64 0, .int .i64 0]) ?_ 0 _ rfl; (with_reducible repeat (first | refine blk_drewN ?_ _ | refine blk_drew ?_ | refine blk_alloc ?_ _)); exact BK633.out⟩, ⟨by repeat (first | (with_reducible first | exact HB.out | apply below_alloc | apply pw_below_drewN | apply below_drew1 | refine below_set ?_ GE631.out | refine below_set ?_ GE633.out) | exact HB.out)⟩⟩
                · replace c15 := Bool.eq_false_iff.mpr c15
                  subst c15
                  have H1 : (if ((rd_T75 l0_1 x12_1).f2) > a0_0 then (wageofficelaw28_gentle.j1 k1 false x12_1 l0_1 (l0_1.length : Int) x12_1 true a0_0 l0_1 ((rd_T75 l0_1 x12_1).f0) ((rd_T75 l0_1 x12_1).f1) ((rd_T75 l0_1 x12_1).f2)) else (if x12_1 = 0 then (wageofficelaw28_gentle.j1 k1 false x12_1 l0_1 (l0_1.length : Int) x12_1 (decide (((rd_T75 l0_1 x12_1).f1) > 0)) a0_0 l0_1 ((rd_T75 l0_1 x12_1).f0) ((rd_T75 l0_1 x12_1).f1) ((rd_T75 l0_1 x12_1).f2)) else (wageofficelaw28_gentle.j1 k1 false x12_1 l0_1 (l0_1.length : Int) x12_1 false a0_0 l0_1 ((rd_T75 l0_1 x12_1).f0) ((rd_T75 l0_1 x12_1).f1) ((rd_T75 l0_1 x12_1).f2)))) = some r := by rw [if_neg (show ¬ (false = true) by decide)] at H; exact H
                  clear H
                  have H := H1
                  clear H1
                  by_cases c21 : ((rd_T75 l0_1 x12_1).f2) > a0_0
                  · rw [if_pos c21] at H
                    have c21b0 : decide (a0_0 < ((rd_T75 l0_1 x12_1).f2)) = true := decide_eq_true c21
                    clear c21
                    have H' := Aside0.mk H
                    clear H
                    have hnb22 := NB633_631.out
                    have hnc22 := NB631_633.out
                    have hcz23_0 : w9.cell? ⟨gb633, 0, none⟩ = some (.int .i64 0) := (blk_cell BK633.out 0).trans rfl
                    have hcz23_1 : w9.cell? ⟨gb633, 1, none⟩ = some (.int .i64 0) := (blk_cell BK633.out 1).trans rfl
                    have hcz23_2 : w9.cell? ⟨gb633, 2, none⟩ = some (.int .i64 0) := (blk_cell BK633.out 2).trans rfl
                    have hfz23_0 := blk_frozen BK633.out 0
                    have hfz23_1 := blk_frozen BK633.out 1
                    have hfz23_2 := blk_frozen BK633.out 2
                    have hcz24_0 : w9.cell? ⟨gb631, 0, none⟩ = some (.int .i64 a0_0) := (blk_cell BK631.out 0).trans rfl
                    have hcz24_1 : w9.cell? ⟨gb631, 1, none⟩ = some (.slice (some ad632) l0_1.length c0_1) := (blk_cell BK631.out 1).trans rfl
                    have hfz24_0 := blk_frozen BK631.out 0
                    have hfz24_1 := blk_frozen BK631.out 1
                    go_wp2
                    go_meet
                    case rel => exact ⟨_, (true), (by first | rfl | (simp; done) | (simp [*]; done)), H', ⟨by have := HK1.out; first | omega | exact Nat.le_refl _⟩, ⟨by (with_reducible repeat (first | refine blk_drewN ?_ _ | refine blk_drew ?_ | refine blk_alloc ?_ _)); refine blk_far ?_ NB631_633.out _; (with_reducible repeat (first | refine blk_drewN ?_ _ | refine blk_drew ?_ | refine blk_alloc ?_ _)); refine blk_far ?_ NB631_633.out _; (with_reducible repeat (first | refine blk_drewN ?_ _ | refine blk_drew ?_ | refine blk_alloc ?_ _)); refine blk_far ?_ NB631_633.out _; (with_reducible repeat (first | refine blk_drewN ?_ _ | refine blk_drew ?_ | refine blk_alloc ?_ _)); exact BK631.out⟩, ⟨by (with_reducible repeat (first | refine blk_drewN ?_ _ | refine blk_drew ?_ | refine blk_alloc ?_ _)); refine blk_put (cs := #[.int .i64 ((rd_T75 l0_1 x12_1).f0), .int .i64 ((rd_T75 l0_1 x12_1).f1), .int .i64 0]) ?_ 2 _ rfl; (with_reducible repeat (first | refine blk_drewN ?_ _ | refine blk_drew ?_ | refine blk_alloc ?_ _)); refine blk_put (cs := #[.int .i64 ((rd_T75 l0_1 x12_1).f0), .int .i64 0, .int .i64 0]) ?_ 1 _ rfl; (with_reducible repeat (first | refine blk_drewN ?_ _ | refine blk_drew ?_ | refine blk_alloc ?_ _)); refine blk_put (cs := #[.int .i64 0, .int .i64 0, .int .i64 0]) ?_ 0 _ rfl; (with_reducible repeat (first | refine blk_drewN ?_ _ | refine blk_drew ?_ | refine blk_alloc ?_ _)); exact BK633.out⟩, ⟨by repeat (first | (with_reducible first | exact HB.out | apply below_alloc | apply pw_below_drewN | apply below_drew1 | refine below_set ?_ GE631.out | refine below_set ?_ GE633.out) | exact HB.out)⟩⟩
                  · rw [if_neg c21] at H
                    have c21b0 : decide (a0_0 < ((rd_T75 l0_1 x12_1).f2)) = false := decide_eq_false c21
                    clear c21
                    by_cases c25 : x12_1 = 0
                    · rw [if_pos c25] at H
                      have c25b0 : (x12_1 == 0) = true := beq_iff_eq.mpr c25
                      have c25b1 : (x12_1 != 0) = false := bne_eq_false_iff_eq.mpr c25
                      clear c25
                      have H' := Aside0.mk H
                      clear H
                      have hnb26 := NB633_631.out
                      have hnc26 := NB631_633.out
                      have hcz27_0 : w9.cell? ⟨gb633, 0, none⟩ = some (.int .i64 0) := (blk_cell BK633.out 0).trans rfl
                      have hcz27_1 : w9.cell? ⟨gb633, 1, none⟩ = some (.int .i64 0) := (blk_cell BK633.out 1).trans rfl
                      have hcz27_2 : w9.cell? ⟨gb633, 2, none⟩ = some (.int .i64 0) := (blk_cell BK633.out 2).trans rfl
                      have hfz27_0 := blk_frozen BK633.out 0
                      have hfz27_1 := blk_frozen BK633.out 1
                      have hfz27_2 := blk_frozen BK633.out 2
                      have hcz28_0 : w9.cell? ⟨gb631, 0, none⟩ = some (.int .i64 a0_0) := (blk_cell BK631.out 0).trans rfl
                      have hcz28_1 : w9.cell? ⟨gb631, 1, none⟩ = some (.slice (some ad632) l0_1.length c0_1) := (blk_cell BK631.out 1).trans rfl
                      have hfz28_0 := blk_frozen BK631.out 0
                      have hfz28_1 := blk_frozen BK631.out 1
                      go_wp2
                      go_meet
                      case rel => exact ⟨_, (decide (((rd_T75 l0_1 x12_1).f1) > 0)), (by first | rfl | (simp; done) | (simp [*]; done)), H', ⟨by have := HK1.out; first | omega | exact Nat.le_refl _⟩, ⟨by (with_reducible repeat (first | refine blk_drewN ?_ _ | refine blk_drew ?_ | refine blk_alloc ?_ _)); refine blk_far ?_ NB631_633.out _; (with_reducible repeat (first | refine blk_drewN ?_ _ | refine blk_drew ?_ | refine blk_alloc ?_ _)); refine blk_far ?_ NB631_633.out _; (with_reducible repeat (first | refine blk_drewN ?_ _ | refine blk_drew ?_ | refine blk_alloc ?_ _)); refine blk_far ?_ NB631_633.out _; (with_reducible repeat (first | refine blk_drewN ?_ _ | refine blk_drew ?_ | refine blk_alloc ?_ _)); exact BK631.out⟩, ⟨by (with_reducible repeat (first | refine blk_drewN ?_ _ | refine blk_drew ?_ | refine blk_alloc ?_ _)); refine blk_put (cs := #[.int .i64 ((rd_T75 l0_1 x12_1).f0), .int .i64 ((rd_T75 l0_1 x12_1).f1), .int .i64 0]) ?_ 2 _ rfl; (with_reducible repeat (first | refine blk_drewN ?_ _ | refine blk_drew ?_ | refine blk_alloc ?_ _)); refine blk_put (cs := #[.int .i64 ((rd_T75 l0_1 x12_1).f0), .int .i64 0, .int .i64 0]) ?_ 1 _ rfl; (with_reducible repeat (first | refine blk_drewN ?_ _ | refine blk_drew ?_ | refine blk_alloc ?_ _)); refine blk_put (cs := #[.int .i64 0, .int .i64 0, .int .i64 0]) ?_ 0 _ rfl; (with_reducible repeat (first | refine blk_drewN ?_ _ | refine blk_drew ?_ | refine blk_alloc ?_ _)); exact BK633.out⟩, ⟨by repeat (first | (with_reducible first | exact HB.out | apply below_alloc | apply pw_below_drewN | apply below_drew1 | refine below_set ?_ GE631.out | refine below_set ?_ GE633.out) | exact HB.out)⟩⟩
                    · rw [if_neg c25] at H
                      have c25b0 : (x12_1 == 0) = false := beq_eq_false_iff_ne.mpr c25
                      have c25b1 : (x12_1 != 0) = true := bne_iff_ne.mpr c25
                      have H' := Aside0.mk H
                      clear H
                      have hnb29 := NB633_631.out
                      have hnc29 := NB631_633.out
                      have hcz30_0 : w9.cell? ⟨gb633, 0, none⟩ = some (.int .i64 0) := (blk_cell BK633.out 0).trans rfl
                      have hcz30_1 : w9.cell? ⟨gb633, 1, none⟩ = some (.int .i64 0) := (blk_cell BK633.out 1).trans rfl
                      have hcz30_2 : w9.cell? ⟨gb633, 2, none⟩ = some (.int .i64 0) := (blk_cell BK633.out 2).trans rfl
                      have hfz30_0 := blk_frozen BK633.out 0
                      have hfz30_1 := blk_frozen BK633.out 1
                      have hfz30_2 := blk_frozen BK633.out 2
                      have hcz31_0 : w9.cell? ⟨gb631, 0, none⟩ = some (.int .i64 a0_0) := (blk_cell BK631.out 0).trans rfl
                      have hcz31_1 : w9.cell? ⟨gb631, 1, none⟩ = some (.slice (some ad632) l0_1.length c0_1) := (blk_cell BK631.out 1).trans rfl
                      have hfz31_0 := blk_frozen BK631.out 0
                      have hfz31_1 := blk_frozen BK631.out 1
                      go_wp2
                      go_meet
                      case rel => exact ⟨_, (false), (by first | rfl | (simp; done) | (simp [*]; done)), H', ⟨by have := HK1.out; first | omega | exact Nat.le_refl _⟩, ⟨by (with_reducible repeat (first | refine blk_drewN ?_ _ | refine blk_drew ?_ | refine blk_alloc ?_ _)); refine blk_far ?_ NB631_633.out _; (with_reducible repeat (first | refine blk_drewN ?_ _ | refine blk_drew ?_ | refine blk_alloc ?_ _)); refine blk_far ?_ NB631_633.out _; (with_reducible repeat (first | refine blk_drewN ?_ _ | refine blk_drew ?_ | refine blk_alloc ?_ _)); refine blk_far ?_ NB631_633.out _; (with_reducible repeat (first | refine blk_drewN ?_ _ | refine blk_drew ?_ | refine blk_alloc ?_ _)); exact BK631.out⟩, ⟨by (with_reducible repeat (first | refine blk_drewN ?_ _ | refine blk_drew ?_ | refine blk_alloc ?_ _)); refine blk_put (cs := #[.int .i64 ((rd_T75 l0_1 x12_1).f0), .int .i64 ((rd_T75 l0_1 x12_1).f1), .int .i64 0]) ?_ 2 _ rfl; (with_reducible repeat (first | refine blk_drewN ?_ _ | refine blk_drew ?_ | refine blk_alloc ?_ _)); refine blk_put (cs := #[.int .i64 ((rd_T75 l0_1 x12_1).f0), .int .i64 0, .int .i64 0]) ?_ 1 _ rfl; (with_reducible repeat (first | refine blk_drewN ?_ _ | refine blk_drew ?_ | refine blk_alloc ?_ _)); refine blk_put (cs := #[.int .i64 0, .int .i64 0, .int .i64 0]) ?_ 0 _ rfl; (with_reducible repeat (first | refine blk_drewN ?_ _ | refine blk_drew ?_ | refine blk_alloc ?_ _)); exact BK633.out⟩, ⟨by repeat (first | (with_reducible first | exact HB.out | apply below_alloc | apply pw_below_drewN | apply below_drew1 | refine below_set ?_ GE631.out | refine below_set ?_ GE633.out) | exact HB.out)⟩⟩
            case rest =>
              clear HC8
              try clear c1
              try clear c2
              try clear p2
              try clear c3
              try clear c5
              try clear c5b0
              try clear c6
              try clear c6b0
              try clear p6
              try clear q6
              try clear hx6
              try clear c7
              try clear c7b0
              try clear c10
              try clear c12
              try clear c12b0
              try clear c13
              try clear c15
              try clear c16
              try clear c16b0
              try clear c16b1
              try clear c17
              try clear c19
              try clear c21
              try clear c21b0
              try clear c22
              try clear c25
              try clear c25b0
              try clear c25b1
              try clear c26
              try clear c29
              try clear hcz11_0
              try clear hcz11_1
              try clear hcz11_2
              try clear hcz14_0
              try clear hcz14_1
              try clear hcz14_2
              try clear hcz18_0
              try clear hcz18_1
              try clear hcz18_2
              try clear hcz20_0
              try clear hcz20_1
              try clear hcz20_2
              try clear hcz23_0
              try clear hcz23_1
              try clear hcz23_2
              try clear hcz24_0
              try clear hcz24_1
              try clear hcz27_0
              try clear hcz27_1
              try clear hcz27_2
              try clear hcz28_0
              try clear hcz28_1
              try clear hcz30_0
              try clear hcz30_1
              try clear hcz30_2
              try clear hcz31_0
              try clear hcz31_1
              try clear hcz4_0
              try clear hcz4_1
              try clear hfz11_0
              try clear hfz11_1
              try clear hfz11_2
              try clear hfz14_0
              try clear hfz14_1
              try clear hfz14_2
              try clear hfz18_0
              try clear hfz18_1
              try clear hfz18_2
              try clear hfz20_0
              try clear hfz20_1
              try clear hfz20_2
              try clear hfz23_0
              try clear hfz23_1
              try clear hfz23_2
              try clear hfz24_0
              try clear hfz24_1
              try clear hfz27_0
              try clear hfz27_1
              try clear hfz27_2
              try clear hfz28_0
              try clear hfz28_1
              try clear hfz30_0
              try clear hfz30_1
              try clear hfz30_2
              try clear hfz31_0
              try clear hfz31_1
              try clear hfz4_0
              try clear hfz4_1
              try clear hx632_0
              try clear hx632_1
              try clear hx632_2
              try clear p2
              try clear p632
              try clear q632
              obtain ⟨kq, x43_7, rfl, HA, HJ7, BK631, BK633, HB⟩ := hcut
              cases kq with
              | zero => exact absurd HA.out (by simp [wageofficelaw28_gentle.j1])
              | succ kj7 =>
                have H := HA.out
                clear HA
                simp only [wageofficelaw28_gentle.j1] at H
                by_cases c32 : x43_7 = true
                · subst c32
                  have H1 : (some false) = some r := by rw [if_pos rfl] at H; exact H
                  clear H
                  have H := H1
                  clear H1
                  obtain rfl := Option.some.inj H
                  go_wp2
                  go_ret
                  exact ⟨by first | rfl | (simp [errW_none, errW_some] <;> rfl) | (simp [*, errW_none, errW_some] <;> rfl), by repeat (first | (with_reducible first | exact HB.out | apply below_alloc | apply pw_below_drewN | apply below_drew1 | refine below_set ?_ GE631.out | refine below_set ?_ GE633.out) | exact HB.out)⟩
                · replace c32 := Bool.eq_false_iff.mpr c32
                  subst c32
                  have H1 : (if x12_1 = 0 then (wageofficelaw28_gentle.l0 kj7 a1 l0_1 (l0_1.length : Int) (wrap64 (x12_1 + 1)) a0_0 l0_1) else (if 0 ≤ (wrap64 (x12_1 - 1)) then (if (wrap64 (x12_1 - 1)) < (l0_1.length : Int) then (if ((rd_T75 l0_1 x12_1).f1) < (wrap64 (((rd_T75 l0_1 (wrap64 (x12_1 - 1))).f1) + (wrap64 (((rd_T75 l0_1 (wrap64 (x12_1 - 1))).f2) * (wrap64 ((wrap64 (((rd_T75 l0_1 x12_1).f0) - 1)) - ((rd_T75 l0_1 (wrap64 (x12_1 - 1))).f0))))))) then (some false) else (if a1 = true then (wageofficelaw28_gentle.l0 kj7 a1 l0_1 (l0_1.length : Int) (wrap64 (x12_1 + 1)) a0_0 l0_1) else (if (wrap64 (((rd_T75 l0_1 x12_1).f1) - (wrap64 (((rd_T75 l0_1 (wrap64 (x12_1 - 1))).f1) + (wrap64 (((rd_T75 l0_1 (wrap64 (x12_1 - 1))).f2) * (wrap64 ((wrap64 (((rd_T75 l0_1 x12_1).f0) - 1)) - ((rd_T75 l0_1 (wrap64 (x12_1 - 1))).f0))))))))) > a0_0 then (some false) else (wageofficelaw28_gentle.l0 kj7 a1 l0_1 (l0_1.length : Int) (wrap64 (x12_1 + 1)) a0_0 l0_1)))) else (none)) else (none))) = some r := by rw [if_neg (show ¬ (false = true) by decide)] at H; exact H
                  clear H
                  have H := H1
                  clear H1
                  by_cases c33 : x12_1 = 0
                  · rw [if_pos c33] at H
                    have c33b0 : (x12_1 == 0) = true := beq_iff_eq.mpr c33
                    have c33b1 : (x12_1 != 0) = false := bne_eq_false_iff_eq.mpr c33
                    clear c33
                    have H' := Aside0.mk H
                    clear H
                    go_wp2
                    go_roundg kj7
                    case measure => have := HK1.out; have := HJ7.out; omega
                    case rel => exact ⟨(wrap64 (x12_1 + 1)), (by first | rfl | (simp; done) | (simp [*]; done)), H', ⟨by have := HK1.out; have := HJ7.out; omega⟩, ⟨by (with_reducible repeat (first | refine blk_drewN ?_ _ | refine blk_drew ?_ | refine blk_alloc ?_ _)); exact BK631.out⟩, ⟨by repeat (first | (with_reducible first | exact HB.out | apply below_alloc | apply pw_below_drewN | apply below_drew1 | refine below_set ?_ GE631.out | refine below_set ?_ GE633.out) | exact HB.out)⟩⟩
                  · rw [if_neg c33] at H
                    have c33b0 : (x12_1 == 0) = false := beq_eq_false_iff_ne.mpr c33
                    have c33b1 : (x12_1 != 0) = true := bne_iff_ne.mpr c33
                    obtain ⟨ji34, hji34⟩ : ∃ j_ : Int, (wrap64 (x12_1 - 1)) = j_ := ⟨_, rfl⟩
                    replace H : (if 0 ≤ (ji34) then (if (ji34) < (l0_1.length : Int) then (if ((rd_T75 l0_1 x12_1).f1) < (wrap64 (((rd_T75 l0_1 (ji34)).f1) + (wrap64 (((rd_T75 l0_1 (ji34)).f2) * (wrap64 ((wrap64 (((rd_T75 l0_1 x12_1).f0) - 1)) - ((rd_T75 l0_1 (ji34)).f0))))))) then (some false) else (if a1 = true then (wageofficelaw28_gentle.l0 kj7 a1 l0_1 (l0_1.length : Int) (wrap64 (x12_1 + 1)) a0_0 l0_1) else (if (wrap64 (((rd_T75 l0_1 x12_1).f1) - (wrap64 (((rd_T75 l0_1 (ji34)).f1) + (wrap64 (((rd_T75 l0_1 (ji34)).f2) * (wrap64 ((wrap64 (((rd_T75 l0_1 x12_1).f0) - 1)) - ((rd_T75 l0_1 (ji34)).f0))))))))) > a0_0 then (some false) else (wageofficelaw28_gentle.l0 kj7 a1 l0_1 (l0_1.length : Int) (wrap64 (x12_1 + 1)) a0_0 l0_1)))) else (none)) else (none)) = some r := by first | (rw [hji34] at H; exact H) | (simp only [hji34] at H ⊢; exact H)
                    have hji34w : (IntKind.i64.wrap (x12_1 - 1)) = ji34 := (i64_w _).trans hji34
                    by_cases c35 : 0 ≤ (ji34)
                    · rw [if_pos c35] at H
                      have c35b0 : decide (0 ≤ (ji34)) = true := decide_eq_true c35
                      clear c35
                      by_cases c36 : (ji34) < (l0_1.length : Int)
                      · rw [if_pos c36] at H
                        have c36b0 : decide ((ji34) < (l0_1.length : Int)) = true := decide_eq_true c36
                        clear c36
                        by_cases c37 : ((rd_T75 l0_1 x12_1).f1) < (wrap64 (((rd_T75 l0_1 (ji34)).f1) + (wrap64 (((rd_T75 l0_1 (ji34)).f2) * (wrap64 ((wrap64 (((rd_T75 l0_1 x12_1).f0) - 1)) - ((rd_T75 l0_1 (ji34)).f0)))))))
                        · rw [if_pos c37] at H
                          have c37b0 : decide (((rd_T75 l0_1 x12_1).f1) < (wrap64 (((rd_T75 l0_1 (ji34)).f1) + (wrap64 (((rd_T75 l0_1 (ji34)).f2) * (wrap64 ((wrap64 (((rd_T75 l0_1 x12_1).f0) - 1)) - ((rd_T75 l0_1 (ji34)).f0)))))))) = true := decide_eq_true c37
                          clear c37
                          obtain rfl := Option.some.inj H
                          have hnb38 := NB631_633.out
                          have hnc38 := NB633_631.out
                          have hcz39_0 : wc.cell? ⟨gb631, 0, none⟩ = some (.int .i64 a0_0) := (blk_cell BK631.out 0).trans rfl
                          have hcz39_1 : wc.cell? ⟨gb631, 1, none⟩ = some (.slice (some ad632) l0_1.length c0_1) := (blk_cell BK631.out 1).trans rfl
                          have hfz39_0 := blk_frozen BK631.out 0
                          have hfz39_1 := blk_frozen BK631.out 1
                          have p634 : 0 ≤ ((ji34) : Int) := of_decide_eq_true (by first | (with_reducible assumption) | assumption)
                          have q634 : (ji34) < (l0_1.length : Int) := of_decide_eq_true (by first | (with_reducible assumption) | assumption)
                          obtain ⟨ad634, e634, hx634_0, hx634_1, hx634_2⟩ := at_T75 HR0_1.out (ji34) p634 q634
                          obtain rfl : ad632 = ad634 := (by injection e634)
                          replace hx634_0 := (HB.out.cell (World.block_lt_of_cell? w _ hx634_0)).trans hx634_0
                          replace hx634_1 := (HB.out.cell (World.block_lt_of_cell? w _ hx634_1)).trans hx634_1
                          replace hx634_2 := (HB.out.cell (World.block_lt_of_cell? w _ hx634_2)).trans hx634_2
                          replace p634 := eq_true p634
                          replace q634 := eq_true q634
                          go_wp2_with (first | ((with_reducible refine gate_dst (N := 7) rfl ?_); refine box_event ?hg (N := 7) ?hd (cs := #[.int .i64 0, .int .i64 0, .int .i64 0]) (t := 75) ?hr ?_; (case hd => rfl); (case hg => rfl); (case hr => first | (go_simp; done) | (go_simp; rfl)); intro gb635 hg w40 hbox hb; have n0_ := Aside0.mk (blk_below (g := gb631) (o := .cells #[.int .i64 a0_0, .slice (some ad632) l0_1.length c0_1] 42 (0, 0)) (by (with_reducible repeat (first | refine blk_drewN ?_ _ | refine blk_drew ?_ | refine blk_alloc ?_ _)); exact BK631.out) hb); have n1_ := Aside0.mk (blk_below (g := gb633) (o := .cells #[.int .i64 ((rd_T75 l0_1 x12_1).f0), .int .i64 ((rd_T75 l0_1 x12_1).f1), .int .i64 ((rd_T75 l0_1 x12_1).f2)] 75 (0, 0)) (by (with_reducible repeat (first | refine blk_drewN ?_ _ | refine blk_drew ?_ | refine blk_alloc ?_ _)); exact BK633.out) hb); have n2_ := Aside0.mk (below_step (by repeat (first | (with_reducible first | exact HB.out | apply below_alloc | apply pw_below_drewN | apply below_drew1 | refine below_set ?_ GE631.out | refine below_set ?_ GE633.out) | exact HB.out)) hb); have n3_ := Aside0.mk (hbox); have n4_ := Aside0.mk ((by rw [hg]; exact (below_size (by repeat (first | (with_reducible first | exact HB.out | apply below_alloc | apply pw_below_drewN | apply below_drew1 | refine below_set ?_ GE631.out | refine below_set ?_ GE633.out) | exact HB.out))) : w.heap.size ≤ gb635)); have n5_ := Aside0.mk ((by rw [hg]; exact (below_size (by repeat (first | (with_reducible first | exact HB.out | apply below_alloc | apply pw_below_drewN | apply below_drew1 | refine below_set ?_ GE631.out | refine below_set ?_ GE633.out) | exact HB.out))) : w.heap.size ≤ gb635)); have n6_ := Aside0.mk ((by rw [hg]; exact Nat.ne_of_lt (blk_lt (g := gb631) (o := .cells #[.int .i64 a0_0, .slice (some ad632) l0_1.length c0_1] 42 (0, 0)) (by (with_reducible repeat (first | refine blk_drewN ?_ _ | refine blk_drew ?_ | refine blk_alloc ?_ _)); exact BK631.out)) : gb631 ≠ gb635)); have n7_ := Aside0.mk ((by rw [hg]; exact Nat.ne_of_gt (blk_lt (g := gb631) (o := .cells #[.int .i64 a0_0, .slice (some ad632) l0_1.length c0_1] 42 (0, 0)) (by (with_reducible repeat (first | refine blk_drewN ?_ _ | refine blk_drew ?_ | refine blk_alloc ?_ _)); exact BK631.out)) : gb635 ≠ gb631)); have n8_ := Aside0.mk ((by rw [hg]; exact Nat.ne_of_lt (blk_lt (g := gb633) (o := .cells #[.int .i64 ((rd_T75 l0_1 x12_1).f0), .int .i64 ((rd_T75 l0_1 x12_1).f1), .int .i64 ((rd_T75 l0_1 x12_1).f2)] 75 (0, 0)) (by (with_reducible repeat (first | refine blk_drewN ?_ _ | refine blk_drew ?_ | refine blk_alloc ?_ _)); exact BK633.out)) : gb633 ≠ gb635)); have n9_ := Aside0.mk ((by rw [hg]; exact Nat.ne_of_gt (blk_lt (g := gb633) (o := .cells #[.int .i64 ((rd_T75 l0_1 x12_1).f0), .int .i64 ((rd_T75 l0_1 x12_1).f1), .int .i64 ((rd_T75 l0_1 x12_1).f2)] 75 (0, 0)) (by (with_reducible repeat (first | refine blk_drewN ?_ _ | refine blk_drew ?_ | refine blk_alloc ?_ _)); exact BK633.out)) : gb635 ≠ gb633)); clear BK631; clear BK633; clear HB; have BK631 := n0_; have BK633 := n1_; have HB := n2_; have BK635 := n3_; have GW635 := n4_; have GE635 := n5_; have NB631_635 := n6_; have NB635_631 := n7_; have NB633_635 := n8_; have NB635_633 := n9_; clear n0_ n1_ n2_ n3_ n4_ n5_ n6_ n7_ n8_ n9_; clear hb hbox hg; have hnb41 := NB635_631.out; have hnc41 := NB631_635.out; have hnb42 := NB635_633.out; have hnc42 := NB633_635.out; have hcz43_0 : w40.cell? ⟨gb635, 0, none⟩ = some (.int .i64 0) := (blk_cell BK635.out 0).trans rfl; have hcz43_1 : w40.cell? ⟨gb635, 1, none⟩ = some (.int .i64 0) := (blk_cell BK635.out 1).trans rfl; have hcz43_2 : w40.cell? ⟨gb635, 2, none⟩ = some (.int .i64 0) := (blk_cell BK635.out 2).trans rfl; have hfz43_0 := blk_frozen BK635.out 0; have hfz43_1 := blk_frozen BK635.out 1; have hfz43_2 := blk_frozen BK635.out 2; have hcz44_0 : w40.cell? ⟨gb633, 0, none⟩ = some (.int .i64 ((rd_T75 l0_1 x12_1).f0)) := (blk_cell BK633.out 0).trans rfl; have hcz44_1 : w40.cell? ⟨gb633, 1, none⟩ = some (.int .i64 ((rd_T75 l0_1 x12_1).f1)) := (blk_cell BK633.out 1).trans rfl; have hcz44_2 : w40.cell? ⟨gb633, 2, none⟩ = some (.int .i64 ((rd_T75 l0_1 x12_1).f2)) := (blk_cell BK633.out 2).trans rfl; have hfz44_0 := blk_frozen BK633.out 0; have hfz44_1 := blk_frozen BK633.out 1; have hfz44_2 := blk_frozen BK633.out 2))
                          go_ret
                          exact ⟨by first | rfl | (simp [errW_none, errW_some] <;> rfl) | (simp only [← hji34]; first | rfl | (simp [errW_none, errW_some] <;> rfl)) | (simp [*, errW_none, errW_some] <;> rfl), by repeat (first | (with_reducible first | exact HB.out | apply below_alloc | apply pw_below_drewN | apply below_drew1 | refine below_set ?_ GE631.out | refine below_set ?_ GE633.out | refine below_set ?_ GE635.out) | exact HB.out)⟩
                        · rw [if_neg c37] at H
                          have c37b0 : decide (((rd_T75 l0_1 x12_1).f1) < (wrap64 (((rd_T75 l0_1 (ji34)).f1) + (wrap64 (((rd_T75 l0_1 (ji34)).f2) * (wrap64 ((wrap64 (((rd_T75 l0_1 x12_1).f0) - 1)) - ((rd_T75 l0_1 (ji34)).f0)))))))) = false := decide_eq_false c37
                          clear c37
                          by_cases c45 : a1 = true
                          · subst c45
                            have H1 : (wageofficelaw28_gentle.l0 kj7 true l0_1 (l0_1.length : Int) (wrap64 (x12_1 + 1)) a0_0 l0_1) = some r := by rw [if_pos rfl] at H; exact H
                            clear H
                            have H := H1
                            clear H1
                            have H' := Aside0.mk H
                            clear H
                            have hnb46 := NB631_633.out
                            have hnc46 := NB633_631.out
                            have hcz47_0 : wc.cell? ⟨gb631, 0, none⟩ = some (.int .i64 a0_0) := (blk_cell BK631.out 0).trans rfl
                            have hcz47_1 : wc.cell? ⟨gb631, 1, none⟩ = some (.slice (some ad632) l0_1.length c0_1) := (blk_cell BK631.out 1).trans rfl
                            have hfz47_0 := blk_frozen BK631.out 0
                            have hfz47_1 := blk_frozen BK631.out 1
                            have p634 : 0 ≤ ((ji34) : Int) := of_decide_eq_true (by first | (with_reducible assumption) | assumption)
                            have q634 : (ji34) < (l0_1.length : Int) := of_decide_eq_true (by first | (with_reducible assumption) | assumption)
                            obtain ⟨ad634, e634, hx634_0, hx634_1, hx634_2⟩ := at_T75 HR0_1.out (ji34) p634 q634
                            obtain rfl : ad632 = ad634 := (by injection e634)
                            replace hx634_0 := (HB.out.cell (World.block_lt_of_cell? w _ hx634_0)).trans hx634_0
                            replace hx634_1 := (HB.out.cell (World.block_lt_of_cell? w _ hx634_1)).trans hx634_1
                            replace hx634_2 := (HB.out.cell (World.block_lt_of_cell? w _ hx634_2)).trans hx634_2
                            replace p634 := eq_true p634
                            replace q634 := eq_true q634
                            go_wp2_with (first | ((with_reducible refine gate_dst (N := 7) rfl ?_); refine box_event ?hg (N := 7) ?hd (cs := #[.int .i64 0, .int .i64 0, .int .i64 0]) (t := 75) ?hr ?_; (case hd => rfl); (case hg => rfl); (case hr => first | (go_simp; done) | (go_simp; rfl)); intro gb635 hg w48 hbox hb; have n0_ := Aside0.mk (blk_below (g := gb631) (o := .cells #[.int .i64 a0_0, .slice (some ad632) l0_1.length c0_1] 42 (0, 0)) (by (with_reducible repeat (first | refine blk_drewN ?_ _ | refine blk_drew ?_ | refine blk_alloc ?_ _)); exact BK631.out) hb); have n1_ := Aside0.mk (blk_below (g := gb633) (o := .cells #[.int .i64 ((rd_T75 l0_1 x12_1).f0), .int .i64 ((rd_T75 l0_1 x12_1).f1), .int .i64 ((rd_T75 l0_1 x12_1).f2)] 75 (0, 0)) (by (with_reducible repeat (first | refine blk_drewN ?_ _ | refine blk_drew ?_ | refine blk_alloc ?_ _)); exact BK633.out) hb); have n2_ := Aside0.mk (below_step (by repeat (first | (with_reducible first | exact HB.out | apply below_alloc | apply pw_below_drewN | apply below_drew1 | refine below_set ?_ GE631.out | refine below_set ?_ GE633.out) | exact HB.out)) hb); have n3_ := Aside0.mk (hbox); have n4_ := Aside0.mk ((by rw [hg]; exact (below_size (by repeat (first | (with_reducible first | exact HB.out | apply below_alloc | apply pw_below_drewN | apply below_drew1 | refine below_set ?_ GE631.out | refine below_set ?_ GE633.out) | exact HB.out))) : w.heap.size ≤ gb635)); have n5_ := Aside0.mk ((by rw [hg]; exact (below_size (by repeat (first | (with_reducible first | exact HB.out | apply below_alloc | apply pw_below_drewN | apply below_drew1 | refine below_set ?_ GE631.out | refine below_set ?_ GE633.out) | exact HB.out))) : w.heap.size ≤ gb635)); have n6_ := Aside0.mk ((by rw [hg]; exact Nat.ne_of_lt (blk_lt (g := gb631) (o := .cells #[.int .i64 a0_0, .slice (some ad632) l0_1.length c0_1] 42 (0, 0)) (by (with_reducible repeat (first | refine blk_drewN ?_ _ | refine blk_drew ?_ | refine blk_alloc ?_ _)); exact BK631.out)) : gb631 ≠ gb635)); have n7_ := Aside0.mk ((by rw [hg]; exact Nat.ne_of_gt (blk_lt (g := gb631) (o := .cells #[.int .i64 a0_0, .slice (some ad632) l0_1.length c0_1] 42 (0, 0)) (by (with_reducible repeat (first | refine blk_drewN ?_ _ | refine blk_drew ?_ | refine blk_alloc ?_ _)); exact BK631.out)) : gb635 ≠ gb631)); have n8_ := Aside0.mk ((by rw [hg]; exact Nat.ne_of_lt (blk_lt (g := gb633) (o := .cells #[.int .i64 ((rd_T75 l0_1 x12_1).f0), .int .i64 ((rd_T75 l0_1 x12_1).f1), .int .i64 ((rd_T75 l0_1 x12_1).f2)] 75 (0, 0)) (by (with_reducible repeat (first | refine blk_drewN ?_ _ | refine blk_drew ?_ | refine blk_alloc ?_ _)); exact BK633.out)) : gb633 ≠ gb635)); have n9_ := Aside0.mk ((by rw [hg]; exact Nat.ne_of_gt (blk_lt (g := gb633) (o := .cells #[.int .i64 ((rd_T75 l0_1 x12_1).f0), .int .i64 ((rd_T75 l0_1 x12_1).f1), .int .i64 ((rd_T75 l0_1 x12_1).f2)] 75 (0, 0)) (by (with_reducible repeat (first | refine blk_drewN ?_ _ | refine blk_drew ?_ | refine blk_alloc ?_ _)); exact BK633.out)) : gb635 ≠ gb633)); clear BK631; clear BK633; clear HB; have BK631 := n0_; have BK633 := n1_; have HB := n2_; have BK635 := n3_; have GW635 := n4_; have GE635 := n5_; have NB631_635 := n6_; have NB635_631 := n7_; have NB633_635 := n8_; have NB635_633 := n9_; clear n0_ n1_ n2_ n3_ n4_ n5_ n6_ n7_ n8_ n9_; clear hb hbox hg; have hnb49 := NB635_631.out; have hnc49 := NB631_635.out; have hnb50 := NB635_633.out; have hnc50 := NB633_635.out; have hcz51_0 : w48.cell? ⟨gb635, 0, none⟩ = some (.int .i64 0) := (blk_cell BK635.out 0).trans rfl; have hcz51_1 : w48.cell? ⟨gb635, 1, none⟩ = some (.int .i64 0) := (blk_cell BK635.out 1).trans rfl; have hcz51_2 : w48.cell? ⟨gb635, 2, none⟩ = some (.int .i64 0) := (blk_cell BK635.out 2).trans rfl; have hfz51_0 := blk_frozen BK635.out 0; have hfz51_1 := blk_frozen BK635.out 1; have hfz51_2 := blk_frozen BK635.out 2; have hcz52_0 : w48.cell? ⟨gb633, 0, none⟩ = some (.int .i64 ((rd_T75 l0_1 x12_1).f0)) := (blk_cell BK633.out 0).trans rfl; have hcz52_1 : w48.cell? ⟨gb633, 1, none⟩ = some (.int .i64 ((rd_T75 l0_1 x12_1).f1)) := (blk_cell BK633.out 1).trans rfl; have hcz52_2 : w48.cell? ⟨gb633, 2, none⟩ = some (.int .i64 ((rd_T75 l0_1 x12_1).f2)) := (blk_cell BK633.out 2).trans rfl; have hfz52_0 := blk_frozen BK633.out 0; have hfz52_1 := blk_frozen BK633.out 1; have hfz52_2 := blk_frozen BK633.out 2))
                            go_roundg kj7
                            case measure => have := HK1.out; have := HJ7.out; omega
                            case rel => exact ⟨(wrap64 (x12_1 + 1)), (by first | rfl | (simp; done) | (simp [*]; done)), H', ⟨by have := HK1.out; have := HJ7.out; omega⟩, ⟨by (with_reducible repeat (first | refine blk_drewN ?_ _ | refine blk_drew ?_ | refine blk_alloc ?_ _)); refine blk_far ?_ NB631_635.out _; (with_reducible repeat (first | refine blk_drewN ?_ _ | refine blk_drew ?_ | refine blk_alloc ?_ _)); refine blk_far ?_ NB631_635.out _; (with_reducible repeat (first | refine blk_drewN ?_ _ | refine blk_drew ?_ | refine blk_alloc ?_ _)); refine blk_far ?_ NB631_635.out _; (with_reducible repeat (first | refine blk_drewN ?_ _ | refine blk_drew ?_ | refine blk_alloc ?_ _)); exact BK631.out⟩, ⟨by repeat (first | (with_reducible first | exact HB.out | apply below_alloc | apply pw_below_drewN | apply below_drew1 | refine below_set ?_ GE631.out | refine below_set ?_ GE633.out | refine below_set ?_ GE635.out) | exact HB.out)⟩⟩
                          · replace c45 := Bool.eq_false_iff.mpr c45
                            subst c45
                            have H1 : (if (wrap64 (((rd_T75 l0_1 x12_1).f1) - (wrap64 (((rd_T75 l0_1 (ji34)).f1) + (wrap64 (((rd_T75 l0_1 (ji34)).f2) * (wrap64 ((wrap64 (((rd_T75 l0_1 x12_1).f0) - 1)) - ((rd_T75 l0_1 (ji34)).f0))))))))) > a0_0 then (some false) else (wageofficelaw28_gentle.l0 kj7 false l0_1 (l0_1.length : Int) (wrap64 (x12_1 + 1)) a0_0 l0_1)) = some r := by rw [if_neg (show ¬ (false = true) by decide)] at H; exact H
                            clear H
                            have H := H1
                            clear H1
                            by_cases c53 : (wrap64 (((rd_T75 l0_1 x12_1).f1) - (wrap64 (((rd_T75 l0_1 (ji34)).f1) + (wrap64 (((rd_T75 l0_1 (ji34)).f2) * (wrap64 ((wrap64 (((rd_T75 l0_1 x12_1).f0) - 1)) - ((rd_T75 l0_1 (ji34)).f0))))))))) > a0_0
                            · rw [if_pos c53] at H
                              have c53b0 : decide (a0_0 < (wrap64 (((rd_T75 l0_1 x12_1).f1) - (wrap64 (((rd_T75 l0_1 (ji34)).f1) + (wrap64 (((rd_T75 l0_1 (ji34)).f2) * (wrap64 ((wrap64 (((rd_T75 l0_1 x12_1).f0) - 1)) - ((rd_T75 l0_1 (ji34)).f0)))))))))) = true := decide_eq_true c53
                              clear c53
                              obtain rfl := Option.some.inj H
                              have hnb54 := NB631_633.out
                              have hnc54 := NB633_631.out
                              have hcz55_0 : wc.cell? ⟨gb631, 0, none⟩ = some (.int .i64 a0_0) := (blk_cell BK631.out 0).trans rfl
                              have hcz55_1 : wc.cell? ⟨gb631, 1, none⟩ = some (.slice (some ad632) l0_1.length c0_1) := (blk_cell BK631.out 1).trans rfl
                              have hfz55_0 := blk_frozen BK631.out 0
                              have hfz55_1 := blk_frozen BK631.out 1
                              have p634 : 0 ≤ ((ji34) : Int) := of_decide_eq_true (by first | (with_reducible assumption) | assumption)
                              have q634 : (ji34) < (l0_1.length : Int) := of_decide_eq_true (by first | (with_reducible assumption) | assumption)
                              obtain ⟨ad634, e634, hx634_0, hx634_1, hx634_2⟩ := at_T75 HR0_1.out (ji34) p634 q634
                              obtain rfl : ad632 = ad634 := (by injection e634)
                              replace hx634_0 := (HB.out.cell (World.block_lt_of_cell? w _ hx634_0)).trans hx634_0
                              replace hx634_1 := (HB.out.cell (World.block_lt_of_cell? w _ hx634_1)).trans hx634_1
                              replace hx634_2 := (HB.out.cell (World.block_lt_of_cell? w _ hx634_2)).trans hx634_2
                              replace p634 := eq_true p634
                              replace q634 := eq_true q634
                              go_wp2_with (first | ((with_reducible refine gate_dst (N := 7) rfl ?_); refine box_event ?hg (N := 7) ?hd (cs := #[.int .i64 0, .int .i64 0, .int .i64 0]) (t := 75) ?hr ?_; (case hd => rfl); (case hg => rfl); (case hr => first | (go_simp; done) | (go_simp; rfl)); intro gb635 hg w56 hbox hb; have n0_ := Aside0.mk (blk_below (g := gb631) (o := .cells #[.int .i64 a0_0, .slice (some ad632) l0_1.length c0_1] 42 (0, 0)) (by (with_reducible repeat (first | refine blk_drewN ?_ _ | refine blk_drew ?_ | refine blk_alloc ?_ _)); exact BK631.out) hb); have n1_ := Aside0.mk (blk_below (g := gb633) (o := .cells #[.int .i64 ((rd_T75 l0_1 x12_1).f0), .int .i64 ((rd_T75 l0_1 x12_1).f1), .int .i64 ((rd_T75 l0_1 x12_1).f2)] 75 (0, 0)) (by (with_reducible repeat (first | refine blk_drewN ?_ _ | refine blk_drew ?_ | refine blk_alloc ?_ _)); exact BK633.out) hb); have n2_ := Aside0.mk (below_step (by repeat (first | (with_reducible first | exact HB.out | apply below_alloc | apply pw_below_drewN | apply below_drew1 | refine below_set ?_ GE631.out | refine below_set ?_ GE633.out) | exact HB.out)) hb); have n3_ := Aside0.mk (hbox); have n4_ := Aside0.mk ((by rw [hg]; exact (below_size (by repeat (first | (with_reducible first | exact HB.out | apply below_alloc | apply pw_below_drewN | apply below_drew1 | refine below_set ?_ GE631.out | refine below_set ?_ GE633.out) | exact HB.out))) : w.heap.size ≤ gb635)); have n5_ := Aside0.mk ((by rw [hg]; exact (below_size (by repeat (first | (with_reducible first | exact HB.out | apply below_alloc | apply pw_below_drewN | apply below_drew1 | refine below_set ?_ GE631.out | refine below_set ?_ GE633.out) | exact HB.out))) : w.heap.size ≤ gb635)); have n6_ := Aside0.mk ((by rw [hg]; exact Nat.ne_of_lt (blk_lt (g := gb631) (o := .cells #[.int .i64 a0_0, .slice (some ad632) l0_1.length c0_1] 42 (0, 0)) (by (with_reducible repeat (first | refine blk_drewN ?_ _ | refine blk_drew ?_ | refine blk_alloc ?_ _)); exact BK631.out)) : gb631 ≠ gb635)); have n7_ := Aside0.mk ((by rw [hg]; exact Nat.ne_of_gt (blk_lt (g := gb631) (o := .cells #[.int .i64 a0_0, .slice (some ad632) l0_1.length c0_1] 42 (0, 0)) (by (with_reducible repeat (first | refine blk_drewN ?_ _ | refine blk_drew ?_ | refine blk_alloc ?_ _)); exact BK631.out)) : gb635 ≠ gb631)); have n8_ := Aside0.mk ((by rw [hg]; exact Nat.ne_of_lt (blk_lt (g := gb633) (o := .cells #[.int .i64 ((rd_T75 l0_1 x12_1).f0), .int .i64 ((rd_T75 l0_1 x12_1).f1), .int .i64 ((rd_T75 l0_1 x12_1).f2)] 75 (0, 0)) (by (with_reducible repeat (first | refine blk_drewN ?_ _ | refine blk_drew ?_ | refine blk_alloc ?_ _)); exact BK633.out)) : gb633 ≠ gb635)); have n9_ := Aside0.mk ((by rw [hg]; exact Nat.ne_of_gt (blk_lt (g := gb633) (o := .cells #[.int .i64 ((rd_T75 l0_1 x12_1).f0), .int .i64 ((rd_T75 l0_1 x12_1).f1), .int .i64 ((rd_T75 l0_1 x12_1).f2)] 75 (0, 0)) (by (with_reducible repeat (first | refine blk_drewN ?_ _ | refine blk_drew ?_ | refine blk_alloc ?_ _)); exact BK633.out)) : gb635 ≠ gb633)); clear BK631; clear BK633; clear HB; have BK631 := n0_; have BK633 := n1_; have HB := n2_; have BK635 := n3_; have GW635 := n4_; have GE635 := n5_; have NB631_635 := n6_; have NB635_631 := n7_; have NB633_635 := n8_; have NB635_633 := n9_; clear n0_ n1_ n2_ n3_ n4_ n5_ n6_ n7_ n8_ n9_; clear hb hbox hg; have hnb57 := NB635_631.out; have hnc57 := NB631_635.out; have hnb58 := NB635_633.out; have hnc58 := NB633_635.out; have hcz59_0 : w56.cell? ⟨gb635, 0, none⟩ = some (.int .i64 0) := (blk_cell BK635.out 0).trans rfl; have hcz59_1 : w56.cell? ⟨gb635, 1, none⟩ = some (.int .i64 0) := (blk_cell BK635.out 1).trans rfl; have hcz59_2 : w56.cell? ⟨gb635, 2, none⟩ = some (.int .i64 0) := (blk_cell BK635.out 2).trans rfl; have hfz59_0 := blk_frozen BK635.out 0; have hfz59_1 := blk_frozen BK635.out 1; have hfz59_2 := blk_frozen BK635.out 2; have hcz60_0 : w56.cell? ⟨gb633, 0, none⟩ = some (.int .i64 ((rd_T75 l0_1 x12_1).f0)) := (blk_cell BK633.out 0).trans rfl; have hcz60_1 : w56.cell? ⟨gb633, 1, none⟩ = some (.int .i64 ((rd_T75 l0_1 x12_1).f1)) := (blk_cell BK633.out 1).trans rfl; have hcz60_2 : w56.cell? ⟨gb633, 2, none⟩ = some (.int .i64 ((rd_T75 l0_1 x12_1).f2)) := (blk_cell BK633.out 2).trans rfl; have hfz60_0 := blk_frozen BK633.out 0; have hfz60_1 := blk_frozen BK633.out 1; have hfz60_2 := blk_frozen BK633.out 2; have hcz61_0 : w56.cell? ⟨gb631, 0, none⟩ = some (.int .i64 a0_0) := (blk_cell BK631.out 0).trans rfl; have hcz61_1 : w56.cell? ⟨gb631, 1, none⟩ = some (.slice (some ad632) l0_1.length c0_1) := (blk_cell BK631.out 1).trans rfl; have hfz61_0 := blk_frozen BK631.out 0; have hfz61_1 := blk_frozen BK631.out 1))
                              go_ret
                              exact ⟨by first | rfl | (simp [errW_none, errW_some] <;> rfl) | (simp only [← hji34]; first | rfl | (simp [errW_none, errW_some] <;> rfl)) | (simp [*, errW_none, errW_some] <;> rfl), by repeat (first | (with_reducible first | exact HB.out | apply below_alloc | apply pw_below_drewN | apply below_drew1 | refine below_set ?_ GE631.out | refine below_set ?_ GE633.out | refine below_set ?_ GE635.out) | exact HB.out)⟩
                            · rw [if_neg c53] at H
                              have c53b0 : decide (a0_0 < (wrap64 (((rd_T75 l0_1 x12_1).f1) - (wrap64 (((rd_T75 l0_1 (ji34)).f1) + (wrap64 (((rd_T75 l0_1 (ji34)).f2) * (wrap64 ((wrap64 (((rd_T75 l0_1 x12_1).f0) - 1)) - ((rd_T75 l0_1 (ji34)).f0)))))))))) = false := decide_eq_false c53
                              clear c53
                              have H' := Aside0.mk H
                              clear H
                              have hnb62 := NB631_633.out
                              have hnc62 := NB633_631.out
                              have hcz63_0 : wc.cell? ⟨gb631, 0, none⟩ = some (.int .i64 a0_0) := (blk_cell BK631.out 0).trans rfl
                              have hcz63_1 : wc.cell? ⟨gb631, 1, none⟩ = some (.slice (some ad632) l0_1.length c0_1) := (blk_cell BK631.out 1).trans rfl
                              have hfz63_0 := blk_frozen BK631.out 0
                              have hfz63_1 := blk_frozen BK631.out 1
                              have p634 : 0 ≤ ((ji34) : Int) := of_decide_eq_true (by first | (with_reducible assumption) | assumption)
                              have q634 : (ji34) < (l0_1.length : Int) := of_decide_eq_true (by first | (with_reducible assumption) | assumption)
                              obtain ⟨ad634, e634, hx634_0, hx634_1, hx634_2⟩ := at_T75 HR0_1.out (ji34) p634 q634
                              obtain rfl : ad632 = ad634 := (by injection e634)
                              replace hx634_0 := (HB.out.cell (World.block_lt_of_cell? w _ hx634_0)).trans hx634_0
                              replace hx634_1 := (HB.out.cell (World.block_lt_of_cell? w _ hx634_1)).trans hx634_1
                              replace hx634_2 := (HB.out.cell (World.block_lt_of_cell? w _ hx634_2)).trans hx634_2
                              replace p634 := eq_true p634
                              replace q634 := eq_true q634
                              go_wp2_with (first | ((with_reducible refine gate_dst (N := 7) rfl ?_); refine box_event ?hg (N := 7) ?hd (cs := #[.int .i64 0, .int .i64 0, .int .i64 0]) (t := 75) ?hr ?_; (case hd => rfl); (case hg => rfl); (case hr => first | (go_simp; done) | (go_simp; rfl)); intro gb635 hg w64 hbox hb; have n0_ := Aside0.mk (blk_below (g := gb631) (o := .cells #[.int .i64 a0_0, .slice (some ad632) l0_1.length c0_1] 42 (0, 0)) (by (with_reducible repeat (first | refine blk_drewN ?_ _ | refine blk_drew ?_ | refine blk_alloc ?_ _)); exact BK631.out) hb); have n1_ := Aside0.mk (blk_below (g := gb633) (o := .cells #[.int .i64 ((rd_T75 l0_1 x12_1).f0), .int .i64 ((rd_T75 l0_1 x12_1).f1), .int .i64 ((rd_T75 l0_1 x12_1).f2)] 75 (0, 0)) (by (with_reducible repeat (first | refine blk_drewN ?_ _ | refine blk_drew ?_ | refine blk_alloc ?_ _)); exact BK633.out) hb); have n2_ := Aside0.mk (below_step (by repeat (first | (with_reducible first | exact HB.out | apply below_alloc | apply pw_below_drewN | apply below_drew1 | refine below_set ?_ GE631.out | refine below_set ?_ GE633.out) | exact HB.out)) hb); have n3_ := Aside0.mk (hbox); have n4_ := Aside0.mk ((by rw [hg]; exact (below_size (by repeat (first | (with_reducible first | exact HB.out | apply below_alloc | apply pw_below_drewN | apply below_drew1 | refine below_set ?_ GE631.out | refine below_set ?_ GE633.out) | exact HB.out))) : w.heap.size ≤ gb635)); have n5_ := Aside0.mk ((by rw [hg]; exact (below_size (by repeat (first | (with_reducible first | exact HB.out | apply below_alloc | apply pw_below_drewN | apply below_drew1 | refine below_set ?_ GE631.out | refine below_set ?_ GE633.out) | exact HB.out))) : w.heap.size ≤ gb635)); have n6_ := Aside0.mk ((by rw [hg]; exact Nat.ne_of_lt (blk_lt (g := gb631) (o := .cells #[.int .i64 a0_0, .slice (some ad632) l0_1.length c0_1] 42 (0, 0)) (by (with_reducible repeat (first | refine blk_drewN ?_ _ | refine blk_drew ?_ | refine blk_alloc ?_ _)); exact BK631.out)) : gb631 ≠ gb635)); have n7_ := Aside0.mk ((by rw [hg]; exact Nat.ne_of_gt (blk_lt (g := gb631) (o := .cells #[.int .i64 a0_0, .slice (some ad632) l0_1.length c0_1] 42 (0, 0)) (by (with_reducible repeat (first | refine blk_drewN ?_ _ | refine blk_drew ?_ | refine blk_alloc ?_ _)); exact BK631.out)) : gb635 ≠ gb631)); have n8_ := Aside0.mk ((by rw [hg]; exact Nat.ne_of_lt (blk_lt (g := gb633) (o := .cells #[.int .i64 ((rd_T75 l0_1 x12_1).f0), .int .i64 ((rd_T75 l0_1 x12_1).f1), .int .i64 ((rd_T75 l0_1 x12_1).f2)] 75 (0, 0)) (by (with_reducible repeat (first | refine blk_drewN ?_ _ | refine blk_drew ?_ | refine blk_alloc ?_ _)); exact BK633.out)) : gb633 ≠ gb635)); have n9_ := Aside0.mk ((by rw [hg]; exact Nat.ne_of_gt (blk_lt (g := gb633) (o := .cells #[.int .i64 ((rd_T75 l0_1 x12_1).f0), .int .i64 ((rd_T75 l0_1 x12_1).f1), .int .i64 ((rd_T75 l0_1 x12_1).f2)] 75 (0, 0)) (by (with_reducible repeat (first | refine blk_drewN ?_ _ | refine blk_drew ?_ | refine blk_alloc ?_ _)); exact BK633.out)) : gb635 ≠ gb633)); clear BK631; clear BK633; clear HB; have BK631 := n0_; have BK633 := n1_; have HB := n2_; have BK635 := n3_; have GW635 := n4_; have GE635 := n5_; have NB631_635 := n6_; have NB635_631 := n7_; have NB633_635 := n8_; have NB635_633 := n9_; clear n0_ n1_ n2_ n3_ n4_ n5_ n6_ n7_ n8_ n9_; clear hb hbox hg; have hnb65 := NB635_631.out; have hnc65 := NB631_635.out; have hnb66 := NB635_633.out; have hnc66 := NB633_635.out; have hcz67_0 : w64.cell? ⟨gb635, 0, none⟩ = some (.int .i64 0) := (blk_cell BK635.out 0).trans rfl; have hcz67_1 : w64.cell? ⟨gb635, 1, none⟩ = some (.int .i64 0) := (blk_cell BK635.out 1).trans rfl; have hcz67_2 : w64.cell? ⟨gb635, 2, none⟩ = some (.int .i64 0) := (blk_cell BK635.out 2).trans rfl; have hfz67_0 := blk_frozen BK635.out 0; have hfz67_1 := blk_frozen BK635.out 1; have hfz67_2 := blk_frozen BK635.out 2; have hcz68_0 : w64.cell? ⟨gb633, 0, none⟩ = some (.int .i64 ((rd_T75 l0_1 x12_1).f0)) := (blk_cell BK633.out 0).trans rfl; have hcz68_1 : w64.cell? ⟨gb633, 1, none⟩ = some (.int .i64 ((rd_T75 l0_1 x12_1).f1)) := (blk_cell BK633.out 1).trans rfl; have hcz68_2 : w64.cell? ⟨gb633, 2, none⟩ = some (.int .i64 ((rd_T75 l0_1 x12_1).f2)) := (blk_cell BK633.out 2).trans rfl; have hfz68_0 := blk_frozen BK633.out 0; have hfz68_1 := blk_frozen BK633.out 1; have hfz68_2 := blk_frozen BK633.out 2; have hcz69_0 : w64.cell? ⟨gb631, 0, none⟩ = some (.int .i64 a0_0) := (blk_cell BK631.out 0).trans rfl; have hcz69_1 : w64.cell? ⟨gb631, 1, none⟩ = some (.slice (some ad632) l0_1.length c0_1) := (blk_cell BK631.out 1).trans rfl; have hfz69_0 := blk_frozen BK631.out 0; have hfz69_1 := blk_frozen BK631.out 1))
                              go_roundg kj7
                              case measure => have := HK1.out; have := HJ7.out; omega
                              case rel => exact ⟨(wrap64 (x12_1 + 1)), (by first | rfl | (simp; done) | (simp [*]; done)), H', ⟨by have := HK1.out; have := HJ7.out; omega⟩, ⟨by (with_reducible repeat (first | refine blk_drewN ?_ _ | refine blk_drew ?_ | refine blk_alloc ?_ _)); refine blk_far ?_ NB631_635.out _; (with_reducible repeat (first | refine blk_drewN ?_ _ | refine blk_drew ?_ | refine blk_alloc ?_ _)); refine blk_far ?_ NB631_635.out _; (with_reducible repeat (first | refine blk_drewN ?_ _ | refine blk_drew ?_ | refine blk_alloc ?_ _)); refine blk_far ?_ NB631_635.out _; (with_reducible repeat (first | refine blk_drewN ?_ _ | refine blk_drew ?_ | refine blk_alloc ?_ _)); exact BK631.out⟩, ⟨by repeat (first | (with_reducible first | exact HB.out | apply below_alloc | apply pw_below_drewN | apply below_drew1 | refine below_set ?_ GE631.out | refine below_set ?_ GE633.out | refine below_set ?_ GE635.out) | exact HB.out)⟩⟩
                      · rw [if_neg c36] at H
                        exact absurd H (by simp)
                    · rw [if_neg c35] at H
                      exact absurd H (by simp)
          · rw [if_neg c7] at H
            exact absurd H (by simp)
        · rw [if_neg c6] at H
          exact absurd H (by simp)
      · rw [if_neg c5] at H
        have c5b0 : decide (x12_1 < (l0_1.length : Int)) = false := decide_eq_false c5
        clear c5
        obtain rfl := Option.some.inj H
        go_wp2
        go_ret
        exact ⟨by first | rfl | (simp [errW_none, errW_some] <;> rfl) | (simp [*, errW_none, errW_some] <;> rfl), by repeat (first | (with_reducible first | exact HB.out | apply below_alloc | apply pw_below_drewN | apply below_drew1 | refine below_set ?_ GE631.out) | exact HB.out)⟩

end Go.Proofs.Ytnadfkhllfgoiaa.My
