-- Written by a program of this session (wip/myprint.py), which drives the kit's print over hand-written fragments. Not trusted: Lean checks it.
import Derived.Test.YtnadfkhllfgoiaaMyx0
namespace Go.Proofs.Ytnadfkhllfgoiaa.My
open Go.Proofs.Ytnadfkhllfgoiaa.Aid Go.Proofs.Ytnadfkhllfgoiaa.KdX
open Go.RowKit Go.Proofs.YtnadfkhllfgoiaaW.PrintWords Go.Proofs.YtnadfkhllfgoiaaW.PrintLast Go.Proofs.YtnadfkhllfgoiaaW.PrintMore
attribute [local go_sem] max2_int min2_int max_two min_two max_three min_three max_four min_four   -- for this text's walks alone
set_option linter.unusedVariables false
set_option linter.unusedSimpArgs false

/-! ### wageofficeref28_Find: function 30 -/
def wageofficeref28_Find.l0 : Nat → List (S44) → Int → Int → Int → Option (Int × Int × (List (S75)) × Bool)
  | 0, _, _, _, _ => none
  | k + 1, x0, x1, x6, x7 => if x7 < (x0.length : Int) then (if 0 ≤ x7 then (if ((rd_T44 x0 x7).f0) ≤ x1 then (if x6 < 0 then (wageofficeref28_Find.l0 k x0 x1 x7 (wrap64 (x7 + 1))) else (if 0 ≤ x6 then (if x6 < (x0.length : Int) then (if ((rd_T44 x0 x7).f0) ≥ ((rd_T44 x0 x6).f0) then (wageofficeref28_Find.l0 k x0 x1 x7 (wrap64 (x7 + 1))) else (wageofficeref28_Find.l0 k x0 x1 x6 (wrap64 (x7 + 1)))) else (none)) else (none))) else (wageofficeref28_Find.l0 k x0 x1 x6 (wrap64 (x7 + 1)))) else (none)) else (if x6 < 0 then (some (0, 0, ([] : List (S75)), false)) else (if 0 ≤ x6 then (if x6 < (x0.length : Int) then (some ((rd_T44 x0 x6).f0, (rd_T44 x0 x6).f1.f0, (rd_T44 x0 x6).f1.f1, true)) else (none)) else (none)))
def wageofficeref28_Find.f (k : Nat) (l0 : List (S44)) (a1 : Int) : Option (Int × Int × (List (S75)) × Bool) := wageofficeref28_Find.l0 k l0 a1 (-1) 0
theorem wageofficeref28_Find.mono_l : ∀ k, (∀ y0 y1 y2 y3, LeO (wageofficeref28_Find.l0 k y0 y1 y2 y3) (wageofficeref28_Find.l0 (k + 1) y0 y1 y2 y3))
  | 0 => fun _ _ _ _ r h => by simp [wageofficeref28_Find.l0] at h
  | k + 1 => by
    have ih0 := wageofficeref28_Find.mono_l k
    · intro y0 y1 y2 y3
      unfold wageofficeref28_Find.l0
      repeat' first
      | (with_reducible exact ih0 _ _ _ _)
      | (with_reducible exact LeO.refl _)
      | (with_reducible exact LeO.none _)
      | (with_reducible refine LeO.ite ?_ ?_)
      | (with_reducible refine LeO.bind ?_ (fun _ => ?_))
      | exact ih0 _ _ _ _
      | exact LeO.none _
      | refine LeO.ite ?_ ?_
      | refine LeO.bind ?_ (fun _ => ?_)
theorem wageofficeref28_Find.mono : ∀ a0 a1 k, LeO (wageofficeref28_Find.f k a0 a1) (wageofficeref28_Find.f (k + 1) a0 a1) := by
  intro a0 a1 k
  have ih0 := wageofficeref28_Find.mono_l k
  unfold wageofficeref28_Find.f
  repeat' first
      | (with_reducible exact ih0 _ _ _ _)
      | (with_reducible exact LeO.refl _)
      | (with_reducible exact LeO.none _)
      | (with_reducible refine LeO.ite ?_ ?_)
      | (with_reducible refine LeO.bind ?_ (fun _ => ?_))
      | exact ih0 _ _ _ _
      | exact LeO.none _
      | refine LeO.ite ?_ ?_
      | refine LeO.bind ?_ (fun _ => ?_)
set_option maxHeartbeats 8000000 in
set_option maxRecDepth 100000 in
theorem wageofficeref28_Find.calls (k : Nat) (P0_ : Nat → Prop) (A0 : Option Addr) (c0 : Nat) (l0 : List (S44)) (a1 : Int) (r1 : Int) (r2 : Int) (r3 : List (S75)) (r4 : Bool) (w : World) (hs0 : Kd.V k44 44 w w.heap.size (fun k_ => P0_ k_) (.slice A0 l0.length c0) l0) (h : wageofficeref28_Find.f k l0 a1 = some (r1, r2, r3, r4)) :
    Calls Try.prog 30 #[.slice A0 l0.length c0, .int .i64 a1] w fun e w' => ∃ v2_ : Value, e = .returned (.tuple #[.agg #[.int .i64 r1, .int .i64 r2, v2_], .bool r4]) ∧ Kd.V k75 75 w' w.heap.size (fun k_ => (P0_ k_ ∨ w.heap.size ≤ k_)) v2_ r3 ∧ Below w.heap.size w w' := by
  have hu44 := Try.underlying44
  have HO0 := Aside0.mk (show Kd.V k44 44 w w.heap.size (fun k_ => (P0_ k_ ∨ w.heap.size ≤ k_)) (.slice A0 l0.length c0) l0 from Kd.V_mono hs0 (fun k_ hk => .inl hk))
  have HB := Aside0.mk (Below.refl w.heap.size w)
  have H : (wageofficeref28_Find.l0 k l0 a1 (-1) 0) = some (r1, r2, r3, r4) := h
  clear h
  have H' := Aside0.mk H
  clear H
  go_enter Try.func30, Try.ntmps30
  go_wp2_with (first | ((with_reducible refine gate_dst (N := 4) rfl ?_); refine box_event ?hg (N := 4) ?hd (cs := #[.int .i64 0, .int .i64 0, .slice none 0 0]) (t := 44) ?hr ?_; (case hd => rfl); (case hg => rfl); (case hr => first | (go_simp; done) | (go_simp; rfl)); intro gb479 hg w3 hbox hb; have n0_ := Aside0.mk (Kd.V_below (Kd.V_elderB (by (with_reducible repeat (first | apply Kd.V_alloc | apply Kd.V_drewN | apply Kd.V_drew)); exact HO0.out) gb479 (Nat.le_of_eq hg.symm)) hb); have n1_ := Aside0.mk (below_step (by repeat (first | (with_reducible first | exact HB.out | apply below_alloc | apply pw_below_drewN | apply below_drew1) | exact HB.out)) hb); have n2_ := Aside0.mk (hbox); have n3_ := Aside0.mk ((by rw [hg]; exact (below_size (by repeat (first | (with_reducible first | exact HB.out | apply below_alloc | apply pw_below_drewN | apply below_drew1) | exact HB.out))) : w.heap.size ≤ gb479)); have n4_ := Aside0.mk ((by rw [hg]; exact (below_size (by repeat (first | (with_reducible first | exact HB.out | apply below_alloc | apply pw_below_drewN | apply below_drew1) | exact HB.out))) : w.heap.size ≤ gb479)); clear HO0; clear HB; have HO0 := n0_; have HB := n1_; have BK479 := n2_; have GW479 := n3_; have GE479 := n4_; clear n0_ n1_ n2_ n3_ n4_; clear hb hbox hg))
  repeat (go_quiet (first | ((with_reducible refine gate_dst (N := 4) rfl ?_); refine box_event ?hg (N := 4) ?hd (cs := #[.int .i64 0, .int .i64 0, .slice none 0 0]) (t := 44) ?hr ?_; (case hd => rfl); (case hg => rfl); (case hr => first | (go_simp; done) | (go_simp; rfl)); intro gb479 hg w3 hbox hb; have n0_ := Aside0.mk (Kd.V_below (Kd.V_elderB (by (with_reducible repeat (first | apply Kd.V_alloc | apply Kd.V_drewN | apply Kd.V_drew)); exact HO0.out) gb479 (Nat.le_of_eq hg.symm)) hb); have n1_ := Aside0.mk (below_step (by repeat (first | (with_reducible first | exact HB.out | apply below_alloc | apply pw_below_drewN | apply below_drew1) | exact HB.out)) hb); have n2_ := Aside0.mk (hbox); have n3_ := Aside0.mk ((by rw [hg]; exact (below_size (by repeat (first | (with_reducible first | exact HB.out | apply below_alloc | apply pw_below_drewN | apply below_drew1) | exact HB.out))) : w.heap.size ≤ gb479)); have n4_ := Aside0.mk ((by rw [hg]; exact (below_size (by repeat (first | (with_reducible first | exact HB.out | apply below_alloc | apply pw_below_drewN | apply below_drew1) | exact HB.out))) : w.heap.size ≤ gb479)); clear HO0; clear HB; have HO0 := n0_; have HB := n1_; have BK479 := n2_; have GW479 := n3_; have GE479 := n4_; clear n0_ n1_ n2_ n3_ n4_; clear hb hbox hg)); try go_wp2_with (first | ((with_reducible refine gate_dst (N := 4) rfl ?_); refine box_event ?hg (N := 4) ?hd (cs := #[.int .i64 0, .int .i64 0, .slice none 0 0]) (t := 44) ?hr ?_; (case hd => rfl); (case hg => rfl); (case hr => first | (go_simp; done) | (go_simp; rfl)); intro gb479 hg w3 hbox hb; have n0_ := Aside0.mk (Kd.V_below (Kd.V_elderB (by (with_reducible repeat (first | apply Kd.V_alloc | apply Kd.V_drewN | apply Kd.V_drew)); exact HO0.out) gb479 (Nat.le_of_eq hg.symm)) hb); have n1_ := Aside0.mk (below_step (by repeat (first | (with_reducible first | exact HB.out | apply below_alloc | apply pw_below_drewN | apply below_drew1) | exact HB.out)) hb); have n2_ := Aside0.mk (hbox); have n3_ := Aside0.mk ((by rw [hg]; exact (below_size (by repeat (first | (with_reducible first | exact HB.out | apply below_alloc | apply pw_below_drewN | apply below_drew1) | exact HB.out))) : w.heap.size ≤ gb479)); have n4_ := Aside0.mk ((by rw [hg]; exact (below_size (by repeat (first | (with_reducible first | exact HB.out | apply below_alloc | apply pw_below_drewN | apply below_drew1) | exact HB.out))) : w.heap.size ≤ gb479)); clear HO0; clear HB; have HO0 := n0_; have HB := n1_; have BK479 := n2_; have GW479 := n3_; have GE479 := n4_; clear n0_ n1_ n2_ n3_ n4_; clear hb hbox hg)))
  go_loopg [6, 7] k (fun kq v6 v7 w' => ∃ (x6_1 : Int) (x7_1 : Int), v6 = .int .i64 x6_1 ∧ v7 = .int .i64 x7_1 ∧ Aside0 (wageofficeref28_Find.l0 kq l0 a1 x6_1 x7_1 = some (r1, r2, r3, r4)) ∧ Aside0 (kq ≤ k) ∧ Aside0 (Kd.V k44 44 w' w.heap.size (fun k_ => (P0_ k_ ∨ w.heap.size ≤ k_) ∧ k_ ≠ gb479) (.slice A0 l0.length c0) l0) ∧ Aside0 (w'.heap[gb479]? = some (.cells #[.int .i64 0, .int .i64 0, (.slice none 0 0)] 44 (0, 0))) ∧ Aside0 (Below w.heap.size w w'))
  case atStart => exact ⟨((-1)), (0), (by first | rfl | (simp; done) | (simp [*]; done)), (by first | rfl | (simp; done) | (simp [*]; done)), H', ⟨Nat.le_refl _⟩, ⟨by (with_reducible repeat (first | apply Kd.V_alloc | apply Kd.V_drewN | apply Kd.V_drew)); exact HO0.out⟩, ⟨by (with_reducible repeat (first | refine blk_drewN ?_ _ | refine blk_drew ?_ | refine blk_alloc ?_ _)); exact BK479.out⟩, ⟨by repeat (first | (with_reducible first | exact HB.out | apply below_alloc | apply pw_below_drewN | apply below_drew1 | refine below_set ?_ GE479.out) | exact HB.out)⟩⟩
  case round =>
    clear H'
    try clear p2
    try clear c3
    obtain ⟨x6_1, x7_1, rfl, rfl, HA, HK1, HO_0, BK479, HB⟩ := hrel
    cases gk with
    | zero => exact absurd HA.out (by simp [wageofficeref28_Find.l0])
    | succ k1 =>
      have H := HA.out
      clear HA
      simp only [wageofficeref28_Find.l0] at H
      by_cases c4 : x7_1 < (l0.length : Int)
      · rw [if_pos c4] at H
        have c4b0 : decide (x7_1 < (l0.length : Int)) = true := decide_eq_true c4
        clear c4
        by_cases c5 : 0 ≤ x7_1
        · rw [if_pos c5] at H
          have c5b0 : decide (0 ≤ x7_1) = true := decide_eq_true c5
          clear c5
          by_cases c6 : ((rd_T44 l0 x7_1).f0) ≤ a1
          · rw [if_pos c6] at H
            have c6b0 : decide (((rd_T44 l0 x7_1).f0) ≤ a1) = true := decide_eq_true c6
            clear c6
            by_cases c7 : x6_1 < 0
            · rw [if_pos c7] at H
              have c7b0 : decide (x6_1 < 0) = true := decide_eq_true c7
              clear c7
              have H' := Aside0.mk H
              clear H
              have p480 : 0 ≤ (x7_1 : Int) := of_decide_eq_true (by first | (with_reducible assumption) | assumption)
              have q480 : x7_1 < (l0.length : Int) := of_decide_eq_true (by first | (with_reducible assumption) | assumption)
              obtain ⟨ad480, A480_2, c480_2, e480, hx480_0, hx480_1, hx480_2, hl480_2, hi480_2⟩ := at_T44 (Kd.V_reads' HO_0.out).2.2 x7_1 p480 q480
              cases e480
              obtain ⟨ce480, hce480, hMe480, hcc480⟩ := Kd.V_get HO_0.out z44 x7_1 p480 (by first | exact q480 | exact of_decide_eq_true (by first | (with_reducible assumption) | assumption) | (have e_ := (Kd.V_reads' HO_0.out).1; omega))
              obtain ⟨ua480_2, uc480_2, rfl, ul480_2, ge480_2⟩ := k44_openF hMe480
              have hv480_2 := hcc480 2 _ rfl
              rw [add_field _ _ 2 (by omega)] at hv480_2
              replace hv480_2 := Option.some.inj (hv480_2.symm.trans hx480_2)
              injection hv480_2 with hva_ hvn_ hvc_
              rw [hva_] at ge480_2
              rw [hvc_] at ul480_2
              have HL480_2 := Aside0.mk (show Kd.V k75 75 _ w.heap.size _ _ ((rd_T44 l0 x7_1).f1.f1) from Kd.V_mk ul480_2 ge480_2)
              clear hva_ hvn_ hvc_ ge480_2 ul480_2
              clear hcc480 hce480
              have HR480_2 := Aside0.mk hi480_2
              have HC480_2 := Aside0.mk hl480_2
              clear hi480_2 hl480_2
              replace p480 := eq_true p480
              replace q480 := eq_true q480
              go_wp2
              repeat (go_quiet (fail); try go_wp2)
              go_roundg k1
              case measure => have := HK1.out; omega
              case rel => exact ⟨(x7_1), (wrap64 (x7_1 + 1)), (by first | rfl | (simp; done) | (simp [*]; done)), (by first | rfl | (simp; done) | (simp [*]; done)), H', ⟨by have := HK1.out; omega⟩, ⟨by (with_reducible repeat (first | apply Kd.V_alloc | apply Kd.V_drewN | apply Kd.V_drew)); exact HO_0.out⟩, ⟨by (with_reducible repeat (first | refine blk_drewN ?_ _ | refine blk_drew ?_ | refine blk_alloc ?_ _)); exact BK479.out⟩, ⟨by repeat (first | (with_reducible first | exact HB.out | apply below_alloc | apply pw_below_drewN | apply below_drew1 | refine below_set ?_ GE479.out) | exact HB.out)⟩⟩
            · rw [if_neg c7] at H
              have c7b0 : decide (x6_1 < 0) = false := decide_eq_false c7
              clear c7
              by_cases c8 : 0 ≤ x6_1
              · rw [if_pos c8] at H
                have c8b0 : decide (0 ≤ x6_1) = true := decide_eq_true c8
                clear c8
                by_cases c9 : x6_1 < (l0.length : Int)
                · rw [if_pos c9] at H
                  have c9b0 : decide (x6_1 < (l0.length : Int)) = true := decide_eq_true c9
                  clear c9
                  by_cases c10 : ((rd_T44 l0 x7_1).f0) ≥ ((rd_T44 l0 x6_1).f0)
                  · rw [if_pos c10] at H
                    have c10b0 : decide (((rd_T44 l0 x6_1).f0) ≤ ((rd_T44 l0 x7_1).f0)) = true := decide_eq_true c10
                    clear c10
                    have H' := Aside0.mk H
                    clear H
                    have p480 : 0 ≤ (x7_1 : Int) := of_decide_eq_true (by first | (with_reducible assumption) | assumption)
                    have q480 : x7_1 < (l0.length : Int) := of_decide_eq_true (by first | (with_reducible assumption) | assumption)
                    obtain ⟨ad480, A480_2, c480_2, e480, hx480_0, hx480_1, hx480_2, hl480_2, hi480_2⟩ := at_T44 (Kd.V_reads' HO_0.out).2.2 x7_1 p480 q480
                    cases e480
                    obtain ⟨ce480, hce480, hMe480, hcc480⟩ := Kd.V_get HO_0.out z44 x7_1 p480 (by first | exact q480 | exact of_decide_eq_true (by first | (with_reducible assumption) | assumption) | (have e_ := (Kd.V_reads' HO_0.out).1; omega))
                    obtain ⟨ua480_2, uc480_2, rfl, ul480_2, ge480_2⟩ := k44_openF hMe480
                    have hv480_2 := hcc480 2 _ rfl
                    rw [add_field _ _ 2 (by omega)] at hv480_2
                    replace hv480_2 := Option.some.inj (hv480_2.symm.trans hx480_2)
                    injection hv480_2 with hva_ hvn_ hvc_
                    rw [hva_] at ge480_2
                    rw [hvc_] at ul480_2
                    have HL480_2 := Aside0.mk (show Kd.V k75 75 _ w.heap.size _ _ ((rd_T44 l0 x7_1).f1.f1) from Kd.V_mk ul480_2 ge480_2)
                    clear hva_ hvn_ hvc_ ge480_2 ul480_2
                    clear hcc480 hce480
                    have HR480_2 := Aside0.mk hi480_2
                    have HC480_2 := Aside0.mk hl480_2
                    clear hi480_2 hl480_2
                    replace p480 := eq_true p480
                    replace q480 := eq_true q480
                    have p481 : 0 ≤ (x7_1 : Int) := of_decide_eq_true (by first | (with_reducible assumption) | assumption)
                    have q481 : x7_1 < (l0.length : Int) := of_decide_eq_true (by first | (with_reducible assumption) | assumption)
                    obtain ⟨ad481, A481_2, c481_2, e481, hx481_0, hx481_1, hx481_2, hl481_2, hi481_2⟩ := at_T44 (Kd.V_reads' HO_0.out).2.2 x7_1 p481 q481
                    obtain rfl : ad480 = ad481 := (by injection e481)
                    obtain ⟨ce481, hce481, hMe481, hcc481⟩ := Kd.V_get HO_0.out z44 x7_1 p481 (by first | exact q481 | exact of_decide_eq_true (by first | (with_reducible assumption) | assumption) | (have e_ := (Kd.V_reads' HO_0.out).1; omega))
                    obtain ⟨ua481_2, uc481_2, rfl, ul481_2, ge481_2⟩ := k44_openF hMe481
                    have hv481_2 := hcc481 2 _ rfl
                    rw [add_field _ _ 2 (by omega)] at hv481_2
                    replace hv481_2 := Option.some.inj (hv481_2.symm.trans hx481_2)
                    injection hv481_2 with hva_ hvn_ hvc_
                    rw [hva_] at ge481_2
                    rw [hvc_] at ul481_2
                    have HL481_2 := Aside0.mk (show Kd.V k75 75 _ w.heap.size _ _ ((rd_T44 l0 x7_1).f1.f1) from Kd.V_mk ul481_2 ge481_2)
                    clear hva_ hvn_ hvc_ ge481_2 ul481_2
                    clear hcc481 hce481
                    have HR481_2 := Aside0.mk hi481_2
                    have HC481_2 := Aside0.mk hl481_2
                    clear hi481_2 hl481_2
                    replace p481 := eq_true p481
                    replace q481 := eq_true q481
                    have ea_ := Option.some.inj (hx480_2.symm.trans hx481_2)
                    injection ea_ with ea_ en_ ec_
                    subst ea_
                    subst ec_
                    clear en_
                    have p482 : 0 ≤ (x6_1 : Int) := of_decide_eq_true (by first | (with_reducible assumption) | assumption)
                    have q482 : x6_1 < (l0.length : Int) := of_decide_eq_true (by first | (with_reducible assumption) | assumption)
                    obtain ⟨ad482, A482_2, c482_2, e482, hx482_0, hx482_1, hx482_2, hl482_2, hi482_2⟩ := at_T44 (Kd.V_reads' HO_0.out).2.2 x6_1 p482 q482
                    obtain rfl : ad480 = ad482 := (by injection e482)
                    obtain ⟨ce482, hce482, hMe482, hcc482⟩ := Kd.V_get HO_0.out z44 x6_1 p482 (by first | exact q482 | exact of_decide_eq_true (by first | (with_reducible assumption) | assumption) | (have e_ := (Kd.V_reads' HO_0.out).1; omega))
                    obtain ⟨ua482_2, uc482_2, rfl, ul482_2, ge482_2⟩ := k44_openF hMe482
                    have hv482_2 := hcc482 2 _ rfl
                    rw [add_field _ _ 2 (by omega)] at hv482_2
                    replace hv482_2 := Option.some.inj (hv482_2.symm.trans hx482_2)
                    injection hv482_2 with hva_ hvn_ hvc_
                    rw [hva_] at ge482_2
                    rw [hvc_] at ul482_2
                    have HL482_2 := Aside0.mk (show Kd.V k75 75 _ w.heap.size _ _ ((rd_T44 l0 x6_1).f1.f1) from Kd.V_mk ul482_2 ge482_2)
                    clear hva_ hvn_ hvc_ ge482_2 ul482_2
                    clear hcc482 hce482
                    have HR482_2 := Aside0.mk hi482_2
                    have HC482_2 := Aside0.mk hl482_2
                    clear hi482_2 hl482_2
                    replace p482 := eq_true p482
                    replace q482 := eq_true q482
                    go_wp2
                    repeat (go_quiet (fail); try go_wp2)
                    go_roundg k1
                    case measure => have := HK1.out; omega
                    case rel => exact ⟨(x7_1), (wrap64 (x7_1 + 1)), (by first | rfl | (simp; done) | (simp [*]; done)), (by first | rfl | (simp; done) | (simp [*]; done)), H', ⟨by have := HK1.out; omega⟩, ⟨by (with_reducible repeat (first | apply Kd.V_alloc | apply Kd.V_drewN | apply Kd.V_drew)); exact HO_0.out⟩, ⟨by (with_reducible repeat (first | refine blk_drewN ?_ _ | refine blk_drew ?_ | refine blk_alloc ?_ _)); exact BK479.out⟩, ⟨by repeat (first | (with_reducible first | exact HB.out | apply below_alloc | apply pw_below_drewN | apply below_drew1 | refine below_set ?_ GE479.out) | exact HB.out)⟩⟩
                  · rw [if_neg c10] at H
                    have c10b0 : decide (((rd_T44 l0 x6_1).f0) ≤ ((rd_T44 l0 x7_1).f0)) = false := decide_eq_false c10
                    clear c10
                    have H' := Aside0.mk H
                    clear H
                    have p480 : 0 ≤ (x7_1 : Int) := of_decide_eq_true (by first | (with_reducible assumption) | assumption)
                    have q480 : x7_1 < (l0.length : Int) := of_decide_eq_true (by first | (with_reducible assumption) | assumption)
                    obtain ⟨ad480, A480_2, c480_2, e480, hx480_0, hx480_1, hx480_2, hl480_2, hi480_2⟩ := at_T44 (Kd.V_reads' HO_0.out).2.2 x7_1 p480 q480
                    cases e480
                    obtain ⟨ce480, hce480, hMe480, hcc480⟩ := Kd.V_get HO_0.out z44 x7_1 p480 (by first | exact q480 | exact of_decide_eq_true (by first | (with_reducible assumption) | assumption) | (have e_ := (Kd.V_reads' HO_0.out).1; omega))
                    obtain ⟨ua480_2, uc480_2, rfl, ul480_2, ge480_2⟩ := k44_openF hMe480
                    have hv480_2 := hcc480 2 _ rfl
                    rw [add_field _ _ 2 (by omega)] at hv480_2
                    replace hv480_2 := Option.some.inj (hv480_2.symm.trans hx480_2)
                    injection hv480_2 with hva_ hvn_ hvc_
                    rw [hva_] at ge480_2
                    rw [hvc_] at ul480_2
                    have HL480_2 := Aside0.mk (show Kd.V k75 75 _ w.heap.size _ _ ((rd_T44 l0 x7_1).f1.f1) from Kd.V_mk ul480_2 ge480_2)
                    clear hva_ hvn_ hvc_ ge480_2 ul480_2
                    clear hcc480 hce480
                    have HR480_2 := Aside0.mk hi480_2
                    have HC480_2 := Aside0.mk hl480_2
                    clear hi480_2 hl480_2
                    replace p480 := eq_true p480
                    replace q480 := eq_true q480
                    have p481 : 0 ≤ (x7_1 : Int) := of_decide_eq_true (by first | (with_reducible assumption) | assumption)
                    have q481 : x7_1 < (l0.length : Int) := of_decide_eq_true (by first | (with_reducible assumption) | assumption)
                    obtain ⟨ad481, A481_2, c481_2, e481, hx481_0, hx481_1, hx481_2, hl481_2, hi481_2⟩ := at_T44 (Kd.V_reads' HO_0.out).2.2 x7_1 p481 q481
                    obtain rfl : ad480 = ad481 := (by injection e481)
                    obtain ⟨ce481, hce481, hMe481, hcc481⟩ := Kd.V_get HO_0.out z44 x7_1 p481 (by first | exact q481 | exact of_decide_eq_true (by first | (with_reducible assumption) | assumption) | (have e_ := (Kd.V_reads' HO_0.out).1; omega))
                    obtain ⟨ua481_2, uc481_2, rfl, ul481_2, ge481_2⟩ := k44_openF hMe481
                    have hv481_2 := hcc481 2 _ rfl
                    rw [add_field _ _ 2 (by omega)] at hv481_2
                    replace hv481_2 := Option.some.inj (hv481_2.symm.trans hx481_2)
                    injection hv481_2 with hva_ hvn_ hvc_
                    rw [hva_] at ge481_2
                    rw [hvc_] at ul481_2
                    have HL481_2 := Aside0.mk (show Kd.V k75 75 _ w.heap.size _ _ ((rd_T44 l0 x7_1).f1.f1) from Kd.V_mk ul481_2 ge481_2)
                    clear hva_ hvn_ hvc_ ge481_2 ul481_2
                    clear hcc481 hce481
                    have HR481_2 := Aside0.mk hi481_2
                    have HC481_2 := Aside0.mk hl481_2
                    clear hi481_2 hl481_2
                    replace p481 := eq_true p481
                    replace q481 := eq_true q481
                    have ea_ := Option.some.inj (hx480_2.symm.trans hx481_2)
                    injection ea_ with ea_ en_ ec_
                    subst ea_
                    subst ec_
                    clear en_
                    have p482 : 0 ≤ (x6_1 : Int) := of_decide_eq_true (by first | (with_reducible assumption) | assumption)
                    have q482 : x6_1 < (l0.length : Int) := of_decide_eq_true (by first | (with_reducible assumption) | assumption)
                    obtain ⟨ad482, A482_2, c482_2, e482, hx482_0, hx482_1, hx482_2, hl482_2, hi482_2⟩ := at_T44 (Kd.V_reads' HO_0.out).2.2 x6_1 p482 q482
                    obtain rfl : ad480 = ad482 := (by injection e482)
                    obtain ⟨ce482, hce482, hMe482, hcc482⟩ := Kd.V_get HO_0.out z44 x6_1 p482 (by first | exact q482 | exact of_decide_eq_true (by first | (with_reducible assumption) | assumption) | (have e_ := (Kd.V_reads' HO_0.out).1; omega))
                    obtain ⟨ua482_2, uc482_2, rfl, ul482_2, ge482_2⟩ := k44_openF hMe482
                    have hv482_2 := hcc482 2 _ rfl
                    rw [add_field _ _ 2 (by omega)] at hv482_2
                    replace hv482_2 := Option.some.inj (hv482_2.symm.trans hx482_2)
                    injection hv482_2 with hva_ hvn_ hvc_
                    rw [hva_] at ge482_2
                    rw [hvc_] at ul482_2
                    have HL482_2 := Aside0.mk (show Kd.V k75 75 _ w.heap.size _ _ ((rd_T44 l0 x6_1).f1.f1) from Kd.V_mk ul482_2 ge482_2)
                    clear hva_ hvn_ hvc_ ge482_2 ul482_2
                    clear hcc482 hce482
                    have HR482_2 := Aside0.mk hi482_2
                    have HC482_2 := Aside0.mk hl482_2
                    clear hi482_2 hl482_2
                    replace p482 := eq_true p482
                    replace q482 := eq_true q482
                    go_wp2
                    repeat (go_quiet (fail); try go_wp2)
                    go_roundg k1
                    case measure => have := HK1.out; omega
                    case rel => exact ⟨(x6_1), (wrap64 (x7_1 + 1)), (by first | rfl | (simp; done) | (simp [*]; done)), (by first | rfl | (simp; done) | (simp [*]; done)), H', ⟨by have := HK1.out; omega⟩, ⟨by (with_reducible repeat (first | apply Kd.V_alloc | apply Kd.V_drewN | apply Kd.V_drew)); exact HO_0.out⟩, ⟨by (with_reducible repeat (first | refine blk_drewN ?_ _ | refine blk_drew ?_ | refine blk_alloc ?_ _)); exact BK479.out⟩, ⟨by repeat (first | (with_reducible first | exact HB.out | apply below_alloc | apply pw_below_drewN | apply below_drew1 | refine below_set ?_ GE479.out) | exact HB.out)⟩⟩
                · rw [if_neg c9] at H
                  exact absurd H (by simp)
              · rw [if_neg c8] at H
                exact absurd H (by simp)
          · rw [if_neg c6] at H
            have c6b0 : decide (((rd_T44 l0 x7_1).f0) ≤ a1) = false := decide_eq_false c6
            clear c6
            have H' := Aside0.mk H
            clear H
            have p480 : 0 ≤ (x7_1 : Int) := of_decide_eq_true (by first | (with_reducible assumption) | assumption)
            have q480 : x7_1 < (l0.length : Int) := of_decide_eq_true (by first | (with_reducible assumption) | assumption)
            obtain ⟨ad480, A480_2, c480_2, e480, hx480_0, hx480_1, hx480_2, hl480_2, hi480_2⟩ := at_T44 (Kd.V_reads' HO_0.out).2.2 x7_1 p480 q480
            cases e480
            obtain ⟨ce480, hce480, hMe480, hcc480⟩ := Kd.V_get HO_0.out z44 x7_1 p480 (by first | exact q480 | exact of_decide_eq_true (by first | (with_reducible assumption) | assumption) | (have e_ := (Kd.V_reads' HO_0.out).1; omega))
            obtain ⟨ua480_2, uc480_2, rfl, ul480_2, ge480_2⟩ := k44_openF hMe480
            have hv480_2 := hcc480 2 _ rfl
            rw [add_field _ _ 2 (by omega)] at hv480_2
            replace hv480_2 := Option.some.inj (hv480_2.symm.trans hx480_2)
            injection hv480_2 with hva_ hvn_ hvc_
            rw [hva_] at ge480_2
            rw [hvc_] at ul480_2
            have HL480_2 := Aside0.mk (show Kd.V k75 75 _ w.heap.size _ _ ((rd_T44 l0 x7_1).f1.f1) from Kd.V_mk ul480_2 ge480_2)
            clear hva_ hvn_ hvc_ ge480_2 ul480_2
            clear hcc480 hce480
            have HR480_2 := Aside0.mk hi480_2
            have HC480_2 := Aside0.mk hl480_2
            clear hi480_2 hl480_2
            replace p480 := eq_true p480
            replace q480 := eq_true q480
            go_wp2
            repeat (go_quiet (fail); try go_wp2)
            go_roundg k1
            case measure => have := HK1.out; omega
            case rel => exact ⟨(x6_1), (wrap64 (x7_1 + 1)), (by first | rfl | (simp; done) | (simp [*]; done)), (by first | rfl | (simp; done) | (simp [*]; done)), H', ⟨by have := HK1.out; omega⟩, ⟨by (with_reducible repeat (first | apply Kd.V_alloc | apply Kd.V_drewN | apply Kd.V_drew)); exact HO_0.out⟩, ⟨by (with_reducible repeat (first | refine blk_drewN ?_ _ | refine blk_drew ?_ | refine blk_alloc ?_ _)); exact BK479.out⟩, ⟨by repeat (first | (with_reducible first | exact HB.out | apply below_alloc | apply pw_below_drewN | apply below_drew1 | refine below_set ?_ GE479.out) | exact HB.out)⟩⟩
        · rw [if_neg c5] at H
          exact absurd H (by simp)
      · rw [if_neg c4] at H
        have c4b0 : decide (x7_1 < (l0.length : Int)) = false := decide_eq_false c4
        clear c4
        by_cases c11 : x6_1 < 0
        · rw [if_pos c11] at H
          have c11b0 : decide (x6_1 < 0) = true := decide_eq_true c11
          clear c11
          simp only [Option.some.injEq, Prod.mk.injEq] at H
          obtain ⟨rfl, rfl, rfl, rfl⟩ := H
          have hcz12_0 : wr.cell? ⟨gb479, 0, none⟩ = some (.int .i64 0) := (blk_cell BK479.out 0).trans rfl
          have hcz12_1 : wr.cell? ⟨gb479, 1, none⟩ = some (.int .i64 0) := (blk_cell BK479.out 1).trans rfl
          have hcz12_2 : wr.cell? ⟨gb479, 2, none⟩ = some (.slice none 0 0) := (blk_cell BK479.out 2).trans rfl
          have hfz12_0 := blk_frozen BK479.out 0
          have hfz12_1 := blk_frozen BK479.out 1
          have hfz12_2 := blk_frozen BK479.out 2
          go_wp2
          repeat (go_quiet (fail); try go_wp2)
          refine bodyPost_ret (results_ct rfl _ _ gb479 44 #[.int .i64 0, .int .i64 0, .slice none 0 0] (0, 0) _ rfl (by (with_reducible repeat (first | refine blk_drewN ?_ _ | refine blk_drew ?_ | refine blk_alloc ?_ _)); refine blk_put (cs := #[.int .i64 0, .int .i64 0, .slice none 0 0]) ?_ 2 _ rfl; (with_reducible repeat (first | refine blk_drewN ?_ _ | refine blk_drew ?_ | refine blk_alloc ?_ _)); refine blk_put (cs := #[.int .i64 0, .int .i64 0, .slice none 0 0]) ?_ 1 _ rfl; (with_reducible repeat (first | refine blk_drewN ?_ _ | refine blk_drew ?_ | refine blk_alloc ?_ _)); refine blk_put (cs := #[.int .i64 0, .int .i64 0, .slice none 0 0]) ?_ 0 _ rfl; (with_reducible repeat (first | refine blk_drewN ?_ _ | refine blk_drew ?_ | refine blk_alloc ?_ _)); exact BK479.out) Try.underlying44 rfl (by kernel_rfl)) rfl ?_
          exact ⟨_, by first | rfl | (simp [errW_none, errW_some] <;> rfl) | (simp [*, errW_none, errW_some] <;> rfl), Kd.V_nil _ _ _ _ _, by repeat (first | (with_reducible first | exact HB.out | apply below_alloc | apply pw_below_drewN | apply below_drew1 | refine below_set ?_ GE479.out) | exact HB.out)⟩
        · rw [if_neg c11] at H
          have c11b0 : decide (x6_1 < 0) = false := decide_eq_false c11
          clear c11
          by_cases c13 : 0 ≤ x6_1
          · rw [if_pos c13] at H
            have c13b0 : decide (0 ≤ x6_1) = true := decide_eq_true c13
            clear c13
            by_cases c14 : x6_1 < (l0.length : Int)
            · rw [if_pos c14] at H
              have c14b0 : decide (x6_1 < (l0.length : Int)) = true := decide_eq_true c14
              clear c14
              simp only [Option.some.injEq, Prod.mk.injEq] at H
              obtain ⟨rfl, rfl, rfl, rfl⟩ := H
              have p483 : 0 ≤ (x6_1 : Int) := of_decide_eq_true (by first | (with_reducible assumption) | assumption)
              have q483 : x6_1 < (l0.length : Int) := of_decide_eq_true (by first | (with_reducible assumption) | assumption)
              obtain ⟨ad483, A483_2, c483_2, e483, hx483_0, hx483_1, hx483_2, hl483_2, hi483_2⟩ := at_T44 (Kd.V_reads' HO_0.out).2.2 x6_1 p483 q483
              cases e483
              obtain ⟨ce483, hce483, hMe483, hcc483⟩ := Kd.V_get HO_0.out z44 x6_1 p483 (by first | exact q483 | exact of_decide_eq_true (by first | (with_reducible assumption) | assumption) | (have e_ := (Kd.V_reads' HO_0.out).1; omega))
              obtain ⟨ua483_2, uc483_2, rfl, ul483_2, ge483_2⟩ := k44_openF hMe483
              have hv483_2 := hcc483 2 _ rfl
              rw [add_field _ _ 2 (by omega)] at hv483_2
              replace hv483_2 := Option.some.inj (hv483_2.symm.trans hx483_2)
              injection hv483_2 with hva_ hvn_ hvc_
              rw [hva_] at ge483_2
              rw [hvc_] at ul483_2
              have HL483_2 := Aside0.mk (show Kd.V k75 75 _ w.heap.size _ _ ((rd_T44 l0 x6_1).f1.f1) from Kd.V_mk ul483_2 ge483_2)
              clear hva_ hvn_ hvc_ ge483_2 ul483_2
              clear hcc483 hce483
              have HR483_2 := Aside0.mk hi483_2
              have HC483_2 := Aside0.mk hl483_2
              clear hi483_2 hl483_2
              replace p483 := eq_true p483
              replace q483 := eq_true q483
              have hcz15_0 : wr.cell? ⟨gb479, 0, none⟩ = some (.int .i64 0) := (blk_cell BK479.out 0).trans rfl
              have hcz15_1 : wr.cell? ⟨gb479, 1, none⟩ = some (.int .i64 0) := (blk_cell BK479.out 1).trans rfl
              have hcz15_2 : wr.cell? ⟨gb479, 2, none⟩ = some (.slice none 0 0) := (blk_cell BK479.out 2).trans rfl
              have hfz15_0 := blk_frozen BK479.out 0
              have hfz15_1 := blk_frozen BK479.out 1
              have hfz15_2 := blk_frozen BK479.out 2
              go_wp2
              repeat (go_quiet (fail); try go_wp2)
              refine bodyPost_ret (results_ct rfl _ _ gb479 44 #[.int .i64 ((rd_T44 l0 x6_1).f0), .int .i64 ((rd_T44 l0 x6_1).f1.f0), .slice A483_2 ((rd_T44 l0 x6_1).f1.f1).length c483_2] (0, 0) _ rfl (by (with_reducible repeat (first | refine blk_drewN ?_ _ | refine blk_drew ?_ | refine blk_alloc ?_ _)); refine blk_put (cs := #[.int .i64 ((rd_T44 l0 x6_1).f0), .int .i64 ((rd_T44 l0 x6_1).f1.f0), .slice none 0 0]) ?_ 2 _ rfl; (with_reducible repeat (first | refine blk_drewN ?_ _ | refine blk_drew ?_ | refine blk_alloc ?_ _)); refine blk_put (cs := #[.int .i64 ((rd_T44 l0 x6_1).f0), .int .i64 0, .slice none 0 0]) ?_ 1 _ rfl; (with_reducible repeat (first | refine blk_drewN ?_ _ | refine blk_drew ?_ | refine blk_alloc ?_ _)); refine blk_put (cs := #[.int .i64 0, .int .i64 0, .slice none 0 0]) ?_ 0 _ rfl; (with_reducible repeat (first | refine blk_drewN ?_ _ | refine blk_drew ?_ | refine blk_alloc ?_ _)); exact BK479.out) Try.underlying44 rfl (by kernel_rfl)) rfl ?_
              exact ⟨_, by first | rfl | (simp [errW_none, errW_some] <;> rfl) | (simp [*, errW_none, errW_some] <;> rfl), by (with_reducible repeat (first | apply Kd.V_alloc | apply Kd.V_drewN | apply Kd.V_drew)); exact Kd.V_mono (Kd.V_far (p := ⟨gb479, 2, none⟩) (Kd.V_far (p := ⟨gb479, 1, none⟩) (Kd.V_far (p := ⟨gb479, 0, none⟩) (Kd.V_mono HL483_2.out (fun k_ hk => (⟨hk, hk.2⟩ : _ ∧ k_ ≠ gb479))) (fun _ hk => hk.2) (.int .i64 ((rd_T44 l0 x6_1).f0))) (fun _ hk => hk.2) (.int .i64 ((rd_T44 l0 x6_1).f1.f0))) (fun _ hk => hk.2) (.slice A483_2 ((rd_T44 l0 x6_1).f1.f1).length c483_2)) (fun _ hk => hk.1.1), by repeat (first | (with_reducible first | exact HB.out | apply below_alloc | apply pw_below_drewN | apply below_drew1 | refine below_set ?_ GE479.out) | exact HB.out)⟩
            · rw [if_neg c14] at H
              exact absurd H (by simp)
          · rw [if_neg c13] at H
            exact absurd H (by simp)

end Go.Proofs.Ytnadfkhllfgoiaa.My
