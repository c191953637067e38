-- Written by a program of this session (wip/myprint.py), which drives the kit's print over hand-written fragments. Not trusted: Lean checks it.
import Derived.Test.YtnadfkhllfgoiaaMyx0
import Derived.Test.YtnadfkhllfgoiaaMyx27
import Derived.Test.YtnadfkhllfgoiaaMyx28
import Derived.Test.YtnadfkhllfgoiaaMyx31
import Derived.Test.YtnadfkhllfgoiaaMyx38
import Derived.Test.YtnadfkhllfgoiaaMyx39
namespace Go.Proofs.Ytnadfkhllfgoiaa.My
open Go.Proofs.Ytnadfkhllfgoiaa.Aid Go.Proofs.Ytnadfkhllfgoiaa.KdX
open Go.RowKit Go.Proofs.YtnadfkhllfgoiaaW.PrintWords Go.Proofs.YtnadfkhllfgoiaaW.PrintLast Go.Proofs.YtnadfkhllfgoiaaW.PrintMore
attribute [local go_sem] max2_int min2_int max_two min_two max_three min_three max_four min_four   -- for this text's walks alone
set_option linter.unusedVariables false
set_option linter.unusedSimpArgs false

/-! ### wageofficelaw28_TaxMonotone: function 12 -/
mutual
def wageofficelaw28_TaxMonotone.j0 : Nat → Int → Int → Bool → Bool → Int → Int → List (S75) → Option (Bool)
  | 0, _, _, _, _, _, _, _ => none
  | k + 1, x1, x2, x7, x37, x637000, x637001, x637002 => if x37 = true then (some x7) else ((tax_Year.f k x637000 x637001 x637002 x1).bind fun bt644 => ((tax_Year.f k x637000 x637001 x637002 x2).bind fun bt646 => (if bt644.2 = 0 then (wageofficelaw28_TaxMonotone.j1 k x1 x2 x7 bt644.1 bt646.1 (bt646.2 != 0) x637000 x637001 x637002) else (wageofficelaw28_TaxMonotone.j1 k x1 x2 x7 bt644.1 bt646.1 true x637000 x637001 x637002))))
def wageofficelaw28_TaxMonotone.j1 : Nat → Int → Int → Bool → Int → Int → Bool → Int → Int → List (S75) → Option (Bool)
  | 0, _, _, _, _, _, _, _, _, _ => none
  | k + 1, x1, x2, x7, x8, x10, x56, x637000, x637001, x637002 => if x56 = true then (some x7) else (if x8 > x10 then (some false) else (if x7 = true then ((wageofficelaw28_gentle.f k x637001 x637002 false).bind fun t648 => (if t648 = true then (if x8 ≤ x1 then (if x10 ≤ x2 then (some (decide ((wrap64 (x1 - x8)) ≤ (wrap64 (x2 - x10))))) else (some false)) else (some false)) else (some true))) else (some false)))
end
def wageofficelaw28_TaxMonotone.f (k : Nat) (a0_0 : Int) (a0_1 : Int) (l0_2 : List (S75)) (a1 : Int) (a2 : Int) : Option (Bool) := (wageofficelaw28_head.f).bind fun t637 => ((wageofficelaw28_short.f k (([(⟨a0_0, (⟨a0_1, l0_2⟩ : S42)⟩ : S44)] : List (S44)))).bind fun t641 => (if t641 = true then ((wageofficeref05_Valid.f k a0_1 l0_2).bind fun t642 => (if t642 = true then ((wageofficelaw28_gentle.f k a0_1 l0_2 true).bind fun t643 => (if t643 = true then (if a1 < 0 then (wageofficelaw28_TaxMonotone.j0 k a1 a2 t637 true a0_0 a0_1 l0_2) else (wageofficelaw28_TaxMonotone.j0 k a1 a2 t637 (decide (a2 < a1)) a0_0 a0_1 l0_2)) else (wageofficelaw28_TaxMonotone.j0 k a1 a2 t637 true a0_0 a0_1 l0_2))) else (wageofficelaw28_TaxMonotone.j0 k a1 a2 t637 true a0_0 a0_1 l0_2))) else (wageofficelaw28_TaxMonotone.j0 k a1 a2 t637 true a0_0 a0_1 l0_2)))
theorem wageofficelaw28_TaxMonotone.mono_l : ∀ k, (∀ y0 y1 y2 y3 y4 y5 y6, LeO (wageofficelaw28_TaxMonotone.j0 k y0 y1 y2 y3 y4 y5 y6) (wageofficelaw28_TaxMonotone.j0 (k + 1) y0 y1 y2 y3 y4 y5 y6)) ∧ (∀ y0 y1 y2 y3 y4 y5 y6 y7 y8, LeO (wageofficelaw28_TaxMonotone.j1 k y0 y1 y2 y3 y4 y5 y6 y7 y8) (wageofficelaw28_TaxMonotone.j1 (k + 1) y0 y1 y2 y3 y4 y5 y6 y7 y8))
  | 0 => ⟨fun _ _ _ _ _ _ _ r h => by simp [wageofficelaw28_TaxMonotone.j0] at h, fun _ _ _ _ _ _ _ _ _ r h => by simp [wageofficelaw28_TaxMonotone.j1] at h⟩
  | k + 1 => by
    obtain ⟨ih0, ih1⟩ := wageofficelaw28_TaxMonotone.mono_l k
    refine ⟨?_, ?_⟩
    · intro y0 y1 y2 y3 y4 y5 y6
      unfold wageofficelaw28_TaxMonotone.j0
      repeat' first
      | (with_reducible exact ih0 _ _ _ _ _ _ _)
      | (with_reducible exact ih1 _ _ _ _ _ _ _ _ _)
      | (with_reducible exact tax_Year.mono _ _ _ _ _)
      | (with_reducible exact wageofficelaw28_gentle.mono _ _ _ _)
      | (with_reducible exact wageofficelaw28_short.mono _ _)
      | (with_reducible exact wageofficeref05_Valid.mono _ _ _)
      | (with_reducible exact LeO.refl _)
      | (with_reducible exact LeO.none _)
      | (with_reducible refine LeO.ite ?_ ?_)
      | (with_reducible refine LeO.bind ?_ (fun _ => ?_))
      | exact ih0 _ _ _ _ _ _ _
      | exact ih1 _ _ _ _ _ _ _ _ _
      | exact tax_Year.mono _ _ _ _ _
      | exact wageofficelaw28_gentle.mono _ _ _ _
      | exact wageofficelaw28_short.mono _ _
      | exact wageofficeref05_Valid.mono _ _ _
      | exact LeO.none _
      | refine LeO.ite ?_ ?_
      | refine LeO.bind ?_ (fun _ => ?_)
    · intro y0 y1 y2 y3 y4 y5 y6 y7 y8
      unfold wageofficelaw28_TaxMonotone.j1
      repeat' first
      | (with_reducible exact ih0 _ _ _ _ _ _ _)
      | (with_reducible exact ih1 _ _ _ _ _ _ _ _ _)
      | (with_reducible exact tax_Year.mono _ _ _ _ _)
      | (with_reducible exact wageofficelaw28_gentle.mono _ _ _ _)
      | (with_reducible exact wageofficelaw28_short.mono _ _)
      | (with_reducible exact wageofficeref05_Valid.mono _ _ _)
      | (with_reducible exact LeO.refl _)
      | (with_reducible exact LeO.none _)
      | (with_reducible refine LeO.ite ?_ ?_)
      | (with_reducible refine LeO.bind ?_ (fun _ => ?_))
      | exact ih0 _ _ _ _ _ _ _
      | exact ih1 _ _ _ _ _ _ _ _ _
      | exact tax_Year.mono _ _ _ _ _
      | exact wageofficelaw28_gentle.mono _ _ _ _
      | exact wageofficelaw28_short.mono _ _
      | exact wageofficeref05_Valid.mono _ _ _
      | exact LeO.none _
      | refine LeO.ite ?_ ?_
      | refine LeO.bind ?_ (fun _ => ?_)
theorem wageofficelaw28_TaxMonotone.mono : ∀ a0 a1 a2 a3 a4 k, LeO (wageofficelaw28_TaxMonotone.f k a0 a1 a2 a3 a4) (wageofficelaw28_TaxMonotone.f (k + 1) a0 a1 a2 a3 a4) := by
  intro a0 a1 a2 a3 a4 k
  obtain ⟨ih0, ih1⟩ := wageofficelaw28_TaxMonotone.mono_l k
  unfold wageofficelaw28_TaxMonotone.f
  repeat' first
      | (with_reducible exact ih0 _ _ _ _ _ _ _)
      | (with_reducible exact ih1 _ _ _ _ _ _ _ _ _)
      | (with_reducible exact tax_Year.mono _ _ _ _ _)
      | (with_reducible exact wageofficelaw28_gentle.mono _ _ _ _)
      | (with_reducible exact wageofficelaw28_short.mono _ _)
      | (with_reducible exact wageofficeref05_Valid.mono _ _ _)
      | (with_reducible exact LeO.refl _)
      | (with_reducible exact LeO.none _)
      | (with_reducible refine LeO.ite ?_ ?_)
      | (with_reducible refine LeO.bind ?_ (fun _ => ?_))
      | exact ih0 _ _ _ _ _ _ _
      | exact ih1 _ _ _ _ _ _ _ _ _
      | exact tax_Year.mono _ _ _ _ _
      | exact wageofficelaw28_gentle.mono _ _ _ _
      | exact wageofficelaw28_short.mono _ _
      | exact wageofficeref05_Valid.mono _ _ _
      | exact LeO.none _
      | refine LeO.ite ?_ ?_
      | refine LeO.bind ?_ (fun _ => ?_)
set_option maxHeartbeats 8000000 in
set_option maxRecDepth 100000 in
theorem wageofficelaw28_TaxMonotone.calls (k : Nat) (a0_0 : Int) (a0_1 : Int) (P0_2_ : Nat → Prop) (A0_2 : Option Addr) (c0_2 : Nat) (l0_2 : List (S75)) (a1 : Int) (a2 : Int) (r : Bool) (w : World) (hs0_2 : Kd.V k75 75 w w.heap.size (fun k_ => P0_2_ k_) (.slice A0_2 l0_2.length c0_2) l0_2) (h : wageofficelaw28_TaxMonotone.f k a0_0 a0_1 l0_2 a1 a2 = some r) :
    Calls Try.prog 12 #[.agg #[.int .i64 a0_0, .int .i64 a0_1, .slice A0_2 l0_2.length c0_2], .int .i64 a1, .int .i64 a2] w fun e w' => e = .returned (.bool r) ∧ Below w.heap.size w w' := by
  have hu44 := Try.underlying44
  have hu42 := Try.underlying42
  have HO0_2 := Aside0.mk (show Kd.V k75 75 w w.heap.size (fun k_ => (P0_2_ k_ ∨ w.heap.size ≤ k_)) (.slice A0_2 l0_2.length c0_2) l0_2 from Kd.V_mono hs0_2 (fun k_ hk => .inl hk))
  have HB := Aside0.mk (Below.refl w.heap.size w)
  have H : ((wageofficelaw28_head.f).bind fun t637 => ((wageofficelaw28_short.f k (([(⟨a0_0, (⟨a0_1, l0_2⟩ : S42)⟩ : S44)] : List (S44)))).bind fun t641 => (if t641 = true then ((wageofficeref05_Valid.f k a0_1 l0_2).bind fun t642 => (if t642 = true then ((wageofficelaw28_gentle.f k a0_1 l0_2 true).bind fun t643 => (if t643 = true then (if a1 < 0 then (wageofficelaw28_TaxMonotone.j0 k a1 a2 t637 true a0_0 a0_1 l0_2) else (wageofficelaw28_TaxMonotone.j0 k a1 a2 t637 (decide (a2 < a1)) a0_0 a0_1 l0_2)) else (wageofficelaw28_TaxMonotone.j0 k a1 a2 t637 true a0_0 a0_1 l0_2))) else (wageofficelaw28_TaxMonotone.j0 k a1 a2 t637 true a0_0 a0_1 l0_2))) else (wageofficelaw28_TaxMonotone.j0 k a1 a2 t637 true a0_0 a0_1 l0_2)))) = some r := h
  clear h
  replace H := Option.bind_eq_some_iff.mp H
  obtain ⟨t637, A40, H⟩ := H
  replace H : ((wageofficelaw28_short.f k (([(⟨a0_0, (⟨a0_1, l0_2⟩ : S42)⟩ : S44)] : List (S44)))).bind fun t641 => (if t641 = true then ((wageofficeref05_Valid.f k a0_1 l0_2).bind fun t642 => (if t642 = true then ((wageofficelaw28_gentle.f k a0_1 l0_2 true).bind fun t643 => (if t643 = true then (if a1 < 0 then (wageofficelaw28_TaxMonotone.j0 k a1 a2 t637 true a0_0 a0_1 l0_2) else (wageofficelaw28_TaxMonotone.j0 k a1 a2 t637 (decide (a2 < a1)) a0_0 a0_1 l0_2)) else (wageofficelaw28_TaxMonotone.j0 k a1 a2 t637 true a0_0 a0_1 l0_2))) else (wageofficelaw28_TaxMonotone.j0 k a1 a2 t637 true a0_0 a0_1 l0_2))) else (wageofficelaw28_TaxMonotone.j0 k a1 a2 t637 true a0_0 a0_1 l0_2))) = some r := H
  have A4 := Aside0.mk A40
  clear A40
  have HC5 := Aside0.mk H
  clear H
  go_enter Try.func12, Try.ntmps12
  go_upto_region 2 with (first | ((with_reducible refine gate_dst (N := 3) rfl ?_); refine box_event ?hg (N := 3) ?hd (cs := #[.int .i64 a0_0, .int .i64 a0_1, .slice A0_2 l0_2.length c0_2]) (t := 44) ?hr ?_; (case hd => rfl); (case hg => rfl); (case hr => first | (go_simp; done) | (go_simp; rfl)); intro gb636 hg w6 hbox hb; have n0_ := Aside0.mk (Kd.V_below (Kd.V_elderB (by (with_reducible repeat (first | apply Kd.V_alloc | apply Kd.V_drewN | apply Kd.V_drew)); exact HO0_2.out) gb636 (Nat.le_of_eq hg.symm)) hb); have n1_ := Aside0.mk (below_step (by repeat (first | (with_reducible first | exact HB.out | apply below_alloc | apply pw_below_drewN | apply below_drew1) | exact HB.out)) hb); have n2_ := Aside0.mk (hbox); have n3_ := Aside0.mk ((by rw [hg]; exact (below_size (by repeat (first | (with_reducible first | exact HB.out | apply below_alloc | apply pw_below_drewN | apply below_drew1) | exact HB.out))) : w.heap.size ≤ gb636)); have n4_ := Aside0.mk ((by rw [hg]; exact (below_size (by repeat (first | (with_reducible first | exact HB.out | apply below_alloc | apply pw_below_drewN | apply below_drew1) | exact HB.out))) : w.heap.size ≤ gb636)); clear HO0_2; clear HB; have HO0_2 := n0_; have HB := n1_; have BK636 := n2_; have GW636 := n3_; have GE636 := n4_; clear n0_ n1_ n2_ n3_ n4_; clear hb hbox hg) | ((with_reducible refine gate_callee (f := 27) rfl ?_); refine goesL_ (some 12) rfl rfl Try.func27 (by kernel_rfl) rfl #[] rfl (by (try simp only [List.map_toArray, List.map_cons, List.map_nil]); first | done | rfl | (simp only [List.length_drop, List.length_take]; rfl)) ?_; (with_reducible refine (wageofficelaw28_head.calls  t637 _ A4.out).mono ?_); rintro e w7 ⟨rfl, hb⟩; refine ⟨_, rfl, ?_⟩; have n0_ := Aside0.mk (Kd.V_below (by (with_reducible repeat (first | apply Kd.V_alloc | apply Kd.V_drewN | apply Kd.V_drew)); exact HO0_2.out) hb); have n1_ := Aside0.mk (blk_below (g := gb636) (o := .cells #[.int .i64 a0_0, .int .i64 a0_1, .slice A0_2 l0_2.length c0_2] 44 (0, 0)) (by (with_reducible repeat (first | refine blk_drewN ?_ _ | refine blk_drew ?_ | refine blk_alloc ?_ _)); exact BK636.out) hb); have n2_ := Aside0.mk (below_step (by repeat (first | (with_reducible first | exact HB.out | apply below_alloc | apply pw_below_drewN | apply below_drew1 | refine below_set ?_ GE636.out) | exact HB.out)) hb); clear HO0_2; clear BK636; clear HB; have HO0_2 := n0_; have BK636 := n1_; have HB := n2_; clear n0_ n1_ n2_; (try clear hb); (try clear hb2); (try clear hk); (try clear hi)))
  (try simp only [Act.put, List.setIfInBounds_toArray, List.set_cons_zero, List.set_cons_succ])
  go_cut [37] (fun v37 wc => ∃ (kq : Nat) (x37_4 : Bool), v37 = .bool x37_4 ∧ Aside0 (wageofficelaw28_TaxMonotone.j0 kq a1 a2 t637 x37_4 a0_0 a0_1 l0_2 = some r) ∧ Aside0 (kq ≤ k) ∧ Aside0 (Kd.V k75 75 wc w.heap.size (fun k_ => (P0_2_ k_ ∨ w.heap.size ≤ k_) ∧ k_ ≠ gb636) (.slice A0_2 l0_2.length c0_2) l0_2) ∧ Aside0 (wc.heap[gb636]? = some (.cells #[.int .i64 a0_0, .int .i64 a0_1, (.slice A0_2 l0_2.length c0_2)] 44 (0, 0))) ∧ Aside0 (Below w.heap.size w wc))
  case first =>
    have H := HC5.out
    clear HC5
    obtain ⟨y638, hy638⟩ : ∃ y_ : List (S44), y_ = (([(⟨a0_0, (⟨a0_1, l0_2⟩ : S42)⟩ : S44)] : List (S44))) := ⟨_, rfl⟩
    replace H : ((wageofficelaw28_short.f k y638).bind fun t641 => (if t641 = true then ((wageofficeref05_Valid.f k a0_1 l0_2).bind fun t642 => (if t642 = true then ((wageofficelaw28_gentle.f k a0_1 l0_2 true).bind fun t643 => (if t643 = true then (if a1 < 0 then (wageofficelaw28_TaxMonotone.j0 k a1 a2 t637 true a0_0 a0_1 l0_2) else (wageofficelaw28_TaxMonotone.j0 k a1 a2 t637 (decide (a2 < a1)) a0_0 a0_1 l0_2)) else (wageofficelaw28_TaxMonotone.j0 k a1 a2 t637 true a0_0 a0_1 l0_2))) else (wageofficelaw28_TaxMonotone.j0 k a1 a2 t637 true a0_0 a0_1 l0_2))) else (wageofficelaw28_TaxMonotone.j0 k a1 a2 t637 true a0_0 a0_1 l0_2))) = some r := by first | (rw [hy638]; with_reducible exact H) | (have H2_ := (Option.bind_some _ _).symm.trans H; rw [hy638]; with_reducible exact H2_) | (have H2_ := (Option.bind_some _ _).symm.trans H; with_reducible exact H2_) | with_reducible exact H | (rw [hy638]; exact H) | exact H
    have Ny638 := Aside0.mk hy638
    clear hy638
    replace H := Option.bind_eq_some_iff.mp H
    obtain ⟨t641, A80, H⟩ := H
    replace H : (if t641 = true then ((wageofficeref05_Valid.f k a0_1 l0_2).bind fun t642 => (if t642 = true then ((wageofficelaw28_gentle.f k a0_1 l0_2 true).bind fun t643 => (if t643 = true then (if a1 < 0 then (wageofficelaw28_TaxMonotone.j0 k a1 a2 t637 true a0_0 a0_1 l0_2) else (wageofficelaw28_TaxMonotone.j0 k a1 a2 t637 (decide (a2 < a1)) a0_0 a0_1 l0_2)) else (wageofficelaw28_TaxMonotone.j0 k a1 a2 t637 true a0_0 a0_1 l0_2))) else (wageofficelaw28_TaxMonotone.j0 k a1 a2 t637 true a0_0 a0_1 l0_2))) else (wageofficelaw28_TaxMonotone.j0 k a1 a2 t637 true a0_0 a0_1 l0_2)) = some r := H
    have A8 := Aside0.mk A80
    clear A80
    by_cases c9 : t641 = true
    · subst c9
      have H1 : ((wageofficeref05_Valid.f k a0_1 l0_2).bind fun t642 => (if t642 = true then ((wageofficelaw28_gentle.f k a0_1 l0_2 true).bind fun t643 => (if t643 = true then (if a1 < 0 then (wageofficelaw28_TaxMonotone.j0 k a1 a2 t637 true a0_0 a0_1 l0_2) else (wageofficelaw28_TaxMonotone.j0 k a1 a2 t637 (decide (a2 < a1)) a0_0 a0_1 l0_2)) else (wageofficelaw28_TaxMonotone.j0 k a1 a2 t637 true a0_0 a0_1 l0_2))) else (wageofficelaw28_TaxMonotone.j0 k a1 a2 t637 true a0_0 a0_1 l0_2))) = some r := by rw [if_pos rfl] at H; exact H
      clear H
      have H := H1
      clear H1
      replace H := Option.bind_eq_some_iff.mp H
      obtain ⟨t642, A100, H⟩ := H
      replace H : (if t642 = true then ((wageofficelaw28_gentle.f k a0_1 l0_2 true).bind fun t643 => (if t643 = true then (if a1 < 0 then (wageofficelaw28_TaxMonotone.j0 k a1 a2 t637 true a0_0 a0_1 l0_2) else (wageofficelaw28_TaxMonotone.j0 k a1 a2 t637 (decide (a2 < a1)) a0_0 a0_1 l0_2)) else (wageofficelaw28_TaxMonotone.j0 k a1 a2 t637 true a0_0 a0_1 l0_2))) else (wageofficelaw28_TaxMonotone.j0 k a1 a2 t637 true a0_0 a0_1 l0_2)) = some r := H
      have A10 := Aside0.mk A100
      clear A100
      by_cases c11 : t642 = true
      · subst c11
        have H1 : ((wageofficelaw28_gentle.f k a0_1 l0_2 true).bind fun t643 => (if t643 = true then (if a1 < 0 then (wageofficelaw28_TaxMonotone.j0 k a1 a2 t637 true a0_0 a0_1 l0_2) else (wageofficelaw28_TaxMonotone.j0 k a1 a2 t637 (decide (a2 < a1)) a0_0 a0_1 l0_2)) else (wageofficelaw28_TaxMonotone.j0 k a1 a2 t637 true a0_0 a0_1 l0_2))) = some r := by rw [if_pos rfl] at H; exact H
        clear H
        have H := H1
        clear H1
        replace H := Option.bind_eq_some_iff.mp H
        obtain ⟨t643, A120, H⟩ := H
        replace H : (if t643 = true then (if a1 < 0 then (wageofficelaw28_TaxMonotone.j0 k a1 a2 t637 true a0_0 a0_1 l0_2) else (wageofficelaw28_TaxMonotone.j0 k a1 a2 t637 (decide (a2 < a1)) a0_0 a0_1 l0_2)) else (wageofficelaw28_TaxMonotone.j0 k a1 a2 t637 true a0_0 a0_1 l0_2)) = some r := H
        have A12 := Aside0.mk A120
        clear A120
        by_cases c13 : t643 = true
        · subst c13
          have H1 : (if a1 < 0 then (wageofficelaw28_TaxMonotone.j0 k a1 a2 t637 true a0_0 a0_1 l0_2) else (wageofficelaw28_TaxMonotone.j0 k a1 a2 t637 (decide (a2 < a1)) a0_0 a0_1 l0_2)) = some r := by rw [if_pos rfl] at H; exact H
          clear H
          have H := H1
          clear H1
          by_cases c14 : a1 < 0
          · rw [if_pos c14] at H
            have c14b0 : decide (a1 < 0) = true := decide_eq_true c14
            clear c14
            (first | rw [c14b0] | (simp only [i64_w, i32_w]; rw [c14b0]) | skip)
            have H' := Aside0.mk H
            clear H
            have hcz15_0 : w7.cell? ⟨gb636, 0, none⟩ = some (.int .i64 a0_0) := (blk_cell BK636.out 0).trans rfl
            have hcz15_1 : w7.cell? ⟨gb636, 1, none⟩ = some (.int .i64 a0_1) := (blk_cell BK636.out 1).trans rfl
            have hcz15_2 : w7.cell? ⟨gb636, 2, none⟩ = some (.slice A0_2 l0_2.length c0_2) := (blk_cell BK636.out 2).trans rfl
            have hfz15_0 := blk_frozen BK636.out 0
            have hfz15_1 := blk_frozen BK636.out 1
            have hfz15_2 := blk_frozen BK636.out 2
            go_wp2_with (first | ((with_reducible refine gate_dst (N := 14) rfl ?_); refine Kd.N_lit k44 _ 44 ?hg (N' := 14) ?hd (xs := ([(⟨a0_0, (⟨a0_1, l0_2⟩ : S42)⟩ : S44)] : List (S44))) (inner := [.int .i64 a0_0, .int .i64 a0_1, .slice A0_2 l0_2.length c0_2]) (ok := (fun k_ => (P0_2_ k_ ∨ w.heap.size ≤ k_) ∧ k_ ≠ gb636)) (okp := (fun k_ => (P0_2_ k_ ∨ w.heap.size ≤ k_) ∧ k_ ≠ gb636)) ?hr ?hp (fun _ hk => hk) ((show ∀ k_, w7.heap.size ≤ k_ → (fun k_ => (P0_2_ k_ ∨ w.heap.size ≤ k_) ∧ k_ ≠ gb636) k_ from fun k_ hk => ⟨(.inr (Nat.le_trans (below_size (by repeat (first | (with_reducible first | exact HB.out | apply below_alloc | apply pw_below_drewN | apply below_drew1 | refine below_set ?_ GE636.out) | exact HB.out))) hk)), Kd.freshB (g := gb636) (o := .cells #[.int .i64 a0_0, .int .i64 a0_1, .slice A0_2 l0_2.length c0_2] 44 (0, 0)) (by (with_reducible repeat (first | refine blk_drewN ?_ _ | refine blk_drew ?_ | refine blk_alloc ?_ _)); exact BK636.out) k_ hk⟩) _ (Nat.le_refl _)) (Below.refl _ _) (Nat.le_refl _) (by simp) ?_; (case hd => rfl); (case hg => rfl); (case hr => first | (go_simp; done) | (go_simp; rfl)); (case hp => exact (Reps.c3 (show Kd.FK k44 _ _ (⟨a0_0, (⟨a0_1, l0_2⟩ : S42)⟩ : S44) [.int .i64 a0_0, .int .i64 a0_1, .slice A0_2 l0_2.length c0_2] from (k44_mkF _ _ (⟨a0_0, (⟨a0_1, l0_2⟩ : S42)⟩ : S44) (Kd.V_reads' (Kd.V_mono (ok' := (fun k_ => (P0_2_ k_ ∨ w.heap.size ≤ k_) ∧ k_ ≠ gb636)) (HO0_2.out) (fun k_ hk => ⟨hk.1, hk.2⟩))).2.1 (Kd.V_F (Kd.V_mono (ok' := (fun k_ => (P0_2_ k_ ∨ w.heap.size ≤ k_) ∧ k_ ≠ gb636)) (HO0_2.out) (fun k_ hk => ⟨hk.1, hk.2⟩))))) (Reps.none _ _))); intro v639 w16 ho17 hb hg_ hnew_; clear hg_ hnew_; (first | rw [← Ny638.out] at ho17 | (simp only [Int.reduceToNat] at ho17; rw [← Ny638.out] at ho17)); have n0_ := Aside0.mk (Kd.V_elder' (by (with_reducible repeat (first | apply Kd.V_alloc | apply Kd.V_drewN | apply Kd.V_drew)); exact HO0_2.out) (Kd.N_base ho17) hb); have n1_ := Aside0.mk (Kd.N_lower ho17 (below_size (by repeat (first | (with_reducible first | exact HB.out | apply below_alloc | apply pw_below_drewN | apply below_drew1 | refine below_set ?_ GE636.out) | exact HB.out)))); have n2_ := Aside0.mk (blk_below (g := gb636) (o := .cells #[.int .i64 a0_0, .int .i64 a0_1, .slice A0_2 l0_2.length c0_2] 44 (0, 0)) (by (with_reducible repeat (first | refine blk_drewN ?_ _ | refine blk_drew ?_ | refine blk_alloc ?_ _)); exact BK636.out) hb); have n3_ := Aside0.mk (below_step (by repeat (first | (with_reducible first | exact HB.out | apply below_alloc | apply pw_below_drewN | apply below_drew1 | refine below_set ?_ GE636.out) | exact HB.out)) hb); clear HO0_2; clear BK636; clear HB; have HO0_2 := n0_; have HO640 := n1_; have BK636 := n2_; have HB := n3_; clear n0_ n1_ n2_ n3_; clear hb ho17; obtain ⟨Ao18, co18, eo18⟩ := Kd.N_slice HO640.out; subst eo18) | ((with_reducible refine gate_callee (f := 28) rfl ?_); refine goesL_ (some 15) rfl rfl Try.func28 (by kernel_rfl) rfl #[.slice Ao18 y638.length co18] rfl (by (try simp only [List.map_toArray, List.map_cons, List.map_nil]); first | done | rfl | (simp only [List.length_drop, List.length_take]; rfl)) ?_; (with_reducible refine (wageofficelaw28_short.calls k _ _ y638 true _ ?side1 ?side2 A8.out).mono ?_); (case side1 => repeat (first | exact (Kd.N_reads' HO640.out).2.2 | (with_reducible refine Kd.C_alloc ?_ _) | (with_reducible refine Kd.C_drewN ?_ _) | (with_reducible refine Kd.C_drew ?_))); (case side2 => exact (Kd.N_reads' HO640.out).2.1); rintro e w19 ⟨rfl, hb⟩; refine ⟨_, rfl, ?_⟩; have n0_ := Aside0.mk (Kd.V_below (by (with_reducible repeat (first | apply Kd.V_alloc | apply Kd.V_drewN | apply Kd.V_drew)); exact HO0_2.out) hb); have n1_ := Aside0.mk (Kd.N_below (by (with_reducible repeat (first | apply Kd.N_alloc | apply Kd.N_drewN | apply Kd.N_drew)); exact HO640.out) hb); have n2_ := Aside0.mk (blk_below (g := gb636) (o := .cells #[.int .i64 a0_0, .int .i64 a0_1, .slice A0_2 l0_2.length c0_2] 44 (0, 0)) (by (with_reducible repeat (first | refine blk_drewN ?_ _ | refine blk_drew ?_ | refine blk_alloc ?_ _)); exact BK636.out) hb); have n3_ := Aside0.mk (below_step (by repeat (first | (with_reducible first | exact HB.out | apply below_alloc | apply pw_below_drewN | apply below_drew1 | refine below_set ?_ GE636.out) | exact HB.out)) hb); clear HO0_2; clear HO640; clear BK636; clear HB; have HO0_2 := n0_; have HO640 := n1_; have BK636 := n2_; have HB := n3_; clear n0_ n1_ n2_ n3_; (try clear hb); (try clear hb2); (try clear hk); (try clear hi); have hcz20_0 : w19.cell? ⟨gb636, 0, none⟩ = some (.int .i64 a0_0) := (blk_cell BK636.out 0).trans rfl; have hcz20_1 : w19.cell? ⟨gb636, 1, none⟩ = some (.int .i64 a0_1) := (blk_cell BK636.out 1).trans rfl; have hcz20_2 : w19.cell? ⟨gb636, 2, none⟩ = some (.slice A0_2 l0_2.length c0_2) := (blk_cell BK636.out 2).trans rfl; have hfz20_0 := blk_frozen BK636.out 0; have hfz20_1 := blk_frozen BK636.out 1; have hfz20_2 := blk_frozen BK636.out 2) | (go_at_call 38; (with_reducible refine (wageofficeref05_Valid.calls k a0_1 _ _ l0_2 true _ ?side1 ?side2 A10.out).mono ?_); (case side1 => repeat (first | exact (Kd.V_reads' HO0_2.out).2.2 | (with_reducible refine Kd.C_alloc ?_ _) | (with_reducible refine Kd.C_drewN ?_ _) | (with_reducible refine Kd.C_drew ?_))); (case side2 => exact (Kd.V_reads' HO0_2.out).2.1); rintro e w21 ⟨rfl, hb⟩; have n0_ := Aside0.mk (Kd.V_below (by (with_reducible repeat (first | apply Kd.V_alloc | apply Kd.V_drewN | apply Kd.V_drew)); exact HO0_2.out) hb); have n1_ := Aside0.mk (Kd.N_below (by (with_reducible repeat (first | apply Kd.N_alloc | apply Kd.N_drewN | apply Kd.N_drew)); exact HO640.out) hb); have n2_ := Aside0.mk (blk_below (g := gb636) (o := .cells #[.int .i64 a0_0, .int .i64 a0_1, .slice A0_2 l0_2.length c0_2] 44 (0, 0)) (by (with_reducible repeat (first | refine blk_drewN ?_ _ | refine blk_drew ?_ | refine blk_alloc ?_ _)); exact BK636.out) hb); have n3_ := Aside0.mk (below_step (by repeat (first | (with_reducible first | exact HB.out | apply below_alloc | apply pw_below_drewN | apply below_drew1 | refine below_set ?_ GE636.out) | exact HB.out)) hb); clear HO0_2; clear HO640; clear BK636; clear HB; have HO0_2 := n0_; have HO640 := n1_; have BK636 := n2_; have HB := n3_; clear n0_ n1_ n2_ n3_; (try clear hb); (try clear hb2); (try clear hk); (try clear hi); have hcz22_0 : w21.cell? ⟨gb636, 0, none⟩ = some (.int .i64 a0_0) := (blk_cell BK636.out 0).trans rfl; have hcz22_1 : w21.cell? ⟨gb636, 1, none⟩ = some (.int .i64 a0_1) := (blk_cell BK636.out 1).trans rfl; have hcz22_2 : w21.cell? ⟨gb636, 2, none⟩ = some (.slice A0_2 l0_2.length c0_2) := (blk_cell BK636.out 2).trans rfl; have hfz22_0 := blk_frozen BK636.out 0; have hfz22_1 := blk_frozen BK636.out 1; have hfz22_2 := blk_frozen BK636.out 2) | (go_at_call 39; (with_reducible refine (wageofficelaw28_gentle.calls k a0_1 _ _ l0_2 true true _ ?side1 ?side2 A12.out).mono ?_); (case side1 => repeat (first | exact (Kd.V_reads' HO0_2.out).2.2 | (with_reducible refine Kd.C_alloc ?_ _) | (with_reducible refine Kd.C_drewN ?_ _) | (with_reducible refine Kd.C_drew ?_))); (case side2 => exact (Kd.V_reads' HO0_2.out).2.1); rintro e w23 ⟨rfl, hb⟩; have n0_ := Aside0.mk (Kd.V_below (by (with_reducible repeat (first | apply Kd.V_alloc | apply Kd.V_drewN | apply Kd.V_drew)); exact HO0_2.out) hb); have n1_ := Aside0.mk (Kd.N_below (by (with_reducible repeat (first | apply Kd.N_alloc | apply Kd.N_drewN | apply Kd.N_drew)); exact HO640.out) hb); have n2_ := Aside0.mk (blk_below (g := gb636) (o := .cells #[.int .i64 a0_0, .int .i64 a0_1, .slice A0_2 l0_2.length c0_2] 44 (0, 0)) (by (with_reducible repeat (first | refine blk_drewN ?_ _ | refine blk_drew ?_ | refine blk_alloc ?_ _)); exact BK636.out) hb); have n3_ := Aside0.mk (below_step (by repeat (first | (with_reducible first | exact HB.out | apply below_alloc | apply pw_below_drewN | apply below_drew1 | refine below_set ?_ GE636.out) | exact HB.out)) hb); clear HO0_2; clear HO640; clear BK636; clear HB; have HO0_2 := n0_; have HO640 := n1_; have BK636 := n2_; have HB := n3_; clear n0_ n1_ n2_ n3_; (try clear hb); (try clear hb2); (try clear hk); (try clear hi)))
            go_meet
            case rel => exact ⟨_, (true), (by first | rfl | (simp; done) | (simp [*]; done)), H', ⟨by first | omega | exact Nat.le_refl _⟩, ⟨by (with_reducible repeat (first | apply Kd.V_alloc | apply Kd.V_drewN | apply Kd.V_drew)); exact Kd.V_mono HO0_2.out (fun _ hk => ⟨hk.1.1, hk.1.2⟩)⟩, ⟨by (with_reducible repeat (first | refine blk_drewN ?_ _ | refine blk_drew ?_ | refine blk_alloc ?_ _)); exact BK636.out⟩, ⟨by repeat (first | (with_reducible first | exact HB.out | apply below_alloc | apply pw_below_drewN | apply below_drew1 | refine below_set ?_ GE636.out) | exact HB.out)⟩⟩
          · rw [if_neg c14] at H
            have c14b0 : decide (a1 < 0) = false := decide_eq_false c14
            clear c14
            (first | rw [c14b0] | (simp only [i64_w, i32_w]; rw [c14b0]) | skip)
            have H' := Aside0.mk H
            clear H
            have hcz24_0 : w7.cell? ⟨gb636, 0, none⟩ = some (.int .i64 a0_0) := (blk_cell BK636.out 0).trans rfl
            have hcz24_1 : w7.cell? ⟨gb636, 1, none⟩ = some (.int .i64 a0_1) := (blk_cell BK636.out 1).trans rfl
            have hcz24_2 : w7.cell? ⟨gb636, 2, none⟩ = some (.slice A0_2 l0_2.length c0_2) := (blk_cell BK636.out 2).trans rfl
            have hfz24_0 := blk_frozen BK636.out 0
            have hfz24_1 := blk_frozen BK636.out 1
            have hfz24_2 := blk_frozen BK636.out 2
            go_wp2_with (first | ((with_reducible refine gate_dst (N := 14) rfl ?_); refine Kd.N_lit k44 _ 44 ?hg (N' := 14) ?hd (xs := ([(⟨a0_0, (⟨a0_1, l0_2⟩ : S42)⟩ : S44)] : List (S44))) (inner := [.int .i64 a0_0, .int .i64 a0_1, .slice A0_2 l0_2.length c0_2]) (ok := (fun k_ => (P0_2_ k_ ∨ w.heap.size ≤ k_) ∧ k_ ≠ gb636)) (okp := (fun k_ => (P0_2_ k_ ∨ w.heap.size ≤ k_) ∧ k_ ≠ gb636)) ?hr ?hp (fun _ hk => hk) ((show ∀ k_, w7.heap.size ≤ k_ → (fun k_ => (P0_2_ k_ ∨ w.heap.size ≤ k_) ∧ k_ ≠ gb636) k_ from fun k_ hk => ⟨(.inr (Nat.le_trans (below_size (by repeat (first | (with_reducible first | exact HB.out | apply below_alloc | apply pw_below_drewN | apply below_drew1 | refine below_set ?_ GE636.out) | exact HB.out))) hk)), Kd.freshB (g := gb636) (o := .cells #[.int .i64 a0_0, .int .i64 a0_1, .slice A0_2 l0_2.length c0_2] 44 (0, 0)) (by (with_reducible repeat (first | refine blk_drewN ?_ _ | refine blk_drew ?_ | refine blk_alloc ?_ _)); exact BK636.out) k_ hk⟩) _ (Nat.le_refl _)) (Below.refl _ _) (Nat.le_refl _) (by simp) ?_; (case hd => rfl); (case hg => rfl); (case hr => first | (go_simp; done) | (go_simp; rfl)); (case hp => exact (Reps.c3 (show Kd.FK k44 _ _ (⟨a0_0, (⟨a0_1, l0_2⟩ : S42)⟩ : S44) [.int .i64 a0_0, .int .i64 a0_1, .slice A0_2 l0_2.length c0_2] from (k44_mkF _ _ (⟨a0_0, (⟨a0_1, l0_2⟩ : S42)⟩ : S44) (Kd.V_reads' (Kd.V_mono (ok' := (fun k_ => (P0_2_ k_ ∨ w.heap.size ≤ k_) ∧ k_ ≠ gb636)) (HO0_2.out) (fun k_ hk => ⟨hk.1, hk.2⟩))).2.1 (Kd.V_F (Kd.V_mono (ok' := (fun k_ => (P0_2_ k_ ∨ w.heap.size ≤ k_) ∧ k_ ≠ gb636)) (HO0_2.out) (fun k_ hk => ⟨hk.1, hk.2⟩))))) (Reps.none _ _))); intro v639 w25 ho26 hb hg_ hnew_; clear hg_ hnew_; (first | rw [← Ny638.out] at ho26 | (simp only [Int.reduceToNat] at ho26; rw [← Ny638.out] at ho26)); have n0_ := Aside0.mk (Kd.V_elder' (by (with_reducible repeat (first | apply Kd.V_alloc | apply Kd.V_drewN | apply Kd.V_drew)); exact HO0_2.out) (Kd.N_base ho26) hb); have n1_ := Aside0.mk (Kd.N_lower ho26 (below_size (by repeat (first | (with_reducible first | exact HB.out | apply below_alloc | apply pw_below_drewN | apply below_drew1 | refine below_set ?_ GE636.out) | exact HB.out)))); have n2_ := Aside0.mk (blk_below (g := gb636) (o := .cells #[.int .i64 a0_0, .int .i64 a0_1, .slice A0_2 l0_2.length c0_2] 44 (0, 0)) (by (with_reducible repeat (first | refine blk_drewN ?_ _ | refine blk_drew ?_ | refine blk_alloc ?_ _)); exact BK636.out) hb); have n3_ := Aside0.mk (below_step (by repeat (first | (with_reducible first | exact HB.out | apply below_alloc | apply pw_below_drewN | apply below_drew1 | refine below_set ?_ GE636.out) | exact HB.out)) hb); clear HO0_2; clear BK636; clear HB; have HO0_2 := n0_; have HO640 := n1_; have BK636 := n2_; have HB := n3_; clear n0_ n1_ n2_ n3_; clear hb ho26; obtain ⟨Ao27, co27, eo27⟩ := Kd.N_slice HO640.out; subst eo27) | ((with_reducible refine gate_callee (f := 28) rfl ?_); refine goesL_ (some 15) rfl rfl Try.func28 (by kernel_rfl) rfl #[.slice Ao27 y638.length co27] rfl (by (try simp only [List.map_toArray, List.map_cons, List.map_nil]); first | done | rfl | (simp only [List.length_drop, List.length_take]; rfl)) ?_; (with_reducible refine (wageofficelaw28_short.calls k _ _ y638 true _ ?side1 ?side2 A8.out).mono ?_); (case side1 => repeat (first | exact (Kd.N_reads' HO640.out).2.2 | (with_reducible refine Kd.C_alloc ?_ _) | (with_reducible refine Kd.C_drewN ?_ _) | (with_reducible refine Kd.C_drew ?_))); (case side2 => exact (Kd.N_reads' HO640.out).2.1); rintro e w28 ⟨rfl, hb⟩; refine ⟨_, rfl, ?_⟩; have n0_ := Aside0.mk (Kd.V_below (by (with_reducible repeat (first | apply Kd.V_alloc | apply Kd.V_drewN | apply Kd.V_drew)); exact HO0_2.out) hb); have n1_ := Aside0.mk (Kd.N_below (by (with_reducible repeat (first | apply Kd.N_alloc | apply Kd.N_drewN | apply Kd.N_drew)); exact HO640.out) hb); have n2_ := Aside0.mk (blk_below (g := gb636) (o := .cells #[.int .i64 a0_0, .int .i64 a0_1, .slice A0_2 l0_2.length c0_2] 44 (0, 0)) (by (with_reducible repeat (first | refine blk_drewN ?_ _ | refine blk_drew ?_ | refine blk_alloc ?_ _)); exact BK636.out) hb); have n3_ := Aside0.mk (below_step (by repeat (first | (with_reducible first | exact HB.out | apply below_alloc | apply pw_below_drewN | apply below_drew1 | refine below_set ?_ GE636.out) | exact HB.out)) hb); clear HO0_2; clear HO640; clear BK636; clear HB; have HO0_2 := n0_; have HO640 := n1_; have BK636 := n2_; have HB := n3_; clear n0_ n1_ n2_ n3_; (try clear hb); (try clear hb2); (try clear hk); (try clear hi); have hcz29_0 : w28.cell? ⟨gb636, 0, none⟩ = some (.int .i64 a0_0) := (blk_cell BK636.out 0).trans rfl; have hcz29_1 : w28.cell? ⟨gb636, 1, none⟩ = some (.int .i64 a0_1) := (blk_cell BK636.out 1).trans rfl; have hcz29_2 : w28.cell? ⟨gb636, 2, none⟩ = some (.slice A0_2 l0_2.length c0_2) := (blk_cell BK636.out 2).trans rfl; have hfz29_0 := blk_frozen BK636.out 0; have hfz29_1 := blk_frozen BK636.out 1; have hfz29_2 := blk_frozen BK636.out 2) | (go_at_call 38; (with_reducible refine (wageofficeref05_Valid.calls k a0_1 _ _ l0_2 true _ ?side1 ?side2 A10.out).mono ?_); (case side1 => repeat (first | exact (Kd.V_reads' HO0_2.out).2.2 | (with_reducible refine Kd.C_alloc ?_ _) | (with_reducible refine Kd.C_drewN ?_ _) | (with_reducible refine Kd.C_drew ?_))); (case side2 => exact (Kd.V_reads' HO0_2.out).2.1); rintro e w30 ⟨rfl, hb⟩; have n0_ := Aside0.mk (Kd.V_below (by (with_reducible repeat (first | apply Kd.V_alloc | apply Kd.V_drewN | apply Kd.V_drew)); exact HO0_2.out) hb); have n1_ := Aside0.mk (Kd.N_below (by (with_reducible repeat (first | apply Kd.N_alloc | apply Kd.N_drewN | apply Kd.N_drew)); exact HO640.out) hb); have n2_ := Aside0.mk (blk_below (g := gb636) (o := .cells #[.int .i64 a0_0, .int .i64 a0_1, .slice A0_2 l0_2.length c0_2] 44 (0, 0)) (by (with_reducible repeat (first | refine blk_drewN ?_ _ | refine blk_drew ?_ | refine blk_alloc ?_ _)); exact BK636.out) hb); have n3_ := Aside0.mk (below_step (by repeat (first | (with_reducible first | exact HB.out | apply below_alloc | apply pw_below_drewN | apply below_drew1 | refine below_set ?_ GE636.out) | exact HB.out)) hb); clear HO0_2; clear HO640; clear BK636; clear HB; have HO0_2 := n0_; have HO640 := n1_; have BK636 := n2_; have HB := n3_; clear n0_ n1_ n2_ n3_; (try clear hb); (try clear hb2); (try clear hk); (try clear hi); have hcz31_0 : w30.cell? ⟨gb636, 0, none⟩ = some (.int .i64 a0_0) := (blk_cell BK636.out 0).trans rfl; have hcz31_1 : w30.cell? ⟨gb636, 1, none⟩ = some (.int .i64 a0_1) := (blk_cell BK636.out 1).trans rfl; have hcz31_2 : w30.cell? ⟨gb636, 2, none⟩ = some (.slice A0_2 l0_2.length c0_2) := (blk_cell BK636.out 2).trans rfl; have hfz31_0 := blk_frozen BK636.out 0; have hfz31_1 := blk_frozen BK636.out 1; have hfz31_2 := blk_frozen BK636.out 2) | (go_at_call 39; (with_reducible refine (wageofficelaw28_gentle.calls k a0_1 _ _ l0_2 true true _ ?side1 ?side2 A12.out).mono ?_); (case side1 => repeat (first | exact (Kd.V_reads' HO0_2.out).2.2 | (with_reducible refine Kd.C_alloc ?_ _) | (with_reducible refine Kd.C_drewN ?_ _) | (with_reducible refine Kd.C_drew ?_))); (case side2 => exact (Kd.V_reads' HO0_2.out).2.1); rintro e w32 ⟨rfl, hb⟩; have n0_ := Aside0.mk (Kd.V_below (by (with_reducible repeat (first | apply Kd.V_alloc | apply Kd.V_drewN | apply Kd.V_drew)); exact HO0_2.out) hb); have n1_ := Aside0.mk (Kd.N_below (by (with_reducible repeat (first | apply Kd.N_alloc | apply Kd.N_drewN | apply Kd.N_drew)); exact HO640.out) hb); have n2_ := Aside0.mk (blk_below (g := gb636) (o := .cells #[.int .i64 a0_0, .int .i64 a0_1, .slice A0_2 l0_2.length c0_2] 44 (0, 0)) (by (with_reducible repeat (first | refine blk_drewN ?_ _ | refine blk_drew ?_ | refine blk_alloc ?_ _)); exact BK636.out) hb); have n3_ := Aside0.mk (below_step (by repeat (first | (with_reducible first | exact HB.out | apply below_alloc | apply pw_below_drewN | apply below_drew1 | refine below_set ?_ GE636.out) | exact HB.out)) hb); clear HO0_2; clear HO640; clear BK636; clear HB; have HO0_2 := n0_; have HO640 := n1_; have BK636 := n2_; have HB := n3_; clear n0_ n1_ n2_ n3_; (try clear hb); (try clear hb2); (try clear hk); (try clear hi)))
            go_meet
            case rel => exact ⟨_, (decide (a2 < a1)), (by first | rfl | (simp; done) | (simp [*]; done)), H', ⟨by first | omega | exact Nat.le_refl _⟩, ⟨by (with_reducible repeat (first | apply Kd.V_alloc | apply Kd.V_drewN | apply Kd.V_drew)); exact Kd.V_mono HO0_2.out (fun _ hk => ⟨hk.1.1, hk.1.2⟩)⟩, ⟨by (with_reducible repeat (first | refine blk_drewN ?_ _ | refine blk_drew ?_ | refine blk_alloc ?_ _)); exact BK636.out⟩, ⟨by repeat (first | (with_reducible first | exact HB.out | apply below_alloc | apply pw_below_drewN | apply below_drew1 | refine below_set ?_ GE636.out) | exact HB.out)⟩⟩
        · replace c13 := Bool.eq_false_iff.mpr c13
          subst c13
          have H1 : (wageofficelaw28_TaxMonotone.j0 k a1 a2 t637 true a0_0 a0_1 l0_2) = some r := by rw [if_neg (show ¬ (false = true) by decide)] at H; exact H
          clear H
          have H := H1
          clear H1
          have H' := Aside0.mk H
          clear H
          have hcz33_0 : w7.cell? ⟨gb636, 0, none⟩ = some (.int .i64 a0_0) := (blk_cell BK636.out 0).trans rfl
          have hcz33_1 : w7.cell? ⟨gb636, 1, none⟩ = some (.int .i64 a0_1) := (blk_cell BK636.out 1).trans rfl
          have hcz33_2 : w7.cell? ⟨gb636, 2, none⟩ = some (.slice A0_2 l0_2.length c0_2) := (blk_cell BK636.out 2).trans rfl
          have hfz33_0 := blk_frozen BK636.out 0
          have hfz33_1 := blk_frozen BK636.out 1
          have hfz33_2 := blk_frozen BK636.out 2
          go_wp2_with (first | ((with_reducible refine gate_dst (N := 14) rfl ?_); refine Kd.N_lit k44 _ 44 ?hg (N' := 14) ?hd (xs := ([(⟨a0_0, (⟨a0_1, l0_2⟩ : S42)⟩ : S44)] : List (S44))) (inner := [.int .i64 a0_0, .int .i64 a0_1, .slice A0_2 l0_2.length c0_2]) (ok := (fun k_ => (P0_2_ k_ ∨ w.heap.size ≤ k_) ∧ k_ ≠ gb636)) (okp := (fun k_ => (P0_2_ k_ ∨ w.heap.size ≤ k_) ∧ k_ ≠ gb636)) ?hr ?hp (fun _ hk => hk) ((show ∀ k_, w7.heap.size ≤ k_ → (fun k_ => (P0_2_ k_ ∨ w.heap.size ≤ k_) ∧ k_ ≠ gb636) k_ from fun k_ hk => ⟨(.inr (Nat.le_trans (below_size (by repeat (first | (with_reducible first | exact HB.out | apply below_alloc | apply pw_below_drewN | apply below_drew1 | refine below_set ?_ GE636.out) | exact HB.out))) hk)), Kd.freshB (g := gb636) (o := .cells #[.int .i64 a0_0, .int .i64 a0_1, .slice A0_2 l0_2.length c0_2] 44 (0, 0)) (by (with_reducible repeat (first | refine blk_drewN ?_ _ | refine blk_drew ?_ | refine blk_alloc ?_ _)); exact BK636.out) k_ hk⟩) _ (Nat.le_refl _)) (Below.refl _ _) (Nat.le_refl _) (by simp) ?_; (case hd => rfl); (case hg => rfl); (case hr => first | (go_simp; done) | (go_simp; rfl)); (case hp => exact (Reps.c3 (show Kd.FK k44 _ _ (⟨a0_0, (⟨a0_1, l0_2⟩ : S42)⟩ : S44) [.int .i64 a0_0, .int .i64 a0_1, .slice A0_2 l0_2.length c0_2] from (k44_mkF _ _ (⟨a0_0, (⟨a0_1, l0_2⟩ : S42)⟩ : S44) (Kd.V_reads' (Kd.V_mono (ok' := (fun k_ => (P0_2_ k_ ∨ w.heap.size ≤ k_) ∧ k_ ≠ gb636)) (HO0_2.out) (fun k_ hk => ⟨hk.1, hk.2⟩))).2.1 (Kd.V_F (Kd.V_mono (ok' := (fun k_ => (P0_2_ k_ ∨ w.heap.size ≤ k_) ∧ k_ ≠ gb636)) (HO0_2.out) (fun k_ hk => ⟨hk.1, hk.2⟩))))) (Reps.none _ _))); intro v639 w34 ho35 hb hg_ hnew_; clear hg_ hnew_; (first | rw [← Ny638.out] at ho35 | (simp only [Int.reduceToNat] at ho35; rw [← Ny638.out] at ho35)); have n0_ := Aside0.mk (Kd.V_elder' (by (with_reducible repeat (first | apply Kd.V_alloc | apply Kd.V_drewN | apply Kd.V_drew)); exact HO0_2.out) (Kd.N_base ho35) hb); have n1_ := Aside0.mk (Kd.N_lower ho35 (below_size (by repeat (first | (with_reducible first | exact HB.out | apply below_alloc | apply pw_below_drewN | apply below_drew1 | refine below_set ?_ GE636.out) | exact HB.out)))); have n2_ := Aside0.mk (blk_below (g := gb636) (o := .cells #[.int .i64 a0_0, .int .i64 a0_1, .slice A0_2 l0_2.length c0_2] 44 (0, 0)) (by (with_reducible repeat (first | refine blk_drewN ?_ _ | refine blk_drew ?_ | refine blk_alloc ?_ _)); exact BK636.out) hb); have n3_ := Aside0.mk (below_step (by repeat (first | (with_reducible first | exact HB.out | apply below_alloc | apply pw_below_drewN | apply below_drew1 | refine below_set ?_ GE636.out) | exact HB.out)) hb); clear HO0_2; clear BK636; clear HB; have HO0_2 := n0_; have HO640 := n1_; have BK636 := n2_; have HB := n3_; clear n0_ n1_ n2_ n3_; clear hb ho35; obtain ⟨Ao36, co36, eo36⟩ := Kd.N_slice HO640.out; subst eo36) | ((with_reducible refine gate_callee (f := 28) rfl ?_); refine goesL_ (some 15) rfl rfl Try.func28 (by kernel_rfl) rfl #[.slice Ao36 y638.length co36] rfl (by (try simp only [List.map_toArray, List.map_cons, List.map_nil]); first | done | rfl | (simp only [List.length_drop, List.length_take]; rfl)) ?_; (with_reducible refine (wageofficelaw28_short.calls k _ _ y638 true _ ?side1 ?side2 A8.out).mono ?_); (case side1 => repeat (first | exact (Kd.N_reads' HO640.out).2.2 | (with_reducible refine Kd.C_alloc ?_ _) | (with_reducible refine Kd.C_drewN ?_ _) | (with_reducible refine Kd.C_drew ?_))); (case side2 => exact (Kd.N_reads' HO640.out).2.1); rintro e w37 ⟨rfl, hb⟩; refine ⟨_, rfl, ?_⟩; have n0_ := Aside0.mk (Kd.V_below (by (with_reducible repeat (first | apply Kd.V_alloc | apply Kd.V_drewN | apply Kd.V_drew)); exact HO0_2.out) hb); have n1_ := Aside0.mk (Kd.N_below (by (with_reducible repeat (first | apply Kd.N_alloc | apply Kd.N_drewN | apply Kd.N_drew)); exact HO640.out) hb); have n2_ := Aside0.mk (blk_below (g := gb636) (o := .cells #[.int .i64 a0_0, .int .i64 a0_1, .slice A0_2 l0_2.length c0_2] 44 (0, 0)) (by (with_reducible repeat (first | refine blk_drewN ?_ _ | refine blk_drew ?_ | refine blk_alloc ?_ _)); exact BK636.out) hb); have n3_ := Aside0.mk (below_step (by repeat (first | (with_reducible first | exact HB.out | apply below_alloc | apply pw_below_drewN | apply below_drew1 | refine below_set ?_ GE636.out) | exact HB.out)) hb); clear HO0_2; clear HO640; clear BK636; clear HB; have HO0_2 := n0_; have HO640 := n1_; have BK636 := n2_; have HB := n3_; clear n0_ n1_ n2_ n3_; (try clear hb); (try clear hb2); (try clear hk); (try clear hi); have hcz38_0 : w37.cell? ⟨gb636, 0, none⟩ = some (.int .i64 a0_0) := (blk_cell BK636.out 0).trans rfl; have hcz38_1 : w37.cell? ⟨gb636, 1, none⟩ = some (.int .i64 a0_1) := (blk_cell BK636.out 1).trans rfl; have hcz38_2 : w37.cell? ⟨gb636, 2, none⟩ = some (.slice A0_2 l0_2.length c0_2) := (blk_cell BK636.out 2).trans rfl; have hfz38_0 := blk_frozen BK636.out 0; have hfz38_1 := blk_frozen BK636.out 1; have hfz38_2 := blk_frozen BK636.out 2) | (go_at_call 38; (with_reducible refine (wageofficeref05_Valid.calls k a0_1 _ _ l0_2 true _ ?side1 ?side2 A10.out).mono ?_); (case side1 => repeat (first | exact (Kd.V_reads' HO0_2.out).2.2 | (with_reducible refine Kd.C_alloc ?_ _) | (with_reducible refine Kd.C_drewN ?_ _) | (with_reducible refine Kd.C_drew ?_))); (case side2 => exact (Kd.V_reads' HO0_2.out).2.1); rintro e w39 ⟨rfl, hb⟩; have n0_ := Aside0.mk (Kd.V_below (by (with_reducible repeat (first | apply Kd.V_alloc | apply Kd.V_drewN | apply Kd.V_drew)); exact HO0_2.out) hb); have n1_ := Aside0.mk (Kd.N_below (by (with_reducible repeat (first | apply Kd.N_alloc | apply Kd.N_drewN | apply Kd.N_drew)); exact HO640.out) hb); have n2_ := Aside0.mk (blk_below (g := gb636) (o := .cells #[.int .i64 a0_0, .int .i64 a0_1, .slice A0_2 l0_2.length c0_2] 44 (0, 0)) (by (with_reducible repeat (first | refine blk_drewN ?_ _ | refine blk_drew ?_ | refine blk_alloc ?_ _)); exact BK636.out) hb); have n3_ := Aside0.mk (below_step (by repeat (first | (with_reducible first | exact HB.out | apply below_alloc | apply pw_below_drewN | apply below_drew1 | refine below_set ?_ GE636.out) | exact HB.out)) hb); clear HO0_2; clear HO640; clear BK636; clear HB; have HO0_2 := n0_; have HO640 := n1_; have BK636 := n2_; have HB := n3_; clear n0_ n1_ n2_ n3_; (try clear hb); (try clear hb2); (try clear hk); (try clear hi); have hcz40_0 : w39.cell? ⟨gb636, 0, none⟩ = some (.int .i64 a0_0) := (blk_cell BK636.out 0).trans rfl; have hcz40_1 : w39.cell? ⟨gb636, 1, none⟩ = some (.int .i64 a0_1) := (blk_cell BK636.out 1).trans rfl; have hcz40_2 : w39.cell? ⟨gb636, 2, none⟩ = some (.slice A0_2 l0_2.length c0_2) := (blk_cell BK636.out 2).trans rfl; have hfz40_0 := blk_frozen BK636.out 0; have hfz40_1 := blk_frozen BK636.out 1; have hfz40_2 := blk_frozen BK636.out 2) | (go_at_call 39; (with_reducible refine (wageofficelaw28_gentle.calls k a0_1 _ _ l0_2 true false _ ?side1 ?side2 A12.out).mono ?_); (case side1 => repeat (first | exact (Kd.V_reads' HO0_2.out).2.2 | (with_reducible refine Kd.C_alloc ?_ _) | (with_reducible refine Kd.C_drewN ?_ _) | (with_reducible refine Kd.C_drew ?_))); (case side2 => exact (Kd.V_reads' HO0_2.out).2.1); rintro e w41 ⟨rfl, hb⟩; have n0_ := Aside0.mk (Kd.V_below (by (with_reducible repeat (first | apply Kd.V_alloc | apply Kd.V_drewN | apply Kd.V_drew)); exact HO0_2.out) hb); have n1_ := Aside0.mk (Kd.N_below (by (with_reducible repeat (first | apply Kd.N_alloc | apply Kd.N_drewN | apply Kd.N_drew)); exact HO640.out) hb); have n2_ := Aside0.mk (blk_below (g := gb636) (o := .cells #[.int .i64 a0_0, .int .i64 a0_1, .slice A0_2 l0_2.length c0_2] 44 (0, 0)) (by (with_reducible repeat (first | refine blk_drewN ?_ _ | refine blk_drew ?_ | refine blk_alloc ?_ _)); exact BK636.out) hb); have n3_ := Aside0.mk (below_step (by repeat (first | (with_reducible first | exact HB.out | apply below_alloc | apply pw_below_drewN | apply below_drew1 | refine below_set ?_ GE636.out) | exact HB.out)) hb); clear HO0_2; clear HO640; clear BK636; clear HB; have HO0_2 := n0_; have HO640 := n1_; have BK636 := n2_; have HB := n3_; clear n0_ n1_ n2_ n3_; (try clear hb); (try clear hb2); (try clear hk); (try clear hi)))
          go_meet
          case rel => exact ⟨_, (true), (by first | rfl | (simp; done) | (simp [*]; done)), H', ⟨by first | omega | exact Nat.le_refl _⟩, ⟨by (with_reducible repeat (first | apply Kd.V_alloc | apply Kd.V_drewN | apply Kd.V_drew)); exact Kd.V_mono HO0_2.out (fun _ hk => ⟨hk.1.1, hk.1.2⟩)⟩, ⟨by (with_reducible repeat (first | refine blk_drewN ?_ _ | refine blk_drew ?_ | refine blk_alloc ?_ _)); exact BK636.out⟩, ⟨by repeat (first | (with_reducible first | exact HB.out | apply below_alloc | apply pw_below_drewN | apply below_drew1 | refine below_set ?_ GE636.out) | exact HB.out)⟩⟩
      · replace c11 := Bool.eq_false_iff.mpr c11
        subst c11
        have H1 : (wageofficelaw28_TaxMonotone.j0 k a1 a2 t637 true a0_0 a0_1 l0_2) = some r := by rw [if_neg (show ¬ (false = true) by decide)] at H; exact H
        clear H
        have H := H1
        clear H1
        have H' := Aside0.mk H
        clear H
        have hcz42_0 : w7.cell? ⟨gb636, 0, none⟩ = some (.int .i64 a0_0) := (blk_cell BK636.out 0).trans rfl
        have hcz42_1 : w7.cell? ⟨gb636, 1, none⟩ = some (.int .i64 a0_1) := (blk_cell BK636.out 1).trans rfl
        have hcz42_2 : w7.cell? ⟨gb636, 2, none⟩ = some (.slice A0_2 l0_2.length c0_2) := (blk_cell BK636.out 2).trans rfl
        have hfz42_0 := blk_frozen BK636.out 0
        have hfz42_1 := blk_frozen BK636.out 1
        have hfz42_2 := blk_frozen BK636.out 2
        go_wp2_with (first | ((with_reducible refine gate_dst (N := 14) rfl ?_); refine Kd.N_lit k44 _ 44 ?hg (N' := 14) ?hd (xs := ([(⟨a0_0, (⟨a0_1, l0_2⟩ : S42)⟩ : S44)] : List (S44))) (inner := [.int .i64 a0_0, .int .i64 a0_1, .slice A0_2 l0_2.length c0_2]) (ok := (fun k_ => (P0_2_ k_ ∨ w.heap.size ≤ k_) ∧ k_ ≠ gb636)) (okp := (fun k_ => (P0_2_ k_ ∨ w.heap.size ≤ k_) ∧ k_ ≠ gb636)) ?hr ?hp (fun _ hk => hk) ((show ∀ k_, w7.heap.size ≤ k_ → (fun k_ => (P0_2_ k_ ∨ w.heap.size ≤ k_) ∧ k_ ≠ gb636) k_ from fun k_ hk => ⟨(.inr (Nat.le_trans (below_size (by repeat (first | (with_reducible first | exact HB.out | apply below_alloc | apply pw_below_drewN | apply below_drew1 | refine below_set ?_ GE636.out) | exact HB.out))) hk)), Kd.freshB (g := gb636) (o := .cells #[.int .i64 a0_0, .int .i64 a0_1, .slice A0_2 l0_2.length c0_2] 44 (0, 0)) (by (with_reducible repeat (first | refine blk_drewN ?_ _ | refine blk_drew ?_ | refine blk_alloc ?_ _)); exact BK636.out) k_ hk⟩) _ (Nat.le_refl _)) (Below.refl _ _) (Nat.le_refl _) (by simp) ?_; (case hd => rfl); (case hg => rfl); (case hr => first | (go_simp; done) | (go_simp; rfl)); (case hp => exact (Reps.c3 (show Kd.FK k44 _ _ (⟨a0_0, (⟨a0_1, l0_2⟩ : S42)⟩ : S44) [.int .i64 a0_0, .int .i64 a0_1, .slice A0_2 l0_2.length c0_2] from (k44_mkF _ _ (⟨a0_0, (⟨a0_1, l0_2⟩ : S42)⟩ : S44) (Kd.V_reads' (Kd.V_mono (ok' := (fun k_ => (P0_2_ k_ ∨ w.heap.size ≤ k_) ∧ k_ ≠ gb636)) (HO0_2.out) (fun k_ hk => ⟨hk.1, hk.2⟩))).2.1 (Kd.V_F (Kd.V_mono (ok' := (fun k_ => (P0_2_ k_ ∨ w.heap.size ≤ k_) ∧ k_ ≠ gb636)) (HO0_2.out) (fun k_ hk => ⟨hk.1, hk.2⟩))))) (Reps.none _ _))); intro v639 w43 ho44 hb hg_ hnew_; clear hg_ hnew_; (first | rw [← Ny638.out] at ho44 | (simp only [Int.reduceToNat] at ho44; rw [← Ny638.out] at ho44)); have n0_ := Aside0.mk (Kd.V_elder' (by (with_reducible repeat (first | apply Kd.V_alloc | apply Kd.V_drewN | apply Kd.V_drew)); exact HO0_2.out) (Kd.N_base ho44) hb); have n1_ := Aside0.mk (Kd.N_lower ho44 (below_size (by repeat (first | (with_reducible first | exact HB.out | apply below_alloc | apply pw_below_drewN | apply below_drew1 | refine below_set ?_ GE636.out) | exact HB.out)))); have n2_ := Aside0.mk (blk_below (g := gb636) (o := .cells #[.int .i64 a0_0, .int .i64 a0_1, .slice A0_2 l0_2.length c0_2] 44 (0, 0)) (by (with_reducible repeat (first | refine blk_drewN ?_ _ | refine blk_drew ?_ | refine blk_alloc ?_ _)); exact BK636.out) hb); have n3_ := Aside0.mk (below_step (by repeat (first | (with_reducible first | exact HB.out | apply below_alloc | apply pw_below_drewN | apply below_drew1 | refine below_set ?_ GE636.out) | exact HB.out)) hb); clear HO0_2; clear BK636; clear HB; have HO0_2 := n0_; have HO640 := n1_; have BK636 := n2_; have HB := n3_; clear n0_ n1_ n2_ n3_; clear hb ho44; obtain ⟨Ao45, co45, eo45⟩ := Kd.N_slice HO640.out; subst eo45) | ((with_reducible refine gate_callee (f := 28) rfl ?_); refine goesL_ (some 15) rfl rfl Try.func28 (by kernel_rfl) rfl #[.slice Ao45 y638.length co45] rfl (by (try simp only [List.map_toArray, List.map_cons, List.map_nil]); first | done | rfl | (simp only [List.length_drop, List.length_take]; rfl)) ?_; (with_reducible refine (wageofficelaw28_short.calls k _ _ y638 true _ ?side1 ?side2 A8.out).mono ?_); (case side1 => repeat (first | exact (Kd.N_reads' HO640.out).2.2 | (with_reducible refine Kd.C_alloc ?_ _) | (with_reducible refine Kd.C_drewN ?_ _) | (with_reducible refine Kd.C_drew ?_))); (case side2 => exact (Kd.N_reads' HO640.out).2.1); rintro e w46 ⟨rfl, hb⟩; refine ⟨_, rfl, ?_⟩; have n0_ := Aside0.mk (Kd.V_below (by (with_reducible repeat (first | apply Kd.V_alloc | apply Kd.V_drewN | apply Kd.V_drew)); exact HO0_2.out) hb); have n1_ := Aside0.mk (Kd.N_below (by (with_reducible repeat (first | apply Kd.N_alloc | apply Kd.N_drewN | apply Kd.N_drew)); exact HO640.out) hb); have n2_ := Aside0.mk (blk_below (g := gb636) (o := .cells #[.int .i64 a0_0, .int .i64 a0_1, .slice A0_2 l0_2.length c0_2] 44 (0, 0)) (by (with_reducible repeat (first | refine blk_drewN ?_ _ | refine blk_drew ?_ | refine blk_alloc ?_ _)); exact BK636.out) hb); have n3_ := Aside0.mk (below_step (by repeat (first | (with_reducible first | exact HB.out | apply below_alloc | apply pw_below_drewN | apply below_drew1 | refine below_set ?_ GE636.out) | exact HB.out)) hb); clear HO0_2; clear HO640; clear BK636; clear HB; have HO0_2 := n0_; have HO640 := n1_; have BK636 := n2_; have HB := n3_; clear n0_ n1_ n2_ n3_; (try clear hb); (try clear hb2); (try clear hk); (try clear hi); have hcz47_0 : w46.cell? ⟨gb636, 0, none⟩ = some (.int .i64 a0_0) := (blk_cell BK636.out 0).trans rfl; have hcz47_1 : w46.cell? ⟨gb636, 1, none⟩ = some (.int .i64 a0_1) := (blk_cell BK636.out 1).trans rfl; have hcz47_2 : w46.cell? ⟨gb636, 2, none⟩ = some (.slice A0_2 l0_2.length c0_2) := (blk_cell BK636.out 2).trans rfl; have hfz47_0 := blk_frozen BK636.out 0; have hfz47_1 := blk_frozen BK636.out 1; have hfz47_2 := blk_frozen BK636.out 2) | (go_at_call 38; (with_reducible refine (wageofficeref05_Valid.calls k a0_1 _ _ l0_2 false _ ?side1 ?side2 A10.out).mono ?_); (case side1 => repeat (first | exact (Kd.V_reads' HO0_2.out).2.2 | (with_reducible refine Kd.C_alloc ?_ _) | (with_reducible refine Kd.C_drewN ?_ _) | (with_reducible refine Kd.C_drew ?_))); (case side2 => exact (Kd.V_reads' HO0_2.out).2.1); rintro e w48 ⟨rfl, hb⟩; have n0_ := Aside0.mk (Kd.V_below (by (with_reducible repeat (first | apply Kd.V_alloc | apply Kd.V_drewN | apply Kd.V_drew)); exact HO0_2.out) hb); have n1_ := Aside0.mk (Kd.N_below (by (with_reducible repeat (first | apply Kd.N_alloc | apply Kd.N_drewN | apply Kd.N_drew)); exact HO640.out) hb); have n2_ := Aside0.mk (blk_below (g := gb636) (o := .cells #[.int .i64 a0_0, .int .i64 a0_1, .slice A0_2 l0_2.length c0_2] 44 (0, 0)) (by (with_reducible repeat (first | refine blk_drewN ?_ _ | refine blk_drew ?_ | refine blk_alloc ?_ _)); exact BK636.out) hb); have n3_ := Aside0.mk (below_step (by repeat (first | (with_reducible first | exact HB.out | apply below_alloc | apply pw_below_drewN | apply below_drew1 | refine below_set ?_ GE636.out) | exact HB.out)) hb); clear HO0_2; clear HO640; clear BK636; clear HB; have HO0_2 := n0_; have HO640 := n1_; have BK636 := n2_; have HB := n3_; clear n0_ n1_ n2_ n3_; (try clear hb); (try clear hb2); (try clear hk); (try clear hi)))
        go_meet
        case rel => exact ⟨_, (true), (by first | rfl | (simp; done) | (simp [*]; done)), H', ⟨by first | omega | exact Nat.le_refl _⟩, ⟨by (with_reducible repeat (first | apply Kd.V_alloc | apply Kd.V_drewN | apply Kd.V_drew)); exact Kd.V_mono HO0_2.out (fun _ hk => ⟨hk.1.1, hk.1.2⟩)⟩, ⟨by (with_reducible repeat (first | refine blk_drewN ?_ _ | refine blk_drew ?_ | refine blk_alloc ?_ _)); exact BK636.out⟩, ⟨by repeat (first | (with_reducible first | exact HB.out | apply below_alloc | apply pw_below_drewN | apply below_drew1 | refine below_set ?_ GE636.out) | exact HB.out)⟩⟩
    · replace c9 := Bool.eq_false_iff.mpr c9
      subst c9
      have H1 : (wageofficelaw28_TaxMonotone.j0 k a1 a2 t637 true a0_0 a0_1 l0_2) = some r := by rw [if_neg (show ¬ (false = true) by decide)] at H; exact H
      clear H
      have H := H1
      clear H1
      have H' := Aside0.mk H
      clear H
      have hcz49_0 : w7.cell? ⟨gb636, 0, none⟩ = some (.int .i64 a0_0) := (blk_cell BK636.out 0).trans rfl
      have hcz49_1 : w7.cell? ⟨gb636, 1, none⟩ = some (.int .i64 a0_1) := (blk_cell BK636.out 1).trans rfl
      have hcz49_2 : w7.cell? ⟨gb636, 2, none⟩ = some (.slice A0_2 l0_2.length c0_2) := (blk_cell BK636.out 2).trans rfl
      have hfz49_0 := blk_frozen BK636.out 0
      have hfz49_1 := blk_frozen BK636.out 1
      have hfz49_2 := blk_frozen BK636.out 2
      go_wp2_with (first | ((with_reducible refine gate_dst (N := 14) rfl ?_); refine Kd.N_lit k44 _ 44 ?hg (N' := 14) ?hd (xs := ([(⟨a0_0, (⟨a0_1, l0_2⟩ : S42)⟩ : S44)] : List (S44))) (inner := [.int .i64 a0_0, .int .i64 a0_1, .slice A0_2 l0_2.length c0_2]) (ok := (fun k_ => (P0_2_ k_ ∨ w.heap.size ≤ k_) ∧ k_ ≠ gb636)) (okp := (fun k_ => (P0_2_ k_ ∨ w.heap.size ≤ k_) ∧ k_ ≠ gb636)) ?hr ?hp (fun _ hk => hk) ((show ∀ k_, w7.heap.size ≤ k_ → (fun k_ => (P0_2_ k_ ∨ w.heap.size ≤ k_) ∧ k_ ≠ gb636) k_ from fun k_ hk => ⟨(.inr (Nat.le_trans (below_size (by repeat (first | (with_reducible first | exact HB.out | apply below_alloc | apply pw_below_drewN | apply below_drew1 | refine below_set ?_ GE636.out) | exact HB.out))) hk)), Kd.freshB (g := gb636) (o := .cells #[.int .i64 a0_0, .int .i64 a0_1, .slice A0_2 l0_2.length c0_2] 44 (0, 0)) (by (with_reducible repeat (first | refine blk_drewN ?_ _ | refine blk_drew ?_ | refine blk_alloc ?_ _)); exact BK636.out) k_ hk⟩) _ (Nat.le_refl _)) (Below.refl _ _) (Nat.le_refl _) (by simp) ?_; (case hd => rfl); (case hg => rfl); (case hr => first | (go_simp; done) | (go_simp; rfl)); (case hp => exact (Reps.c3 (show Kd.FK k44 _ _ (⟨a0_0, (⟨a0_1, l0_2⟩ : S42)⟩ : S44) [.int .i64 a0_0, .int .i64 a0_1, .slice A0_2 l0_2.length c0_2] from (k44_mkF _ _ (⟨a0_0, (⟨a0_1, l0_2⟩ : S42)⟩ : S44) (Kd.V_reads' (Kd.V_mono (ok' := (fun k_ => (P0_2_ k_ ∨ w.heap.size ≤ k_) ∧ k_ ≠ gb636)) (HO0_2.out) (fun k_ hk => ⟨hk.1, hk.2⟩))).2.1 (Kd.V_F (Kd.V_mono (ok' := (fun k_ => (P0_2_ k_ ∨ w.heap.size ≤ k_) ∧ k_ ≠ gb636)) (HO0_2.out) (fun k_ hk => ⟨hk.1, hk.2⟩))))) (Reps.none _ _))); intro v639 w50 ho51 hb hg_ hnew_; clear hg_ hnew_; (first | rw [← Ny638.out] at ho51 | (simp only [Int.reduceToNat] at ho51; rw [← Ny638.out] at ho51)); have n0_ := Aside0.mk (Kd.V_elder' (by (with_reducible repeat (first | apply Kd.V_alloc | apply Kd.V_drewN | apply Kd.V_drew)); exact HO0_2.out) (Kd.N_base ho51) hb); have n1_ := Aside0.mk (Kd.N_lower ho51 (below_size (by repeat (first | (with_reducible first | exact HB.out | apply below_alloc | apply pw_below_drewN | apply below_drew1 | refine below_set ?_ GE636.out) | exact HB.out)))); have n2_ := Aside0.mk (blk_below (g := gb636) (o := .cells #[.int .i64 a0_0, .int .i64 a0_1, .slice A0_2 l0_2.length c0_2] 44 (0, 0)) (by (with_reducible repeat (first | refine blk_drewN ?_ _ | refine blk_drew ?_ | refine blk_alloc ?_ _)); exact BK636.out) hb); have n3_ := Aside0.mk (below_step (by repeat (first | (with_reducible first | exact HB.out | apply below_alloc | apply pw_below_drewN | apply below_drew1 | refine below_set ?_ GE636.out) | exact HB.out)) hb); clear HO0_2; clear BK636; clear HB; have HO0_2 := n0_; have HO640 := n1_; have BK636 := n2_; have HB := n3_; clear n0_ n1_ n2_ n3_; clear hb ho51; obtain ⟨Ao52, co52, eo52⟩ := Kd.N_slice HO640.out; subst eo52) | ((with_reducible refine gate_callee (f := 28) rfl ?_); refine goesL_ (some 15) rfl rfl Try.func28 (by kernel_rfl) rfl #[.slice Ao52 y638.length co52] rfl (by (try simp only [List.map_toArray, List.map_cons, List.map_nil]); first | done | rfl | (simp only [List.length_drop, List.length_take]; rfl)) ?_; (with_reducible refine (wageofficelaw28_short.calls k _ _ y638 false _ ?side1 ?side2 A8.out).mono ?_); (case side1 => repeat (first | exact (Kd.N_reads' HO640.out).2.2 | (with_reducible refine Kd.C_alloc ?_ _) | (with_reducible refine Kd.C_drewN ?_ _) | (with_reducible refine Kd.C_drew ?_))); (case side2 => exact (Kd.N_reads' HO640.out).2.1); rintro e w53 ⟨rfl, hb⟩; refine ⟨_, rfl, ?_⟩; have n0_ := Aside0.mk (Kd.V_below (by (with_reducible repeat (first | apply Kd.V_alloc | apply Kd.V_drewN | apply Kd.V_drew)); exact HO0_2.out) hb); have n1_ := Aside0.mk (Kd.N_below (by (with_reducible repeat (first | apply Kd.N_alloc | apply Kd.N_drewN | apply Kd.N_drew)); exact HO640.out) hb); have n2_ := Aside0.mk (blk_below (g := gb636) (o := .cells #[.int .i64 a0_0, .int .i64 a0_1, .slice A0_2 l0_2.length c0_2] 44 (0, 0)) (by (with_reducible repeat (first | refine blk_drewN ?_ _ | refine blk_drew ?_ | refine blk_alloc ?_ _)); exact BK636.out) hb); have n3_ := Aside0.mk (below_step (by repeat (first | (with_reducible first | exact HB.out | apply below_alloc | apply pw_below_drewN | apply below_drew1 | refine below_set ?_ GE636.out) | exact HB.out)) hb); clear HO0_2; clear HO640; clear BK636; clear HB; have HO0_2 := n0_; have HO640 := n1_; have BK636 := n2_; have HB := n3_; clear n0_ n1_ n2_ n3_; (try clear hb); (try clear hb2); (try clear hk); (try clear hi)))
      go_meet
      case rel => exact ⟨_, (true), (by first | rfl | (simp; done) | (simp [*]; done)), H', ⟨by first | omega | exact Nat.le_refl _⟩, ⟨by (with_reducible repeat (first | apply Kd.V_alloc | apply Kd.V_drewN | apply Kd.V_drew)); exact Kd.V_mono HO0_2.out (fun _ hk => ⟨hk.1.1, hk.1.2⟩)⟩, ⟨by (with_reducible repeat (first | refine blk_drewN ?_ _ | refine blk_drew ?_ | refine blk_alloc ?_ _)); exact BK636.out⟩, ⟨by repeat (first | (with_reducible first | exact HB.out | apply below_alloc | apply pw_below_drewN | apply below_drew1 | refine below_set ?_ GE636.out) | exact HB.out)⟩⟩
  case rest =>
    clear HC5
    try clear c1
    try clear c2
    try clear p2
    try clear c3
    try clear c9
    try clear c11
    try clear c12
    try clear c13
    try clear c14
    try clear c14b0
    try clear c27
    try clear c28
    try clear hcz15_0
    try clear hcz15_1
    try clear hcz15_2
    try clear hcz20_0
    try clear hcz20_1
    try clear hcz20_2
    try clear hcz22_0
    try clear hcz22_1
    try clear hcz22_2
    try clear hcz24_0
    try clear hcz24_1
    try clear hcz24_2
    try clear hcz29_0
    try clear hcz29_1
    try clear hcz29_2
    try clear hcz31_0
    try clear hcz31_1
    try clear hcz31_2
    try clear hcz33_0
    try clear hcz33_1
    try clear hcz33_2
    try clear hcz38_0
    try clear hcz38_1
    try clear hcz38_2
    try clear hcz40_0
    try clear hcz40_1
    try clear hcz40_2
    try clear hcz42_0
    try clear hcz42_1
    try clear hcz42_2
    try clear hcz47_0
    try clear hcz47_1
    try clear hcz47_2
    try clear hcz49_0
    try clear hcz49_1
    try clear hcz49_2
    try clear hfz15_0
    try clear hfz15_1
    try clear hfz15_2
    try clear hfz20_0
    try clear hfz20_1
    try clear hfz20_2
    try clear hfz22_0
    try clear hfz22_1
    try clear hfz22_2
    try clear hfz24_0
    try clear hfz24_1
    try clear hfz24_2
    try clear hfz29_0
    try clear hfz29_1
    try clear hfz29_2
    try clear hfz31_0
    try clear hfz31_1
    try clear hfz31_2
    try clear hfz33_0
    try clear hfz33_1
    try clear hfz33_2
    try clear hfz38_0
    try clear hfz38_1
    try clear hfz38_2
    try clear hfz40_0
    try clear hfz40_1
    try clear hfz40_2
    try clear hfz42_0
    try clear hfz42_1
    try clear hfz42_2
    try clear hfz47_0
    try clear hfz47_1
    try clear hfz47_2
    try clear hfz49_0
    try clear hfz49_1
    try clear hfz49_2
    obtain ⟨kq, x37_4, rfl, HA, HJ4, HO_637002, BK636, HB⟩ := hcut
    cases kq with
    | zero => exact absurd HA.out (by simp [wageofficelaw28_TaxMonotone.j0])
    | succ kj4 =>
      have H := HA.out
      clear HA
      simp only [wageofficelaw28_TaxMonotone.j0] at H
      by_cases c54 : x37_4 = true
      · subst c54
        have H1 : (some t637) = some r := by rw [if_pos rfl] at H; exact H
        clear H
        have H := H1
        clear H1
        obtain rfl := Option.some.inj H
        go_wp2
        go_ret
        exact ⟨by first | rfl | (simp [errW_none, errW_some] <;> rfl) | (simp [*, errW_none, errW_some] <;> rfl), by repeat (first | (with_reducible first | exact HB.out | apply below_alloc | apply pw_below_drewN | apply below_drew1 | refine below_set ?_ GE636.out) | exact HB.out)⟩
      · replace c54 := Bool.eq_false_iff.mpr c54
        subst c54
        have H1 : ((tax_Year.f kj4 a0_0 a0_1 l0_2 a1).bind fun bt644 => ((tax_Year.f kj4 a0_0 a0_1 l0_2 a2).bind fun bt646 => (if bt644.2 = 0 then (wageofficelaw28_TaxMonotone.j1 kj4 a1 a2 t637 bt644.1 bt646.1 (bt646.2 != 0) a0_0 a0_1 l0_2) else (wageofficelaw28_TaxMonotone.j1 kj4 a1 a2 t637 bt644.1 bt646.1 true a0_0 a0_1 l0_2)))) = some r := by rw [if_neg (show ¬ (false = true) by decide)] at H; exact H
        clear H
        have H := H1
        clear H1
        replace H := Option.bind_eq_some_iff.mp H
        obtain ⟨⟨t644, t645⟩, A550, H⟩ := H
        replace H : ((tax_Year.f kj4 a0_0 a0_1 l0_2 a2).bind fun bt646 => (if t645 = 0 then (wageofficelaw28_TaxMonotone.j1 kj4 a1 a2 t637 t644 bt646.1 (bt646.2 != 0) a0_0 a0_1 l0_2) else (wageofficelaw28_TaxMonotone.j1 kj4 a1 a2 t637 t644 bt646.1 true a0_0 a0_1 l0_2))) = some r := H
        have A55 := Aside0.mk A550
        clear A550
        replace H := Option.bind_eq_some_iff.mp H
        obtain ⟨⟨t646, t647⟩, A560, H⟩ := H
        replace H : (if t645 = 0 then (wageofficelaw28_TaxMonotone.j1 kj4 a1 a2 t637 t644 t646 (t647 != 0) a0_0 a0_1 l0_2) else (wageofficelaw28_TaxMonotone.j1 kj4 a1 a2 t637 t644 t646 true a0_0 a0_1 l0_2)) = some r := H
        have A56 := Aside0.mk A560
        clear A560
        have HC57 := Aside0.mk H
        clear H
        have hcz58_0 : wc.cell? ⟨gb636, 0, none⟩ = some (.int .i64 a0_0) := (blk_cell BK636.out 0).trans rfl
        have hcz58_1 : wc.cell? ⟨gb636, 1, none⟩ = some (.int .i64 a0_1) := (blk_cell BK636.out 1).trans rfl
        have hcz58_2 : wc.cell? ⟨gb636, 2, none⟩ = some (.slice A0_2 l0_2.length c0_2) := (blk_cell BK636.out 2).trans rfl
        have hfz58_0 := blk_frozen BK636.out 0
        have hfz58_1 := blk_frozen BK636.out 1
        have hfz58_2 := blk_frozen BK636.out 2
        go_upto_region 6 with (first | ((with_reducible refine gate_callee (f := 31) rfl ?_); refine goesL_ (some 42) rfl rfl Try.func31 (by kernel_rfl) rfl #[.agg #[.int .i64 a0_0, .int .i64 a0_1, .slice A0_2 l0_2.length c0_2], .int .i64 a1] rfl (by (try simp only [List.map_toArray, List.map_cons, List.map_nil]); first | done | rfl | (simp only [List.length_drop, List.length_take]; rfl)) ?_; (with_reducible refine (tax_Year.calls kj4 a0_0 a0_1 _ _ l0_2 a1 t644 t645 _ ?side1 ?side2 A55.out).mono ?_); (case side1 => repeat (first | exact (Kd.V_reads' HO_637002.out).2.2 | (with_reducible refine Kd.C_alloc ?_ _) | (with_reducible refine Kd.C_drewN ?_ _) | (with_reducible refine Kd.C_drew ?_))); (case side2 => exact (Kd.V_reads' HO_637002.out).2.1); rintro e w59 ⟨rfl, hb⟩; refine ⟨_, rfl, ?_⟩; have n0_ := Aside0.mk (Kd.V_below (by (with_reducible repeat (first | apply Kd.V_alloc | apply Kd.V_drewN | apply Kd.V_drew)); exact HO_637002.out) hb); have n1_ := Aside0.mk (blk_below (g := gb636) (o := .cells #[.int .i64 a0_0, .int .i64 a0_1, .slice A0_2 l0_2.length c0_2] 44 (0, 0)) (by (with_reducible repeat (first | refine blk_drewN ?_ _ | refine blk_drew ?_ | refine blk_alloc ?_ _)); exact BK636.out) hb); have n2_ := Aside0.mk (below_step (by repeat (first | (with_reducible first | exact HB.out | apply below_alloc | apply pw_below_drewN | apply below_drew1 | refine below_set ?_ GE636.out) | exact HB.out)) hb); clear HO_637002; clear BK636; clear HB; have HO_637002 := n0_; have BK636 := n1_; have HB := n2_; clear n0_ n1_ n2_; (try clear hb); (try clear hb2); (try clear hk); (try clear hi); have hcz60_0 : w59.cell? ⟨gb636, 0, none⟩ = some (.int .i64 a0_0) := (blk_cell BK636.out 0).trans rfl; have hcz60_1 : w59.cell? ⟨gb636, 1, none⟩ = some (.int .i64 a0_1) := (blk_cell BK636.out 1).trans rfl; have hcz60_2 : w59.cell? ⟨gb636, 2, none⟩ = some (.slice A0_2 l0_2.length c0_2) := (blk_cell BK636.out 2).trans rfl; have hfz60_0 := blk_frozen BK636.out 0; have hfz60_1 := blk_frozen BK636.out 1; have hfz60_2 := blk_frozen BK636.out 2) | ((with_reducible refine gate_callee (f := 31) rfl ?_); refine goesL_ (some 48) rfl rfl Try.func31 (by kernel_rfl) rfl #[.agg #[.int .i64 a0_0, .int .i64 a0_1, .slice A0_2 l0_2.length c0_2], .int .i64 a2] rfl (by (try simp only [List.map_toArray, List.map_cons, List.map_nil]); first | done | rfl | (simp only [List.length_drop, List.length_take]; rfl)) ?_; (with_reducible refine (tax_Year.calls kj4 a0_0 a0_1 _ _ l0_2 a2 t646 t647 _ ?side1 ?side2 A56.out).mono ?_); (case side1 => repeat (first | exact (Kd.V_reads' HO_637002.out).2.2 | (with_reducible refine Kd.C_alloc ?_ _) | (with_reducible refine Kd.C_drewN ?_ _) | (with_reducible refine Kd.C_drew ?_))); (case side2 => exact (Kd.V_reads' HO_637002.out).2.1); rintro e w61 ⟨rfl, hb⟩; refine ⟨_, rfl, ?_⟩; have n0_ := Aside0.mk (Kd.V_below (by (with_reducible repeat (first | apply Kd.V_alloc | apply Kd.V_drewN | apply Kd.V_drew)); exact HO_637002.out) hb); have n1_ := Aside0.mk (blk_below (g := gb636) (o := .cells #[.int .i64 a0_0, .int .i64 a0_1, .slice A0_2 l0_2.length c0_2] 44 (0, 0)) (by (with_reducible repeat (first | refine blk_drewN ?_ _ | refine blk_drew ?_ | refine blk_alloc ?_ _)); exact BK636.out) hb); have n2_ := Aside0.mk (below_step (by repeat (first | (with_reducible first | exact HB.out | apply below_alloc | apply pw_below_drewN | apply below_drew1 | refine below_set ?_ GE636.out) | exact HB.out)) hb); clear HO_637002; clear BK636; clear HB; have HO_637002 := n0_; have BK636 := n1_; have HB := n2_; clear n0_ n1_ n2_; (try clear hb); (try clear hb2); (try clear hk); (try clear hi)))
        (try simp only [Act.put, List.setIfInBounds_toArray, List.set_cons_zero, List.set_cons_succ])
        go_cut [56] (fun v56 wc => ∃ (kq : Nat) (x56_56 : Bool), v56 = .bool x56_56 ∧ Aside0 (wageofficelaw28_TaxMonotone.j1 kq a1 a2 t637 t644 t646 x56_56 a0_0 a0_1 l0_2 = some r) ∧ Aside0 (kq ≤ kj4) ∧ Aside0 (Kd.V k75 75 wc w.heap.size (fun k_ => (P0_2_ k_ ∨ w.heap.size ≤ k_) ∧ k_ ≠ gb636) (.slice A0_2 l0_2.length c0_2) l0_2) ∧ Aside0 (wc.heap[gb636]? = some (.cells #[.int .i64 a0_0, .int .i64 a0_1, (.slice A0_2 l0_2.length c0_2)] 44 (0, 0))) ∧ Aside0 (Below w.heap.size w wc))
        case first =>
          have H := HC57.out
          clear HC57
          by_cases c62 : t645 = 0
          · rw [if_pos c62] at H
            have c62b0 : (t645 == 0) = true := beq_iff_eq.mpr c62
            have c62b1 : (t645 != 0) = false := bne_eq_false_iff_eq.mpr c62
            clear c62
            (first | rw [c62b0] | (simp only [i64_w, i32_w]; rw [c62b0]) | skip)
            have H' := Aside0.mk H
            clear H
            go_wp2
            go_meet
            case rel => exact ⟨_, ((t647 != 0)), (by first | rfl | (simp; done) | (simp [*]; done)), H', ⟨by have := HJ4.out; first | omega | exact Nat.le_refl _⟩, ⟨by (with_reducible repeat (first | apply Kd.V_alloc | apply Kd.V_drewN | apply Kd.V_drew)); exact HO_637002.out⟩, ⟨by (with_reducible repeat (first | refine blk_drewN ?_ _ | refine blk_drew ?_ | refine blk_alloc ?_ _)); exact BK636.out⟩, ⟨by repeat (first | (with_reducible first | exact HB.out | apply below_alloc | apply pw_below_drewN | apply below_drew1 | refine below_set ?_ GE636.out) | exact HB.out)⟩⟩
          · rw [if_neg c62] at H
            have c62b0 : (t645 == 0) = false := beq_eq_false_iff_ne.mpr c62
            have c62b1 : (t645 != 0) = true := bne_iff_ne.mpr c62
            (first | rw [c62b0] | (simp only [i64_w, i32_w]; rw [c62b0]) | skip)
            have H' := Aside0.mk H
            clear H
            go_wp2
            go_meet
            case rel => exact ⟨_, (true), (by first | rfl | (simp; done) | (simp [*]; done)), H', ⟨by have := HJ4.out; first | omega | exact Nat.le_refl _⟩, ⟨by (with_reducible repeat (first | apply Kd.V_alloc | apply Kd.V_drewN | apply Kd.V_drew)); exact HO_637002.out⟩, ⟨by (with_reducible repeat (first | refine blk_drewN ?_ _ | refine blk_drew ?_ | refine blk_alloc ?_ _)); exact BK636.out⟩, ⟨by repeat (first | (with_reducible first | exact HB.out | apply below_alloc | apply pw_below_drewN | apply below_drew1 | refine below_set ?_ GE636.out) | exact HB.out)⟩⟩
        case rest =>
          clear HC57
          try clear c1
          try clear c2
          try clear p2
          try clear c3
          try clear c5
          try clear c6
          try clear c9
          try clear c11
          try clear c12
          try clear c13
          try clear c14
          try clear c14b0
          try clear c27
          try clear c28
          try clear c31
          try clear c54
          try clear c62
          try clear c62b0
          try clear c62b1
          try clear hcz15_0
          try clear hcz15_1
          try clear hcz15_2
          try clear hcz20_0
          try clear hcz20_1
          try clear hcz20_2
          try clear hcz22_0
          try clear hcz22_1
          try clear hcz22_2
          try clear hcz24_0
          try clear hcz24_1
          try clear hcz24_2
          try clear hcz29_0
          try clear hcz29_1
          try clear hcz29_2
          try clear hcz31_0
          try clear hcz31_1
          try clear hcz31_2
          try clear hcz33_0
          try clear hcz33_1
          try clear hcz33_2
          try clear hcz38_0
          try clear hcz38_1
          try clear hcz38_2
          try clear hcz40_0
          try clear hcz40_1
          try clear hcz40_2
          try clear hcz42_0
          try clear hcz42_1
          try clear hcz42_2
          try clear hcz47_0
          try clear hcz47_1
          try clear hcz47_2
          try clear hcz49_0
          try clear hcz49_1
          try clear hcz49_2
          try clear hcz58_0
          try clear hcz58_1
          try clear hcz58_2
          try clear hcz60_0
          try clear hcz60_1
          try clear hcz60_2
          try clear hfz15_0
          try clear hfz15_1
          try clear hfz15_2
          try clear hfz20_0
          try clear hfz20_1
          try clear hfz20_2
          try clear hfz22_0
          try clear hfz22_1
          try clear hfz22_2
          try clear hfz24_0
          try clear hfz24_1
          try clear hfz24_2
          try clear hfz29_0
          try clear hfz29_1
          try clear hfz29_2
          try clear hfz31_0
          try clear hfz31_1
          try clear hfz31_2
          try clear hfz33_0
          try clear hfz33_1
          try clear hfz33_2
          try clear hfz38_0
          try clear hfz38_1
          try clear hfz38_2
          try clear hfz40_0
          try clear hfz40_1
          try clear hfz40_2
          try clear hfz42_0
          try clear hfz42_1
          try clear hfz42_2
          try clear hfz47_0
          try clear hfz47_1
          try clear hfz47_2
          try clear hfz49_0
          try clear hfz49_1
          try clear hfz49_2
          try clear hfz58_0
          try clear hfz58_1
          try clear hfz58_2
          try clear hfz60_0
          try clear hfz60_1
          try clear hfz60_2
          try clear p2
          obtain ⟨kq, x56_56, rfl, HA, HJ56, HO_637002, BK636, HB⟩ := hcut
          cases kq with
          | zero => exact absurd HA.out (by simp [wageofficelaw28_TaxMonotone.j1])
          | succ kj56 =>
            have H := HA.out
            clear HA
            simp only [wageofficelaw28_TaxMonotone.j1] at H
            by_cases c63 : x56_56 = true
            · subst c63
              have H1 : (some t637) = some r := by rw [if_pos rfl] at H; exact H
              clear H
              have H := H1
              clear H1
              obtain rfl := Option.some.inj H
              go_wp2
              go_ret
              exact ⟨by first | rfl | (simp [errW_none, errW_some] <;> rfl) | (simp [*, errW_none, errW_some] <;> rfl), by repeat (first | (with_reducible first | exact HB.out | apply below_alloc | apply pw_below_drewN | apply below_drew1 | refine below_set ?_ GE636.out) | exact HB.out)⟩
            · replace c63 := Bool.eq_false_iff.mpr c63
              subst c63
              have H1 : (if t644 > t646 then (some false) else (if t637 = true then ((wageofficelaw28_gentle.f kj56 a0_1 l0_2 false).bind fun t648 => (if t648 = true then (if t644 ≤ a1 then (if t646 ≤ a2 then (some (decide ((wrap64 (a1 - t644)) ≤ (wrap64 (a2 - t646))))) else (some false)) else (some false)) else (some true))) else (some false))) = some r := by rw [if_neg (show ¬ (false = true) by decide)] at H; exact H
              clear H
              have H := H1
              clear H1
              by_cases c64 : t644 > t646
              · rw [if_pos c64] at H
                have c64b0 : decide (t646 < t644) = true := decide_eq_true c64
                clear c64
                obtain rfl := Option.some.inj H
                go_wp2
                go_ret
                exact ⟨by first | rfl | (simp [errW_none, errW_some] <;> rfl) | (simp [*, errW_none, errW_some] <;> rfl), by repeat (first | (with_reducible first | exact HB.out | apply below_alloc | apply pw_below_drewN | apply below_drew1 | refine below_set ?_ GE636.out) | exact HB.out)⟩
              · rw [if_neg c64] at H
                have c64b0 : decide (t646 < t644) = false := decide_eq_false c64
                clear c64
                by_cases c65 : t637 = true
                · subst c65
                  have H1 : ((wageofficelaw28_gentle.f kj56 a0_1 l0_2 false).bind fun t648 => (if t648 = true then (if t644 ≤ a1 then (if t646 ≤ a2 then (some (decide ((wrap64 (a1 - t644)) ≤ (wrap64 (a2 - t646))))) else (some false)) else (some false)) else (some true))) = some r := by rw [if_pos rfl] at H; exact H
                  clear H
                  have H := H1
                  clear H1
                  replace H := Option.bind_eq_some_iff.mp H
                  obtain ⟨t648, A660, H⟩ := H
                  replace H : (if t648 = true then (if t644 ≤ a1 then (if t646 ≤ a2 then (some (decide ((wrap64 (a1 - t644)) ≤ (wrap64 (a2 - t646))))) else (some false)) else (some false)) else (some true)) = some r := H
                  have A66 := Aside0.mk A660
                  clear A660
                  by_cases c67 : t648 = true
                  · subst c67
                    have H1 : (if t644 ≤ a1 then (if t646 ≤ a2 then (some (decide ((wrap64 (a1 - t644)) ≤ (wrap64 (a2 - t646))))) else (some false)) else (some false)) = some r := by rw [if_pos rfl] at H; exact H
                    clear H
                    have H := H1
                    clear H1
                    by_cases c68 : t644 ≤ a1
                    · rw [if_pos c68] at H
                      have c68b0 : decide (t644 ≤ a1) = true := decide_eq_true c68
                      clear c68
                      by_cases c69 : t646 ≤ a2
                      · rw [if_pos c69] at H
                        have c69b0 : decide (t646 ≤ a2) = true := decide_eq_true c69
                        clear c69
                        obtain rfl := Option.some.inj H
                        have hcz70_0 : wc.cell? ⟨gb636, 0, none⟩ = some (.int .i64 a0_0) := (blk_cell BK636.out 0).trans rfl
                        have hcz70_1 : wc.cell? ⟨gb636, 1, none⟩ = some (.int .i64 a0_1) := (blk_cell BK636.out 1).trans rfl
                        have hcz70_2 : wc.cell? ⟨gb636, 2, none⟩ = some (.slice A0_2 l0_2.length c0_2) := (blk_cell BK636.out 2).trans rfl
                        have hfz70_0 := blk_frozen BK636.out 0
                        have hfz70_1 := blk_frozen BK636.out 1
                        have hfz70_2 := blk_frozen BK636.out 2
                        go_wp2_with (first | (go_at_call 39; (with_reducible refine (wageofficelaw28_gentle.calls kj56 a0_1 _ _ l0_2 false true _ ?side1 ?side2 A66.out).mono ?_); (case side1 => repeat (first | exact (Kd.V_reads' HO_637002.out).2.2 | (with_reducible refine Kd.C_alloc ?_ _) | (with_reducible refine Kd.C_drewN ?_ _) | (with_reducible refine Kd.C_drew ?_))); (case side2 => exact (Kd.V_reads' HO_637002.out).2.1); rintro e w71 ⟨rfl, hb⟩; have n0_ := Aside0.mk (Kd.V_below (by (with_reducible repeat (first | apply Kd.V_alloc | apply Kd.V_drewN | apply Kd.V_drew)); exact HO_637002.out) hb); have n1_ := Aside0.mk (blk_below (g := gb636) (o := .cells #[.int .i64 a0_0, .int .i64 a0_1, .slice A0_2 l0_2.length c0_2] 44 (0, 0)) (by (with_reducible repeat (first | refine blk_drewN ?_ _ | refine blk_drew ?_ | refine blk_alloc ?_ _)); exact BK636.out) hb); have n2_ := Aside0.mk (below_step (by repeat (first | (with_reducible first | exact HB.out | apply below_alloc | apply pw_below_drewN | apply below_drew1 | refine below_set ?_ GE636.out) | exact HB.out)) hb); clear HO_637002; clear BK636; clear HB; have HO_637002 := n0_; have BK636 := n1_; have HB := n2_; clear n0_ n1_ n2_; (try clear hb); (try clear hb2); (try clear hk); (try clear hi)))
                        go_ret
                        exact ⟨by first | rfl | (simp [errW_none, errW_some] <;> rfl) | (simp [*, errW_none, errW_some] <;> rfl), by repeat (first | (with_reducible first | exact HB.out | apply below_alloc | apply pw_below_drewN | apply below_drew1 | refine below_set ?_ GE636.out) | exact HB.out)⟩
                      · rw [if_neg c69] at H
                        have c69b0 : decide (t646 ≤ a2) = false := decide_eq_false c69
                        clear c69
                        obtain rfl := Option.some.inj H
                        have hcz72_0 : wc.cell? ⟨gb636, 0, none⟩ = some (.int .i64 a0_0) := (blk_cell BK636.out 0).trans rfl
                        have hcz72_1 : wc.cell? ⟨gb636, 1, none⟩ = some (.int .i64 a0_1) := (blk_cell BK636.out 1).trans rfl
                        have hcz72_2 : wc.cell? ⟨gb636, 2, none⟩ = some (.slice A0_2 l0_2.length c0_2) := (blk_cell BK636.out 2).trans rfl
                        have hfz72_0 := blk_frozen BK636.out 0
                        have hfz72_1 := blk_frozen BK636.out 1
                        have hfz72_2 := blk_frozen BK636.out 2
                        go_wp2_with (first | (go_at_call 39; (with_reducible refine (wageofficelaw28_gentle.calls kj56 a0_1 _ _ l0_2 false true _ ?side1 ?side2 A66.out).mono ?_); (case side1 => repeat (first | exact (Kd.V_reads' HO_637002.out).2.2 | (with_reducible refine Kd.C_alloc ?_ _) | (with_reducible refine Kd.C_drewN ?_ _) | (with_reducible refine Kd.C_drew ?_))); (case side2 => exact (Kd.V_reads' HO_637002.out).2.1); rintro e w73 ⟨rfl, hb⟩; have n0_ := Aside0.mk (Kd.V_below (by (with_reducible repeat (first | apply Kd.V_alloc | apply Kd.V_drewN | apply Kd.V_drew)); exact HO_637002.out) hb); have n1_ := Aside0.mk (blk_below (g := gb636) (o := .cells #[.int .i64 a0_0, .int .i64 a0_1, .slice A0_2 l0_2.length c0_2] 44 (0, 0)) (by (with_reducible repeat (first | refine blk_drewN ?_ _ | refine blk_drew ?_ | refine blk_alloc ?_ _)); exact BK636.out) hb); have n2_ := Aside0.mk (below_step (by repeat (first | (with_reducible first | exact HB.out | apply below_alloc | apply pw_below_drewN | apply below_drew1 | refine below_set ?_ GE636.out) | exact HB.out)) hb); clear HO_637002; clear BK636; clear HB; have HO_637002 := n0_; have BK636 := n1_; have HB := n2_; clear n0_ n1_ n2_; (try clear hb); (try clear hb2); (try clear hk); (try clear hi)))
                        go_ret
                        exact ⟨by first | rfl | (simp [errW_none, errW_some] <;> rfl) | (simp [*, errW_none, errW_some] <;> rfl), by repeat (first | (with_reducible first | exact HB.out | apply below_alloc | apply pw_below_drewN | apply below_drew1 | refine below_set ?_ GE636.out) | exact HB.out)⟩
                    · rw [if_neg c68] at H
                      have c68b0 : decide (t644 ≤ a1) = false := decide_eq_false c68
                      clear c68
                      obtain rfl := Option.some.inj H
                      have hcz74_0 : wc.cell? ⟨gb636, 0, none⟩ = some (.int .i64 a0_0) := (blk_cell BK636.out 0).trans rfl
                      have hcz74_1 : wc.cell? ⟨gb636, 1, none⟩ = some (.int .i64 a0_1) := (blk_cell BK636.out 1).trans rfl
                      have hcz74_2 : wc.cell? ⟨gb636, 2, none⟩ = some (.slice A0_2 l0_2.length c0_2) := (blk_cell BK636.out 2).trans rfl
                      have hfz74_0 := blk_frozen BK636.out 0
                      have hfz74_1 := blk_frozen BK636.out 1
                      have hfz74_2 := blk_frozen BK636.out 2
                      go_wp2_with (first | (go_at_call 39; (with_reducible refine (wageofficelaw28_gentle.calls kj56 a0_1 _ _ l0_2 false true _ ?side1 ?side2 A66.out).mono ?_); (case side1 => repeat (first | exact (Kd.V_reads' HO_637002.out).2.2 | (with_reducible refine Kd.C_alloc ?_ _) | (with_reducible refine Kd.C_drewN ?_ _) | (with_reducible refine Kd.C_drew ?_))); (case side2 => exact (Kd.V_reads' HO_637002.out).2.1); rintro e w75 ⟨rfl, hb⟩; have n0_ := Aside0.mk (Kd.V_below (by (with_reducible repeat (first | apply Kd.V_alloc | apply Kd.V_drewN | apply Kd.V_drew)); exact HO_637002.out) hb); have n1_ := Aside0.mk (blk_below (g := gb636) (o := .cells #[.int .i64 a0_0, .int .i64 a0_1, .slice A0_2 l0_2.length c0_2] 44 (0, 0)) (by (with_reducible repeat (first | refine blk_drewN ?_ _ | refine blk_drew ?_ | refine blk_alloc ?_ _)); exact BK636.out) hb); have n2_ := Aside0.mk (below_step (by repeat (first | (with_reducible first | exact HB.out | apply below_alloc | apply pw_below_drewN | apply below_drew1 | refine below_set ?_ GE636.out) | exact HB.out)) hb); clear HO_637002; clear BK636; clear HB; have HO_637002 := n0_; have BK636 := n1_; have HB := n2_; clear n0_ n1_ n2_; (try clear hb); (try clear hb2); (try clear hk); (try clear hi)))
                      go_ret
                      exact ⟨by first | rfl | (simp [errW_none, errW_some] <;> rfl) | (simp [*, errW_none, errW_some] <;> rfl), by repeat (first | (with_reducible first | exact HB.out | apply below_alloc | apply pw_below_drewN | apply below_drew1 | refine below_set ?_ GE636.out) | exact HB.out)⟩
                  · replace c67 := Bool.eq_false_iff.mpr c67
                    subst c67
                    have H1 : (some true) = some r := by rw [if_neg (show ¬ (false = true) by decide)] at H; exact H
                    clear H
                    have H := H1
                    clear H1
                    obtain rfl := Option.some.inj H
                    have hcz76_0 : wc.cell? ⟨gb636, 0, none⟩ = some (.int .i64 a0_0) := (blk_cell BK636.out 0).trans rfl
                    have hcz76_1 : wc.cell? ⟨gb636, 1, none⟩ = some (.int .i64 a0_1) := (blk_cell BK636.out 1).trans rfl
                    have hcz76_2 : wc.cell? ⟨gb636, 2, none⟩ = some (.slice A0_2 l0_2.length c0_2) := (blk_cell BK636.out 2).trans rfl
                    have hfz76_0 := blk_frozen BK636.out 0
                    have hfz76_1 := blk_frozen BK636.out 1
                    have hfz76_2 := blk_frozen BK636.out 2
                    go_wp2_with (first | (go_at_call 39; (with_reducible refine (wageofficelaw28_gentle.calls kj56 a0_1 _ _ l0_2 false false _ ?side1 ?side2 A66.out).mono ?_); (case side1 => repeat (first | exact (Kd.V_reads' HO_637002.out).2.2 | (with_reducible refine Kd.C_alloc ?_ _) | (with_reducible refine Kd.C_drewN ?_ _) | (with_reducible refine Kd.C_drew ?_))); (case side2 => exact (Kd.V_reads' HO_637002.out).2.1); rintro e w77 ⟨rfl, hb⟩; have n0_ := Aside0.mk (Kd.V_below (by (with_reducible repeat (first | apply Kd.V_alloc | apply Kd.V_drewN | apply Kd.V_drew)); exact HO_637002.out) hb); have n1_ := Aside0.mk (blk_below (g := gb636) (o := .cells #[.int .i64 a0_0, .int .i64 a0_1, .slice A0_2 l0_2.length c0_2] 44 (0, 0)) (by (with_reducible repeat (first | refine blk_drewN ?_ _ | refine blk_drew ?_ | refine blk_alloc ?_ _)); exact BK636.out) hb); have n2_ := Aside0.mk (below_step (by repeat (first | (with_reducible first | exact HB.out | apply below_alloc | apply pw_below_drewN | apply below_drew1 | refine below_set ?_ GE636.out) | exact HB.out)) hb); clear HO_637002; clear BK636; clear HB; have HO_637002 := n0_; have BK636 := n1_; have HB := n2_; clear n0_ n1_ n2_; (try clear hb); (try clear hb2); (try clear hk); (try clear hi)))
                    go_ret
                    exact ⟨by first | rfl | (simp [errW_none, errW_some] <;> rfl) | (simp [*, errW_none, errW_some] <;> rfl), by repeat (first | (with_reducible first | exact HB.out | apply below_alloc | apply pw_below_drewN | apply below_drew1 | refine below_set ?_ GE636.out) | exact HB.out)⟩
                · replace c65 := Bool.eq_false_iff.mpr c65
                  subst c65
                  have H1 : (some false) = some r := by rw [if_neg (show ¬ (false = true) by decide)] at H; exact H
                  clear H
                  have H := H1
                  clear H1
                  obtain rfl := Option.some.inj H
                  go_wp2
                  go_ret
                  exact ⟨by first | rfl | (simp [errW_none, errW_some] <;> rfl) | (simp [*, errW_none, errW_some] <;> rfl), by repeat (first | (with_reducible first | exact HB.out | apply below_alloc | apply pw_below_drewN | apply below_drew1 | refine below_set ?_ GE636.out) | exact HB.out)⟩

end Go.Proofs.Ytnadfkhllfgoiaa.My
