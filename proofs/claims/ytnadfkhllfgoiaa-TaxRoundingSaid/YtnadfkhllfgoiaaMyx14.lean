-- Written by a program of this session (wip/myprint.py), which drives the kit's print over hand-written fragments. Not trusted: Lean checks it.
import Derived.Test.YtnadfkhllfgoiaaMyx0
import Derived.Test.YtnadfkhllfgoiaaMyx27
import Derived.Test.YtnadfkhllfgoiaaMyx28
import Derived.Test.YtnadfkhllfgoiaaMyx31
import Derived.Test.YtnadfkhllfgoiaaMyx41
namespace Go.Proofs.Ytnadfkhllfgoiaa.My
open Go.Proofs.Ytnadfkhllfgoiaa.Aid Go.Proofs.Ytnadfkhllfgoiaa.KdX
open Go.RowKit Go.Proofs.YtnadfkhllfgoiaaW.PrintWords Go.Proofs.YtnadfkhllfgoiaaW.PrintLast Go.Proofs.YtnadfkhllfgoiaaW.PrintMore
attribute [local go_sem] max2_int min2_int max_two min_two max_three min_three max_four min_four   -- for this text's walks alone
set_option linter.unusedVariables false
set_option linter.unusedSimpArgs false

/-! ### wageofficelaw28_TaxRounding: function 14 -/
def wageofficelaw28_TaxRounding.j0 : Nat → Int → Bool → Bool → Int → Int → List (S75) → Option (Bool)
  | 0, _, _, _, _, _, _ => none
  | k + 1, x1, x5, x19, x685000, x685001, x685002 => if x19 = true then (some x5) else ((tax_Year.f k x685000 x685001 x685002 x1).bind fun bt690 => ((wageofficeref05_Eval.f k x685001 x685002 x1).bind fun bt692 => (if bt690.2 = 3 then (if x5 = true then (some (bt692.2.2 == 0)) else (some false)) else (if x5 = true then (if bt690.2 = bt692.2.2 then (if bt690.2 = 0 then (if (wrap64 (bt690.1 * bt692.2.1)) ≤ bt692.1 then (some (decide (bt692.1 < (wrap64 ((wrap64 (bt690.1 + 1)) * bt692.2.1))))) else (some false)) else (some true)) else (some false)) else (some false)))))
def wageofficelaw28_TaxRounding.f (k : Nat) (a0_0 : Int) (a0_1 : Int) (l0_2 : List (S75)) (a1 : Int) : Option (Bool) := (wageofficelaw28_head.f).bind fun t685 => ((wageofficelaw28_short.f k (([(⟨a0_0, (⟨a0_1, l0_2⟩ : S42)⟩ : S44)] : List (S44)))).bind fun t689 => (if t689 = true then (wageofficelaw28_TaxRounding.j0 k a1 t685 (decide (a1 < 0)) a0_0 a0_1 l0_2) else (wageofficelaw28_TaxRounding.j0 k a1 t685 true a0_0 a0_1 l0_2)))
theorem wageofficelaw28_TaxRounding.mono_l : ∀ k, (∀ y0 y1 y2 y3 y4 y5, LeO (wageofficelaw28_TaxRounding.j0 k y0 y1 y2 y3 y4 y5) (wageofficelaw28_TaxRounding.j0 (k + 1) y0 y1 y2 y3 y4 y5))
  | 0 => fun _ _ _ _ _ _ r h => by simp [wageofficelaw28_TaxRounding.j0] at h
  | k + 1 => by
    have ih0 := wageofficelaw28_TaxRounding.mono_l k
    · intro y0 y1 y2 y3 y4 y5
      unfold wageofficelaw28_TaxRounding.j0
      repeat' first
      | (with_reducible exact ih0 _ _ _ _ _ _)
      | (with_reducible exact tax_Year.mono _ _ _ _ _)
      | (with_reducible exact wageofficelaw28_short.mono _ _)
      | (with_reducible exact wageofficeref05_Eval.mono _ _ _ _)
      | (with_reducible exact LeO.refl _)
      | (with_reducible exact LeO.none _)
      | (with_reducible refine LeO.ite ?_ ?_)
      | (with_reducible refine LeO.bind ?_ (fun _ => ?_))
      | exact ih0 _ _ _ _ _ _
      | exact tax_Year.mono _ _ _ _ _
      | exact wageofficelaw28_short.mono _ _
      | exact wageofficeref05_Eval.mono _ _ _ _
      | exact LeO.none _
      | refine LeO.ite ?_ ?_
      | refine LeO.bind ?_ (fun _ => ?_)
theorem wageofficelaw28_TaxRounding.mono : ∀ a0 a1 a2 a3 k, LeO (wageofficelaw28_TaxRounding.f k a0 a1 a2 a3) (wageofficelaw28_TaxRounding.f (k + 1) a0 a1 a2 a3) := by
  intro a0 a1 a2 a3 k
  have ih0 := wageofficelaw28_TaxRounding.mono_l k
  unfold wageofficelaw28_TaxRounding.f
  repeat' first
      | (with_reducible exact ih0 _ _ _ _ _ _)
      | (with_reducible exact tax_Year.mono _ _ _ _ _)
      | (with_reducible exact wageofficelaw28_short.mono _ _)
      | (with_reducible exact wageofficeref05_Eval.mono _ _ _ _)
      | (with_reducible exact LeO.refl _)
      | (with_reducible exact LeO.none _)
      | (with_reducible refine LeO.ite ?_ ?_)
      | (with_reducible refine LeO.bind ?_ (fun _ => ?_))
      | exact ih0 _ _ _ _ _ _
      | exact tax_Year.mono _ _ _ _ _
      | exact wageofficelaw28_short.mono _ _
      | exact wageofficeref05_Eval.mono _ _ _ _
      | exact LeO.none _
      | refine LeO.ite ?_ ?_
      | refine LeO.bind ?_ (fun _ => ?_)
set_option maxHeartbeats 8000000 in
set_option maxRecDepth 100000 in
theorem wageofficelaw28_TaxRounding.calls (k : Nat) (a0_0 : Int) (a0_1 : Int) (P0_2_ : Nat → Prop) (A0_2 : Option Addr) (c0_2 : Nat) (l0_2 : List (S75)) (a1 : Int) (r : Bool) (w : World) (hs0_2 : Kd.V k75 75 w w.heap.size (fun k_ => P0_2_ k_) (.slice A0_2 l0_2.length c0_2) l0_2) (h : wageofficelaw28_TaxRounding.f k a0_0 a0_1 l0_2 a1 = some r) :
    Calls Try.prog 14 #[.agg #[.int .i64 a0_0, .int .i64 a0_1, .slice A0_2 l0_2.length c0_2], .int .i64 a1] w fun e w' => e = .returned (.bool r) ∧ Below w.heap.size w w' := by
  have hu44 := Try.underlying44
  have hu42 := Try.underlying42
  have HO0_2 := Aside0.mk (show Kd.V k75 75 w w.heap.size (fun k_ => (P0_2_ k_ ∨ w.heap.size ≤ k_)) (.slice A0_2 l0_2.length c0_2) l0_2 from Kd.V_mono hs0_2 (fun k_ hk => .inl hk))
  have HB := Aside0.mk (Below.refl w.heap.size w)
  have H : ((wageofficelaw28_head.f).bind fun t685 => ((wageofficelaw28_short.f k (([(⟨a0_0, (⟨a0_1, l0_2⟩ : S42)⟩ : S44)] : List (S44)))).bind fun t689 => (if t689 = true then (wageofficelaw28_TaxRounding.j0 k a1 t685 (decide (a1 < 0)) a0_0 a0_1 l0_2) else (wageofficelaw28_TaxRounding.j0 k a1 t685 true a0_0 a0_1 l0_2)))) = some r := h
  clear h
  replace H := Option.bind_eq_some_iff.mp H
  obtain ⟨t685, A30, H⟩ := H
  replace H : ((wageofficelaw28_short.f k (([(⟨a0_0, (⟨a0_1, l0_2⟩ : S42)⟩ : S44)] : List (S44)))).bind fun t689 => (if t689 = true then (wageofficelaw28_TaxRounding.j0 k a1 t685 (decide (a1 < 0)) a0_0 a0_1 l0_2) else (wageofficelaw28_TaxRounding.j0 k a1 t685 true a0_0 a0_1 l0_2))) = some r := H
  have A3 := Aside0.mk A30
  clear A30
  have HC4 := Aside0.mk H
  clear H
  go_enter Try.func14, Try.ntmps14
  go_upto_region 2 with (first | ((with_reducible refine gate_dst (N := 2) rfl ?_); refine box_event ?hg (N := 2) ?hd (cs := #[.int .i64 a0_0, .int .i64 a0_1, .slice A0_2 l0_2.length c0_2]) (t := 44) ?hr ?_; (case hd => rfl); (case hg => rfl); (case hr => first | (go_simp; done) | (go_simp; rfl)); intro gb684 hg w5 hbox hb; have n0_ := Aside0.mk (Kd.V_below (Kd.V_elderB (by (with_reducible repeat (first | apply Kd.V_alloc | apply Kd.V_drewN | apply Kd.V_drew)); exact HO0_2.out) gb684 (Nat.le_of_eq hg.symm)) hb); have n1_ := Aside0.mk (below_step (by repeat (first | (with_reducible first | exact HB.out | apply below_alloc | apply pw_below_drewN | apply below_drew1) | exact HB.out)) hb); have n2_ := Aside0.mk (hbox); have n3_ := Aside0.mk ((by rw [hg]; exact (below_size (by repeat (first | (with_reducible first | exact HB.out | apply below_alloc | apply pw_below_drewN | apply below_drew1) | exact HB.out))) : w.heap.size ≤ gb684)); have n4_ := Aside0.mk ((by rw [hg]; exact (below_size (by repeat (first | (with_reducible first | exact HB.out | apply below_alloc | apply pw_below_drewN | apply below_drew1) | exact HB.out))) : w.heap.size ≤ gb684)); clear HO0_2; clear HB; have HO0_2 := n0_; have HB := n1_; have BK684 := n2_; have GW684 := n3_; have GE684 := n4_; clear n0_ n1_ n2_ n3_ n4_; clear hb hbox hg) | ((with_reducible refine gate_callee (f := 27) rfl ?_); refine goesL_ (some 11) rfl rfl Try.func27 (by kernel_rfl) rfl #[] rfl (by (try simp only [List.map_toArray, List.map_cons, List.map_nil]); first | done | rfl | (simp only [List.length_drop, List.length_take]; rfl)) ?_; (with_reducible refine (wageofficelaw28_head.calls  t685 _ A3.out).mono ?_); rintro e w6 ⟨rfl, hb⟩; refine ⟨_, rfl, ?_⟩; have n0_ := Aside0.mk (Kd.V_below (by (with_reducible repeat (first | apply Kd.V_alloc | apply Kd.V_drewN | apply Kd.V_drew)); exact HO0_2.out) hb); have n1_ := Aside0.mk (blk_below (g := gb684) (o := .cells #[.int .i64 a0_0, .int .i64 a0_1, .slice A0_2 l0_2.length c0_2] 44 (0, 0)) (by (with_reducible repeat (first | refine blk_drewN ?_ _ | refine blk_drew ?_ | refine blk_alloc ?_ _)); exact BK684.out) hb); have n2_ := Aside0.mk (below_step (by repeat (first | (with_reducible first | exact HB.out | apply below_alloc | apply pw_below_drewN | apply below_drew1 | refine below_set ?_ GE684.out) | exact HB.out)) hb); clear HO0_2; clear BK684; clear HB; have HO0_2 := n0_; have BK684 := n1_; have HB := n2_; clear n0_ n1_ n2_; (try clear hb); (try clear hb2); (try clear hk); (try clear hi)))
  (try simp only [Act.put, List.setIfInBounds_toArray, List.set_cons_zero, List.set_cons_succ])
  go_cut [19] (fun v19 wc => ∃ (kq : Nat) (x19_3 : Bool), v19 = .bool x19_3 ∧ Aside0 (wageofficelaw28_TaxRounding.j0 kq a1 t685 x19_3 a0_0 a0_1 l0_2 = some r) ∧ Aside0 (kq ≤ k) ∧ Aside0 (Kd.V k75 75 wc w.heap.size (fun k_ => (P0_2_ k_ ∨ w.heap.size ≤ k_) ∧ k_ ≠ gb684) (.slice A0_2 l0_2.length c0_2) l0_2) ∧ Aside0 (wc.heap[gb684]? = some (.cells #[.int .i64 a0_0, .int .i64 a0_1, (.slice A0_2 l0_2.length c0_2)] 44 (0, 0))) ∧ Aside0 (Below w.heap.size w wc))
  case first =>
    have H := HC4.out
    clear HC4
    obtain ⟨y686, hy686⟩ : ∃ y_ : List (S44), y_ = (([(⟨a0_0, (⟨a0_1, l0_2⟩ : S42)⟩ : S44)] : List (S44))) := ⟨_, rfl⟩
    replace H : ((wageofficelaw28_short.f k y686).bind fun t689 => (if t689 = true then (wageofficelaw28_TaxRounding.j0 k a1 t685 (decide (a1 < 0)) a0_0 a0_1 l0_2) else (wageofficelaw28_TaxRounding.j0 k a1 t685 true a0_0 a0_1 l0_2))) = some r := by first | (rw [hy686]; with_reducible exact H) | (have H2_ := (Option.bind_some _ _).symm.trans H; rw [hy686]; with_reducible exact H2_) | (have H2_ := (Option.bind_some _ _).symm.trans H; with_reducible exact H2_) | with_reducible exact H | (rw [hy686]; exact H) | exact H
    have Ny686 := Aside0.mk hy686
    clear hy686
    replace H := Option.bind_eq_some_iff.mp H
    obtain ⟨t689, A70, H⟩ := H
    replace H : (if t689 = true then (wageofficelaw28_TaxRounding.j0 k a1 t685 (decide (a1 < 0)) a0_0 a0_1 l0_2) else (wageofficelaw28_TaxRounding.j0 k a1 t685 true a0_0 a0_1 l0_2)) = some r := H
    have A7 := Aside0.mk A70
    clear A70
    by_cases c8 : t689 = true
    · subst c8
      have H1 : (wageofficelaw28_TaxRounding.j0 k a1 t685 (decide (a1 < 0)) a0_0 a0_1 l0_2) = some r := by rw [if_pos rfl] at H; exact H
      clear H
      have H := H1
      clear H1
      have H' := Aside0.mk H
      clear H
      have hcz9_0 : w6.cell? ⟨gb684, 0, none⟩ = some (.int .i64 a0_0) := (blk_cell BK684.out 0).trans rfl
      have hcz9_1 : w6.cell? ⟨gb684, 1, none⟩ = some (.int .i64 a0_1) := (blk_cell BK684.out 1).trans rfl
      have hcz9_2 : w6.cell? ⟨gb684, 2, none⟩ = some (.slice A0_2 l0_2.length c0_2) := (blk_cell BK684.out 2).trans rfl
      have hfz9_0 := blk_frozen BK684.out 0
      have hfz9_1 := blk_frozen BK684.out 1
      have hfz9_2 := blk_frozen BK684.out 2
      go_wp2_with (first | ((with_reducible refine gate_dst (N := 13) rfl ?_); refine Kd.N_lit k44 _ 44 ?hg (N' := 13) ?hd (xs := ([(⟨a0_0, (⟨a0_1, l0_2⟩ : S42)⟩ : S44)] : List (S44))) (inner := [.int .i64 a0_0, .int .i64 a0_1, .slice A0_2 l0_2.length c0_2]) (ok := (fun k_ => (P0_2_ k_ ∨ w.heap.size ≤ k_) ∧ k_ ≠ gb684)) (okp := (fun k_ => (P0_2_ k_ ∨ w.heap.size ≤ k_) ∧ k_ ≠ gb684)) ?hr ?hp (fun _ hk => hk) ((show ∀ k_, w6.heap.size ≤ k_ → (fun k_ => (P0_2_ k_ ∨ w.heap.size ≤ k_) ∧ k_ ≠ gb684) k_ from fun k_ hk => ⟨(.inr (Nat.le_trans (below_size (by repeat (first | (with_reducible first | exact HB.out | apply below_alloc | apply pw_below_drewN | apply below_drew1 | refine below_set ?_ GE684.out) | exact HB.out))) hk)), Kd.freshB (g := gb684) (o := .cells #[.int .i64 a0_0, .int .i64 a0_1, .slice A0_2 l0_2.length c0_2] 44 (0, 0)) (by (with_reducible repeat (first | refine blk_drewN ?_ _ | refine blk_drew ?_ | refine blk_alloc ?_ _)); exact BK684.out) k_ hk⟩) _ (Nat.le_refl _)) (Below.refl _ _) (Nat.le_refl _) (by simp) ?_; (case hd => rfl); (case hg => rfl); (case hr => first | (go_simp; done) | (go_simp; rfl)); (case hp => exact (Reps.c3 (show Kd.FK k44 _ _ (⟨a0_0, (⟨a0_1, l0_2⟩ : S42)⟩ : S44) [.int .i64 a0_0, .int .i64 a0_1, .slice A0_2 l0_2.length c0_2] from (k44_mkF _ _ (⟨a0_0, (⟨a0_1, l0_2⟩ : S42)⟩ : S44) (Kd.V_reads' (Kd.V_mono (ok' := (fun k_ => (P0_2_ k_ ∨ w.heap.size ≤ k_) ∧ k_ ≠ gb684)) (HO0_2.out) (fun k_ hk => ⟨hk.1, hk.2⟩))).2.1 (Kd.V_F (Kd.V_mono (ok' := (fun k_ => (P0_2_ k_ ∨ w.heap.size ≤ k_) ∧ k_ ≠ gb684)) (HO0_2.out) (fun k_ hk => ⟨hk.1, hk.2⟩))))) (Reps.none _ _))); intro v687 w10 ho11 hb hg_ hnew_; clear hg_ hnew_; (first | rw [← Ny686.out] at ho11 | (simp only [Int.reduceToNat] at ho11; rw [← Ny686.out] at ho11)); have n0_ := Aside0.mk (Kd.V_elder' (by (with_reducible repeat (first | apply Kd.V_alloc | apply Kd.V_drewN | apply Kd.V_drew)); exact HO0_2.out) (Kd.N_base ho11) hb); have n1_ := Aside0.mk (Kd.N_lower ho11 (below_size (by repeat (first | (with_reducible first | exact HB.out | apply below_alloc | apply pw_below_drewN | apply below_drew1 | refine below_set ?_ GE684.out) | exact HB.out)))); have n2_ := Aside0.mk (blk_below (g := gb684) (o := .cells #[.int .i64 a0_0, .int .i64 a0_1, .slice A0_2 l0_2.length c0_2] 44 (0, 0)) (by (with_reducible repeat (first | refine blk_drewN ?_ _ | refine blk_drew ?_ | refine blk_alloc ?_ _)); exact BK684.out) hb); have n3_ := Aside0.mk (below_step (by repeat (first | (with_reducible first | exact HB.out | apply below_alloc | apply pw_below_drewN | apply below_drew1 | refine below_set ?_ GE684.out) | exact HB.out)) hb); clear HO0_2; clear BK684; clear HB; have HO0_2 := n0_; have HO688 := n1_; have BK684 := n2_; have HB := n3_; clear n0_ n1_ n2_ n3_; clear hb ho11; obtain ⟨Ao12, co12, eo12⟩ := Kd.N_slice HO688.out; subst eo12) | ((with_reducible refine gate_callee (f := 28) rfl ?_); refine goesL_ (some 14) rfl rfl Try.func28 (by kernel_rfl) rfl #[.slice Ao12 y686.length co12] rfl (by (try simp only [List.map_toArray, List.map_cons, List.map_nil]); first | done | rfl | (simp only [List.length_drop, List.length_take]; rfl)) ?_; (with_reducible refine (wageofficelaw28_short.calls k _ _ y686 true _ ?side1 ?side2 A7.out).mono ?_); (case side1 => repeat (first | exact (Kd.N_reads' HO688.out).2.2 | (with_reducible refine Kd.C_alloc ?_ _) | (with_reducible refine Kd.C_drewN ?_ _) | (with_reducible refine Kd.C_drew ?_))); (case side2 => exact (Kd.N_reads' HO688.out).2.1); rintro e w13 ⟨rfl, hb⟩; refine ⟨_, rfl, ?_⟩; have n0_ := Aside0.mk (Kd.V_below (by (with_reducible repeat (first | apply Kd.V_alloc | apply Kd.V_drewN | apply Kd.V_drew)); exact HO0_2.out) hb); have n1_ := Aside0.mk (Kd.N_below (by (with_reducible repeat (first | apply Kd.N_alloc | apply Kd.N_drewN | apply Kd.N_drew)); exact HO688.out) hb); have n2_ := Aside0.mk (blk_below (g := gb684) (o := .cells #[.int .i64 a0_0, .int .i64 a0_1, .slice A0_2 l0_2.length c0_2] 44 (0, 0)) (by (with_reducible repeat (first | refine blk_drewN ?_ _ | refine blk_drew ?_ | refine blk_alloc ?_ _)); exact BK684.out) hb); have n3_ := Aside0.mk (below_step (by repeat (first | (with_reducible first | exact HB.out | apply below_alloc | apply pw_below_drewN | apply below_drew1 | refine below_set ?_ GE684.out) | exact HB.out)) hb); clear HO0_2; clear HO688; clear BK684; clear HB; have HO0_2 := n0_; have HO688 := n1_; have BK684 := n2_; have HB := n3_; clear n0_ n1_ n2_ n3_; (try clear hb); (try clear hb2); (try clear hk); (try clear hi)))
      go_meet
      case rel => exact ⟨_, (decide (a1 < 0)), (by first | rfl | (simp; done) | (simp [*]; done)), H', ⟨by first | omega | exact Nat.le_refl _⟩, ⟨by (with_reducible repeat (first | apply Kd.V_alloc | apply Kd.V_drewN | apply Kd.V_drew)); exact Kd.V_mono HO0_2.out (fun _ hk => ⟨hk.1.1, hk.1.2⟩)⟩, ⟨by (with_reducible repeat (first | refine blk_drewN ?_ _ | refine blk_drew ?_ | refine blk_alloc ?_ _)); exact BK684.out⟩, ⟨by repeat (first | (with_reducible first | exact HB.out | apply below_alloc | apply pw_below_drewN | apply below_drew1 | refine below_set ?_ GE684.out) | exact HB.out)⟩⟩
    · replace c8 := Bool.eq_false_iff.mpr c8
      subst c8
      have H1 : (wageofficelaw28_TaxRounding.j0 k a1 t685 true a0_0 a0_1 l0_2) = some r := by rw [if_neg (show ¬ (false = true) by decide)] at H; exact H
      clear H
      have H := H1
      clear H1
      have H' := Aside0.mk H
      clear H
      have hcz14_0 : w6.cell? ⟨gb684, 0, none⟩ = some (.int .i64 a0_0) := (blk_cell BK684.out 0).trans rfl
      have hcz14_1 : w6.cell? ⟨gb684, 1, none⟩ = some (.int .i64 a0_1) := (blk_cell BK684.out 1).trans rfl
      have hcz14_2 : w6.cell? ⟨gb684, 2, none⟩ = some (.slice A0_2 l0_2.length c0_2) := (blk_cell BK684.out 2).trans rfl
      have hfz14_0 := blk_frozen BK684.out 0
      have hfz14_1 := blk_frozen BK684.out 1
      have hfz14_2 := blk_frozen BK684.out 2
      go_wp2_with (first | ((with_reducible refine gate_dst (N := 13) rfl ?_); refine Kd.N_lit k44 _ 44 ?hg (N' := 13) ?hd (xs := ([(⟨a0_0, (⟨a0_1, l0_2⟩ : S42)⟩ : S44)] : List (S44))) (inner := [.int .i64 a0_0, .int .i64 a0_1, .slice A0_2 l0_2.length c0_2]) (ok := (fun k_ => (P0_2_ k_ ∨ w.heap.size ≤ k_) ∧ k_ ≠ gb684)) (okp := (fun k_ => (P0_2_ k_ ∨ w.heap.size ≤ k_) ∧ k_ ≠ gb684)) ?hr ?hp (fun _ hk => hk) ((show ∀ k_, w6.heap.size ≤ k_ → (fun k_ => (P0_2_ k_ ∨ w.heap.size ≤ k_) ∧ k_ ≠ gb684) k_ from fun k_ hk => ⟨(.inr (Nat.le_trans (below_size (by repeat (first | (with_reducible first | exact HB.out | apply below_alloc | apply pw_below_drewN | apply below_drew1 | refine below_set ?_ GE684.out) | exact HB.out))) hk)), Kd.freshB (g := gb684) (o := .cells #[.int .i64 a0_0, .int .i64 a0_1, .slice A0_2 l0_2.length c0_2] 44 (0, 0)) (by (with_reducible repeat (first | refine blk_drewN ?_ _ | refine blk_drew ?_ | refine blk_alloc ?_ _)); exact BK684.out) k_ hk⟩) _ (Nat.le_refl _)) (Below.refl _ _) (Nat.le_refl _) (by simp) ?_; (case hd => rfl); (case hg => rfl); (case hr => first | (go_simp; done) | (go_simp; rfl)); (case hp => exact (Reps.c3 (show Kd.FK k44 _ _ (⟨a0_0, (⟨a0_1, l0_2⟩ : S42)⟩ : S44) [.int .i64 a0_0, .int .i64 a0_1, .slice A0_2 l0_2.length c0_2] from (k44_mkF _ _ (⟨a0_0, (⟨a0_1, l0_2⟩ : S42)⟩ : S44) (Kd.V_reads' (Kd.V_mono (ok' := (fun k_ => (P0_2_ k_ ∨ w.heap.size ≤ k_) ∧ k_ ≠ gb684)) (HO0_2.out) (fun k_ hk => ⟨hk.1, hk.2⟩))).2.1 (Kd.V_F (Kd.V_mono (ok' := (fun k_ => (P0_2_ k_ ∨ w.heap.size ≤ k_) ∧ k_ ≠ gb684)) (HO0_2.out) (fun k_ hk => ⟨hk.1, hk.2⟩))))) (Reps.none _ _))); intro v687 w15 ho16 hb hg_ hnew_; clear hg_ hnew_; (first | rw [← Ny686.out] at ho16 | (simp only [Int.reduceToNat] at ho16; rw [← Ny686.out] at ho16)); have n0_ := Aside0.mk (Kd.V_elder' (by (with_reducible repeat (first | apply Kd.V_alloc | apply Kd.V_drewN | apply Kd.V_drew)); exact HO0_2.out) (Kd.N_base ho16) hb); have n1_ := Aside0.mk (Kd.N_lower ho16 (below_size (by repeat (first | (with_reducible first | exact HB.out | apply below_alloc | apply pw_below_drewN | apply below_drew1 | refine below_set ?_ GE684.out) | exact HB.out)))); have n2_ := Aside0.mk (blk_below (g := gb684) (o := .cells #[.int .i64 a0_0, .int .i64 a0_1, .slice A0_2 l0_2.length c0_2] 44 (0, 0)) (by (with_reducible repeat (first | refine blk_drewN ?_ _ | refine blk_drew ?_ | refine blk_alloc ?_ _)); exact BK684.out) hb); have n3_ := Aside0.mk (below_step (by repeat (first | (with_reducible first | exact HB.out | apply below_alloc | apply pw_below_drewN | apply below_drew1 | refine below_set ?_ GE684.out) | exact HB.out)) hb); clear HO0_2; clear BK684; clear HB; have HO0_2 := n0_; have HO688 := n1_; have BK684 := n2_; have HB := n3_; clear n0_ n1_ n2_ n3_; clear hb ho16; obtain ⟨Ao17, co17, eo17⟩ := Kd.N_slice HO688.out; subst eo17) | ((with_reducible refine gate_callee (f := 28) rfl ?_); refine goesL_ (some 14) rfl rfl Try.func28 (by kernel_rfl) rfl #[.slice Ao17 y686.length co17] rfl (by (try simp only [List.map_toArray, List.map_cons, List.map_nil]); first | done | rfl | (simp only [List.length_drop, List.length_take]; rfl)) ?_; (with_reducible refine (wageofficelaw28_short.calls k _ _ y686 false _ ?side1 ?side2 A7.out).mono ?_); (case side1 => repeat (first | exact (Kd.N_reads' HO688.out).2.2 | (with_reducible refine Kd.C_alloc ?_ _) | (with_reducible refine Kd.C_drewN ?_ _) | (with_reducible refine Kd.C_drew ?_))); (case side2 => exact (Kd.N_reads' HO688.out).2.1); rintro e w18 ⟨rfl, hb⟩; refine ⟨_, rfl, ?_⟩; have n0_ := Aside0.mk (Kd.V_below (by (with_reducible repeat (first | apply Kd.V_alloc | apply Kd.V_drewN | apply Kd.V_drew)); exact HO0_2.out) hb); have n1_ := Aside0.mk (Kd.N_below (by (with_reducible repeat (first | apply Kd.N_alloc | apply Kd.N_drewN | apply Kd.N_drew)); exact HO688.out) hb); have n2_ := Aside0.mk (blk_below (g := gb684) (o := .cells #[.int .i64 a0_0, .int .i64 a0_1, .slice A0_2 l0_2.length c0_2] 44 (0, 0)) (by (with_reducible repeat (first | refine blk_drewN ?_ _ | refine blk_drew ?_ | refine blk_alloc ?_ _)); exact BK684.out) hb); have n3_ := Aside0.mk (below_step (by repeat (first | (with_reducible first | exact HB.out | apply below_alloc | apply pw_below_drewN | apply below_drew1 | refine below_set ?_ GE684.out) | exact HB.out)) hb); clear HO0_2; clear HO688; clear BK684; clear HB; have HO0_2 := n0_; have HO688 := n1_; have BK684 := n2_; have HB := n3_; clear n0_ n1_ n2_ n3_; (try clear hb); (try clear hb2); (try clear hk); (try clear hi)))
      go_meet
      case rel => exact ⟨_, (true), (by first | rfl | (simp; done) | (simp [*]; done)), H', ⟨by first | omega | exact Nat.le_refl _⟩, ⟨by (with_reducible repeat (first | apply Kd.V_alloc | apply Kd.V_drewN | apply Kd.V_drew)); exact Kd.V_mono HO0_2.out (fun _ hk => ⟨hk.1.1, hk.1.2⟩)⟩, ⟨by (with_reducible repeat (first | refine blk_drewN ?_ _ | refine blk_drew ?_ | refine blk_alloc ?_ _)); exact BK684.out⟩, ⟨by repeat (first | (with_reducible first | exact HB.out | apply below_alloc | apply pw_below_drewN | apply below_drew1 | refine below_set ?_ GE684.out) | exact HB.out)⟩⟩
  case rest =>
    clear HC4
    try clear c1
    try clear c2
    try clear p2
    try clear c3
    try clear c8
    try clear c14
    try clear hcz14_0
    try clear hcz14_1
    try clear hcz14_2
    try clear hcz9_0
    try clear hcz9_1
    try clear hcz9_2
    try clear hfz14_0
    try clear hfz14_1
    try clear hfz14_2
    try clear hfz9_0
    try clear hfz9_1
    try clear hfz9_2
    obtain ⟨kq, x19_3, rfl, HA, HJ3, HO_685002, BK684, HB⟩ := hcut
    cases kq with
    | zero => exact absurd HA.out (by simp [wageofficelaw28_TaxRounding.j0])
    | succ kj3 =>
      have H := HA.out
      clear HA
      simp only [wageofficelaw28_TaxRounding.j0] at H
      by_cases c19 : x19_3 = true
      · subst c19
        have H1 : (some t685) = some r := by rw [if_pos rfl] at H; exact H
        clear H
        have H := H1
        clear H1
        obtain rfl := Option.some.inj H
        go_wp2
        go_ret
        exact ⟨by first | rfl | (simp [errW_none, errW_some] <;> rfl) | (simp [*, errW_none, errW_some] <;> rfl), by repeat (first | (with_reducible first | exact HB.out | apply below_alloc | apply pw_below_drewN | apply below_drew1 | refine below_set ?_ GE684.out) | exact HB.out)⟩
      · replace c19 := Bool.eq_false_iff.mpr c19
        subst c19
        have H1 : ((tax_Year.f kj3 a0_0 a0_1 l0_2 a1).bind fun bt690 => ((wageofficeref05_Eval.f kj3 a0_1 l0_2 a1).bind fun bt692 => (if bt690.2 = 3 then (if t685 = true then (some (bt692.2.2 == 0)) else (some false)) else (if t685 = true then (if bt690.2 = bt692.2.2 then (if bt690.2 = 0 then (if (wrap64 (bt690.1 * bt692.2.1)) ≤ bt692.1 then (some (decide (bt692.1 < (wrap64 ((wrap64 (bt690.1 + 1)) * bt692.2.1))))) else (some false)) else (some true)) else (some false)) else (some false))))) = some r := by rw [if_neg (show ¬ (false = true) by decide)] at H; exact H
        clear H
        have H := H1
        clear H1
        replace H := Option.bind_eq_some_iff.mp H
        obtain ⟨⟨t690, t691⟩, A200, H⟩ := H
        replace H : ((wageofficeref05_Eval.f kj3 a0_1 l0_2 a1).bind fun bt692 => (if t691 = 3 then (if t685 = true then (some (bt692.2.2 == 0)) else (some false)) else (if t685 = true then (if t691 = bt692.2.2 then (if t691 = 0 then (if (wrap64 (t690 * bt692.2.1)) ≤ bt692.1 then (some (decide (bt692.1 < (wrap64 ((wrap64 (t690 + 1)) * bt692.2.1))))) else (some false)) else (some true)) else (some false)) else (some false)))) = some r := H
        have A20 := Aside0.mk A200
        clear A200
        replace H := Option.bind_eq_some_iff.mp H
        obtain ⟨⟨t692, t693, t694⟩, A210, H⟩ := H
        replace H : (if t691 = 3 then (if t685 = true then (some (t694 == 0)) else (some false)) else (if t685 = true then (if t691 = t694 then (if t691 = 0 then (if (wrap64 (t690 * t693)) ≤ t692 then (some (decide (t692 < (wrap64 ((wrap64 (t690 + 1)) * t693))))) else (some false)) else (some true)) else (some false)) else (some false))) = some r := H
        have A21 := Aside0.mk A210
        clear A210
        by_cases c22 : t691 = 3
        · rw [if_pos c22] at H
          have c22b0 : (t691 == 3) = true := beq_iff_eq.mpr c22
          have c22b1 : (t691 != 3) = false := bne_eq_false_iff_eq.mpr c22
          clear c22
          by_cases c23 : t685 = true
          · subst c23
            have H1 : (some (t694 == 0)) = some r := by rw [if_pos rfl] at H; exact H
            clear H
            have H := H1
            clear H1
            obtain rfl := Option.some.inj H
            have hcz24_0 : wc.cell? ⟨gb684, 0, none⟩ = some (.int .i64 a0_0) := (blk_cell BK684.out 0).trans rfl
            have hcz24_1 : wc.cell? ⟨gb684, 1, none⟩ = some (.int .i64 a0_1) := (blk_cell BK684.out 1).trans rfl
            have hcz24_2 : wc.cell? ⟨gb684, 2, none⟩ = some (.slice A0_2 l0_2.length c0_2) := (blk_cell BK684.out 2).trans rfl
            have hfz24_0 := blk_frozen BK684.out 0
            have hfz24_1 := blk_frozen BK684.out 1
            have hfz24_2 := blk_frozen BK684.out 2
            go_wp2_with (first | ((with_reducible refine gate_callee (f := 31) rfl ?_); refine goesL_ (some 24) rfl rfl Try.func31 (by kernel_rfl) rfl #[.agg #[.int .i64 a0_0, .int .i64 a0_1, .slice A0_2 l0_2.length c0_2], .int .i64 a1] rfl (by (try simp only [List.map_toArray, List.map_cons, List.map_nil]); first | done | rfl | (simp only [List.length_drop, List.length_take]; rfl)) ?_; (with_reducible refine (tax_Year.calls kj3 a0_0 a0_1 _ _ l0_2 a1 t690 t691 _ ?side1 ?side2 A20.out).mono ?_); (case side1 => repeat (first | exact (Kd.V_reads' HO_685002.out).2.2 | (with_reducible refine Kd.C_alloc ?_ _) | (with_reducible refine Kd.C_drewN ?_ _) | (with_reducible refine Kd.C_drew ?_))); (case side2 => exact (Kd.V_reads' HO_685002.out).2.1); rintro e w25 ⟨rfl, hb⟩; refine ⟨_, rfl, ?_⟩; have n0_ := Aside0.mk (Kd.V_below (by (with_reducible repeat (first | apply Kd.V_alloc | apply Kd.V_drewN | apply Kd.V_drew)); exact HO_685002.out) hb); have n1_ := Aside0.mk (blk_below (g := gb684) (o := .cells #[.int .i64 a0_0, .int .i64 a0_1, .slice A0_2 l0_2.length c0_2] 44 (0, 0)) (by (with_reducible repeat (first | refine blk_drewN ?_ _ | refine blk_drew ?_ | refine blk_alloc ?_ _)); exact BK684.out) hb); have n2_ := Aside0.mk (below_step (by repeat (first | (with_reducible first | exact HB.out | apply below_alloc | apply pw_below_drewN | apply below_drew1 | refine below_set ?_ GE684.out) | exact HB.out)) hb); clear HO_685002; clear BK684; clear HB; have HO_685002 := n0_; have BK684 := n1_; have HB := n2_; clear n0_ n1_ n2_; (try clear hb); (try clear hb2); (try clear hk); (try clear hi); have hcz26_0 : w25.cell? ⟨gb684, 0, none⟩ = some (.int .i64 a0_0) := (blk_cell BK684.out 0).trans rfl; have hcz26_1 : w25.cell? ⟨gb684, 1, none⟩ = some (.int .i64 a0_1) := (blk_cell BK684.out 1).trans rfl; have hcz26_2 : w25.cell? ⟨gb684, 2, none⟩ = some (.slice A0_2 l0_2.length c0_2) := (blk_cell BK684.out 2).trans rfl; have hfz26_0 := blk_frozen BK684.out 0; have hfz26_1 := blk_frozen BK684.out 1; have hfz26_2 := blk_frozen BK684.out 2) | ((with_reducible refine gate_callee (f := 41) rfl ?_); refine goesL_ (some 31) rfl rfl Try.func41 (by kernel_rfl) rfl #[.agg #[.int .i64 a0_1, .slice A0_2 l0_2.length c0_2], .int .i64 a1] rfl (by (try simp only [List.map_toArray, List.map_cons, List.map_nil]); first | done | rfl | (simp only [List.length_drop, List.length_take]; rfl)) ?_; (with_reducible refine (wageofficeref05_Eval.calls kj3 a0_1 _ _ l0_2 a1 t692 t693 t694 _ ?side1 ?side2 A21.out).mono ?_); (case side1 => repeat (first | exact (Kd.V_reads' HO_685002.out).2.2 | (with_reducible refine Kd.C_alloc ?_ _) | (with_reducible refine Kd.C_drewN ?_ _) | (with_reducible refine Kd.C_drew ?_))); (case side2 => exact (Kd.V_reads' HO_685002.out).2.1); rintro e w27 ⟨rfl, hb⟩; refine ⟨_, rfl, ?_⟩; have n0_ := Aside0.mk (Kd.V_below (by (with_reducible repeat (first | apply Kd.V_alloc | apply Kd.V_drewN | apply Kd.V_drew)); exact HO_685002.out) hb); have n1_ := Aside0.mk (blk_below (g := gb684) (o := .cells #[.int .i64 a0_0, .int .i64 a0_1, .slice A0_2 l0_2.length c0_2] 44 (0, 0)) (by (with_reducible repeat (first | refine blk_drewN ?_ _ | refine blk_drew ?_ | refine blk_alloc ?_ _)); exact BK684.out) hb); have n2_ := Aside0.mk (below_step (by repeat (first | (with_reducible first | exact HB.out | apply below_alloc | apply pw_below_drewN | apply below_drew1 | refine below_set ?_ GE684.out) | exact HB.out)) hb); clear HO_685002; clear BK684; clear HB; have HO_685002 := n0_; have BK684 := n1_; have HB := n2_; clear n0_ n1_ n2_; (try clear hb); (try clear hb2); (try clear hk); (try clear hi)))
            go_ret
            exact ⟨by first | rfl | (simp [errW_none, errW_some] <;> rfl) | (simp [*, errW_none, errW_some] <;> rfl), by repeat (first | (with_reducible first | exact HB.out | apply below_alloc | apply pw_below_drewN | apply below_drew1 | refine below_set ?_ GE684.out) | exact HB.out)⟩
          · replace c23 := Bool.eq_false_iff.mpr c23
            subst c23
            have H1 : (some false) = some r := by rw [if_neg (show ¬ (false = true) by decide)] at H; exact H
            clear H
            have H := H1
            clear H1
            obtain rfl := Option.some.inj H
            have hcz28_0 : wc.cell? ⟨gb684, 0, none⟩ = some (.int .i64 a0_0) := (blk_cell BK684.out 0).trans rfl
            have hcz28_1 : wc.cell? ⟨gb684, 1, none⟩ = some (.int .i64 a0_1) := (blk_cell BK684.out 1).trans rfl
            have hcz28_2 : wc.cell? ⟨gb684, 2, none⟩ = some (.slice A0_2 l0_2.length c0_2) := (blk_cell BK684.out 2).trans rfl
            have hfz28_0 := blk_frozen BK684.out 0
            have hfz28_1 := blk_frozen BK684.out 1
            have hfz28_2 := blk_frozen BK684.out 2
            go_wp2_with (first | ((with_reducible refine gate_callee (f := 31) rfl ?_); refine goesL_ (some 24) rfl rfl Try.func31 (by kernel_rfl) rfl #[.agg #[.int .i64 a0_0, .int .i64 a0_1, .slice A0_2 l0_2.length c0_2], .int .i64 a1] rfl (by (try simp only [List.map_toArray, List.map_cons, List.map_nil]); first | done | rfl | (simp only [List.length_drop, List.length_take]; rfl)) ?_; (with_reducible refine (tax_Year.calls kj3 a0_0 a0_1 _ _ l0_2 a1 t690 t691 _ ?side1 ?side2 A20.out).mono ?_); (case side1 => repeat (first | exact (Kd.V_reads' HO_685002.out).2.2 | (with_reducible refine Kd.C_alloc ?_ _) | (with_reducible refine Kd.C_drewN ?_ _) | (with_reducible refine Kd.C_drew ?_))); (case side2 => exact (Kd.V_reads' HO_685002.out).2.1); rintro e w29 ⟨rfl, hb⟩; refine ⟨_, rfl, ?_⟩; have n0_ := Aside0.mk (Kd.V_below (by (with_reducible repeat (first | apply Kd.V_alloc | apply Kd.V_drewN | apply Kd.V_drew)); exact HO_685002.out) hb); have n1_ := Aside0.mk (blk_below (g := gb684) (o := .cells #[.int .i64 a0_0, .int .i64 a0_1, .slice A0_2 l0_2.length c0_2] 44 (0, 0)) (by (with_reducible repeat (first | refine blk_drewN ?_ _ | refine blk_drew ?_ | refine blk_alloc ?_ _)); exact BK684.out) hb); have n2_ := Aside0.mk (below_step (by repeat (first | (with_reducible first | exact HB.out | apply below_alloc | apply pw_below_drewN | apply below_drew1 | refine below_set ?_ GE684.out) | exact HB.out)) hb); clear HO_685002; clear BK684; clear HB; have HO_685002 := n0_; have BK684 := n1_; have HB := n2_; clear n0_ n1_ n2_; (try clear hb); (try clear hb2); (try clear hk); (try clear hi); have hcz30_0 : w29.cell? ⟨gb684, 0, none⟩ = some (.int .i64 a0_0) := (blk_cell BK684.out 0).trans rfl; have hcz30_1 : w29.cell? ⟨gb684, 1, none⟩ = some (.int .i64 a0_1) := (blk_cell BK684.out 1).trans rfl; have hcz30_2 : w29.cell? ⟨gb684, 2, none⟩ = some (.slice A0_2 l0_2.length c0_2) := (blk_cell BK684.out 2).trans rfl; have hfz30_0 := blk_frozen BK684.out 0; have hfz30_1 := blk_frozen BK684.out 1; have hfz30_2 := blk_frozen BK684.out 2) | ((with_reducible refine gate_callee (f := 41) rfl ?_); refine goesL_ (some 31) rfl rfl Try.func41 (by kernel_rfl) rfl #[.agg #[.int .i64 a0_1, .slice A0_2 l0_2.length c0_2], .int .i64 a1] rfl (by (try simp only [List.map_toArray, List.map_cons, List.map_nil]); first | done | rfl | (simp only [List.length_drop, List.length_take]; rfl)) ?_; (with_reducible refine (wageofficeref05_Eval.calls kj3 a0_1 _ _ l0_2 a1 t692 t693 t694 _ ?side1 ?side2 A21.out).mono ?_); (case side1 => repeat (first | exact (Kd.V_reads' HO_685002.out).2.2 | (with_reducible refine Kd.C_alloc ?_ _) | (with_reducible refine Kd.C_drewN ?_ _) | (with_reducible refine Kd.C_drew ?_))); (case side2 => exact (Kd.V_reads' HO_685002.out).2.1); rintro e w31 ⟨rfl, hb⟩; refine ⟨_, rfl, ?_⟩; have n0_ := Aside0.mk (Kd.V_below (by (with_reducible repeat (first | apply Kd.V_alloc | apply Kd.V_drewN | apply Kd.V_drew)); exact HO_685002.out) hb); have n1_ := Aside0.mk (blk_below (g := gb684) (o := .cells #[.int .i64 a0_0, .int .i64 a0_1, .slice A0_2 l0_2.length c0_2] 44 (0, 0)) (by (with_reducible repeat (first | refine blk_drewN ?_ _ | refine blk_drew ?_ | refine blk_alloc ?_ _)); exact BK684.out) hb); have n2_ := Aside0.mk (below_step (by repeat (first | (with_reducible first | exact HB.out | apply below_alloc | apply pw_below_drewN | apply below_drew1 | refine below_set ?_ GE684.out) | exact HB.out)) hb); clear HO_685002; clear BK684; clear HB; have HO_685002 := n0_; have BK684 := n1_; have HB := n2_; clear n0_ n1_ n2_; (try clear hb); (try clear hb2); (try clear hk); (try clear hi)))
            go_ret
            exact ⟨by first | rfl | (simp [errW_none, errW_some] <;> rfl) | (simp [*, errW_none, errW_some] <;> rfl), by repeat (first | (with_reducible first | exact HB.out | apply below_alloc | apply pw_below_drewN | apply below_drew1 | refine below_set ?_ GE684.out) | exact HB.out)⟩
        · rw [if_neg c22] at H
          have c22b0 : (t691 == 3) = false := beq_eq_false_iff_ne.mpr c22
          have c22b1 : (t691 != 3) = true := bne_iff_ne.mpr c22
          by_cases c32 : t685 = true
          · subst c32
            have H1 : (if t691 = t694 then (if t691 = 0 then (if (wrap64 (t690 * t693)) ≤ t692 then (some (decide (t692 < (wrap64 ((wrap64 (t690 + 1)) * t693))))) else (some false)) else (some true)) else (some false)) = some r := by rw [if_pos rfl] at H; exact H
            clear H
            have H := H1
            clear H1
            by_cases c33 : t691 = t694
            · rw [if_pos c33] at H
              have c33b0 : (t691 == t694) = true := beq_iff_eq.mpr c33
              have c33b1 : (t691 != t694) = false := bne_eq_false_iff_eq.mpr c33
              clear c33
              by_cases c34 : t691 = 0
              · rw [if_pos c34] at H
                have c34b0 : (t691 == 0) = true := beq_iff_eq.mpr c34
                have c34b1 : (t691 != 0) = false := bne_eq_false_iff_eq.mpr c34
                clear c34
                by_cases c35 : (wrap64 (t690 * t693)) ≤ t692
                · rw [if_pos c35] at H
                  have c35b0 : decide ((wrap64 (t690 * t693)) ≤ t692) = true := decide_eq_true c35
                  clear c35
                  obtain rfl := Option.some.inj H
                  have hcz36_0 : wc.cell? ⟨gb684, 0, none⟩ = some (.int .i64 a0_0) := (blk_cell BK684.out 0).trans rfl
                  have hcz36_1 : wc.cell? ⟨gb684, 1, none⟩ = some (.int .i64 a0_1) := (blk_cell BK684.out 1).trans rfl
                  have hcz36_2 : wc.cell? ⟨gb684, 2, none⟩ = some (.slice A0_2 l0_2.length c0_2) := (blk_cell BK684.out 2).trans rfl
                  have hfz36_0 := blk_frozen BK684.out 0
                  have hfz36_1 := blk_frozen BK684.out 1
                  have hfz36_2 := blk_frozen BK684.out 2
                  go_wp2_with (first | ((with_reducible refine gate_callee (f := 31) rfl ?_); refine goesL_ (some 24) rfl rfl Try.func31 (by kernel_rfl) rfl #[.agg #[.int .i64 a0_0, .int .i64 a0_1, .slice A0_2 l0_2.length c0_2], .int .i64 a1] rfl (by (try simp only [List.map_toArray, List.map_cons, List.map_nil]); first | done | rfl | (simp only [List.length_drop, List.length_take]; rfl)) ?_; (with_reducible refine (tax_Year.calls kj3 a0_0 a0_1 _ _ l0_2 a1 t690 t691 _ ?side1 ?side2 A20.out).mono ?_); (case side1 => repeat (first | exact (Kd.V_reads' HO_685002.out).2.2 | (with_reducible refine Kd.C_alloc ?_ _) | (with_reducible refine Kd.C_drewN ?_ _) | (with_reducible refine Kd.C_drew ?_))); (case side2 => exact (Kd.V_reads' HO_685002.out).2.1); rintro e w37 ⟨rfl, hb⟩; refine ⟨_, rfl, ?_⟩; have n0_ := Aside0.mk (Kd.V_below (by (with_reducible repeat (first | apply Kd.V_alloc | apply Kd.V_drewN | apply Kd.V_drew)); exact HO_685002.out) hb); have n1_ := Aside0.mk (blk_below (g := gb684) (o := .cells #[.int .i64 a0_0, .int .i64 a0_1, .slice A0_2 l0_2.length c0_2] 44 (0, 0)) (by (with_reducible repeat (first | refine blk_drewN ?_ _ | refine blk_drew ?_ | refine blk_alloc ?_ _)); exact BK684.out) hb); have n2_ := Aside0.mk (below_step (by repeat (first | (with_reducible first | exact HB.out | apply below_alloc | apply pw_below_drewN | apply below_drew1 | refine below_set ?_ GE684.out) | exact HB.out)) hb); clear HO_685002; clear BK684; clear HB; have HO_685002 := n0_; have BK684 := n1_; have HB := n2_; clear n0_ n1_ n2_; (try clear hb); (try clear hb2); (try clear hk); (try clear hi); have hcz38_0 : w37.cell? ⟨gb684, 0, none⟩ = some (.int .i64 a0_0) := (blk_cell BK684.out 0).trans rfl; have hcz38_1 : w37.cell? ⟨gb684, 1, none⟩ = some (.int .i64 a0_1) := (blk_cell BK684.out 1).trans rfl; have hcz38_2 : w37.cell? ⟨gb684, 2, none⟩ = some (.slice A0_2 l0_2.length c0_2) := (blk_cell BK684.out 2).trans rfl; have hfz38_0 := blk_frozen BK684.out 0; have hfz38_1 := blk_frozen BK684.out 1; have hfz38_2 := blk_frozen BK684.out 2) | ((with_reducible refine gate_callee (f := 41) rfl ?_); refine goesL_ (some 31) rfl rfl Try.func41 (by kernel_rfl) rfl #[.agg #[.int .i64 a0_1, .slice A0_2 l0_2.length c0_2], .int .i64 a1] rfl (by (try simp only [List.map_toArray, List.map_cons, List.map_nil]); first | done | rfl | (simp only [List.length_drop, List.length_take]; rfl)) ?_; (with_reducible refine (wageofficeref05_Eval.calls kj3 a0_1 _ _ l0_2 a1 t692 t693 t694 _ ?side1 ?side2 A21.out).mono ?_); (case side1 => repeat (first | exact (Kd.V_reads' HO_685002.out).2.2 | (with_reducible refine Kd.C_alloc ?_ _) | (with_reducible refine Kd.C_drewN ?_ _) | (with_reducible refine Kd.C_drew ?_))); (case side2 => exact (Kd.V_reads' HO_685002.out).2.1); rintro e w39 ⟨rfl, hb⟩; refine ⟨_, rfl, ?_⟩; have n0_ := Aside0.mk (Kd.V_below (by (with_reducible repeat (first | apply Kd.V_alloc | apply Kd.V_drewN | apply Kd.V_drew)); exact HO_685002.out) hb); have n1_ := Aside0.mk (blk_below (g := gb684) (o := .cells #[.int .i64 a0_0, .int .i64 a0_1, .slice A0_2 l0_2.length c0_2] 44 (0, 0)) (by (with_reducible repeat (first | refine blk_drewN ?_ _ | refine blk_drew ?_ | refine blk_alloc ?_ _)); exact BK684.out) hb); have n2_ := Aside0.mk (below_step (by repeat (first | (with_reducible first | exact HB.out | apply below_alloc | apply pw_below_drewN | apply below_drew1 | refine below_set ?_ GE684.out) | exact HB.out)) hb); clear HO_685002; clear BK684; clear HB; have HO_685002 := n0_; have BK684 := n1_; have HB := n2_; clear n0_ n1_ n2_; (try clear hb); (try clear hb2); (try clear hk); (try clear hi)))
                  go_ret
                  exact ⟨by first | rfl | (simp [errW_none, errW_some] <;> rfl) | (simp [*, errW_none, errW_some] <;> rfl), by repeat (first | (with_reducible first | exact HB.out | apply below_alloc | apply pw_below_drewN | apply below_drew1 | refine below_set ?_ GE684.out) | exact HB.out)⟩
                · rw [if_neg c35] at H
                  have c35b0 : decide ((wrap64 (t690 * t693)) ≤ t692) = false := decide_eq_false c35
                  clear c35
                  obtain rfl := Option.some.inj H
                  have hcz40_0 : wc.cell? ⟨gb684, 0, none⟩ = some (.int .i64 a0_0) := (blk_cell BK684.out 0).trans rfl
                  have hcz40_1 : wc.cell? ⟨gb684, 1, none⟩ = some (.int .i64 a0_1) := (blk_cell BK684.out 1).trans rfl
                  have hcz40_2 : wc.cell? ⟨gb684, 2, none⟩ = some (.slice A0_2 l0_2.length c0_2) := (blk_cell BK684.out 2).trans rfl
                  have hfz40_0 := blk_frozen BK684.out 0
                  have hfz40_1 := blk_frozen BK684.out 1
                  have hfz40_2 := blk_frozen BK684.out 2
                  go_wp2_with (first | ((with_reducible refine gate_callee (f := 31) rfl ?_); refine goesL_ (some 24) rfl rfl Try.func31 (by kernel_rfl) rfl #[.agg #[.int .i64 a0_0, .int .i64 a0_1, .slice A0_2 l0_2.length c0_2], .int .i64 a1] rfl (by (try simp only [List.map_toArray, List.map_cons, List.map_nil]); first | done | rfl | (simp only [List.length_drop, List.length_take]; rfl)) ?_; (with_reducible refine (tax_Year.calls kj3 a0_0 a0_1 _ _ l0_2 a1 t690 t691 _ ?side1 ?side2 A20.out).mono ?_); (case side1 => repeat (first | exact (Kd.V_reads' HO_685002.out).2.2 | (with_reducible refine Kd.C_alloc ?_ _) | (with_reducible refine Kd.C_drewN ?_ _) | (with_reducible refine Kd.C_drew ?_))); (case side2 => exact (Kd.V_reads' HO_685002.out).2.1); rintro e w41 ⟨rfl, hb⟩; refine ⟨_, rfl, ?_⟩; have n0_ := Aside0.mk (Kd.V_below (by (with_reducible repeat (first | apply Kd.V_alloc | apply Kd.V_drewN | apply Kd.V_drew)); exact HO_685002.out) hb); have n1_ := Aside0.mk (blk_below (g := gb684) (o := .cells #[.int .i64 a0_0, .int .i64 a0_1, .slice A0_2 l0_2.length c0_2] 44 (0, 0)) (by (with_reducible repeat (first | refine blk_drewN ?_ _ | refine blk_drew ?_ | refine blk_alloc ?_ _)); exact BK684.out) hb); have n2_ := Aside0.mk (below_step (by repeat (first | (with_reducible first | exact HB.out | apply below_alloc | apply pw_below_drewN | apply below_drew1 | refine below_set ?_ GE684.out) | exact HB.out)) hb); clear HO_685002; clear BK684; clear HB; have HO_685002 := n0_; have BK684 := n1_; have HB := n2_; clear n0_ n1_ n2_; (try clear hb); (try clear hb2); (try clear hk); (try clear hi); have hcz42_0 : w41.cell? ⟨gb684, 0, none⟩ = some (.int .i64 a0_0) := (blk_cell BK684.out 0).trans rfl; have hcz42_1 : w41.cell? ⟨gb684, 1, none⟩ = some (.int .i64 a0_1) := (blk_cell BK684.out 1).trans rfl; have hcz42_2 : w41.cell? ⟨gb684, 2, none⟩ = some (.slice A0_2 l0_2.length c0_2) := (blk_cell BK684.out 2).trans rfl; have hfz42_0 := blk_frozen BK684.out 0; have hfz42_1 := blk_frozen BK684.out 1; have hfz42_2 := blk_frozen BK684.out 2) | ((with_reducible refine gate_callee (f := 41) rfl ?_); refine goesL_ (some 31) rfl rfl Try.func41 (by kernel_rfl) rfl #[.agg #[.int .i64 a0_1, .slice A0_2 l0_2.length c0_2], .int .i64 a1] rfl (by (try simp only [List.map_toArray, List.map_cons, List.map_nil]); first | done | rfl | (simp only [List.length_drop, List.length_take]; rfl)) ?_; (with_reducible refine (wageofficeref05_Eval.calls kj3 a0_1 _ _ l0_2 a1 t692 t693 t694 _ ?side1 ?side2 A21.out).mono ?_); (case side1 => repeat (first | exact (Kd.V_reads' HO_685002.out).2.2 | (with_reducible refine Kd.C_alloc ?_ _) | (with_reducible refine Kd.C_drewN ?_ _) | (with_reducible refine Kd.C_drew ?_))); (case side2 => exact (Kd.V_reads' HO_685002.out).2.1); rintro e w43 ⟨rfl, hb⟩; refine ⟨_, rfl, ?_⟩; have n0_ := Aside0.mk (Kd.V_below (by (with_reducible repeat (first | apply Kd.V_alloc | apply Kd.V_drewN | apply Kd.V_drew)); exact HO_685002.out) hb); have n1_ := Aside0.mk (blk_below (g := gb684) (o := .cells #[.int .i64 a0_0, .int .i64 a0_1, .slice A0_2 l0_2.length c0_2] 44 (0, 0)) (by (with_reducible repeat (first | refine blk_drewN ?_ _ | refine blk_drew ?_ | refine blk_alloc ?_ _)); exact BK684.out) hb); have n2_ := Aside0.mk (below_step (by repeat (first | (with_reducible first | exact HB.out | apply below_alloc | apply pw_below_drewN | apply below_drew1 | refine below_set ?_ GE684.out) | exact HB.out)) hb); clear HO_685002; clear BK684; clear HB; have HO_685002 := n0_; have BK684 := n1_; have HB := n2_; clear n0_ n1_ n2_; (try clear hb); (try clear hb2); (try clear hk); (try clear hi)))
                  go_ret
                  exact ⟨by first | rfl | (simp [errW_none, errW_some] <;> rfl) | (simp [*, errW_none, errW_some] <;> rfl), by repeat (first | (with_reducible first | exact HB.out | apply below_alloc | apply pw_below_drewN | apply below_drew1 | refine below_set ?_ GE684.out) | exact HB.out)⟩
              · rw [if_neg c34] at H
                have c34b0 : (t691 == 0) = false := beq_eq_false_iff_ne.mpr c34
                have c34b1 : (t691 != 0) = true := bne_iff_ne.mpr c34
                obtain rfl := Option.some.inj H
                have hcz44_0 : wc.cell? ⟨gb684, 0, none⟩ = some (.int .i64 a0_0) := (blk_cell BK684.out 0).trans rfl
                have hcz44_1 : wc.cell? ⟨gb684, 1, none⟩ = some (.int .i64 a0_1) := (blk_cell BK684.out 1).trans rfl
                have hcz44_2 : wc.cell? ⟨gb684, 2, none⟩ = some (.slice A0_2 l0_2.length c0_2) := (blk_cell BK684.out 2).trans rfl
                have hfz44_0 := blk_frozen BK684.out 0
                have hfz44_1 := blk_frozen BK684.out 1
                have hfz44_2 := blk_frozen BK684.out 2
                go_wp2_with (first | ((with_reducible refine gate_callee (f := 31) rfl ?_); refine goesL_ (some 24) rfl rfl Try.func31 (by kernel_rfl) rfl #[.agg #[.int .i64 a0_0, .int .i64 a0_1, .slice A0_2 l0_2.length c0_2], .int .i64 a1] rfl (by (try simp only [List.map_toArray, List.map_cons, List.map_nil]); first | done | rfl | (simp only [List.length_drop, List.length_take]; rfl)) ?_; (with_reducible refine (tax_Year.calls kj3 a0_0 a0_1 _ _ l0_2 a1 t690 t691 _ ?side1 ?side2 A20.out).mono ?_); (case side1 => repeat (first | exact (Kd.V_reads' HO_685002.out).2.2 | (with_reducible refine Kd.C_alloc ?_ _) | (with_reducible refine Kd.C_drewN ?_ _) | (with_reducible refine Kd.C_drew ?_))); (case side2 => exact (Kd.V_reads' HO_685002.out).2.1); rintro e w45 ⟨rfl, hb⟩; refine ⟨_, rfl, ?_⟩; have n0_ := Aside0.mk (Kd.V_below (by (with_reducible repeat (first | apply Kd.V_alloc | apply Kd.V_drewN | apply Kd.V_drew)); exact HO_685002.out) hb); have n1_ := Aside0.mk (blk_below (g := gb684) (o := .cells #[.int .i64 a0_0, .int .i64 a0_1, .slice A0_2 l0_2.length c0_2] 44 (0, 0)) (by (with_reducible repeat (first | refine blk_drewN ?_ _ | refine blk_drew ?_ | refine blk_alloc ?_ _)); exact BK684.out) hb); have n2_ := Aside0.mk (below_step (by repeat (first | (with_reducible first | exact HB.out | apply below_alloc | apply pw_below_drewN | apply below_drew1 | refine below_set ?_ GE684.out) | exact HB.out)) hb); clear HO_685002; clear BK684; clear HB; have HO_685002 := n0_; have BK684 := n1_; have HB := n2_; clear n0_ n1_ n2_; (try clear hb); (try clear hb2); (try clear hk); (try clear hi); have hcz46_0 : w45.cell? ⟨gb684, 0, none⟩ = some (.int .i64 a0_0) := (blk_cell BK684.out 0).trans rfl; have hcz46_1 : w45.cell? ⟨gb684, 1, none⟩ = some (.int .i64 a0_1) := (blk_cell BK684.out 1).trans rfl; have hcz46_2 : w45.cell? ⟨gb684, 2, none⟩ = some (.slice A0_2 l0_2.length c0_2) := (blk_cell BK684.out 2).trans rfl; have hfz46_0 := blk_frozen BK684.out 0; have hfz46_1 := blk_frozen BK684.out 1; have hfz46_2 := blk_frozen BK684.out 2) | ((with_reducible refine gate_callee (f := 41) rfl ?_); refine goesL_ (some 31) rfl rfl Try.func41 (by kernel_rfl) rfl #[.agg #[.int .i64 a0_1, .slice A0_2 l0_2.length c0_2], .int .i64 a1] rfl (by (try simp only [List.map_toArray, List.map_cons, List.map_nil]); first | done | rfl | (simp only [List.length_drop, List.length_take]; rfl)) ?_; (with_reducible refine (wageofficeref05_Eval.calls kj3 a0_1 _ _ l0_2 a1 t692 t693 t694 _ ?side1 ?side2 A21.out).mono ?_); (case side1 => repeat (first | exact (Kd.V_reads' HO_685002.out).2.2 | (with_reducible refine Kd.C_alloc ?_ _) | (with_reducible refine Kd.C_drewN ?_ _) | (with_reducible refine Kd.C_drew ?_))); (case side2 => exact (Kd.V_reads' HO_685002.out).2.1); rintro e w47 ⟨rfl, hb⟩; refine ⟨_, rfl, ?_⟩; have n0_ := Aside0.mk (Kd.V_below (by (with_reducible repeat (first | apply Kd.V_alloc | apply Kd.V_drewN | apply Kd.V_drew)); exact HO_685002.out) hb); have n1_ := Aside0.mk (blk_below (g := gb684) (o := .cells #[.int .i64 a0_0, .int .i64 a0_1, .slice A0_2 l0_2.length c0_2] 44 (0, 0)) (by (with_reducible repeat (first | refine blk_drewN ?_ _ | refine blk_drew ?_ | refine blk_alloc ?_ _)); exact BK684.out) hb); have n2_ := Aside0.mk (below_step (by repeat (first | (with_reducible first | exact HB.out | apply below_alloc | apply pw_below_drewN | apply below_drew1 | refine below_set ?_ GE684.out) | exact HB.out)) hb); clear HO_685002; clear BK684; clear HB; have HO_685002 := n0_; have BK684 := n1_; have HB := n2_; clear n0_ n1_ n2_; (try clear hb); (try clear hb2); (try clear hk); (try clear hi)))
                go_ret
                exact ⟨by first | rfl | (simp [errW_none, errW_some] <;> rfl) | (simp [*, errW_none, errW_some] <;> rfl), by repeat (first | (with_reducible first | exact HB.out | apply below_alloc | apply pw_below_drewN | apply below_drew1 | refine below_set ?_ GE684.out) | exact HB.out)⟩
            · rw [if_neg c33] at H
              have c33b0 : (t691 == t694) = false := beq_eq_false_iff_ne.mpr c33
              have c33b1 : (t691 != t694) = true := bne_iff_ne.mpr c33
              obtain rfl := Option.some.inj H
              have hcz48_0 : wc.cell? ⟨gb684, 0, none⟩ = some (.int .i64 a0_0) := (blk_cell BK684.out 0).trans rfl
              have hcz48_1 : wc.cell? ⟨gb684, 1, none⟩ = some (.int .i64 a0_1) := (blk_cell BK684.out 1).trans rfl
              have hcz48_2 : wc.cell? ⟨gb684, 2, none⟩ = some (.slice A0_2 l0_2.length c0_2) := (blk_cell BK684.out 2).trans rfl
              have hfz48_0 := blk_frozen BK684.out 0
              have hfz48_1 := blk_frozen BK684.out 1
              have hfz48_2 := blk_frozen BK684.out 2
              go_wp2_with (first | ((with_reducible refine gate_callee (f := 31) rfl ?_); refine goesL_ (some 24) rfl rfl Try.func31 (by kernel_rfl) rfl #[.agg #[.int .i64 a0_0, .int .i64 a0_1, .slice A0_2 l0_2.length c0_2], .int .i64 a1] rfl (by (try simp only [List.map_toArray, List.map_cons, List.map_nil]); first | done | rfl | (simp only [List.length_drop, List.length_take]; rfl)) ?_; (with_reducible refine (tax_Year.calls kj3 a0_0 a0_1 _ _ l0_2 a1 t690 t691 _ ?side1 ?side2 A20.out).mono ?_); (case side1 => repeat (first | exact (Kd.V_reads' HO_685002.out).2.2 | (with_reducible refine Kd.C_alloc ?_ _) | (with_reducible refine Kd.C_drewN ?_ _) | (with_reducible refine Kd.C_drew ?_))); (case side2 => exact (Kd.V_reads' HO_685002.out).2.1); rintro e w49 ⟨rfl, hb⟩; refine ⟨_, rfl, ?_⟩; have n0_ := Aside0.mk (Kd.V_below (by (with_reducible repeat (first | apply Kd.V_alloc | apply Kd.V_drewN | apply Kd.V_drew)); exact HO_685002.out) hb); have n1_ := Aside0.mk (blk_below (g := gb684) (o := .cells #[.int .i64 a0_0, .int .i64 a0_1, .slice A0_2 l0_2.length c0_2] 44 (0, 0)) (by (with_reducible repeat (first | refine blk_drewN ?_ _ | refine blk_drew ?_ | refine blk_alloc ?_ _)); exact BK684.out) hb); have n2_ := Aside0.mk (below_step (by repeat (first | (with_reducible first | exact HB.out | apply below_alloc | apply pw_below_drewN | apply below_drew1 | refine below_set ?_ GE684.out) | exact HB.out)) hb); clear HO_685002; clear BK684; clear HB; have HO_685002 := n0_; have BK684 := n1_; have HB := n2_; clear n0_ n1_ n2_; (try clear hb); (try clear hb2); (try clear hk); (try clear hi); have hcz50_0 : w49.cell? ⟨gb684, 0, none⟩ = some (.int .i64 a0_0) := (blk_cell BK684.out 0).trans rfl; have hcz50_1 : w49.cell? ⟨gb684, 1, none⟩ = some (.int .i64 a0_1) := (blk_cell BK684.out 1).trans rfl; have hcz50_2 : w49.cell? ⟨gb684, 2, none⟩ = some (.slice A0_2 l0_2.length c0_2) := (blk_cell BK684.out 2).trans rfl; have hfz50_0 := blk_frozen BK684.out 0; have hfz50_1 := blk_frozen BK684.out 1; have hfz50_2 := blk_frozen BK684.out 2) | ((with_reducible refine gate_callee (f := 41) rfl ?_); refine goesL_ (some 31) rfl rfl Try.func41 (by kernel_rfl) rfl #[.agg #[.int .i64 a0_1, .slice A0_2 l0_2.length c0_2], .int .i64 a1] rfl (by (try simp only [List.map_toArray, List.map_cons, List.map_nil]); first | done | rfl | (simp only [List.length_drop, List.length_take]; rfl)) ?_; (with_reducible refine (wageofficeref05_Eval.calls kj3 a0_1 _ _ l0_2 a1 t692 t693 t694 _ ?side1 ?side2 A21.out).mono ?_); (case side1 => repeat (first | exact (Kd.V_reads' HO_685002.out).2.2 | (with_reducible refine Kd.C_alloc ?_ _) | (with_reducible refine Kd.C_drewN ?_ _) | (with_reducible refine Kd.C_drew ?_))); (case side2 => exact (Kd.V_reads' HO_685002.out).2.1); rintro e w51 ⟨rfl, hb⟩; refine ⟨_, rfl, ?_⟩; have n0_ := Aside0.mk (Kd.V_below (by (with_reducible repeat (first | apply Kd.V_alloc | apply Kd.V_drewN | apply Kd.V_drew)); exact HO_685002.out) hb); have n1_ := Aside0.mk (blk_below (g := gb684) (o := .cells #[.int .i64 a0_0, .int .i64 a0_1, .slice A0_2 l0_2.length c0_2] 44 (0, 0)) (by (with_reducible repeat (first | refine blk_drewN ?_ _ | refine blk_drew ?_ | refine blk_alloc ?_ _)); exact BK684.out) hb); have n2_ := Aside0.mk (below_step (by repeat (first | (with_reducible first | exact HB.out | apply below_alloc | apply pw_below_drewN | apply below_drew1 | refine below_set ?_ GE684.out) | exact HB.out)) hb); clear HO_685002; clear BK684; clear HB; have HO_685002 := n0_; have BK684 := n1_; have HB := n2_; clear n0_ n1_ n2_; (try clear hb); (try clear hb2); (try clear hk); (try clear hi)))
              go_ret
              exact ⟨by first | rfl | (simp [errW_none, errW_some] <;> rfl) | (simp [*, errW_none, errW_some] <;> rfl), by repeat (first | (with_reducible first | exact HB.out | apply below_alloc | apply pw_below_drewN | apply below_drew1 | refine below_set ?_ GE684.out) | exact HB.out)⟩
          · replace c32 := Bool.eq_false_iff.mpr c32
            subst c32
            have H1 : (some false) = some r := by rw [if_neg (show ¬ (false = true) by decide)] at H; exact H
            clear H
            have H := H1
            clear H1
            obtain rfl := Option.some.inj H
            have hcz52_0 : wc.cell? ⟨gb684, 0, none⟩ = some (.int .i64 a0_0) := (blk_cell BK684.out 0).trans rfl
            have hcz52_1 : wc.cell? ⟨gb684, 1, none⟩ = some (.int .i64 a0_1) := (blk_cell BK684.out 1).trans rfl
            have hcz52_2 : wc.cell? ⟨gb684, 2, none⟩ = some (.slice A0_2 l0_2.length c0_2) := (blk_cell BK684.out 2).trans rfl
            have hfz52_0 := blk_frozen BK684.out 0
            have hfz52_1 := blk_frozen BK684.out 1
            have hfz52_2 := blk_frozen BK684.out 2
            go_wp2_with (first | ((with_reducible refine gate_callee (f := 31) rfl ?_); refine goesL_ (some 24) rfl rfl Try.func31 (by kernel_rfl) rfl #[.agg #[.int .i64 a0_0, .int .i64 a0_1, .slice A0_2 l0_2.length c0_2], .int .i64 a1] rfl (by (try simp only [List.map_toArray, List.map_cons, List.map_nil]); first | done | rfl | (simp only [List.length_drop, List.length_take]; rfl)) ?_; (with_reducible refine (tax_Year.calls kj3 a0_0 a0_1 _ _ l0_2 a1 t690 t691 _ ?side1 ?side2 A20.out).mono ?_); (case side1 => repeat (first | exact (Kd.V_reads' HO_685002.out).2.2 | (with_reducible refine Kd.C_alloc ?_ _) | (with_reducible refine Kd.C_drewN ?_ _) | (with_reducible refine Kd.C_drew ?_))); (case side2 => exact (Kd.V_reads' HO_685002.out).2.1); rintro e w53 ⟨rfl, hb⟩; refine ⟨_, rfl, ?_⟩; have n0_ := Aside0.mk (Kd.V_below (by (with_reducible repeat (first | apply Kd.V_alloc | apply Kd.V_drewN | apply Kd.V_drew)); exact HO_685002.out) hb); have n1_ := Aside0.mk (blk_below (g := gb684) (o := .cells #[.int .i64 a0_0, .int .i64 a0_1, .slice A0_2 l0_2.length c0_2] 44 (0, 0)) (by (with_reducible repeat (first | refine blk_drewN ?_ _ | refine blk_drew ?_ | refine blk_alloc ?_ _)); exact BK684.out) hb); have n2_ := Aside0.mk (below_step (by repeat (first | (with_reducible first | exact HB.out | apply below_alloc | apply pw_below_drewN | apply below_drew1 | refine below_set ?_ GE684.out) | exact HB.out)) hb); clear HO_685002; clear BK684; clear HB; have HO_685002 := n0_; have BK684 := n1_; have HB := n2_; clear n0_ n1_ n2_; (try clear hb); (try clear hb2); (try clear hk); (try clear hi); have hcz54_0 : w53.cell? ⟨gb684, 0, none⟩ = some (.int .i64 a0_0) := (blk_cell BK684.out 0).trans rfl; have hcz54_1 : w53.cell? ⟨gb684, 1, none⟩ = some (.int .i64 a0_1) := (blk_cell BK684.out 1).trans rfl; have hcz54_2 : w53.cell? ⟨gb684, 2, none⟩ = some (.slice A0_2 l0_2.length c0_2) := (blk_cell BK684.out 2).trans rfl; have hfz54_0 := blk_frozen BK684.out 0; have hfz54_1 := blk_frozen BK684.out 1; have hfz54_2 := blk_frozen BK684.out 2) | ((with_reducible refine gate_callee (f := 41) rfl ?_); refine goesL_ (some 31) rfl rfl Try.func41 (by kernel_rfl) rfl #[.agg #[.int .i64 a0_1, .slice A0_2 l0_2.length c0_2], .int .i64 a1] rfl (by (try simp only [List.map_toArray, List.map_cons, List.map_nil]); first | done | rfl | (simp only [List.length_drop, List.length_take]; rfl)) ?_; (with_reducible refine (wageofficeref05_Eval.calls kj3 a0_1 _ _ l0_2 a1 t692 t693 t694 _ ?side1 ?side2 A21.out).mono ?_); (case side1 => repeat (first | exact (Kd.V_reads' HO_685002.out).2.2 | (with_reducible refine Kd.C_alloc ?_ _) | (with_reducible refine Kd.C_drewN ?_ _) | (with_reducible refine Kd.C_drew ?_))); (case side2 => exact (Kd.V_reads' HO_685002.out).2.1); rintro e w55 ⟨rfl, hb⟩; refine ⟨_, rfl, ?_⟩; have n0_ := Aside0.mk (Kd.V_below (by (with_reducible repeat (first | apply Kd.V_alloc | apply Kd.V_drewN | apply Kd.V_drew)); exact HO_685002.out) hb); have n1_ := Aside0.mk (blk_below (g := gb684) (o := .cells #[.int .i64 a0_0, .int .i64 a0_1, .slice A0_2 l0_2.length c0_2] 44 (0, 0)) (by (with_reducible repeat (first | refine blk_drewN ?_ _ | refine blk_drew ?_ | refine blk_alloc ?_ _)); exact BK684.out) hb); have n2_ := Aside0.mk (below_step (by repeat (first | (with_reducible first | exact HB.out | apply below_alloc | apply pw_below_drewN | apply below_drew1 | refine below_set ?_ GE684.out) | exact HB.out)) hb); clear HO_685002; clear BK684; clear HB; have HO_685002 := n0_; have BK684 := n1_; have HB := n2_; clear n0_ n1_ n2_; (try clear hb); (try clear hb2); (try clear hk); (try clear hi)))
            go_ret
            exact ⟨by first | rfl | (simp [errW_none, errW_some] <;> rfl) | (simp [*, errW_none, errW_some] <;> rfl), by repeat (first | (with_reducible first | exact HB.out | apply below_alloc | apply pw_below_drewN | apply below_drew1 | refine below_set ?_ GE684.out) | exact HB.out)⟩

end Go.Proofs.Ytnadfkhllfgoiaa.My
