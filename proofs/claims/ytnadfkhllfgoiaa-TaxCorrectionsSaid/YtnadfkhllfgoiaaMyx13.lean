-- Written by a program of this session (wip/myprint.py), which drives the kit's print over hand-written fragments. Not trusted: Lean checks it.
import Derived.Test.YtnadfkhllfgoiaaMyx0
import Derived.Test.YtnadfkhllfgoiaaMyx27
import Derived.Test.YtnadfkhllfgoiaaMyx28
import Derived.Test.YtnadfkhllfgoiaaMyx36
import Derived.Test.YtnadfkhllfgoiaaMyx40
namespace Go.Proofs.Ytnadfkhllfgoiaa.My
open Go.Proofs.Ytnadfkhllfgoiaa.Aid Go.Proofs.Ytnadfkhllfgoiaa.KdX
open Go.RowKit Go.Proofs.YtnadfkhllfgoiaaW.PrintWords Go.Proofs.YtnadfkhllfgoiaaW.PrintLast Go.Proofs.YtnadfkhllfgoiaaW.PrintMore
attribute [local go_sem] max2_int min2_int max_two min_two max_three min_three max_four min_four   -- for this text's walks alone
set_option linter.unusedVariables false
set_option linter.unusedSimpArgs false

/-! ### wageofficelaw28_TaxCorrections: function 13 -/
def wageofficelaw28_TaxCorrections.j0 : Nat → List Int → Int → Int → Bool → Bool → Int → Int → List (S75) → Option (Bool)
  | 0, _, _, _, _, _, _, _, _ => none
  | k + 1, x1, x2, x3, x9, x37, x650000, x650001, x650002 => if x37 = true then (some x9) else (if (x1.length : Int) = 0 then (none) else (if 0 ≤ (Int.tmod (wrap64 (x2)) (x1.length : Int)) then (if (Int.tmod (wrap64 (x2)) (x1.length : Int)) < (x1.length : Int) then ((wageofficeref28_In.f (rd x1 (Int.tmod (wrap64 (x2)) (x1.length : Int)))).bind fun t657 => (if t657 = true then ((some (([] : List Int) : List Int)).bind fun y658 => (if y658.length + x1.length < 17592186044416 then ((some (y658 ++ x1 : List Int)).bind fun y661 => (if (Int.tmod (wrap64 (x2)) (x1.length : Int)) < (y661.length : Int) then ((some (([] : List Int) : List Int)).bind fun y665 => (if y665.length + x1.length < 17592186044416 then ((some (y665 ++ x1 : List Int)).bind fun y668 => ((some (([wrap64 (x3 - (rd x1 (Int.tmod (wrap64 (x2)) (x1.length : Int))))] : List Int) : List Int)).bind fun y672 => (if y668.length + y672.length < 17592186044416 then ((wageofficelaw28_withheld.f k x650000 x650001 x650002 0 0 (y668 ++ y672)).bind fun bt678 => ((wageofficelaw28_withheld.f k x650000 x650001 x650002 0 0 (y661.set ((Int.tmod (wrap64 (x2)) (x1.length : Int)) : Int).toNat x3)).bind fun bt681 => (if x9 = true then (if bt678.2.2 = true then (if bt681.2.2 = true then (if bt678.1 = bt681.1 then (some (bt678.2.1 == bt681.2.1)) else (some false)) else (some true)) else (some true)) else (some false)))) else (none)))) else (none))) else (none))) else (none))) else (some x9))) else (none)) else (none)))
def wageofficelaw28_TaxCorrections.f (k : Nat) (a0_0 : Int) (a0_1 : Int) (l0_2 : List (S75)) (l1 : List Int) (a2 : Int) (a3 : Int) : Option (Bool) := (wageofficelaw28_head.f).bind fun t650 => ((wageofficelaw28_short.f k (([(⟨a0_0, (⟨a0_1, l0_2⟩ : S42)⟩ : S44)] : List (S44)))).bind fun t654 => (if t654 = true then (if (l1.length : Int) = 0 then (wageofficelaw28_TaxCorrections.j0 k l1 a2 a3 t650 true a0_0 a0_1 l0_2) else (if (l1.length : Int) > 24 then (wageofficelaw28_TaxCorrections.j0 k l1 a2 a3 t650 true a0_0 a0_1 l0_2) else ((wageofficeref28_In.f a3).bind fun t655 => (wageofficelaw28_TaxCorrections.j0 k l1 a2 a3 t650 (!t655) a0_0 a0_1 l0_2)))) else (wageofficelaw28_TaxCorrections.j0 k l1 a2 a3 t650 true a0_0 a0_1 l0_2)))
theorem wageofficelaw28_TaxCorrections.mono_l : ∀ k, (∀ y0 y1 y2 y3 y4 y5 y6 y7, LeO (wageofficelaw28_TaxCorrections.j0 k y0 y1 y2 y3 y4 y5 y6 y7) (wageofficelaw28_TaxCorrections.j0 (k + 1) y0 y1 y2 y3 y4 y5 y6 y7))
  | 0 => fun _ _ _ _ _ _ _ _ r h => by simp [wageofficelaw28_TaxCorrections.j0] at h
  | k + 1 => by
    have ih0 := wageofficelaw28_TaxCorrections.mono_l k
    · intro y0 y1 y2 y3 y4 y5 y6 y7
      unfold wageofficelaw28_TaxCorrections.j0
      repeat' first
      | (with_reducible exact ih0 _ _ _ _ _ _ _ _)
      | (with_reducible exact wageofficelaw28_short.mono _ _)
      | (with_reducible exact wageofficelaw28_withheld.mono _ _ _ _ _ _ _)
      | (with_reducible exact LeO.refl _)
      | (with_reducible exact LeO.none _)
      | (with_reducible refine LeO.ite ?_ ?_)
      | (with_reducible refine LeO.bind ?_ (fun _ => ?_))
      | exact ih0 _ _ _ _ _ _ _ _
      | exact wageofficelaw28_short.mono _ _
      | exact wageofficelaw28_withheld.mono _ _ _ _ _ _ _
      | exact LeO.none _
      | refine LeO.ite ?_ ?_
      | refine LeO.bind ?_ (fun _ => ?_)
theorem wageofficelaw28_TaxCorrections.mono : ∀ a0 a1 a2 a3 a4 a5 k, LeO (wageofficelaw28_TaxCorrections.f k a0 a1 a2 a3 a4 a5) (wageofficelaw28_TaxCorrections.f (k + 1) a0 a1 a2 a3 a4 a5) := by
  intro a0 a1 a2 a3 a4 a5 k
  have ih0 := wageofficelaw28_TaxCorrections.mono_l k
  unfold wageofficelaw28_TaxCorrections.f
  repeat' first
      | (with_reducible exact ih0 _ _ _ _ _ _ _ _)
      | (with_reducible exact wageofficelaw28_short.mono _ _)
      | (with_reducible exact wageofficelaw28_withheld.mono _ _ _ _ _ _ _)
      | (with_reducible exact LeO.refl _)
      | (with_reducible exact LeO.none _)
      | (with_reducible refine LeO.ite ?_ ?_)
      | (with_reducible refine LeO.bind ?_ (fun _ => ?_))
      | exact ih0 _ _ _ _ _ _ _ _
      | exact wageofficelaw28_short.mono _ _
      | exact wageofficelaw28_withheld.mono _ _ _ _ _ _ _
      | exact LeO.none _
      | refine LeO.ite ?_ ?_
      | refine LeO.bind ?_ (fun _ => ?_)
def wageofficelaw28_TaxCorrections.T9 : Bool × List (List Nat × List Nat) := (true, [([], []), ([], []), ([], []), ([1, 2], [1, 2]), ([], []), ([], []), ([], []), ([5, 6], [5, 6]), ([7], [7]), ([4, 8], [4, 8]), ([9], [9]), ([3, 10, 3], [3, 10]), ([0, 11, 11], [0, 11]), ([12], [12]), ([13], [13]), ([13], [13]), ([13], [13]), ([14, 12, 0, 1, 2, 3, 4, 5, 6, 7, 8, 9, 10, 11, 12, 13, 14], [14]), ([15, 17, 0, 1, 2, 3, 4, 5, 6, 7, 8, 9, 10, 11, 12, 13, 14, 15, 17], [15]), ([16, 18, 0, 1, 2, 3, 4, 5, 6, 7, 8, 9, 10, 11, 12, 13, 14, 15, 16, 17, 18], [16])])
def wageofficelaw28_TaxCorrections.B9 : List Nat := [0, 0, 0, 6, 0, 0, 0, 96, 224, 496, 1008, 2046, 4095, 8191, 16383, 16383, 16383, 32767, 196607, 524287]
theorem wageofficelaw28_TaxCorrections.tab9 : rtab .any (opsOf Try.f13 9) = wageofficelaw28_TaxCorrections.T9 := by kernel_rfl
theorem wageofficelaw28_TaxCorrections.bits9 : waitsOk wageofficelaw28_TaxCorrections.T9.2 wageofficelaw28_TaxCorrections.B9 = true := by kernel_rfl
set_option maxHeartbeats 8000000 in
set_option maxRecDepth 100000 in
theorem wageofficelaw28_TaxCorrections.calls (k : Nat) (a0_0 : Int) (a0_1 : Int) (P0_2_ : Nat → Prop) (A0_2 : Option Addr) (c0_2 : Nat) (l0_2 : List (S75)) (A1 : Option Addr) (c1 : Nat) (l1 : List Int) (a2 : Int) (a3 : Int) (r : Bool) (w : World) (hs0_2 : Kd.V k75 75 w w.heap.size (fun k_ => P0_2_ k_) (.slice A0_2 l0_2.length c0_2) l0_2) (hr1 : Kd.C (Kd.int .i64) w A1 l1.length l1) (hc1 : l1.length ≤ c1) (h : wageofficelaw28_TaxCorrections.f k a0_0 a0_1 l0_2 l1 a2 a3 = some r) :
    Calls Try.prog 13 #[.agg #[.int .i64 a0_0, .int .i64 a0_1, .slice A0_2 l0_2.length c0_2], .slice A1 l1.length c1, .int .u8 a2, .int .i64 a3] w fun e w' => e = .returned (.bool r) ∧ Below w.heap.size w w' := by
  have hu44 := Try.underlying44
  have HO0_2 := Aside0.mk (show Kd.V k75 75 w w.heap.size (fun k_ => (P0_2_ k_ ∨ w.heap.size ≤ k_)) (.slice A0_2 l0_2.length c0_2) l0_2 from Kd.V_mono hs0_2 (fun k_ hk => .inl hk))
  have HR1 := Aside0.mk hr1
  have HC1 := Aside0.mk hc1
  clear hr1 hc1
  have HB := Aside0.mk (Below.refl w.heap.size w)
  have H : ((wageofficelaw28_head.f).bind fun t650 => ((wageofficelaw28_short.f k (([(⟨a0_0, (⟨a0_1, l0_2⟩ : S42)⟩ : S44)] : List (S44)))).bind fun t654 => (if t654 = true then (if (l1.length : Int) = 0 then (wageofficelaw28_TaxCorrections.j0 k l1 a2 a3 t650 true a0_0 a0_1 l0_2) else (if (l1.length : Int) > 24 then (wageofficelaw28_TaxCorrections.j0 k l1 a2 a3 t650 true a0_0 a0_1 l0_2) else ((wageofficeref28_In.f a3).bind fun t655 => (wageofficelaw28_TaxCorrections.j0 k l1 a2 a3 t650 (!t655) a0_0 a0_1 l0_2)))) else (wageofficelaw28_TaxCorrections.j0 k l1 a2 a3 t650 true a0_0 a0_1 l0_2)))) = some r := h
  clear h
  replace H := Option.bind_eq_some_iff.mp H
  obtain ⟨t650, A50, H⟩ := H
  replace H : ((wageofficelaw28_short.f k (([(⟨a0_0, (⟨a0_1, l0_2⟩ : S42)⟩ : S44)] : List (S44)))).bind fun t654 => (if t654 = true then (if (l1.length : Int) = 0 then (wageofficelaw28_TaxCorrections.j0 k l1 a2 a3 t650 true a0_0 a0_1 l0_2) else (if (l1.length : Int) > 24 then (wageofficelaw28_TaxCorrections.j0 k l1 a2 a3 t650 true a0_0 a0_1 l0_2) else ((wageofficeref28_In.f a3).bind fun t655 => (wageofficelaw28_TaxCorrections.j0 k l1 a2 a3 t650 (!t655) a0_0 a0_1 l0_2)))) else (wageofficelaw28_TaxCorrections.j0 k l1 a2 a3 t650 true a0_0 a0_1 l0_2))) = some r := H
  have A5 := Aside0.mk A50
  clear A50
  have HC6 := Aside0.mk H
  clear H
  go_enter Try.func13, Try.ntmps13
  go_upto_region 2 with (first | ((with_reducible refine gate_dst (N := 4) rfl ?_); (try (refine gate_guard (by rfl) ?_; dsimp only)); refine box_event ?hg (N := 4) ?hd (cs := #[.int .i64 a0_0, .int .i64 a0_1, .slice A0_2 l0_2.length c0_2]) (t := 44) ?hr ?_; (case hd => rfl); (case hg => rfl); (case hr => first | (go_simp; done) | (go_simp; rfl)); intro gb649 hg w7 hbox hb; have n0_ := Aside0.mk (Kd.V_below (Kd.V_elderB (by (with_reducible repeat (first | apply Kd.V_alloc | apply Kd.V_drewN | apply Kd.V_drew)); exact HO0_2.out) gb649 (Nat.le_of_eq hg.symm)) hb); have n1_ := Aside0.mk (below_step (by repeat (first | (with_reducible first | exact HB.out | apply below_alloc | apply pw_below_drewN | apply below_drew1) | exact HB.out)) hb); have n2_ := Aside0.mk (hbox); have n3_ := Aside0.mk ((by rw [hg]; exact (below_size (by repeat (first | (with_reducible first | exact HB.out | apply below_alloc | apply pw_below_drewN | apply below_drew1) | exact HB.out))) : w.heap.size ≤ gb649)); have n4_ := Aside0.mk ((by rw [hg]; exact (below_size (by repeat (first | (with_reducible first | exact HB.out | apply below_alloc | apply pw_below_drewN | apply below_drew1) | exact HB.out))) : w.heap.size ≤ gb649)); clear HO0_2; clear HB; have HO0_2 := n0_; have HB := n1_; have BK649 := n2_; have GW649 := n3_; have GE649 := n4_; clear n0_ n1_ n2_ n3_ n4_; clear hb hbox hg) | ((with_reducible refine gate_callee (f := 27) rfl ?_); refine goesL_ (some 18) rfl rfl Try.func27 (by kernel_rfl) rfl #[] rfl (by (try simp only [List.map_toArray, List.map_cons, List.map_nil]); first | done | rfl | (simp only [List.length_drop, List.length_take]; rfl)) ?_; (with_reducible refine (wageofficelaw28_head.calls  t650 _ A5.out).mono ?_); rintro e w8 ⟨rfl, hb⟩; refine ⟨_, rfl, ?_⟩; have n0_ := Aside0.mk (Kd.V_below (by (with_reducible repeat (first | apply Kd.V_alloc | apply Kd.V_drewN | apply Kd.V_drew)); exact HO0_2.out) hb); have n1_ := Aside0.mk (blk_below (g := gb649) (o := .cells #[.int .i64 a0_0, .int .i64 a0_1, .slice A0_2 l0_2.length c0_2] 44 (0, 0)) (by (with_reducible repeat (first | refine blk_drewN ?_ _ | refine blk_drew ?_ | refine blk_alloc ?_ _)); exact BK649.out) hb); have n2_ := Aside0.mk (below_step (by repeat (first | (with_reducible first | exact HB.out | apply below_alloc | apply pw_below_drewN | apply below_drew1 | refine below_set ?_ GE649.out) | exact HB.out)) hb); clear HO0_2; clear BK649; clear HB; have HO0_2 := n0_; have BK649 := n1_; have HB := n2_; clear n0_ n1_ n2_; (try clear hb); (try clear hb2); (try clear hk); (try clear hi)))
  (try simp only [Act.put, List.setIfInBounds_toArray, List.set_cons_zero, List.set_cons_succ])
  go_cut [37] (fun v37 wc => ∃ (kq : Nat) (x37_5 : Bool), v37 = .bool x37_5 ∧ Aside0 (wageofficelaw28_TaxCorrections.j0 kq l1 a2 a3 t650 x37_5 a0_0 a0_1 l0_2 = some r) ∧ Aside0 (kq ≤ k) ∧ Aside0 (Kd.V k75 75 wc w.heap.size (fun k_ => (P0_2_ k_ ∨ w.heap.size ≤ k_) ∧ k_ ≠ gb649) (.slice A0_2 l0_2.length c0_2) l0_2) ∧ Aside0 (wc.heap[gb649]? = some (.cells #[.int .i64 a0_0, .int .i64 a0_1, (.slice A0_2 l0_2.length c0_2)] 44 (0, 0))) ∧ Aside0 (Below w.heap.size w wc))
  case first =>
    have H := HC6.out
    clear HC6
    obtain ⟨y651, hy651⟩ : ∃ y_ : List (S44), y_ = (([(⟨a0_0, (⟨a0_1, l0_2⟩ : S42)⟩ : S44)] : List (S44))) := ⟨_, rfl⟩
    replace H : ((wageofficelaw28_short.f k y651).bind fun t654 => (if t654 = true then (if (l1.length : Int) = 0 then (wageofficelaw28_TaxCorrections.j0 k l1 a2 a3 t650 true a0_0 a0_1 l0_2) else (if (l1.length : Int) > 24 then (wageofficelaw28_TaxCorrections.j0 k l1 a2 a3 t650 true a0_0 a0_1 l0_2) else ((wageofficeref28_In.f a3).bind fun t655 => (wageofficelaw28_TaxCorrections.j0 k l1 a2 a3 t650 (!t655) a0_0 a0_1 l0_2)))) else (wageofficelaw28_TaxCorrections.j0 k l1 a2 a3 t650 true a0_0 a0_1 l0_2))) = some r := by first | (rw [hy651]; with_reducible exact H) | (have H2_ := (Option.bind_some _ _).symm.trans H; rw [hy651]; with_reducible exact H2_) | (have H2_ := (Option.bind_some _ _).symm.trans H; with_reducible exact H2_) | with_reducible exact H | (rw [hy651]; exact H) | exact H
    have Ny651 := Aside0.mk hy651
    clear hy651
    replace H := Option.bind_eq_some_iff.mp H
    obtain ⟨t654, A90, H⟩ := H
    replace H : (if t654 = true then (if (l1.length : Int) = 0 then (wageofficelaw28_TaxCorrections.j0 k l1 a2 a3 t650 true a0_0 a0_1 l0_2) else (if (l1.length : Int) > 24 then (wageofficelaw28_TaxCorrections.j0 k l1 a2 a3 t650 true a0_0 a0_1 l0_2) else ((wageofficeref28_In.f a3).bind fun t655 => (wageofficelaw28_TaxCorrections.j0 k l1 a2 a3 t650 (!t655) a0_0 a0_1 l0_2)))) else (wageofficelaw28_TaxCorrections.j0 k l1 a2 a3 t650 true a0_0 a0_1 l0_2)) = some r := H
    have A9 := Aside0.mk A90
    clear A90
    by_cases c10 : t654 = true
    · subst c10
      have H1 : (if (l1.length : Int) = 0 then (wageofficelaw28_TaxCorrections.j0 k l1 a2 a3 t650 true a0_0 a0_1 l0_2) else (if (l1.length : Int) > 24 then (wageofficelaw28_TaxCorrections.j0 k l1 a2 a3 t650 true a0_0 a0_1 l0_2) else ((wageofficeref28_In.f a3).bind fun t655 => (wageofficelaw28_TaxCorrections.j0 k l1 a2 a3 t650 (!t655) a0_0 a0_1 l0_2)))) = some r := by rw [if_pos rfl] at H; exact H
      clear H
      have H := H1
      clear H1
      by_cases c11 : (l1.length : Int) = 0
      · rw [if_pos c11] at H
        have c11b0 : ((l1.length : Int) == 0) = true := beq_iff_eq.mpr c11
        have c11b1 : ((l1.length : Int) != 0) = false := bne_eq_false_iff_eq.mpr c11
        clear c11
        (first | rw [c11b0] | (simp only [i64_w, i32_w]; rw [c11b0]) | skip)
        have H' := Aside0.mk H
        clear H
        have hcz12_0 : w8.cell? ⟨gb649, 0, none⟩ = some (.int .i64 a0_0) := (blk_cell BK649.out 0).trans rfl
        have hcz12_1 : w8.cell? ⟨gb649, 1, none⟩ = some (.int .i64 a0_1) := (blk_cell BK649.out 1).trans rfl
        have hcz12_2 : w8.cell? ⟨gb649, 2, none⟩ = some (.slice A0_2 l0_2.length c0_2) := (blk_cell BK649.out 2).trans rfl
        have hfz12_0 := blk_frozen BK649.out 0
        have hfz12_1 := blk_frozen BK649.out 1
        have hfz12_2 := blk_frozen BK649.out 2
        go_wp2_with (first | ((with_reducible refine gate_dst (N := 20) rfl ?_); (try (refine gate_guard (by rfl) ?_; dsimp only)); refine Kd.N_lit k44 _ 44 ?hg (N' := 20) ?hd (xs := ([(⟨a0_0, (⟨a0_1, l0_2⟩ : S42)⟩ : S44)] : List (S44))) (inner := [.int .i64 a0_0, .int .i64 a0_1, .slice A0_2 l0_2.length c0_2]) (ok := (fun k_ => (P0_2_ k_ ∨ w.heap.size ≤ k_) ∧ k_ ≠ gb649)) (okp := (fun k_ => (P0_2_ k_ ∨ w.heap.size ≤ k_) ∧ k_ ≠ gb649)) ?hr ?hp (fun _ hk => hk) ((show ∀ k_, w8.heap.size ≤ k_ → (fun k_ => (P0_2_ k_ ∨ w.heap.size ≤ k_) ∧ k_ ≠ gb649) k_ from fun k_ hk => ⟨(.inr (Nat.le_trans (below_size (by repeat (first | (with_reducible first | exact HB.out | apply below_alloc | apply pw_below_drewN | apply below_drew1 | refine below_set ?_ GE649.out) | exact HB.out))) hk)), Kd.freshB (g := gb649) (o := .cells #[.int .i64 a0_0, .int .i64 a0_1, .slice A0_2 l0_2.length c0_2] 44 (0, 0)) (by (with_reducible repeat (first | refine blk_drewN ?_ _ | refine blk_drew ?_ | refine blk_alloc ?_ _)); exact BK649.out) k_ hk⟩) _ (Nat.le_refl _)) (Below.refl _ _) (Nat.le_refl _) (by simp) ?_; (case hd => rfl); (case hg => rfl); (case hr => first | (go_simp; done) | (go_simp; rfl)); (case hp => exact (Reps.c3 (show Kd.FK k44 _ _ (⟨a0_0, (⟨a0_1, l0_2⟩ : S42)⟩ : S44) [.int .i64 a0_0, .int .i64 a0_1, .slice A0_2 l0_2.length c0_2] from (k44_mkF _ _ (⟨a0_0, (⟨a0_1, l0_2⟩ : S42)⟩ : S44) (Kd.V_reads' (Kd.V_mono (ok' := (fun k_ => (P0_2_ k_ ∨ w.heap.size ≤ k_) ∧ k_ ≠ gb649)) (HO0_2.out) (fun k_ hk => ⟨hk.1, hk.2⟩))).2.1 (Kd.V_F (Kd.V_mono (ok' := (fun k_ => (P0_2_ k_ ∨ w.heap.size ≤ k_) ∧ k_ ≠ gb649)) (HO0_2.out) (fun k_ hk => ⟨hk.1, hk.2⟩))))) (Reps.none _ _))); intro v652 w13 ho14 hb hg_ hnew_; clear hg_ hnew_; (first | rw [← Ny651.out] at ho14 | (simp only [Int.reduceToNat] at ho14; rw [← Ny651.out] at ho14)); have n0_ := Aside0.mk (Kd.V_elder' (by (with_reducible repeat (first | apply Kd.V_alloc | apply Kd.V_drewN | apply Kd.V_drew)); exact HO0_2.out) (Kd.N_base ho14) hb); have n1_ := Aside0.mk (Kd.N_lower ho14 (below_size (by repeat (first | (with_reducible first | exact HB.out | apply below_alloc | apply pw_below_drewN | apply below_drew1 | refine below_set ?_ GE649.out) | exact HB.out)))); have n2_ := Aside0.mk (blk_below (g := gb649) (o := .cells #[.int .i64 a0_0, .int .i64 a0_1, .slice A0_2 l0_2.length c0_2] 44 (0, 0)) (by (with_reducible repeat (first | refine blk_drewN ?_ _ | refine blk_drew ?_ | refine blk_alloc ?_ _)); exact BK649.out) hb); have n3_ := Aside0.mk (below_step (by repeat (first | (with_reducible first | exact HB.out | apply below_alloc | apply pw_below_drewN | apply below_drew1 | refine below_set ?_ GE649.out) | exact HB.out)) hb); clear HO0_2; clear BK649; clear HB; have HO0_2 := n0_; have HO653 := n1_; have BK649 := n2_; have HB := n3_; clear n0_ n1_ n2_ n3_; clear hb ho14; obtain ⟨Ao15, co15, eo15⟩ := Kd.N_slice HO653.out; subst eo15) | ((with_reducible refine gate_callee (f := 28) rfl ?_); refine goesL_ (some 21) rfl rfl Try.func28 (by kernel_rfl) rfl #[.slice Ao15 y651.length co15] rfl (by (try simp only [List.map_toArray, List.map_cons, List.map_nil]); first | done | rfl | (simp only [List.length_drop, List.length_take]; rfl)) ?_; (with_reducible refine (wageofficelaw28_short.calls k _ _ y651 true _ ?side1 ?side2 A9.out).mono ?_); (case side1 => repeat (first | exact (Kd.N_reads' HO653.out).2.2 | (with_reducible refine Kd.C_alloc ?_ _) | (with_reducible refine Kd.C_drewN ?_ _) | (with_reducible refine Kd.C_drew ?_))); (case side2 => exact (Kd.N_reads' HO653.out).2.1); rintro e w16 ⟨rfl, hb⟩; refine ⟨_, rfl, ?_⟩; have n0_ := Aside0.mk (Kd.V_below (by (with_reducible repeat (first | apply Kd.V_alloc | apply Kd.V_drewN | apply Kd.V_drew)); exact HO0_2.out) hb); have n1_ := Aside0.mk (Kd.N_below (by (with_reducible repeat (first | apply Kd.N_alloc | apply Kd.N_drewN | apply Kd.N_drew)); exact HO653.out) hb); have n2_ := Aside0.mk (blk_below (g := gb649) (o := .cells #[.int .i64 a0_0, .int .i64 a0_1, .slice A0_2 l0_2.length c0_2] 44 (0, 0)) (by (with_reducible repeat (first | refine blk_drewN ?_ _ | refine blk_drew ?_ | refine blk_alloc ?_ _)); exact BK649.out) hb); have n3_ := Aside0.mk (below_step (by repeat (first | (with_reducible first | exact HB.out | apply below_alloc | apply pw_below_drewN | apply below_drew1 | refine below_set ?_ GE649.out) | exact HB.out)) hb); clear HO0_2; clear HO653; clear BK649; clear HB; have HO0_2 := n0_; have HO653 := n1_; have BK649 := n2_; have HB := n3_; clear n0_ n1_ n2_ n3_; (try clear hb); (try clear hb2); (try clear hk); (try clear hi)))
        go_meet
        case rel => exact ⟨_, (true), (by first | rfl | (simp; done) | (simp [*]; done)), H', ⟨by first | omega | exact Nat.le_refl _⟩, ⟨by (with_reducible repeat (first | apply Kd.V_alloc | apply Kd.V_drewN | apply Kd.V_drew)); exact Kd.V_mono HO0_2.out (fun _ hk => ⟨hk.1.1, hk.1.2⟩)⟩, ⟨by (with_reducible repeat (first | refine blk_drewN ?_ _ | refine blk_drew ?_ | refine blk_alloc ?_ _)); exact BK649.out⟩, ⟨by repeat (first | (with_reducible first | exact HB.out | apply below_alloc | apply pw_below_drewN | apply below_drew1 | refine below_set ?_ GE649.out) | exact HB.out)⟩⟩
      · rw [if_neg c11] at H
        have c11b0 : ((l1.length : Int) == 0) = false := beq_eq_false_iff_ne.mpr c11
        have c11b1 : ((l1.length : Int) != 0) = true := bne_iff_ne.mpr c11
        have c11b2 : ¬ (l1 = []) := fun h_ => c11 (by rw [h_]; rfl)
        (first | rw [c11b0] | (simp only [i64_w, i32_w]; rw [c11b0]) | skip)
        by_cases c17 : (l1.length : Int) > 24
        · rw [if_pos c17] at H
          have c17b0 : decide (24 < (l1.length : Int)) = true := decide_eq_true c17
          have c17b1 : decide (24 < l1.length) = true := decide_eq_true (by omega)
          clear c17
          have H' := Aside0.mk H
          clear H
          have hcz18_0 : w8.cell? ⟨gb649, 0, none⟩ = some (.int .i64 a0_0) := (blk_cell BK649.out 0).trans rfl
          have hcz18_1 : w8.cell? ⟨gb649, 1, none⟩ = some (.int .i64 a0_1) := (blk_cell BK649.out 1).trans rfl
          have hcz18_2 : w8.cell? ⟨gb649, 2, none⟩ = some (.slice A0_2 l0_2.length c0_2) := (blk_cell BK649.out 2).trans rfl
          have hfz18_0 := blk_frozen BK649.out 0
          have hfz18_1 := blk_frozen BK649.out 1
          have hfz18_2 := blk_frozen BK649.out 2
          go_wp2_with (first | ((with_reducible refine gate_dst (N := 20) rfl ?_); (try (refine gate_guard (by rfl) ?_; dsimp only)); refine Kd.N_lit k44 _ 44 ?hg (N' := 20) ?hd (xs := ([(⟨a0_0, (⟨a0_1, l0_2⟩ : S42)⟩ : S44)] : List (S44))) (inner := [.int .i64 a0_0, .int .i64 a0_1, .slice A0_2 l0_2.length c0_2]) (ok := (fun k_ => (P0_2_ k_ ∨ w.heap.size ≤ k_) ∧ k_ ≠ gb649)) (okp := (fun k_ => (P0_2_ k_ ∨ w.heap.size ≤ k_) ∧ k_ ≠ gb649)) ?hr ?hp (fun _ hk => hk) ((show ∀ k_, w8.heap.size ≤ k_ → (fun k_ => (P0_2_ k_ ∨ w.heap.size ≤ k_) ∧ k_ ≠ gb649) k_ from fun k_ hk => ⟨(.inr (Nat.le_trans (below_size (by repeat (first | (with_reducible first | exact HB.out | apply below_alloc | apply pw_below_drewN | apply below_drew1 | refine below_set ?_ GE649.out) | exact HB.out))) hk)), Kd.freshB (g := gb649) (o := .cells #[.int .i64 a0_0, .int .i64 a0_1, .slice A0_2 l0_2.length c0_2] 44 (0, 0)) (by (with_reducible repeat (first | refine blk_drewN ?_ _ | refine blk_drew ?_ | refine blk_alloc ?_ _)); exact BK649.out) k_ hk⟩) _ (Nat.le_refl _)) (Below.refl _ _) (Nat.le_refl _) (by simp) ?_; (case hd => rfl); (case hg => rfl); (case hr => first | (go_simp; done) | (go_simp; rfl)); (case hp => exact (Reps.c3 (show Kd.FK k44 _ _ (⟨a0_0, (⟨a0_1, l0_2⟩ : S42)⟩ : S44) [.int .i64 a0_0, .int .i64 a0_1, .slice A0_2 l0_2.length c0_2] from (k44_mkF _ _ (⟨a0_0, (⟨a0_1, l0_2⟩ : S42)⟩ : S44) (Kd.V_reads' (Kd.V_mono (ok' := (fun k_ => (P0_2_ k_ ∨ w.heap.size ≤ k_) ∧ k_ ≠ gb649)) (HO0_2.out) (fun k_ hk => ⟨hk.1, hk.2⟩))).2.1 (Kd.V_F (Kd.V_mono (ok' := (fun k_ => (P0_2_ k_ ∨ w.heap.size ≤ k_) ∧ k_ ≠ gb649)) (HO0_2.out) (fun k_ hk => ⟨hk.1, hk.2⟩))))) (Reps.none _ _))); intro v652 w19 ho20 hb hg_ hnew_; clear hg_ hnew_; (first | rw [← Ny651.out] at ho20 | (simp only [Int.reduceToNat] at ho20; rw [← Ny651.out] at ho20)); have n0_ := Aside0.mk (Kd.V_elder' (by (with_reducible repeat (first | apply Kd.V_alloc | apply Kd.V_drewN | apply Kd.V_drew)); exact HO0_2.out) (Kd.N_base ho20) hb); have n1_ := Aside0.mk (Kd.N_lower ho20 (below_size (by repeat (first | (with_reducible first | exact HB.out | apply below_alloc | apply pw_below_drewN | apply below_drew1 | refine below_set ?_ GE649.out) | exact HB.out)))); have n2_ := Aside0.mk (blk_below (g := gb649) (o := .cells #[.int .i64 a0_0, .int .i64 a0_1, .slice A0_2 l0_2.length c0_2] 44 (0, 0)) (by (with_reducible repeat (first | refine blk_drewN ?_ _ | refine blk_drew ?_ | refine blk_alloc ?_ _)); exact BK649.out) hb); have n3_ := Aside0.mk (below_step (by repeat (first | (with_reducible first | exact HB.out | apply below_alloc | apply pw_below_drewN | apply below_drew1 | refine below_set ?_ GE649.out) | exact HB.out)) hb); clear HO0_2; clear BK649; clear HB; have HO0_2 := n0_; have HO653 := n1_; have BK649 := n2_; have HB := n3_; clear n0_ n1_ n2_ n3_; clear hb ho20; obtain ⟨Ao21, co21, eo21⟩ := Kd.N_slice HO653.out; subst eo21) | ((with_reducible refine gate_callee (f := 28) rfl ?_); refine goesL_ (some 21) rfl rfl Try.func28 (by kernel_rfl) rfl #[.slice Ao21 y651.length co21] rfl (by (try simp only [List.map_toArray, List.map_cons, List.map_nil]); first | done | rfl | (simp only [List.length_drop, List.length_take]; rfl)) ?_; (with_reducible refine (wageofficelaw28_short.calls k _ _ y651 true _ ?side1 ?side2 A9.out).mono ?_); (case side1 => repeat (first | exact (Kd.N_reads' HO653.out).2.2 | (with_reducible refine Kd.C_alloc ?_ _) | (with_reducible refine Kd.C_drewN ?_ _) | (with_reducible refine Kd.C_drew ?_))); (case side2 => exact (Kd.N_reads' HO653.out).2.1); rintro e w22 ⟨rfl, hb⟩; refine ⟨_, rfl, ?_⟩; have n0_ := Aside0.mk (Kd.V_below (by (with_reducible repeat (first | apply Kd.V_alloc | apply Kd.V_drewN | apply Kd.V_drew)); exact HO0_2.out) hb); have n1_ := Aside0.mk (Kd.N_below (by (with_reducible repeat (first | apply Kd.N_alloc | apply Kd.N_drewN | apply Kd.N_drew)); exact HO653.out) hb); have n2_ := Aside0.mk (blk_below (g := gb649) (o := .cells #[.int .i64 a0_0, .int .i64 a0_1, .slice A0_2 l0_2.length c0_2] 44 (0, 0)) (by (with_reducible repeat (first | refine blk_drewN ?_ _ | refine blk_drew ?_ | refine blk_alloc ?_ _)); exact BK649.out) hb); have n3_ := Aside0.mk (below_step (by repeat (first | (with_reducible first | exact HB.out | apply below_alloc | apply pw_below_drewN | apply below_drew1 | refine below_set ?_ GE649.out) | exact HB.out)) hb); clear HO0_2; clear HO653; clear BK649; clear HB; have HO0_2 := n0_; have HO653 := n1_; have BK649 := n2_; have HB := n3_; clear n0_ n1_ n2_ n3_; (try clear hb); (try clear hb2); (try clear hk); (try clear hi)))
          go_meet
          case rel => exact ⟨_, (true), (by first | rfl | (simp; done) | (simp [*]; done)), H', ⟨by first | omega | exact Nat.le_refl _⟩, ⟨by (with_reducible repeat (first | apply Kd.V_alloc | apply Kd.V_drewN | apply Kd.V_drew)); exact Kd.V_mono HO0_2.out (fun _ hk => ⟨hk.1.1, hk.1.2⟩)⟩, ⟨by (with_reducible repeat (first | refine blk_drewN ?_ _ | refine blk_drew ?_ | refine blk_alloc ?_ _)); exact BK649.out⟩, ⟨by repeat (first | (with_reducible first | exact HB.out | apply below_alloc | apply pw_below_drewN | apply below_drew1 | refine below_set ?_ GE649.out) | exact HB.out)⟩⟩
        · rw [if_neg c17] at H
          have c17b0 : decide (24 < (l1.length : Int)) = false := decide_eq_false c17
          have c17b1 : decide (24 < l1.length) = false := decide_eq_false (by omega)
          clear c17
          replace H := Option.bind_eq_some_iff.mp H
          obtain ⟨t655, A230, H⟩ := H
          replace H : (wageofficelaw28_TaxCorrections.j0 k l1 a2 a3 t650 (!t655) a0_0 a0_1 l0_2) = some r := H
          have A23 := Aside0.mk A230
          clear A230
          have H' := Aside0.mk H
          clear H
          have hcz24_0 : w8.cell? ⟨gb649, 0, none⟩ = some (.int .i64 a0_0) := (blk_cell BK649.out 0).trans rfl
          have hcz24_1 : w8.cell? ⟨gb649, 1, none⟩ = some (.int .i64 a0_1) := (blk_cell BK649.out 1).trans rfl
          have hcz24_2 : w8.cell? ⟨gb649, 2, none⟩ = some (.slice A0_2 l0_2.length c0_2) := (blk_cell BK649.out 2).trans rfl
          have hfz24_0 := blk_frozen BK649.out 0
          have hfz24_1 := blk_frozen BK649.out 1
          have hfz24_2 := blk_frozen BK649.out 2
          go_wp2_with (first | ((with_reducible refine gate_dst (N := 20) rfl ?_); (try (refine gate_guard (by rfl) ?_; dsimp only)); refine Kd.N_lit k44 _ 44 ?hg (N' := 20) ?hd (xs := ([(⟨a0_0, (⟨a0_1, l0_2⟩ : S42)⟩ : S44)] : List (S44))) (inner := [.int .i64 a0_0, .int .i64 a0_1, .slice A0_2 l0_2.length c0_2]) (ok := (fun k_ => (P0_2_ k_ ∨ w.heap.size ≤ k_) ∧ k_ ≠ gb649)) (okp := (fun k_ => (P0_2_ k_ ∨ w.heap.size ≤ k_) ∧ k_ ≠ gb649)) ?hr ?hp (fun _ hk => hk) ((show ∀ k_, w8.heap.size ≤ k_ → (fun k_ => (P0_2_ k_ ∨ w.heap.size ≤ k_) ∧ k_ ≠ gb649) k_ from fun k_ hk => ⟨(.inr (Nat.le_trans (below_size (by repeat (first | (with_reducible first | exact HB.out | apply below_alloc | apply pw_below_drewN | apply below_drew1 | refine below_set ?_ GE649.out) | exact HB.out))) hk)), Kd.freshB (g := gb649) (o := .cells #[.int .i64 a0_0, .int .i64 a0_1, .slice A0_2 l0_2.length c0_2] 44 (0, 0)) (by (with_reducible repeat (first | refine blk_drewN ?_ _ | refine blk_drew ?_ | refine blk_alloc ?_ _)); exact BK649.out) k_ hk⟩) _ (Nat.le_refl _)) (Below.refl _ _) (Nat.le_refl _) (by simp) ?_; (case hd => rfl); (case hg => rfl); (case hr => first | (go_simp; done) | (go_simp; rfl)); (case hp => exact (Reps.c3 (show Kd.FK k44 _ _ (⟨a0_0, (⟨a0_1, l0_2⟩ : S42)⟩ : S44) [.int .i64 a0_0, .int .i64 a0_1, .slice A0_2 l0_2.length c0_2] from (k44_mkF _ _ (⟨a0_0, (⟨a0_1, l0_2⟩ : S42)⟩ : S44) (Kd.V_reads' (Kd.V_mono (ok' := (fun k_ => (P0_2_ k_ ∨ w.heap.size ≤ k_) ∧ k_ ≠ gb649)) (HO0_2.out) (fun k_ hk => ⟨hk.1, hk.2⟩))).2.1 (Kd.V_F (Kd.V_mono (ok' := (fun k_ => (P0_2_ k_ ∨ w.heap.size ≤ k_) ∧ k_ ≠ gb649)) (HO0_2.out) (fun k_ hk => ⟨hk.1, hk.2⟩))))) (Reps.none _ _))); intro v652 w25 ho26 hb hg_ hnew_; clear hg_ hnew_; (first | rw [← Ny651.out] at ho26 | (simp only [Int.reduceToNat] at ho26; rw [← Ny651.out] at ho26)); have n0_ := Aside0.mk (Kd.V_elder' (by (with_reducible repeat (first | apply Kd.V_alloc | apply Kd.V_drewN | apply Kd.V_drew)); exact HO0_2.out) (Kd.N_base ho26) hb); have n1_ := Aside0.mk (Kd.N_lower ho26 (below_size (by repeat (first | (with_reducible first | exact HB.out | apply below_alloc | apply pw_below_drewN | apply below_drew1 | refine below_set ?_ GE649.out) | exact HB.out)))); have n2_ := Aside0.mk (blk_below (g := gb649) (o := .cells #[.int .i64 a0_0, .int .i64 a0_1, .slice A0_2 l0_2.length c0_2] 44 (0, 0)) (by (with_reducible repeat (first | refine blk_drewN ?_ _ | refine blk_drew ?_ | refine blk_alloc ?_ _)); exact BK649.out) hb); have n3_ := Aside0.mk (below_step (by repeat (first | (with_reducible first | exact HB.out | apply below_alloc | apply pw_below_drewN | apply below_drew1 | refine below_set ?_ GE649.out) | exact HB.out)) hb); clear HO0_2; clear BK649; clear HB; have HO0_2 := n0_; have HO653 := n1_; have BK649 := n2_; have HB := n3_; clear n0_ n1_ n2_ n3_; clear hb ho26; obtain ⟨Ao27, co27, eo27⟩ := Kd.N_slice HO653.out; subst eo27) | ((with_reducible refine gate_callee (f := 28) rfl ?_); refine goesL_ (some 21) rfl rfl Try.func28 (by kernel_rfl) rfl #[.slice Ao27 y651.length co27] rfl (by (try simp only [List.map_toArray, List.map_cons, List.map_nil]); first | done | rfl | (simp only [List.length_drop, List.length_take]; rfl)) ?_; (with_reducible refine (wageofficelaw28_short.calls k _ _ y651 true _ ?side1 ?side2 A9.out).mono ?_); (case side1 => repeat (first | exact (Kd.N_reads' HO653.out).2.2 | (with_reducible refine Kd.C_alloc ?_ _) | (with_reducible refine Kd.C_drewN ?_ _) | (with_reducible refine Kd.C_drew ?_))); (case side2 => exact (Kd.N_reads' HO653.out).2.1); rintro e w28 ⟨rfl, hb⟩; refine ⟨_, rfl, ?_⟩; have n0_ := Aside0.mk (Kd.V_below (by (with_reducible repeat (first | apply Kd.V_alloc | apply Kd.V_drewN | apply Kd.V_drew)); exact HO0_2.out) hb); have n1_ := Aside0.mk (Kd.N_below (by (with_reducible repeat (first | apply Kd.N_alloc | apply Kd.N_drewN | apply Kd.N_drew)); exact HO653.out) hb); have n2_ := Aside0.mk (blk_below (g := gb649) (o := .cells #[.int .i64 a0_0, .int .i64 a0_1, .slice A0_2 l0_2.length c0_2] 44 (0, 0)) (by (with_reducible repeat (first | refine blk_drewN ?_ _ | refine blk_drew ?_ | refine blk_alloc ?_ _)); exact BK649.out) hb); have n3_ := Aside0.mk (below_step (by repeat (first | (with_reducible first | exact HB.out | apply below_alloc | apply pw_below_drewN | apply below_drew1 | refine below_set ?_ GE649.out) | exact HB.out)) hb); clear HO0_2; clear HO653; clear BK649; clear HB; have HO0_2 := n0_; have HO653 := n1_; have BK649 := n2_; have HB := n3_; clear n0_ n1_ n2_ n3_; (try clear hb); (try clear hb2); (try clear hk); (try clear hi)) | (go_at_call 40; (with_reducible refine (wageofficeref28_In.calls a3 t655 _ A23.out).mono ?_); rintro e w' ⟨rfl, ⟨nd, rfl⟩⟩))
          go_meet
          case rel => exact ⟨_, (!t655), (by first | rfl | (simp; done) | (simp [*]; done)), H', ⟨by first | omega | exact Nat.le_refl _⟩, ⟨by (with_reducible repeat (first | apply Kd.V_alloc | apply Kd.V_drewN | apply Kd.V_drew)); exact Kd.V_mono HO0_2.out (fun _ hk => ⟨hk.1.1, hk.1.2⟩)⟩, ⟨by (with_reducible repeat (first | refine blk_drewN ?_ _ | refine blk_drew ?_ | refine blk_alloc ?_ _)); exact BK649.out⟩, ⟨by repeat (first | (with_reducible first | exact HB.out | apply below_alloc | apply pw_below_drewN | apply below_drew1 | refine below_set ?_ GE649.out) | exact HB.out)⟩⟩
    · replace c10 := Bool.eq_false_iff.mpr c10
      subst c10
      have H1 : (wageofficelaw28_TaxCorrections.j0 k l1 a2 a3 t650 true a0_0 a0_1 l0_2) = some r := by rw [if_neg (show ¬ (false = true) by decide)] at H; exact H
      clear H
      have H := H1
      clear H1
      have H' := Aside0.mk H
      clear H
      have hcz29_0 : w8.cell? ⟨gb649, 0, none⟩ = some (.int .i64 a0_0) := (blk_cell BK649.out 0).trans rfl
      have hcz29_1 : w8.cell? ⟨gb649, 1, none⟩ = some (.int .i64 a0_1) := (blk_cell BK649.out 1).trans rfl
      have hcz29_2 : w8.cell? ⟨gb649, 2, none⟩ = some (.slice A0_2 l0_2.length c0_2) := (blk_cell BK649.out 2).trans rfl
      have hfz29_0 := blk_frozen BK649.out 0
      have hfz29_1 := blk_frozen BK649.out 1
      have hfz29_2 := blk_frozen BK649.out 2
      go_wp2_with (first | ((with_reducible refine gate_dst (N := 20) rfl ?_); (try (refine gate_guard (by rfl) ?_; dsimp only)); refine Kd.N_lit k44 _ 44 ?hg (N' := 20) ?hd (xs := ([(⟨a0_0, (⟨a0_1, l0_2⟩ : S42)⟩ : S44)] : List (S44))) (inner := [.int .i64 a0_0, .int .i64 a0_1, .slice A0_2 l0_2.length c0_2]) (ok := (fun k_ => (P0_2_ k_ ∨ w.heap.size ≤ k_) ∧ k_ ≠ gb649)) (okp := (fun k_ => (P0_2_ k_ ∨ w.heap.size ≤ k_) ∧ k_ ≠ gb649)) ?hr ?hp (fun _ hk => hk) ((show ∀ k_, w8.heap.size ≤ k_ → (fun k_ => (P0_2_ k_ ∨ w.heap.size ≤ k_) ∧ k_ ≠ gb649) k_ from fun k_ hk => ⟨(.inr (Nat.le_trans (below_size (by repeat (first | (with_reducible first | exact HB.out | apply below_alloc | apply pw_below_drewN | apply below_drew1 | refine below_set ?_ GE649.out) | exact HB.out))) hk)), Kd.freshB (g := gb649) (o := .cells #[.int .i64 a0_0, .int .i64 a0_1, .slice A0_2 l0_2.length c0_2] 44 (0, 0)) (by (with_reducible repeat (first | refine blk_drewN ?_ _ | refine blk_drew ?_ | refine blk_alloc ?_ _)); exact BK649.out) k_ hk⟩) _ (Nat.le_refl _)) (Below.refl _ _) (Nat.le_refl _) (by simp) ?_; (case hd => rfl); (case hg => rfl); (case hr => first | (go_simp; done) | (go_simp; rfl)); (case hp => exact (Reps.c3 (show Kd.FK k44 _ _ (⟨a0_0, (⟨a0_1, l0_2⟩ : S42)⟩ : S44) [.int .i64 a0_0, .int .i64 a0_1, .slice A0_2 l0_2.length c0_2] from (k44_mkF _ _ (⟨a0_0, (⟨a0_1, l0_2⟩ : S42)⟩ : S44) (Kd.V_reads' (Kd.V_mono (ok' := (fun k_ => (P0_2_ k_ ∨ w.heap.size ≤ k_) ∧ k_ ≠ gb649)) (HO0_2.out) (fun k_ hk => ⟨hk.1, hk.2⟩))).2.1 (Kd.V_F (Kd.V_mono (ok' := (fun k_ => (P0_2_ k_ ∨ w.heap.size ≤ k_) ∧ k_ ≠ gb649)) (HO0_2.out) (fun k_ hk => ⟨hk.1, hk.2⟩))))) (Reps.none _ _))); intro v652 w30 ho31 hb hg_ hnew_; clear hg_ hnew_; (first | rw [← Ny651.out] at ho31 | (simp only [Int.reduceToNat] at ho31; rw [← Ny651.out] at ho31)); have n0_ := Aside0.mk (Kd.V_elder' (by (with_reducible repeat (first | apply Kd.V_alloc | apply Kd.V_drewN | apply Kd.V_drew)); exact HO0_2.out) (Kd.N_base ho31) hb); have n1_ := Aside0.mk (Kd.N_lower ho31 (below_size (by repeat (first | (with_reducible first | exact HB.out | apply below_alloc | apply pw_below_drewN | apply below_drew1 | refine below_set ?_ GE649.out) | exact HB.out)))); have n2_ := Aside0.mk (blk_below (g := gb649) (o := .cells #[.int .i64 a0_0, .int .i64 a0_1, .slice A0_2 l0_2.length c0_2] 44 (0, 0)) (by (with_reducible repeat (first | refine blk_drewN ?_ _ | refine blk_drew ?_ | refine blk_alloc ?_ _)); exact BK649.out) hb); have n3_ := Aside0.mk (below_step (by repeat (first | (with_reducible first | exact HB.out | apply below_alloc | apply pw_below_drewN | apply below_drew1 | refine below_set ?_ GE649.out) | exact HB.out)) hb); clear HO0_2; clear BK649; clear HB; have HO0_2 := n0_; have HO653 := n1_; have BK649 := n2_; have HB := n3_; clear n0_ n1_ n2_ n3_; clear hb ho31; obtain ⟨Ao32, co32, eo32⟩ := Kd.N_slice HO653.out; subst eo32) | ((with_reducible refine gate_callee (f := 28) rfl ?_); refine goesL_ (some 21) rfl rfl Try.func28 (by kernel_rfl) rfl #[.slice Ao32 y651.length co32] rfl (by (try simp only [List.map_toArray, List.map_cons, List.map_nil]); first | done | rfl | (simp only [List.length_drop, List.length_take]; rfl)) ?_; (with_reducible refine (wageofficelaw28_short.calls k _ _ y651 false _ ?side1 ?side2 A9.out).mono ?_); (case side1 => repeat (first | exact (Kd.N_reads' HO653.out).2.2 | (with_reducible refine Kd.C_alloc ?_ _) | (with_reducible refine Kd.C_drewN ?_ _) | (with_reducible refine Kd.C_drew ?_))); (case side2 => exact (Kd.N_reads' HO653.out).2.1); rintro e w33 ⟨rfl, hb⟩; refine ⟨_, rfl, ?_⟩; have n0_ := Aside0.mk (Kd.V_below (by (with_reducible repeat (first | apply Kd.V_alloc | apply Kd.V_drewN | apply Kd.V_drew)); exact HO0_2.out) hb); have n1_ := Aside0.mk (Kd.N_below (by (with_reducible repeat (first | apply Kd.N_alloc | apply Kd.N_drewN | apply Kd.N_drew)); exact HO653.out) hb); have n2_ := Aside0.mk (blk_below (g := gb649) (o := .cells #[.int .i64 a0_0, .int .i64 a0_1, .slice A0_2 l0_2.length c0_2] 44 (0, 0)) (by (with_reducible repeat (first | refine blk_drewN ?_ _ | refine blk_drew ?_ | refine blk_alloc ?_ _)); exact BK649.out) hb); have n3_ := Aside0.mk (below_step (by repeat (first | (with_reducible first | exact HB.out | apply below_alloc | apply pw_below_drewN | apply below_drew1 | refine below_set ?_ GE649.out) | exact HB.out)) hb); clear HO0_2; clear HO653; clear BK649; clear HB; have HO0_2 := n0_; have HO653 := n1_; have BK649 := n2_; have HB := n3_; clear n0_ n1_ n2_ n3_; (try clear hb); (try clear hb2); (try clear hk); (try clear hi)))
      go_meet
      case rel => exact ⟨_, (true), (by first | rfl | (simp; done) | (simp [*]; done)), H', ⟨by first | omega | exact Nat.le_refl _⟩, ⟨by (with_reducible repeat (first | apply Kd.V_alloc | apply Kd.V_drewN | apply Kd.V_drew)); exact Kd.V_mono HO0_2.out (fun _ hk => ⟨hk.1.1, hk.1.2⟩)⟩, ⟨by (with_reducible repeat (first | refine blk_drewN ?_ _ | refine blk_drew ?_ | refine blk_alloc ?_ _)); exact BK649.out⟩, ⟨by repeat (first | (with_reducible first | exact HB.out | apply below_alloc | apply pw_below_drewN | apply below_drew1 | refine below_set ?_ GE649.out) | exact HB.out)⟩⟩
  case rest =>
    clear HC6
    try clear c1
    try clear c2
    try clear p2
    try clear c3
    try clear c10
    try clear c11
    try clear c11b0
    try clear c11b1
    try clear c11b2
    try clear c13
    try clear c17
    try clear c17b0
    try clear c17b1
    try clear c27
    try clear c28
    try clear hcz12_0
    try clear hcz12_1
    try clear hcz12_2
    try clear hcz18_0
    try clear hcz18_1
    try clear hcz18_2
    try clear hcz24_0
    try clear hcz24_1
    try clear hcz24_2
    try clear hcz29_0
    try clear hcz29_1
    try clear hcz29_2
    try clear hfz12_0
    try clear hfz12_1
    try clear hfz12_2
    try clear hfz18_0
    try clear hfz18_1
    try clear hfz18_2
    try clear hfz24_0
    try clear hfz24_1
    try clear hfz24_2
    try clear hfz29_0
    try clear hfz29_1
    try clear hfz29_2
    obtain ⟨kq, x37_5, rfl, HA, HJ5, HO_650002, BK649, HB⟩ := hcut
    cases kq with
    | zero => exact absurd HA.out (by simp [wageofficelaw28_TaxCorrections.j0])
    | succ kj5 =>
      have H := HA.out
      clear HA
      simp only [wageofficelaw28_TaxCorrections.j0] at H
      by_cases c34 : x37_5 = true
      · subst c34
        have H1 : (some t650) = some r := by rw [if_pos rfl] at H; exact H
        clear H
        have H := H1
        clear H1
        obtain rfl := Option.some.inj H
        go_wp2
        go_ret
        exact ⟨by first | rfl | (simp [errW_none, errW_some] <;> rfl) | (simp [*, errW_none, errW_some] <;> rfl), by repeat (first | (with_reducible first | exact HB.out | apply below_alloc | apply pw_below_drewN | apply below_drew1 | refine below_set ?_ GE649.out) | exact HB.out)⟩
      · replace c34 := Bool.eq_false_iff.mpr c34
        subst c34
        have H1 : (if (l1.length : Int) = 0 then (none) else (if 0 ≤ (Int.tmod (wrap64 (a2)) (l1.length : Int)) then (if (Int.tmod (wrap64 (a2)) (l1.length : Int)) < (l1.length : Int) then ((wageofficeref28_In.f (rd l1 (Int.tmod (wrap64 (a2)) (l1.length : Int)))).bind fun t657 => (if t657 = true then ((some (([] : List Int) : List Int)).bind fun y658 => (if y658.length + l1.length < 17592186044416 then ((some (y658 ++ l1 : List Int)).bind fun y661 => (if (Int.tmod (wrap64 (a2)) (l1.length : Int)) < (y661.length : Int) then ((some (([] : List Int) : List Int)).bind fun y665 => (if y665.length + l1.length < 17592186044416 then ((some (y665 ++ l1 : List Int)).bind fun y668 => ((some (([wrap64 (a3 - (rd l1 (Int.tmod (wrap64 (a2)) (l1.length : Int))))] : List Int) : List Int)).bind fun y672 => (if y668.length + y672.length < 17592186044416 then ((wageofficelaw28_withheld.f kj5 a0_0 a0_1 l0_2 0 0 (y668 ++ y672)).bind fun bt678 => ((wageofficelaw28_withheld.f kj5 a0_0 a0_1 l0_2 0 0 (y661.set ((Int.tmod (wrap64 (a2)) (l1.length : Int)) : Int).toNat a3)).bind fun bt681 => (if t650 = true then (if bt678.2.2 = true then (if bt681.2.2 = true then (if bt678.1 = bt681.1 then (some (bt678.2.1 == bt681.2.1)) else (some false)) else (some true)) else (some true)) else (some false)))) else (none)))) else (none))) else (none))) else (none))) else (some t650))) else (none)) else (none))) = some r := by rw [if_neg (show ¬ (false = true) by decide)] at H; exact H
        clear H
        have H := H1
        clear H1
        by_cases c35 : (l1.length : Int) = 0
        · rw [if_pos c35] at H
          exact absurd H (by simp)
        · rw [if_neg c35] at H
          have c35b0 : ((l1.length : Int) == 0) = false := beq_eq_false_iff_ne.mpr c35
          have c35b1 : ((l1.length : Int) != 0) = true := bne_iff_ne.mpr c35
          have c35b2 : ¬ (l1 = []) := fun h_ => c35 (by rw [h_]; rfl)
          obtain ⟨ji36, hji36⟩ : ∃ j_ : Int, (Int.tmod (wrap64 (a2)) (l1.length : Int)) = j_ := ⟨_, rfl⟩
          replace H : (if 0 ≤ (ji36) then (if (ji36) < (l1.length : Int) then ((wageofficeref28_In.f (rd l1 (ji36))).bind fun t657 => (if t657 = true then ((some (([] : List Int) : List Int)).bind fun y658 => (if y658.length + l1.length < 17592186044416 then ((some (y658 ++ l1 : List Int)).bind fun y661 => (if (ji36) < (y661.length : Int) then ((some (([] : List Int) : List Int)).bind fun y665 => (if y665.length + l1.length < 17592186044416 then ((some (y665 ++ l1 : List Int)).bind fun y668 => ((some (([wrap64 (a3 - (rd l1 (ji36)))] : List Int) : List Int)).bind fun y672 => (if y668.length + y672.length < 17592186044416 then ((wageofficelaw28_withheld.f kj5 a0_0 a0_1 l0_2 0 0 (y668 ++ y672)).bind fun bt678 => ((wageofficelaw28_withheld.f kj5 a0_0 a0_1 l0_2 0 0 (y661.set ((ji36) : Int).toNat a3)).bind fun bt681 => (if t650 = true then (if bt678.2.2 = true then (if bt681.2.2 = true then (if bt678.1 = bt681.1 then (some (bt678.2.1 == bt681.2.1)) else (some false)) else (some true)) else (some true)) else (some false)))) else (none)))) else (none))) else (none))) else (none))) else (some t650))) else (none)) else (none)) = some r := by first | (rw [hji36] at H; exact H) | (simp only [hji36] at H ⊢; exact H)
          by_cases c37 : 0 ≤ (ji36)
          · rw [if_pos c37] at H
            have c37b0 : decide (0 ≤ (ji36)) = true := decide_eq_true c37
            clear c37
            by_cases c38 : (ji36) < (l1.length : Int)
            · rw [if_pos c38] at H
              have c38b0 : decide ((ji36) < (l1.length : Int)) = true := decide_eq_true c38
              clear c38
              replace H := Option.bind_eq_some_iff.mp H
              obtain ⟨t657, A390, H⟩ := H
              replace H : (if t657 = true then ((some (([] : List Int) : List Int)).bind fun y658 => (if y658.length + l1.length < 17592186044416 then ((some (y658 ++ l1 : List Int)).bind fun y661 => (if (ji36) < (y661.length : Int) then ((some (([] : List Int) : List Int)).bind fun y665 => (if y665.length + l1.length < 17592186044416 then ((some (y665 ++ l1 : List Int)).bind fun y668 => ((some (([wrap64 (a3 - (rd l1 (ji36)))] : List Int) : List Int)).bind fun y672 => (if y668.length + y672.length < 17592186044416 then ((wageofficelaw28_withheld.f kj5 a0_0 a0_1 l0_2 0 0 (y668 ++ y672)).bind fun bt678 => ((wageofficelaw28_withheld.f kj5 a0_0 a0_1 l0_2 0 0 (y661.set ((ji36) : Int).toNat a3)).bind fun bt681 => (if t650 = true then (if bt678.2.2 = true then (if bt681.2.2 = true then (if bt678.1 = bt681.1 then (some (bt678.2.1 == bt681.2.1)) else (some false)) else (some true)) else (some true)) else (some false)))) else (none)))) else (none))) else (none))) else (none))) else (some t650)) = some r := H
              have A39 := Aside0.mk A390
              clear A390
              by_cases c40 : t657 = true
              · subst c40
                have H1 : ((some (([] : List Int) : List Int)).bind fun y658 => (if y658.length + l1.length < 17592186044416 then ((some (y658 ++ l1 : List Int)).bind fun y661 => (if (ji36) < (y661.length : Int) then ((some (([] : List Int) : List Int)).bind fun y665 => (if y665.length + l1.length < 17592186044416 then ((some (y665 ++ l1 : List Int)).bind fun y668 => ((some (([wrap64 (a3 - (rd l1 (ji36)))] : List Int) : List Int)).bind fun y672 => (if y668.length + y672.length < 17592186044416 then ((wageofficelaw28_withheld.f kj5 a0_0 a0_1 l0_2 0 0 (y668 ++ y672)).bind fun bt678 => ((wageofficelaw28_withheld.f kj5 a0_0 a0_1 l0_2 0 0 (y661.set ((ji36) : Int).toNat a3)).bind fun bt681 => (if t650 = true then (if bt678.2.2 = true then (if bt681.2.2 = true then (if bt678.1 = bt681.1 then (some (bt678.2.1 == bt681.2.1)) else (some false)) else (some true)) else (some true)) else (some false)))) else (none)))) else (none))) else (none))) else (none))) = some r := by rw [if_pos rfl] at H; exact H
                clear H
                have H := H1
                clear H1
                obtain ⟨y658, hy658⟩ : ∃ y_ : List Int, y_ = (([] : List Int)) := ⟨_, rfl⟩
                replace H : (if y658.length + l1.length < 17592186044416 then ((some (y658 ++ l1 : List Int)).bind fun y661 => (if (ji36) < (y661.length : Int) then ((some (([] : List Int) : List Int)).bind fun y665 => (if y665.length + l1.length < 17592186044416 then ((some (y665 ++ l1 : List Int)).bind fun y668 => ((some (([wrap64 (a3 - (rd l1 (ji36)))] : List Int) : List Int)).bind fun y672 => (if y668.length + y672.length < 17592186044416 then ((wageofficelaw28_withheld.f kj5 a0_0 a0_1 l0_2 0 0 (y668 ++ y672)).bind fun bt678 => ((wageofficelaw28_withheld.f kj5 a0_0 a0_1 l0_2 0 0 (y661.set ((ji36) : Int).toNat a3)).bind fun bt681 => (if t650 = true then (if bt678.2.2 = true then (if bt681.2.2 = true then (if bt678.1 = bt681.1 then (some (bt678.2.1 == bt681.2.1)) else (some false)) else (some true)) else (some true)) else (some false)))) else (none)))) else (none))) else (none))) else (none)) = some r := by first | (rw [hy658]; with_reducible exact H) | (have H2_ := (Option.bind_some _ _).symm.trans H; rw [hy658]; with_reducible exact H2_) | (have H2_ := (Option.bind_some _ _).symm.trans H; with_reducible exact H2_) | with_reducible exact H | (rw [hy658]; exact H) | exact H
                have Ny658 := Aside0.mk hy658
                clear hy658
                by_cases c41 : y658.length + l1.length < 17592186044416
                · rw [if_pos c41] at H
                  have LMc41 := Aside0.mk c41
                  clear c41
                  obtain ⟨y661, hy661⟩ : ∃ y_ : List Int, y_ = (y658 ++ l1) := ⟨_, rfl⟩
                  replace H : (if (ji36) < (y661.length : Int) then ((some (([] : List Int) : List Int)).bind fun y665 => (if y665.length + l1.length < 17592186044416 then ((some (y665 ++ l1 : List Int)).bind fun y668 => ((some (([wrap64 (a3 - (rd l1 (ji36)))] : List Int) : List Int)).bind fun y672 => (if y668.length + y672.length < 17592186044416 then ((wageofficelaw28_withheld.f kj5 a0_0 a0_1 l0_2 0 0 (y668 ++ y672)).bind fun bt678 => ((wageofficelaw28_withheld.f kj5 a0_0 a0_1 l0_2 0 0 (y661.set ((ji36) : Int).toNat a3)).bind fun bt681 => (if t650 = true then (if bt678.2.2 = true then (if bt681.2.2 = true then (if bt678.1 = bt681.1 then (some (bt678.2.1 == bt681.2.1)) else (some false)) else (some true)) else (some true)) else (some false)))) else (none)))) else (none))) else (none)) = some r := by first | (rw [hy661]; with_reducible exact H) | (have H2_ := (Option.bind_some _ _).symm.trans H; rw [hy661]; with_reducible exact H2_) | (have H2_ := (Option.bind_some _ _).symm.trans H; with_reducible exact H2_) | with_reducible exact H | (rw [hy661]; exact H) | exact H
                  have Ny661 := Aside0.mk hy661
                  clear hy661
                  by_cases c42 : (ji36) < (y661.length : Int)
                  · rw [if_pos c42] at H
                    have c42b0 : decide ((ji36) < (y661.length : Int)) = true := decide_eq_true c42
                    clear c42
                    obtain ⟨y664, hy664⟩ : ∃ y_ : List Int, y_ = (y661.set ((ji36) : Int).toNat a3) := ⟨_, rfl⟩
                    replace H : ((some (([] : List Int) : List Int)).bind fun y665 => (if y665.length + l1.length < 17592186044416 then ((some (y665 ++ l1 : List Int)).bind fun y668 => ((some (([wrap64 (a3 - (rd l1 (ji36)))] : List Int) : List Int)).bind fun y672 => (if y668.length + y672.length < 17592186044416 then ((wageofficelaw28_withheld.f kj5 a0_0 a0_1 l0_2 0 0 (y668 ++ y672)).bind fun bt678 => ((wageofficelaw28_withheld.f kj5 a0_0 a0_1 l0_2 0 0 y664).bind fun bt681 => (if t650 = true then (if bt678.2.2 = true then (if bt681.2.2 = true then (if bt678.1 = bt681.1 then (some (bt678.2.1 == bt681.2.1)) else (some false)) else (some true)) else (some true)) else (some false)))) else (none)))) else (none))) = some r := by first | (rw [hy664]; with_reducible exact H) | (have H2_ := (Option.bind_some _ _).symm.trans H; rw [hy664]; with_reducible exact H2_) | (have H2_ := (Option.bind_some _ _).symm.trans H; with_reducible exact H2_) | with_reducible exact H | (rw [hy664]; exact H) | exact H
                    have Ny664 := Aside0.mk hy664
                    clear hy664
                    obtain ⟨y665, hy665⟩ : ∃ y_ : List Int, y_ = (([] : List Int)) := ⟨_, rfl⟩
                    replace H : (if y665.length + l1.length < 17592186044416 then ((some (y665 ++ l1 : List Int)).bind fun y668 => ((some (([wrap64 (a3 - (rd l1 (ji36)))] : List Int) : List Int)).bind fun y672 => (if y668.length + y672.length < 17592186044416 then ((wageofficelaw28_withheld.f kj5 a0_0 a0_1 l0_2 0 0 (y668 ++ y672)).bind fun bt678 => ((wageofficelaw28_withheld.f kj5 a0_0 a0_1 l0_2 0 0 y664).bind fun bt681 => (if t650 = true then (if bt678.2.2 = true then (if bt681.2.2 = true then (if bt678.1 = bt681.1 then (some (bt678.2.1 == bt681.2.1)) else (some false)) else (some true)) else (some true)) else (some false)))) else (none)))) else (none)) = some r := by first | (rw [hy665]; with_reducible exact H) | (have H2_ := (Option.bind_some _ _).symm.trans H; rw [hy665]; with_reducible exact H2_) | (have H2_ := (Option.bind_some _ _).symm.trans H; with_reducible exact H2_) | with_reducible exact H | (rw [hy665]; exact H) | exact H
                    have Ny665 := Aside0.mk hy665
                    clear hy665
                    by_cases c44 : y665.length + l1.length < 17592186044416
                    · rw [if_pos c44] at H
                      have LMc44 := Aside0.mk c44
                      clear c44
                      obtain ⟨y668, hy668⟩ : ∃ y_ : List Int, y_ = (y665 ++ l1) := ⟨_, rfl⟩
                      replace H : ((some (([wrap64 (a3 - (rd l1 (ji36)))] : List Int) : List Int)).bind fun y672 => (if y668.length + y672.length < 17592186044416 then ((wageofficelaw28_withheld.f kj5 a0_0 a0_1 l0_2 0 0 (y668 ++ y672)).bind fun bt678 => ((wageofficelaw28_withheld.f kj5 a0_0 a0_1 l0_2 0 0 y664).bind fun bt681 => (if t650 = true then (if bt678.2.2 = true then (if bt681.2.2 = true then (if bt678.1 = bt681.1 then (some (bt678.2.1 == bt681.2.1)) else (some false)) else (some true)) else (some true)) else (some false)))) else (none))) = some r := by first | (rw [hy668]; with_reducible exact H) | (have H2_ := (Option.bind_some _ _).symm.trans H; rw [hy668]; with_reducible exact H2_) | (have H2_ := (Option.bind_some _ _).symm.trans H; with_reducible exact H2_) | with_reducible exact H | (rw [hy668]; exact H) | exact H
                      have Ny668 := Aside0.mk hy668
                      clear hy668
                      obtain ⟨y672, hy672⟩ : ∃ y_ : List Int, y_ = (([wrap64 (a3 - (rd l1 (ji36)))] : List Int)) := ⟨_, rfl⟩
                      replace H : (if y668.length + y672.length < 17592186044416 then ((wageofficelaw28_withheld.f kj5 a0_0 a0_1 l0_2 0 0 (y668 ++ y672)).bind fun bt678 => ((wageofficelaw28_withheld.f kj5 a0_0 a0_1 l0_2 0 0 y664).bind fun bt681 => (if t650 = true then (if bt678.2.2 = true then (if bt681.2.2 = true then (if bt678.1 = bt681.1 then (some (bt678.2.1 == bt681.2.1)) else (some false)) else (some true)) else (some true)) else (some false)))) else (none)) = some r := by first | (rw [hy672]; with_reducible exact H) | (have H2_ := (Option.bind_some _ _).symm.trans H; rw [hy672]; with_reducible exact H2_) | (have H2_ := (Option.bind_some _ _).symm.trans H; with_reducible exact H2_) | with_reducible exact H | (rw [hy672]; exact H) | exact H
                      have Ny672 := Aside0.mk hy672
                      clear hy672
                      by_cases c45 : y668.length + y672.length < 17592186044416
                      · rw [if_pos c45] at H
                        have LMc45 := Aside0.mk c45
                        clear c45
                        obtain ⟨y675, hy675⟩ : ∃ y_ : List Int, y_ = (y668 ++ y672) := ⟨_, rfl⟩
                        replace H : ((wageofficelaw28_withheld.f kj5 a0_0 a0_1 l0_2 0 0 y675).bind fun bt678 => ((wageofficelaw28_withheld.f kj5 a0_0 a0_1 l0_2 0 0 y664).bind fun bt681 => (if t650 = true then (if bt678.2.2 = true then (if bt681.2.2 = true then (if bt678.1 = bt681.1 then (some (bt678.2.1 == bt681.2.1)) else (some false)) else (some true)) else (some true)) else (some false)))) = some r := by first | (rw [hy675]; with_reducible exact H) | (have H2_ := (Option.bind_some _ _).symm.trans H; rw [hy675]; with_reducible exact H2_) | (have H2_ := (Option.bind_some _ _).symm.trans H; with_reducible exact H2_) | with_reducible exact H | (rw [hy675]; exact H) | exact H
                        have Ny675 := Aside0.mk hy675
                        clear hy675
                        replace H := Option.bind_eq_some_iff.mp H
                        obtain ⟨⟨t678, t679, t680⟩, A460, H⟩ := H
                        replace H : ((wageofficelaw28_withheld.f kj5 a0_0 a0_1 l0_2 0 0 y664).bind fun bt681 => (if t650 = true then (if t680 = true then (if bt681.2.2 = true then (if t678 = bt681.1 then (some (t679 == bt681.2.1)) else (some false)) else (some true)) else (some true)) else (some false))) = some r := H
                        have A46 := Aside0.mk A460
                        clear A460
                        replace H := Option.bind_eq_some_iff.mp H
                        obtain ⟨⟨t681, t682, t683⟩, A470, H⟩ := H
                        replace H : (if t650 = true then (if t680 = true then (if t683 = true then (if t678 = t681 then (some (t679 == t682)) else (some false)) else (some true)) else (some true)) else (some false)) = some r := H
                        have A47 := Aside0.mk A470
                        clear A470
                        have p656 : 0 ≤ ((ji36) : Int) := of_decide_eq_true (by first | (with_reducible assumption) | assumption)
                        have q656 : (ji36) < (l1.length : Int) := of_decide_eq_true (by first | (with_reducible assumption) | assumption)
                        obtain ⟨ad656, e656, hx656_0⟩ := Kd.at_int HR1.out (ji36) p656 q656
                        cases e656
                        replace hx656_0 := (HB.out.cell (World.block_lt_of_cell? w _ hx656_0)).trans hx656_0
                        replace p656 := eq_true p656
                        replace q656 := eq_true q656
                        try go_wp2_with (first | ((with_reducible refine gate_callee (f := 40) rfl ?_); refine goesL_ (some 48) rfl rfl Try.func40 (by kernel_rfl) rfl #[.int .i64 (rd l1 (ji36))] rfl (by (try simp only [List.map_toArray, List.map_cons, List.map_nil]); first | done | (simp only [hji36]; rfl) | rfl | (simp only [List.length_drop, List.length_take]; rfl)) ?_; (with_reducible refine (wageofficeref28_In.calls (rd l1 (ji36)) true _ A39.out).mono ?_); rintro e w' ⟨rfl, ⟨nd, rfl⟩⟩; refine ⟨_, rfl, ?_⟩; (try (rw [drewN_self wc]; generalize hq_ : World.drewN wc _ = wc; have n0_ : Aside0 (Kd.V k75 75 wc w.heap.size (fun k_ => (P0_2_ k_ ∨ w.heap.size ≤ k_) ∧ k_ ≠ gb649) (.slice A0_2 l0_2.length c0_2) l0_2) := ⟨by rw [← hq_]; exact (by (with_reducible repeat (first | apply Kd.V_alloc | apply Kd.V_drewN | apply Kd.V_drew)); exact HO_650002.out)⟩; have n1_ : Aside0 (wc.heap[gb649]? = some (.cells #[.int .i64 a0_0, .int .i64 a0_1, .slice A0_2 l0_2.length c0_2] 44 (0, 0))) := ⟨by rw [← hq_]; exact (by (with_reducible repeat (first | refine blk_drewN ?_ _ | refine blk_drew ?_ | refine blk_alloc ?_ _)); exact BK649.out)⟩; have n2_ : Aside0 (Below w.heap.size w wc) := ⟨by rw [← hq_]; exact (by repeat (first | (with_reducible first | exact HB.out | apply below_alloc | apply pw_below_drewN | apply below_drew1 | refine below_set ?_ GE649.out) | exact HB.out))⟩; clear HO_650002 BK649 HB hq_; have HO_650002 := n0_; have BK649 := n1_; have HB := n2_; clear n0_ n1_ n2_))) | ((with_reducible refine gate_dst (N := 51) rfl ?_); (try (refine gate_guard (by rfl) ?_; dsimp only)); refine Kd.R_lit (Kd.int .i64) _ 3 ?hg (N := 51) ?hd (xs := ([] : List Int)) (inner := []) (ok := fun _ => True) (okp := fun _ => True) ?hr ?hp (fun _ hk => hk) trivial (Below.refl _ _) (Nat.le_refl _) (by simp) ?_; (case hd => rfl); (case hg => rfl); (case hr => first | (go_simp; done) | (go_simp; rfl)); (case hp => exact (Reps.none _ _)); intro v659 w52 ho53 hb hg_ hnew_; clear hg_ hnew_; (first | rw [← Ny658.out] at ho53 | (simp only [Int.reduceToNat] at ho53; rw [← Ny658.out] at ho53)); have n0_ := Aside0.mk (Kd.V_elder' (by (with_reducible repeat (first | apply Kd.V_alloc | apply Kd.V_drewN | apply Kd.V_drew)); exact HO_650002.out) (Kd.R_base ho53) hb); have n1_ := Aside0.mk (Kd.R_lower (Kd.R_newM (M := fun k_ => (w.heap.size ≤ k_)) ho53 (below_size (by repeat (first | (with_reducible first | exact HB.out | apply below_alloc | apply pw_below_drewN | apply below_drew1 | refine below_set ?_ GE649.out) | exact HB.out))) (fun k_ h_ => h_)) (below_size (by repeat (first | (with_reducible first | exact HB.out | apply below_alloc | apply pw_below_drewN | apply below_drew1 | refine below_set ?_ GE649.out) | exact HB.out)))); have n2_ := Aside0.mk (blk_below (g := gb649) (o := .cells #[.int .i64 a0_0, .int .i64 a0_1, .slice A0_2 l0_2.length c0_2] 44 (0, 0)) (by (with_reducible repeat (first | refine blk_drewN ?_ _ | refine blk_drew ?_ | refine blk_alloc ?_ _)); exact BK649.out) hb); have n3_ := Aside0.mk (below_step (by repeat (first | (with_reducible first | exact HB.out | apply below_alloc | apply pw_below_drewN | apply below_drew1 | refine below_set ?_ GE649.out) | exact HB.out)) hb); clear HO_650002; clear BK649; clear HB; have HO_650002 := n0_; have HO660 := n1_; have BK649 := n2_; have HB := n3_; clear n0_ n1_ n2_ n3_; clear hb ho53) | ((with_reducible refine gate_builtin (b := .append) (xs := #[.tmp 51, .tmp 52]) rfl ?_); (try (refine gate_guard (by rfl) ?_; dsimp only)); at_builtin; refine Kd.R_append_rows (Kd.int .i64) (w0 := w) w.heap.size rfl (.tmp 51) (.tmp 52) 22 3 (.int .i64 0) 8 rfl Try.underlying22 info3 rfl (by decide) (by omega) v659 y658 l1 _ _ _ (fun k_ => (w.heap.size ≤ k_)) (fun _ => False) rfl rfl ?aO ?aR (fun _ _ h => h) (fun _ h => h.elim) ?aF ?aB ?aS ?aL ?_; (case aR => repeat (first | exact (Kd.C_below HR1.out HB.out) | (with_reducible refine Kd.C_alloc ?_ _) | (with_reducible refine Kd.C_drewN ?_ _) | (with_reducible refine Kd.C_drew ?_))); (case aB => exact (by repeat (first | (with_reducible first | exact HB.out | apply below_alloc | apply pw_below_drewN | apply below_drew1 | refine below_set ?_ GE649.out) | exact HB.out))); (case aF => exact (fun k_ hk => (Nat.le_trans (below_size (by repeat (first | (with_reducible first | exact HB.out | apply below_alloc | apply pw_below_drewN | apply below_drew1 | refine below_set ?_ GE649.out) | exact HB.out))) hk))); (case aO => exact (by (with_reducible repeat (first | apply Kd.R_alloc | apply Kd.R_drewN | apply Kd.R_drew)); exact Kd.R_mono HO660.out (fun _ hk => hk.1))); (case aS => exact (below_size (by repeat (first | (with_reducible first | exact HB.out | apply below_alloc | apply pw_below_drewN | apply below_drew1 | refine below_set ?_ GE649.out) | exact HB.out)))); (case aL => have := LMc41.out; omega); intro v662 w54 ho hb hg hat; rw [← Ny661.out] at ho; have n0_ := Aside0.mk (Kd.V_afterv (ok := (fun k_ => (P0_2_ k_ ∨ w.heap.size ≤ k_) ∧ k_ ≠ gb649)) (by (with_reducible repeat (first | apply Kd.V_alloc | apply Kd.V_drewN | apply Kd.V_drew)); exact HO_650002.out) hg hat); have n1_ := Aside0.mk (blk_grown (g := gb649) (o := .cells #[.int .i64 a0_0, .int .i64 a0_1, .slice A0_2 l0_2.length c0_2] 44 (0, 0)) (by (with_reducible repeat (first | refine blk_drewN ?_ _ | refine blk_drew ?_ | refine blk_alloc ?_ _)); exact BK649.out) hg (Kd.R_ne HO660.out BK649.out (by decide))); have n2_ := Aside0.mk (hb); have n3_ := Aside0.mk (ho); clear HO_650002; clear BK649; clear HB; clear HO660; have HO_650002 := n0_; have BK649 := n1_; have HB := n2_; have HO663 := n3_; clear n0_ n1_ n2_ n3_; clear ho hb hg hat; have p43 : 0 ≤ ((ji36) : Int) := of_decide_eq_true (by first | (with_reducible assumption) | assumption); have q43 : ((ji36) : Int) < ((y661.length : Int) : Int) := of_decide_eq_true (by first | (with_reducible assumption) | assumption); obtain ⟨go43, co43, eo43, gb43, gl43, cl43, HG43⟩ := Kd.R_form HO663.out (by omega); (first | cases eo43 | (injection eo43 with ea_ en_ ec_; (first | subst ea_ | (injection ea_ with ea_; subst ea_)); subst ec_; clear en_)); have GB43 := Aside0.mk gb43; have GG43 := Aside0.mk HG43; clear gb43 gl43 HG43; obtain ⟨hx43_0, hf43_0⟩ := Kd.R_celln 0 HO663.out ((ji36) : Int) p43 q43; replace p43 := eq_true p43; replace q43 := eq_true q43; obtain ⟨hy55_, hz55_⟩ := Kd.R_celln 0 HO663.out ((ji36) : Int) (of_decide_eq_true (by first | (with_reducible assumption) | assumption)) (of_decide_eq_true (by first | (with_reducible assumption) | assumption)); have HP55 := Kd.R_putg HO663.out ((ji36) : Int) a3) | ((with_reducible refine gate_store (t := 3) (p := 57) rfl ?_); refine store_event (t := 3) (p := 57) (v := ?vo_w56) (w1 := (w54.setCell ⟨go43, ((ji36) : Int).toNat, none⟩ (.int .i64 a3))) ?hg ?ho ?hn ?hr ?_; (case ho => rfl); (case hg => rfl); (case hn => rfl); (case hr => first | (go_simp; done) | (go_simp; rfl)); intro w56 hw; have hg : w54.grownBy w56 (some go43) := (by rw [hw]; exact HP55.2); have hp_ : Kd.R (Kd.int .i64) 3 w56 w.heap.size (fun k_ => (w.heap.size ≤ k_)) (.slice (some ⟨go43, 0, none⟩) y661.length co43) y664 := (by rw [hw, Ny664.out]; exact HP55.1); clear HP55; have n0_ := Aside0.mk (Kd.V_afterv (v := (.slice (some ⟨go43, 0, none⟩) y661.length co43)) (v1 := (.slice (some ⟨go43, 0, none⟩) y661.length co43)) (ok := (fun k_ => (P0_2_ k_ ∨ w.heap.size ≤ k_) ∧ k_ ≠ gb649)) (by (with_reducible repeat (first | apply Kd.V_alloc | apply Kd.V_drewN | apply Kd.V_drew)); exact HO_650002.out) hg (.inl rfl)); have n1_ := Aside0.mk (blk_grown (g := gb649) (o := .cells #[.int .i64 a0_0, .int .i64 a0_1, .slice A0_2 l0_2.length c0_2] 44 (0, 0)) (by (with_reducible repeat (first | refine blk_drewN ?_ _ | refine blk_drew ?_ | refine blk_alloc ?_ _)); exact BK649.out) hg (Kd.R_ne HO663.out BK649.out (by decide))); have n2_ := Aside0.mk (hp_); have n3_ := Aside0.mk ((by rw [hw]; exact below_set (HB.out) GB43.out : Below w.heap.size w w56)); clear HO_650002; clear BK649; clear HO663; clear HB; have HO_650002 := n0_; have BK649 := n1_; have HO663 := n2_; have HB := n3_; clear n0_ n1_ n2_ n3_; clear hg hw hp_))
                        have n0_ := Aside0.mk (Kd.V_drew HO_650002.out)
                        have n1_ := Aside0.mk (Kd.R_drew HO663.out)
                        have n2_ := Aside0.mk (blk_drew BK649.out)
                        have n3_ := Aside0.mk (below_drew1 HB.out)
                        clear HO_650002
                        clear HO663
                        clear BK649
                        clear HB
                        have HO_650002 := n0_
                        have HO663 := n1_
                        have BK649 := n2_
                        have HB := n3_
                        clear n0_ n1_ n2_ n3_
                        have p671 : 0 ≤ ((ji36) : Int) := of_decide_eq_true (by first | (with_reducible assumption) | assumption)
                        have q671 : (ji36) < (l1.length : Int) := of_decide_eq_true (by first | (with_reducible assumption) | assumption)
                        obtain ⟨ad671, e671, hx671_0⟩ := Kd.at_int HR1.out (ji36) p671 q671
                        have hw671_0 := hx671_0
                        obtain rfl : ad656 = ad671 := (by injection e671)
                        replace hx671_0 := (HB.out.cell (World.block_lt_of_cell? w _ hx671_0)).trans hx671_0
                        replace p671 := eq_true p671
                        replace q671 := eq_true q671
                        refine start_ (n := 20) (S := fun w' => w'.cell? ⟨gb649, 0, none⟩ = some (.int .i64 a0_0) ∧ w'.cell? ⟨gb649, 1, none⟩ = some (.int .i64 a0_1) ∧ w'.cell? ⟨gb649, 2, none⟩ = some (.slice A0_2 l0_2.length c0_2) ∧ w'.cell? (ad656.add ((ji36)).toNat) = some (.int .i64 (rd l1 (ji36)))) (ds := []) #[false, false, false, false, false, false, false, false, false, false, false, false, false, false, false, false, false, false, false, false] (by kernel_rfl) rfl rfl ⟨(blk_cell BK649.out 0).trans rfl, (blk_cell BK649.out 1).trans rfl, (blk_cell BK649.out 2).trans rfl, ((HB.out.cell (World.block_lt_of_cell? w _ hw671_0)).trans hw671_0)⟩ (fun hHeld => ?_); refine with_tabW wageofficelaw28_TaxCorrections.tab9 wageofficelaw28_TaxCorrections.bits9 (fun HT_ HW_ => ?_)
                        generalize w56.drew = w57 at HO_650002 HO663 BK649 HB hx671_0 hHeld ⊢
                        refine pure_ (i := 2) (N := some 61) (v := ?_) (a' := ?_) #[false, false, true, false, false, false, false, false, false, false, false, false, false, false, false, false, false, false, false, false] rfl rfl (any_of HT_.out (by kernel_rfl)) (fun _ _ _ h => h) (Or.inl ⟨by rfl, ?_⟩) ?_ ?_
                        rotate_left
                        · intro w'
                          go_simp
                          with_reducible rfl
                        rotate_left
                        · simp only [Act.put, List.setIfInBounds_toArray, List.set_cons_zero, List.set_cons_succ, i64_w, i32_w]
                          rfl
                        refine pure_ (i := 4) (N := some 63) (v := ?_) (a' := ?_) #[false, false, true, false, true, false, false, false, false, false, false, false, false, false, false, false, false, false, false, false] rfl rfl (any_of HT_.out (by kernel_rfl)) (fun _ _ _ h => h) (Or.inl ⟨by rfl, ?_⟩) ?_ ?_
                        rotate_left
                        · intro w'
                          go_simp
                          with_reducible rfl
                        rotate_left
                        · simp only [Act.put, List.setIfInBounds_toArray, List.set_cons_zero, List.set_cons_succ, i64_w, i32_w]
                          rfl
                        refine pure_ (i := 5) (N := some 64) (v := ?_) (a' := ?_) #[false, false, true, false, true, true, false, false, false, false, false, false, false, false, false, false, false, false, false, false] rfl rfl (any_of HT_.out (by kernel_rfl)) (fun _ _ _ h => h) (Or.inl ⟨by rfl, ?_⟩) ?_ ?_
                        rotate_left
                        · intro w'
                          go_simp
                          with_reducible rfl
                        rotate_left
                        · simp only [Act.put, List.setIfInBounds_toArray, List.set_cons_zero, List.set_cons_succ, i64_w, i32_w]
                          rfl
                        refine pure_ (i := 6) (N := some 65) (v := ?_) (a' := ?_) #[false, false, true, false, true, true, true, false, false, false, false, false, false, false, false, false, false, false, false, false] rfl rfl (any_of HT_.out (by kernel_rfl)) (fun _ _ _ h => h) (Or.inl ⟨by rfl, ?_⟩) ?_ ?_
                        rotate_left
                        · intro w'
                          go_simp
                          with_reducible rfl
                        rotate_left
                        · simp only [Act.put, List.setIfInBounds_toArray, List.set_cons_zero, List.set_cons_succ, i64_w, i32_w]
                          rfl
                        refine pure_ (i := 7) (N := some 66) (v := ?_) (a' := ?_) #[false, false, true, false, true, true, true, true, false, false, false, false, false, false, false, false, false, false, false, false] rfl rfl (any_of HT_.out (by kernel_rfl)) (fun _ _ _ h => h) (Or.inl ⟨by rfl, ?_⟩) ?_ ?_
                        rotate_left
                        · intro w'
                          go_simp
                          with_reducible rfl
                        rotate_left
                        · simp only [Act.put, List.setIfInBounds_toArray, List.set_cons_zero, List.set_cons_succ, i64_w, i32_w]
                          rfl
                        refine take_ (i := 0) (N := some 59) (v := ?_) (a' := ?_) #[true, false, true, false, true, true, true, true, false, false, false, false, false, false, false, false, false, false, false, false] rfl rfl (take_ofW HT_.out HW_.out (by kernel_rfl)) (fun _ _ _ h => h) (Or.inl ⟨by rfl, ?_⟩) hHeld ?_ ?_
                        rotate_left
                        · rintro w' ⟨s0, s1, s2, s3⟩
                          go_simp
                          with_reducible rfl
                        rotate_left
                        · simp only [Act.put, List.setIfInBounds_toArray, List.set_cons_zero, List.set_cons_succ, i64_w, i32_w]
                          rfl
                        refine take_ (i := 8) (N := some 67) (v := ?_) (a' := ?_) #[true, false, true, false, true, true, true, true, true, false, false, false, false, false, false, false, false, false, false, false] rfl rfl (take_ofW HT_.out HW_.out (by kernel_rfl)) (fun _ _ _ h => h) (Or.inl ⟨by rfl, ?_⟩) hHeld ?_ ?_
                        rotate_left
                        · rintro w' ⟨s0, s1, s2, s3⟩
                          go_simp
                          with_reducible rfl
                        rotate_left
                        · simp only [Act.put, List.setIfInBounds_toArray, List.set_cons_zero, List.set_cons_succ, i64_w, i32_w]
                          rfl
                        refine pure_ (i := 9) (N := some 68) (v := ?_) (a' := ?_) #[true, false, true, false, true, true, true, true, true, true, false, false, false, false, false, false, false, false, false, false] rfl rfl (any_of HT_.out (by kernel_rfl)) (fun _ _ _ h => h) (Or.inl ⟨by rfl, ?_⟩) ?_ ?_
                        rotate_left
                        · intro w'
                          go_simp
                          with_reducible rfl
                        rotate_left
                        · simp only [Act.put, List.setIfInBounds_toArray, List.set_cons_zero, List.set_cons_succ, i64_w, i32_w]
                          rfl
                        refine join_ (σ := Value × Value × Value) 9 #[true, true, true, true, true, true, true, true, true, true, true, false, false, false, false, false, false, false, false, false] (fun s_ => [(60, s_.1), (62, s_.2.1), (69, s_.2.2)]) (fun s_ w' => (w'.cell? ⟨gb649, 0, none⟩ = some (.int .i64 a0_0) ∧ w'.cell? ⟨gb649, 1, none⟩ = some (.int .i64 a0_1) ∧ w'.cell? ⟨gb649, 2, none⟩ = some (.slice A0_2 l0_2.length c0_2) ∧ w'.cell? (ad656.add ((ji36)).toNat) = some (.int .i64 (rd l1 (ji36)))) ∧ (Kd.R (Kd.int .i64) 3 w' w.heap.size (fun k_ => (w.heap.size ≤ k_) ∧ some k_ ≠ (s_.2.1 : Value).ownBlock ∧ some k_ ≠ (s_.2.2 : Value).ownBlock) (.slice (some ⟨go43, 0, none⟩) y661.length co43) y664) ∧ (Kd.R (Kd.int .i64) 3 w' w.heap.size (fun k_ => (w.heap.size ≤ k_) ∧ some k_ ≠ (.slice (some ⟨go43, 0, none⟩) y661.length co43 : Value).ownBlock ∧ some k_ ≠ (s_.2.2 : Value).ownBlock) s_.2.1 y668) ∧ (Kd.R (Kd.int .i64) 3 w' w.heap.size (fun k_ => (w.heap.size ≤ k_) ∧ some k_ ≠ (.slice (some ⟨go43, 0, none⟩) y661.length co43 : Value).ownBlock ∧ some k_ ≠ (s_.2.1 : Value).ownBlock) s_.2.2 y672) ∧ (Kd.V k75 75 w' w.heap.size (fun k_ => (P0_2_ k_ ∨ w.heap.size ≤ k_) ∧ some k_ ≠ (.slice (some ⟨go43, 0, none⟩) y661.length co43 : Value).ownBlock ∧ some k_ ≠ (s_.2.1 : Value).ownBlock ∧ some k_ ≠ (s_.2.2 : Value).ownBlock ∧ k_ ≠ gb649) (.slice A0_2 l0_2.length c0_2) l0_2) ∧ (w'.heap[gb649]? = some (.cells #[.int .i64 a0_0, .int .i64 a0_1, .slice A0_2 l0_2.length c0_2] 44 (0, 0))) ∧ (Below w.heap.size w w')) ?_ ?_
                        rotate_left
                        · intro hCont
                          refine two_ (i := 1) (j := 10) (Ni := some 60) (Nj := some 69) #[true, true, true, false, true, true, true, true, true, true, false, false, false, false, false, false, false, false, false, false] #[true, false, true, false, true, true, true, true, true, true, true, false, false, false, false, false, false, false, false, false] rfl rfl rfl rfl (two_of HT_.out (by kernel_rfl)) (by decide) (by decide) (fun K hK => ?_) (fun K hK => ?_)
                          · skip
                            refine Kd.R_lit_step (Kd.int .i64) _ 3 ?hg (N := 60) ?hd (xs := ([] : List Int)) (inner := []) (ok := fun _ => True) (okp := fun _ => True) ?hr ?hp (fun _ hk => hk) trivial (Below.refl _ _) (Nat.le_refl _) (by simp) ?_; (case hd => rfl); (case hg => rfl); (case hr => first | (go_simp; done) | (go_simp; rfl)); (case hp => exact (Reps.none _ _))
                            intro v666 w58 ho59 hb hg_ hnew_
                            clear hg_ hnew_
                            (first | rw [← Ny665.out] at ho59 | (simp only [Int.reduceToNat] at ho59; rw [← Ny665.out] at ho59))
                            have n0_ := Aside0.mk (Kd.V_elder' (by (with_reducible repeat (first | apply Kd.V_alloc | apply Kd.V_drewN | apply Kd.V_drew)); exact HO_650002.out) (Kd.R_base ho59) hb)
                            have n1_ := Aside0.mk (Kd.R_elder' (by (with_reducible repeat (first | apply Kd.R_alloc | apply Kd.R_drewN | apply Kd.R_drew)); exact HO663.out) (Kd.R_base ho59) hb)
                            have n2_ := Aside0.mk (Kd.R_lower (Kd.R_new' (Kd.R_newM (M := fun k_ => (w.heap.size ≤ k_)) ho59 (below_size (by repeat (first | (with_reducible first | exact HB.out | apply below_alloc | apply pw_below_drewN | apply below_drew1 | refine below_set ?_ GE649.out) | exact HB.out))) (fun k_ h_ => h_)) (Kd.R_lt (by (with_reducible repeat (first | apply Kd.R_alloc | apply Kd.R_drewN | apply Kd.R_drew)); exact HO663.out))) (below_size (by repeat (first | (with_reducible first | exact HB.out | apply below_alloc | apply pw_below_drewN | apply below_drew1 | refine below_set ?_ GE649.out) | exact HB.out))))
                            have n3_ := Aside0.mk (blk_below (g := gb649) (o := .cells #[.int .i64 a0_0, .int .i64 a0_1, .slice A0_2 l0_2.length c0_2] 44 (0, 0)) (by (with_reducible repeat (first | refine blk_drewN ?_ _ | refine blk_drew ?_ | refine blk_alloc ?_ _)); exact BK649.out) hb)
                            have n4_ := Aside0.mk (below_step (by repeat (first | (with_reducible first | exact HB.out | apply below_alloc | apply pw_below_drewN | apply below_drew1 | refine below_set ?_ GE649.out) | exact HB.out)) hb)
                            clear HO_650002
                            clear HO663
                            clear BK649
                            clear HB
                            have HO_650002 := n0_
                            have HO663 := n1_
                            have HO667 := n2_
                            have BK649 := n3_
                            have HB := n4_
                            clear n0_ n1_ n2_ n3_ n4_
                            clear hb ho59
                            refine hK.out _ _ ⟨(blk_cell BK649.out 0).trans rfl, (blk_cell BK649.out 1).trans rfl, (blk_cell BK649.out 2).trans rfl, ((HB.out.cell (World.block_lt_of_cell? w _ hw671_0)).trans hw671_0)⟩ (fun hHeld => ?_)
                            clear hK K
                            refine norm_ (a' := ?_) ?_ ?_
                            rotate_left
                            · show Act.put _ (some 60) _ = _
                              simp only [Act.put, List.setIfInBounds_toArray, List.set_cons_zero, List.set_cons_succ, i64_w, i32_w]
                              rfl
                            refine two_ (i := 3) (j := 10) (Ni := some 62) (Nj := some 69) #[true, true, true, true, true, true, true, true, true, true, false, false, false, false, false, false, false, false, false, false] #[true, true, true, false, true, true, true, true, true, true, true, false, false, false, false, false, false, false, false, false] rfl rfl rfl rfl (two_of HT_.out (by kernel_rfl)) (by decide) (by decide) (fun K hK => ?_) (fun K hK => ?_)
                            · skip
                              refine Kd.R_append_rows_step (Kd.int .i64) (w0 := w) w.heap.size (by rfl) (.tmp 60) (.tmp 61) 22 3 (.int .i64 0) 8 rfl Try.underlying22 info3 rfl (by decide) (by omega) v666 y665 l1 _ _ _ (fun k_ => (w.heap.size ≤ k_) ∧ some k_ ≠ (.slice (some ⟨go43, 0, none⟩) y661.length co43 : Value).ownBlock) (fun _ => False) rfl rfl ?aO ?aR (fun _ _ h => h) (fun _ h => h.elim) ?aF ?aB ?aS ?aL ?_
                              (case aR => repeat (first | exact (Kd.C_below HR1.out HB.out) | (with_reducible refine Kd.C_alloc ?_ _) | (with_reducible refine Kd.C_drewN ?_ _) | (with_reducible refine Kd.C_drew ?_)))
                              (case aB => exact (by repeat (first | (with_reducible first | exact HB.out | apply below_alloc | apply pw_below_drewN | apply below_drew1 | refine below_set ?_ GE649.out) | exact HB.out)))
                              (case aF => exact (fun k_ hk => ⟨(Nat.le_trans (below_size (by repeat (first | (with_reducible first | exact HB.out | apply below_alloc | apply pw_below_drewN | apply below_drew1 | refine below_set ?_ GE649.out) | exact HB.out))) hk), Kd.fresh' (Kd.R_lt (by (with_reducible repeat (first | apply Kd.R_alloc | apply Kd.R_drewN | apply Kd.R_drew)); exact HO663.out)) k_ hk⟩))
                              (case aO => exact (by (with_reducible repeat (first | apply Kd.R_alloc | apply Kd.R_drewN | apply Kd.R_drew)); exact Kd.R_mono HO667.out (fun _ hk => ⟨hk.1.1, hk.2⟩)))
                              (case aS => exact (below_size (by repeat (first | (with_reducible first | exact HB.out | apply below_alloc | apply pw_below_drewN | apply below_drew1 | refine below_set ?_ GE649.out) | exact HB.out))))
                              (case aL => have := LMc44.out; omega)
                              intro v669 w60 ho hb hg hat
                              rw [← Ny668.out] at ho
                              have n0_ := Aside0.mk (Kd.V_afterv (ok := (fun k_ => (P0_2_ k_ ∨ w.heap.size ≤ k_) ∧ some k_ ≠ (.slice (some ⟨go43, 0, none⟩) y661.length co43 : Value).ownBlock ∧ k_ ≠ gb649)) (by (with_reducible repeat (first | apply Kd.V_alloc | apply Kd.V_drewN | apply Kd.V_drew)); exact Kd.V_mono HO_650002.out (fun _ hk => ⟨⟨hk.1.1.1, ⟨hk.1.2, hk.1.1.2⟩⟩, hk.2⟩)) hg hat)
                              have n1_ := Aside0.mk (blk_grown (g := gb649) (o := .cells #[.int .i64 a0_0, .int .i64 a0_1, .slice A0_2 l0_2.length c0_2] 44 (0, 0)) (by (with_reducible repeat (first | refine blk_drewN ?_ _ | refine blk_drew ?_ | refine blk_alloc ?_ _)); exact BK649.out) hg (Kd.R_ne HO667.out BK649.out (by decide)))
                              have n2_ := Aside0.mk (Kd.R_after (ok := (fun k_ => (w.heap.size ≤ k_))) (by (with_reducible repeat (first | apply Kd.R_alloc | apply Kd.R_drewN | apply Kd.R_drew)); exact HO663.out) hg hat)
                              have n3_ := Aside0.mk (hb)
                              have n4_ := Aside0.mk (ho)
                              clear HO_650002
                              clear BK649
                              clear HO663
                              clear HB
                              clear HO667
                              have HO_650002 := n0_
                              have BK649 := n1_
                              have HO663 := n2_
                              have HB := n3_
                              have HO670 := n4_
                              clear n0_ n1_ n2_ n3_ n4_
                              clear ho hb hg hat
                              refine hK.out _ _ ⟨(blk_cell BK649.out 0).trans rfl, (blk_cell BK649.out 1).trans rfl, (blk_cell BK649.out 2).trans rfl, ((HB.out.cell (World.block_lt_of_cell? w _ hw671_0)).trans hw671_0)⟩ (fun hHeld => ?_)
                              clear hK K
                              refine norm_ (a' := ?_) ?_ ?_
                              rotate_left
                              · show Act.put _ (some 62) _ = _
                                simp only [Act.put, List.setIfInBounds_toArray, List.set_cons_zero, List.set_cons_succ, i64_w, i32_w]
                                rfl
                              refine one_ (i := 10) (N := some 69) #[true, true, true, true, true, true, true, true, true, true, true, false, false, false, false, false, false, false, false, false] rfl rfl (one_of HT_.out (by kernel_rfl)) (by decide) (fun K hK => ?_)
                              refine Kd.R_lit_step (Kd.int .i64) _ 3 ?hg (N := 69) ?hd (xs := ([wrap64 (a3 - (rd l1 (ji36)))] : List Int)) (inner := [.int .i64 (wrap64 (a3 - (rd l1 (ji36))))]) (ok := fun _ => True) (okp := fun _ => True) ?hr ?hp (fun _ hk => hk) trivial (Below.refl _ _) (Nat.le_refl _) (by simp) ?_; (case hd => rfl); (case hg => rfl); (case hr => first | (go_simp; done) | (go_simp; rfl)); (case hp => exact (Reps.one (show Kd.M (Kd.int .i64) _ _ _ (wrap64 (a3 - (rd l1 (ji36)))) [.int .i64 (wrap64 (a3 - (rd l1 (ji36))))] from rfl) (Reps.none _ _)))
                              intro v673 w61 ho62 hb hg_ hnew_
                              clear hg_ hnew_
                              (first | rw [← Ny672.out] at ho62 | (simp only [Int.reduceToNat] at ho62; rw [← Ny672.out] at ho62))
                              have n0_ := Aside0.mk (Kd.V_elder' (by (with_reducible repeat (first | apply Kd.V_alloc | apply Kd.V_drewN | apply Kd.V_drew)); exact HO_650002.out) (Kd.R_base ho62) hb)
                              have n1_ := Aside0.mk (Kd.R_elder' (by (with_reducible repeat (first | apply Kd.R_alloc | apply Kd.R_drewN | apply Kd.R_drew)); exact HO663.out) (Kd.R_base ho62) hb)
                              have n2_ := Aside0.mk (Kd.R_elder' (by (with_reducible repeat (first | apply Kd.R_alloc | apply Kd.R_drewN | apply Kd.R_drew)); exact HO670.out) (Kd.R_base ho62) hb)
                              have n3_ := Aside0.mk (Kd.R_lower (Kd.R_new' (Kd.R_new' (Kd.R_newM (M := fun k_ => (w.heap.size ≤ k_)) ho62 (below_size (by repeat (first | (with_reducible first | exact HB.out | apply below_alloc | apply pw_below_drewN | apply below_drew1 | refine below_set ?_ GE649.out) | exact HB.out))) (fun k_ h_ => h_)) (Kd.R_lt (by (with_reducible repeat (first | apply Kd.R_alloc | apply Kd.R_drewN | apply Kd.R_drew)); exact HO663.out))) (Kd.R_lt (by (with_reducible repeat (first | apply Kd.R_alloc | apply Kd.R_drewN | apply Kd.R_drew)); exact HO670.out))) (below_size (by repeat (first | (with_reducible first | exact HB.out | apply below_alloc | apply pw_below_drewN | apply below_drew1 | refine below_set ?_ GE649.out) | exact HB.out))))
                              have n4_ := Aside0.mk (blk_below (g := gb649) (o := .cells #[.int .i64 a0_0, .int .i64 a0_1, .slice A0_2 l0_2.length c0_2] 44 (0, 0)) (by (with_reducible repeat (first | refine blk_drewN ?_ _ | refine blk_drew ?_ | refine blk_alloc ?_ _)); exact BK649.out) hb)
                              have n5_ := Aside0.mk (below_step (by repeat (first | (with_reducible first | exact HB.out | apply below_alloc | apply pw_below_drewN | apply below_drew1 | refine below_set ?_ GE649.out) | exact HB.out)) hb)
                              clear HO_650002
                              clear HO663
                              clear HO670
                              clear BK649
                              clear HB
                              have HO_650002 := n0_
                              have HO663 := n1_
                              have HO670 := n2_
                              have HO674 := n3_
                              have BK649 := n4_
                              have HB := n5_
                              clear n0_ n1_ n2_ n3_ n4_ n5_
                              clear hb ho62
                              refine hK.out _ _ ⟨(blk_cell BK649.out 0).trans rfl, (blk_cell BK649.out 1).trans rfl, (blk_cell BK649.out 2).trans rfl, ((HB.out.cell (World.block_lt_of_cell? w _ hw671_0)).trans hw671_0)⟩ (fun hHeld => ?_)
                              clear hK K
                              refine norm_ (a' := ?_) ?_ ?_
                              rotate_left
                              · show Act.put _ (some 69) _ = _
                                simp only [Act.put, List.setIfInBounds_toArray, List.set_cons_zero, List.set_cons_succ, i64_w, i32_w]
                                rfl
                              exact norm_ (by simp only [putAll, Act.put, List.setIfInBounds_toArray, List.set_cons_zero, List.set_cons_succ]) (hCont (v666, v669, v673) _ ⟨hHeld, (by (with_reducible repeat (first | apply Kd.R_alloc | apply Kd.R_drewN | apply Kd.R_drew)); exact Kd.R_mono HO663.out (fun _ hk => ⟨hk.1.1, ⟨hk.1.2, hk.2⟩⟩)), (by (with_reducible repeat (first | apply Kd.R_alloc | apply Kd.R_drewN | apply Kd.R_drew)); exact Kd.R_mono HO670.out (fun _ hk => ⟨hk.1.1, ⟨hk.1.2, hk.2⟩⟩)), (by (with_reducible repeat (first | apply Kd.R_alloc | apply Kd.R_drewN | apply Kd.R_drew)); exact Kd.R_mono HO674.out (fun _ hk => ⟨hk.1.1.1, ⟨hk.1.2, hk.2⟩⟩)), (by (with_reducible repeat (first | apply Kd.V_alloc | apply Kd.V_drewN | apply Kd.V_drew)); exact Kd.V_mono HO_650002.out (fun _ hk => ⟨hk.1.1.1, ⟨hk.1.1.2.1, ⟨hk.1.2, ⟨hk.2, hk.1.1.2.2⟩⟩⟩⟩)), (by (with_reducible repeat (first | refine blk_drewN ?_ _ | refine blk_drew ?_ | refine blk_alloc ?_ _)); exact BK649.out), (by repeat (first | (with_reducible first | exact HB.out | apply below_alloc | apply pw_below_drewN | apply below_drew1 | refine below_set ?_ GE649.out) | exact HB.out))⟩)
                            · skip
                              refine Kd.R_lit_step (Kd.int .i64) _ 3 ?hg (N := 69) ?hd (xs := ([wrap64 (a3 - (rd l1 (ji36)))] : List Int)) (inner := [.int .i64 (wrap64 (a3 - (rd l1 (ji36))))]) (ok := fun _ => True) (okp := fun _ => True) ?hr ?hp (fun _ hk => hk) trivial (Below.refl _ _) (Nat.le_refl _) (by simp) ?_; (case hd => rfl); (case hg => rfl); (case hr => first | (go_simp; done) | (go_simp; rfl)); (case hp => exact (Reps.one (show Kd.M (Kd.int .i64) _ _ _ (wrap64 (a3 - (rd l1 (ji36)))) [.int .i64 (wrap64 (a3 - (rd l1 (ji36))))] from rfl) (Reps.none _ _)))
                              intro v673 w60 ho61 hb hg_ hnew_
                              clear hg_ hnew_
                              (first | rw [← Ny672.out] at ho61 | (simp only [Int.reduceToNat] at ho61; rw [← Ny672.out] at ho61))
                              have n0_ := Aside0.mk (Kd.V_elder' (by (with_reducible repeat (first | apply Kd.V_alloc | apply Kd.V_drewN | apply Kd.V_drew)); exact HO_650002.out) (Kd.R_base ho61) hb)
                              have n1_ := Aside0.mk (Kd.R_elder' (by (with_reducible repeat (first | apply Kd.R_alloc | apply Kd.R_drewN | apply Kd.R_drew)); exact HO663.out) (Kd.R_base ho61) hb)
                              have n2_ := Aside0.mk (Kd.R_elder' (by (with_reducible repeat (first | apply Kd.R_alloc | apply Kd.R_drewN | apply Kd.R_drew)); exact HO667.out) (Kd.R_base ho61) hb)
                              have n3_ := Aside0.mk (Kd.R_lower (Kd.R_new' (Kd.R_new' (Kd.R_newM (M := fun k_ => (w.heap.size ≤ k_)) ho61 (below_size (by repeat (first | (with_reducible first | exact HB.out | apply below_alloc | apply pw_below_drewN | apply below_drew1 | refine below_set ?_ GE649.out) | exact HB.out))) (fun k_ h_ => h_)) (Kd.R_lt (by (with_reducible repeat (first | apply Kd.R_alloc | apply Kd.R_drewN | apply Kd.R_drew)); exact HO663.out))) (Kd.R_lt (by (with_reducible repeat (first | apply Kd.R_alloc | apply Kd.R_drewN | apply Kd.R_drew)); exact HO667.out))) (below_size (by repeat (first | (with_reducible first | exact HB.out | apply below_alloc | apply pw_below_drewN | apply below_drew1 | refine below_set ?_ GE649.out) | exact HB.out))))
                              have n4_ := Aside0.mk (blk_below (g := gb649) (o := .cells #[.int .i64 a0_0, .int .i64 a0_1, .slice A0_2 l0_2.length c0_2] 44 (0, 0)) (by (with_reducible repeat (first | refine blk_drewN ?_ _ | refine blk_drew ?_ | refine blk_alloc ?_ _)); exact BK649.out) hb)
                              have n5_ := Aside0.mk (below_step (by repeat (first | (with_reducible first | exact HB.out | apply below_alloc | apply pw_below_drewN | apply below_drew1 | refine below_set ?_ GE649.out) | exact HB.out)) hb)
                              clear HO_650002
                              clear HO663
                              clear HO667
                              clear BK649
                              clear HB
                              have HO_650002 := n0_
                              have HO663 := n1_
                              have HO667 := n2_
                              have HO674 := n3_
                              have BK649 := n4_
                              have HB := n5_
                              clear n0_ n1_ n2_ n3_ n4_ n5_
                              clear hb ho61
                              refine hK.out _ _ ⟨(blk_cell BK649.out 0).trans rfl, (blk_cell BK649.out 1).trans rfl, (blk_cell BK649.out 2).trans rfl, ((HB.out.cell (World.block_lt_of_cell? w _ hw671_0)).trans hw671_0)⟩ (fun hHeld => ?_)
                              clear hK K
                              refine norm_ (a' := ?_) ?_ ?_
                              rotate_left
                              · show Act.put _ (some 69) _ = _
                                simp only [Act.put, List.setIfInBounds_toArray, List.set_cons_zero, List.set_cons_succ, i64_w, i32_w]
                                rfl
                              refine one_ (i := 3) (N := some 62) #[true, true, true, true, true, true, true, true, true, true, true, false, false, false, false, false, false, false, false, false] rfl rfl (one_of HT_.out (by kernel_rfl)) (by decide) (fun K hK => ?_)
                              refine Kd.R_append_rows_step (Kd.int .i64) (w0 := w) w.heap.size (by rfl) (.tmp 60) (.tmp 61) 22 3 (.int .i64 0) 8 rfl Try.underlying22 info3 rfl (by decide) (by omega) v666 y665 l1 _ _ _ (fun k_ => (w.heap.size ≤ k_) ∧ some k_ ≠ (.slice (some ⟨go43, 0, none⟩) y661.length co43 : Value).ownBlock ∧ some k_ ≠ (v673 : Value).ownBlock) (fun _ => False) rfl rfl ?aO ?aR (fun _ _ h => h) (fun _ h => h.elim) ?aF ?aB ?aS ?aL ?_
                              (case aR => repeat (first | exact (Kd.C_below HR1.out HB.out) | (with_reducible refine Kd.C_alloc ?_ _) | (with_reducible refine Kd.C_drewN ?_ _) | (with_reducible refine Kd.C_drew ?_)))
                              (case aB => exact (by repeat (first | (with_reducible first | exact HB.out | apply below_alloc | apply pw_below_drewN | apply below_drew1 | refine below_set ?_ GE649.out) | exact HB.out)))
                              (case aF => exact (fun k_ hk => ⟨(Nat.le_trans (below_size (by repeat (first | (with_reducible first | exact HB.out | apply below_alloc | apply pw_below_drewN | apply below_drew1 | refine below_set ?_ GE649.out) | exact HB.out))) hk), Kd.fresh' (Kd.R_lt (by (with_reducible repeat (first | apply Kd.R_alloc | apply Kd.R_drewN | apply Kd.R_drew)); exact HO663.out)) k_ hk, Kd.fresh' (Kd.R_lt (by (with_reducible repeat (first | apply Kd.R_alloc | apply Kd.R_drewN | apply Kd.R_drew)); exact HO674.out)) k_ hk⟩))
                              (case aO => exact (by (with_reducible repeat (first | apply Kd.R_alloc | apply Kd.R_drewN | apply Kd.R_drew)); exact Kd.R_mono HO667.out (fun _ hk => ⟨hk.1.1.1, ⟨hk.1.2, hk.2⟩⟩)))
                              (case aS => exact (below_size (by repeat (first | (with_reducible first | exact HB.out | apply below_alloc | apply pw_below_drewN | apply below_drew1 | refine below_set ?_ GE649.out) | exact HB.out))))
                              (case aL => have := LMc44.out; omega)
                              intro v669 w62 ho hb hg hat
                              rw [← Ny668.out] at ho
                              have n0_ := Aside0.mk (Kd.V_afterv (ok := (fun k_ => (P0_2_ k_ ∨ w.heap.size ≤ k_) ∧ some k_ ≠ (.slice (some ⟨go43, 0, none⟩) y661.length co43 : Value).ownBlock ∧ some k_ ≠ (v673 : Value).ownBlock ∧ k_ ≠ gb649)) (by (with_reducible repeat (first | apply Kd.V_alloc | apply Kd.V_drewN | apply Kd.V_drew)); exact Kd.V_mono HO_650002.out (fun _ hk => ⟨⟨hk.1.1.1.1, ⟨hk.1.1.2, ⟨hk.2, hk.1.1.1.2⟩⟩⟩, hk.1.2⟩)) hg hat)
                              have n1_ := Aside0.mk (blk_grown (g := gb649) (o := .cells #[.int .i64 a0_0, .int .i64 a0_1, .slice A0_2 l0_2.length c0_2] 44 (0, 0)) (by (with_reducible repeat (first | refine blk_drewN ?_ _ | refine blk_drew ?_ | refine blk_alloc ?_ _)); exact BK649.out) hg (Kd.R_ne HO667.out BK649.out (by decide)))
                              have n2_ := Aside0.mk (Kd.R_after (ok := (fun k_ => (w.heap.size ≤ k_) ∧ some k_ ≠ (v673 : Value).ownBlock)) (by (with_reducible repeat (first | apply Kd.R_alloc | apply Kd.R_drewN | apply Kd.R_drew)); exact Kd.R_mono HO663.out (fun _ hk => ⟨⟨hk.1.1, hk.2⟩, hk.1.2⟩)) hg hat)
                              have n3_ := Aside0.mk (Kd.R_after (ok := (fun k_ => (w.heap.size ≤ k_) ∧ some k_ ≠ (.slice (some ⟨go43, 0, none⟩) y661.length co43 : Value).ownBlock)) (by (with_reducible repeat (first | apply Kd.R_alloc | apply Kd.R_drewN | apply Kd.R_drew)); exact Kd.R_mono HO674.out (fun _ hk => ⟨⟨hk.1.1.1, hk.1.2⟩, hk.2⟩)) hg hat)
                              have n4_ := Aside0.mk (hb)
                              have n5_ := Aside0.mk (ho)
                              clear HO_650002
                              clear BK649
                              clear HO663
                              clear HO674
                              clear HB
                              clear HO667
                              have HO_650002 := n0_
                              have BK649 := n1_
                              have HO663 := n2_
                              have HO674 := n3_
                              have HB := n4_
                              have HO670 := n5_
                              clear n0_ n1_ n2_ n3_ n4_ n5_
                              clear ho hb hg hat
                              refine hK.out _ _ ⟨(blk_cell BK649.out 0).trans rfl, (blk_cell BK649.out 1).trans rfl, (blk_cell BK649.out 2).trans rfl, ((HB.out.cell (World.block_lt_of_cell? w _ hw671_0)).trans hw671_0)⟩ (fun hHeld => ?_)
                              clear hK K
                              refine norm_ (a' := ?_) ?_ ?_
                              rotate_left
                              · show Act.put _ (some 62) _ = _
                                simp only [Act.put, List.setIfInBounds_toArray, List.set_cons_zero, List.set_cons_succ, i64_w, i32_w]
                                rfl
                              exact norm_ (by simp only [putAll, Act.put, List.setIfInBounds_toArray, List.set_cons_zero, List.set_cons_succ]) (hCont (v666, v669, v673) _ ⟨hHeld, (by (with_reducible repeat (first | apply Kd.R_alloc | apply Kd.R_drewN | apply Kd.R_drew)); exact Kd.R_mono HO663.out (fun _ hk => ⟨hk.1.1, ⟨hk.2, hk.1.2⟩⟩)), (by (with_reducible repeat (first | apply Kd.R_alloc | apply Kd.R_drewN | apply Kd.R_drew)); exact HO670.out), (by (with_reducible repeat (first | apply Kd.R_alloc | apply Kd.R_drewN | apply Kd.R_drew)); exact Kd.R_mono HO674.out (fun _ hk => ⟨hk.1.1, ⟨hk.1.2, hk.2⟩⟩)), (by (with_reducible repeat (first | apply Kd.V_alloc | apply Kd.V_drewN | apply Kd.V_drew)); exact Kd.V_mono HO_650002.out (fun _ hk => ⟨hk.1.1, ⟨hk.1.2.1, ⟨hk.2, ⟨hk.1.2.2.1, hk.1.2.2.2⟩⟩⟩⟩)), (by (with_reducible repeat (first | refine blk_drewN ?_ _ | refine blk_drew ?_ | refine blk_alloc ?_ _)); exact BK649.out), (by repeat (first | (with_reducible first | exact HB.out | apply below_alloc | apply pw_below_drewN | apply below_drew1 | refine below_set ?_ GE649.out) | exact HB.out))⟩)
                          · skip
                            refine Kd.R_lit_step (Kd.int .i64) _ 3 ?hg (N := 69) ?hd (xs := ([wrap64 (a3 - (rd l1 (ji36)))] : List Int)) (inner := [.int .i64 (wrap64 (a3 - (rd l1 (ji36))))]) (ok := fun _ => True) (okp := fun _ => True) ?hr ?hp (fun _ hk => hk) trivial (Below.refl _ _) (Nat.le_refl _) (by simp) ?_; (case hd => rfl); (case hg => rfl); (case hr => first | (go_simp; done) | (go_simp; rfl)); (case hp => exact (Reps.one (show Kd.M (Kd.int .i64) _ _ _ (wrap64 (a3 - (rd l1 (ji36)))) [.int .i64 (wrap64 (a3 - (rd l1 (ji36))))] from rfl) (Reps.none _ _)))
                            intro v673 w58 ho59 hb hg_ hnew_
                            clear hg_ hnew_
                            (first | rw [← Ny672.out] at ho59 | (simp only [Int.reduceToNat] at ho59; rw [← Ny672.out] at ho59))
                            have n0_ := Aside0.mk (Kd.V_elder' (by (with_reducible repeat (first | apply Kd.V_alloc | apply Kd.V_drewN | apply Kd.V_drew)); exact HO_650002.out) (Kd.R_base ho59) hb)
                            have n1_ := Aside0.mk (Kd.R_elder' (by (with_reducible repeat (first | apply Kd.R_alloc | apply Kd.R_drewN | apply Kd.R_drew)); exact HO663.out) (Kd.R_base ho59) hb)
                            have n2_ := Aside0.mk (Kd.R_lower (Kd.R_new' (Kd.R_newM (M := fun k_ => (w.heap.size ≤ k_)) ho59 (below_size (by repeat (first | (with_reducible first | exact HB.out | apply below_alloc | apply pw_below_drewN | apply below_drew1 | refine below_set ?_ GE649.out) | exact HB.out))) (fun k_ h_ => h_)) (Kd.R_lt (by (with_reducible repeat (first | apply Kd.R_alloc | apply Kd.R_drewN | apply Kd.R_drew)); exact HO663.out))) (below_size (by repeat (first | (with_reducible first | exact HB.out | apply below_alloc | apply pw_below_drewN | apply below_drew1 | refine below_set ?_ GE649.out) | exact HB.out))))
                            have n3_ := Aside0.mk (blk_below (g := gb649) (o := .cells #[.int .i64 a0_0, .int .i64 a0_1, .slice A0_2 l0_2.length c0_2] 44 (0, 0)) (by (with_reducible repeat (first | refine blk_drewN ?_ _ | refine blk_drew ?_ | refine blk_alloc ?_ _)); exact BK649.out) hb)
                            have n4_ := Aside0.mk (below_step (by repeat (first | (with_reducible first | exact HB.out | apply below_alloc | apply pw_below_drewN | apply below_drew1 | refine below_set ?_ GE649.out) | exact HB.out)) hb)
                            clear HO_650002
                            clear HO663
                            clear BK649
                            clear HB
                            have HO_650002 := n0_
                            have HO663 := n1_
                            have HO674 := n2_
                            have BK649 := n3_
                            have HB := n4_
                            clear n0_ n1_ n2_ n3_ n4_
                            clear hb ho59
                            refine hK.out _ _ ⟨(blk_cell BK649.out 0).trans rfl, (blk_cell BK649.out 1).trans rfl, (blk_cell BK649.out 2).trans rfl, ((HB.out.cell (World.block_lt_of_cell? w _ hw671_0)).trans hw671_0)⟩ (fun hHeld => ?_)
                            clear hK K
                            refine norm_ (a' := ?_) ?_ ?_
                            rotate_left
                            · show Act.put _ (some 69) _ = _
                              simp only [Act.put, List.setIfInBounds_toArray, List.set_cons_zero, List.set_cons_succ, i64_w, i32_w]
                              rfl
                            refine one_ (i := 1) (N := some 60) #[true, true, true, false, true, true, true, true, true, true, true, false, false, false, false, false, false, false, false, false] rfl rfl (one_of HT_.out (by kernel_rfl)) (by decide) (fun K hK => ?_)
                            refine Kd.R_lit_step (Kd.int .i64) _ 3 ?hg (N := 60) ?hd (xs := ([] : List Int)) (inner := []) (ok := fun _ => True) (okp := fun _ => True) ?hr ?hp (fun _ hk => hk) trivial (Below.refl _ _) (Nat.le_refl _) (by simp) ?_; (case hd => rfl); (case hg => rfl); (case hr => first | (go_simp; done) | (go_simp; rfl)); (case hp => exact (Reps.none _ _))
                            intro v666 w60 ho61 hb hg_ hnew_
                            clear hg_ hnew_
                            (first | rw [← Ny665.out] at ho61 | (simp only [Int.reduceToNat] at ho61; rw [← Ny665.out] at ho61))
                            have n0_ := Aside0.mk (Kd.V_elder' (by (with_reducible repeat (first | apply Kd.V_alloc | apply Kd.V_drewN | apply Kd.V_drew)); exact HO_650002.out) (Kd.R_base ho61) hb)
                            have n1_ := Aside0.mk (Kd.R_elder' (by (with_reducible repeat (first | apply Kd.R_alloc | apply Kd.R_drewN | apply Kd.R_drew)); exact HO663.out) (Kd.R_base ho61) hb)
                            have n2_ := Aside0.mk (Kd.R_elder' (by (with_reducible repeat (first | apply Kd.R_alloc | apply Kd.R_drewN | apply Kd.R_drew)); exact HO674.out) (Kd.R_base ho61) hb)
                            have n3_ := Aside0.mk (Kd.R_lower (Kd.R_new' (Kd.R_new' (Kd.R_newM (M := fun k_ => (w.heap.size ≤ k_)) ho61 (below_size (by repeat (first | (with_reducible first | exact HB.out | apply below_alloc | apply pw_below_drewN | apply below_drew1 | refine below_set ?_ GE649.out) | exact HB.out))) (fun k_ h_ => h_)) (Kd.R_lt (by (with_reducible repeat (first | apply Kd.R_alloc | apply Kd.R_drewN | apply Kd.R_drew)); exact HO663.out))) (Kd.R_lt (by (with_reducible repeat (first | apply Kd.R_alloc | apply Kd.R_drewN | apply Kd.R_drew)); exact HO674.out))) (below_size (by repeat (first | (with_reducible first | exact HB.out | apply below_alloc | apply pw_below_drewN | apply below_drew1 | refine below_set ?_ GE649.out) | exact HB.out))))
                            have n4_ := Aside0.mk (blk_below (g := gb649) (o := .cells #[.int .i64 a0_0, .int .i64 a0_1, .slice A0_2 l0_2.length c0_2] 44 (0, 0)) (by (with_reducible repeat (first | refine blk_drewN ?_ _ | refine blk_drew ?_ | refine blk_alloc ?_ _)); exact BK649.out) hb)
                            have n5_ := Aside0.mk (below_step (by repeat (first | (with_reducible first | exact HB.out | apply below_alloc | apply pw_below_drewN | apply below_drew1 | refine below_set ?_ GE649.out) | exact HB.out)) hb)
                            clear HO_650002
                            clear HO663
                            clear HO674
                            clear BK649
                            clear HB
                            have HO_650002 := n0_
                            have HO663 := n1_
                            have HO674 := n2_
                            have HO667 := n3_
                            have BK649 := n4_
                            have HB := n5_
                            clear n0_ n1_ n2_ n3_ n4_ n5_
                            clear hb ho61
                            refine hK.out _ _ ⟨(blk_cell BK649.out 0).trans rfl, (blk_cell BK649.out 1).trans rfl, (blk_cell BK649.out 2).trans rfl, ((HB.out.cell (World.block_lt_of_cell? w _ hw671_0)).trans hw671_0)⟩ (fun hHeld => ?_)
                            clear hK K
                            refine norm_ (a' := ?_) ?_ ?_
                            rotate_left
                            · show Act.put _ (some 60) _ = _
                              simp only [Act.put, List.setIfInBounds_toArray, List.set_cons_zero, List.set_cons_succ, i64_w, i32_w]
                              rfl
                            refine one_ (i := 3) (N := some 62) #[true, true, true, true, true, true, true, true, true, true, true, false, false, false, false, false, false, false, false, false] rfl rfl (one_of HT_.out (by kernel_rfl)) (by decide) (fun K hK => ?_)
                            refine Kd.R_append_rows_step (Kd.int .i64) (w0 := w) w.heap.size (by rfl) (.tmp 60) (.tmp 61) 22 3 (.int .i64 0) 8 rfl Try.underlying22 info3 rfl (by decide) (by omega) v666 y665 l1 _ _ _ (fun k_ => (w.heap.size ≤ k_) ∧ some k_ ≠ (.slice (some ⟨go43, 0, none⟩) y661.length co43 : Value).ownBlock ∧ some k_ ≠ (v673 : Value).ownBlock) (fun _ => False) rfl rfl ?aO ?aR (fun _ _ h => h) (fun _ h => h.elim) ?aF ?aB ?aS ?aL ?_
                            (case aR => repeat (first | exact (Kd.C_below HR1.out HB.out) | (with_reducible refine Kd.C_alloc ?_ _) | (with_reducible refine Kd.C_drewN ?_ _) | (with_reducible refine Kd.C_drew ?_)))
                            (case aB => exact (by repeat (first | (with_reducible first | exact HB.out | apply below_alloc | apply pw_below_drewN | apply below_drew1 | refine below_set ?_ GE649.out) | exact HB.out)))
                            (case aF => exact (fun k_ hk => ⟨(Nat.le_trans (below_size (by repeat (first | (with_reducible first | exact HB.out | apply below_alloc | apply pw_below_drewN | apply below_drew1 | refine below_set ?_ GE649.out) | exact HB.out))) hk), Kd.fresh' (Kd.R_lt (by (with_reducible repeat (first | apply Kd.R_alloc | apply Kd.R_drewN | apply Kd.R_drew)); exact HO663.out)) k_ hk, Kd.fresh' (Kd.R_lt (by (with_reducible repeat (first | apply Kd.R_alloc | apply Kd.R_drewN | apply Kd.R_drew)); exact HO674.out)) k_ hk⟩))
                            (case aO => exact (by (with_reducible repeat (first | apply Kd.R_alloc | apply Kd.R_drewN | apply Kd.R_drew)); exact Kd.R_mono HO667.out (fun _ hk => ⟨hk.1.1.1, ⟨hk.1.2, hk.2⟩⟩)))
                            (case aS => exact (below_size (by repeat (first | (with_reducible first | exact HB.out | apply below_alloc | apply pw_below_drewN | apply below_drew1 | refine below_set ?_ GE649.out) | exact HB.out))))
                            (case aL => have := LMc44.out; omega)
                            intro v669 w62 ho hb hg hat
                            rw [← Ny668.out] at ho
                            have n0_ := Aside0.mk (Kd.V_afterv (ok := (fun k_ => (P0_2_ k_ ∨ w.heap.size ≤ k_) ∧ some k_ ≠ (.slice (some ⟨go43, 0, none⟩) y661.length co43 : Value).ownBlock ∧ some k_ ≠ (v673 : Value).ownBlock ∧ k_ ≠ gb649)) (by (with_reducible repeat (first | apply Kd.V_alloc | apply Kd.V_drewN | apply Kd.V_drew)); exact Kd.V_mono HO_650002.out (fun _ hk => ⟨⟨hk.1.1.1.1, ⟨hk.1.1.2, ⟨hk.1.2, hk.1.1.1.2⟩⟩⟩, hk.2⟩)) hg hat)
                            have n1_ := Aside0.mk (blk_grown (g := gb649) (o := .cells #[.int .i64 a0_0, .int .i64 a0_1, .slice A0_2 l0_2.length c0_2] 44 (0, 0)) (by (with_reducible repeat (first | refine blk_drewN ?_ _ | refine blk_drew ?_ | refine blk_alloc ?_ _)); exact BK649.out) hg (Kd.R_ne HO667.out BK649.out (by decide)))
                            have n2_ := Aside0.mk (Kd.R_after (ok := (fun k_ => (w.heap.size ≤ k_) ∧ some k_ ≠ (v673 : Value).ownBlock)) (by (with_reducible repeat (first | apply Kd.R_alloc | apply Kd.R_drewN | apply Kd.R_drew)); exact HO663.out) hg hat)
                            have n3_ := Aside0.mk (Kd.R_after (ok := (fun k_ => (w.heap.size ≤ k_) ∧ some k_ ≠ (.slice (some ⟨go43, 0, none⟩) y661.length co43 : Value).ownBlock)) (by (with_reducible repeat (first | apply Kd.R_alloc | apply Kd.R_drewN | apply Kd.R_drew)); exact Kd.R_mono HO674.out (fun _ hk => ⟨⟨hk.1.1.1, hk.1.2⟩, hk.2⟩)) hg hat)
                            have n4_ := Aside0.mk (hb)
                            have n5_ := Aside0.mk (ho)
                            clear HO_650002
                            clear BK649
                            clear HO663
                            clear HO674
                            clear HB
                            clear HO667
                            have HO_650002 := n0_
                            have BK649 := n1_
                            have HO663 := n2_
                            have HO674 := n3_
                            have HB := n4_
                            have HO670 := n5_
                            clear n0_ n1_ n2_ n3_ n4_ n5_
                            clear ho hb hg hat
                            refine hK.out _ _ ⟨(blk_cell BK649.out 0).trans rfl, (blk_cell BK649.out 1).trans rfl, (blk_cell BK649.out 2).trans rfl, ((HB.out.cell (World.block_lt_of_cell? w _ hw671_0)).trans hw671_0)⟩ (fun hHeld => ?_)
                            clear hK K
                            refine norm_ (a' := ?_) ?_ ?_
                            rotate_left
                            · show Act.put _ (some 62) _ = _
                              simp only [Act.put, List.setIfInBounds_toArray, List.set_cons_zero, List.set_cons_succ, i64_w, i32_w]
                              rfl
                            exact norm_ (by simp only [putAll, Act.put, List.setIfInBounds_toArray, List.set_cons_zero, List.set_cons_succ]) (hCont (v666, v669, v673) _ ⟨hHeld, (by (with_reducible repeat (first | apply Kd.R_alloc | apply Kd.R_drewN | apply Kd.R_drew)); exact Kd.R_mono HO663.out (fun _ hk => ⟨hk.1.1, ⟨hk.2, hk.1.2⟩⟩)), (by (with_reducible repeat (first | apply Kd.R_alloc | apply Kd.R_drewN | apply Kd.R_drew)); exact HO670.out), (by (with_reducible repeat (first | apply Kd.R_alloc | apply Kd.R_drewN | apply Kd.R_drew)); exact Kd.R_mono HO674.out (fun _ hk => ⟨hk.1.1, ⟨hk.1.2, hk.2⟩⟩)), (by (with_reducible repeat (first | apply Kd.V_alloc | apply Kd.V_drewN | apply Kd.V_drew)); exact Kd.V_mono HO_650002.out (fun _ hk => ⟨hk.1.1, ⟨hk.1.2.1, ⟨hk.2, ⟨hk.1.2.2.1, hk.1.2.2.2⟩⟩⟩⟩)), (by (with_reducible repeat (first | refine blk_drewN ?_ _ | refine blk_drew ?_ | refine blk_alloc ?_ _)); exact BK649.out), (by repeat (first | (with_reducible first | exact HB.out | apply below_alloc | apply pw_below_drewN | apply below_drew1 | refine below_set ?_ GE649.out) | exact HB.out))⟩)
                        rintro ⟨v666, v669, v673⟩ w63 ⟨hS_, h0_, h1_, h2_, h3_, h4_, h5_⟩
                        have n0_ : Aside0 (Kd.R (Kd.int .i64) 3 w63 w.heap.size (fun k_ => (w.heap.size ≤ k_) ∧ some k_ ≠ (v669 : Value).ownBlock ∧ some k_ ≠ (v673 : Value).ownBlock) (.slice (some ⟨go43, 0, none⟩) y661.length co43) y664) := ⟨h0_⟩
                        have n1_ : Aside0 (Kd.R (Kd.int .i64) 3 w63 w.heap.size (fun k_ => (w.heap.size ≤ k_) ∧ some k_ ≠ (.slice (some ⟨go43, 0, none⟩) y661.length co43 : Value).ownBlock ∧ some k_ ≠ (v673 : Value).ownBlock) v669 y668) := ⟨h1_⟩
                        have n2_ : Aside0 (Kd.R (Kd.int .i64) 3 w63 w.heap.size (fun k_ => (w.heap.size ≤ k_) ∧ some k_ ≠ (.slice (some ⟨go43, 0, none⟩) y661.length co43 : Value).ownBlock ∧ some k_ ≠ (v669 : Value).ownBlock) v673 y672) := ⟨h2_⟩
                        have n3_ : Aside0 (Kd.V k75 75 w63 w.heap.size (fun k_ => (P0_2_ k_ ∨ w.heap.size ≤ k_) ∧ some k_ ≠ (.slice (some ⟨go43, 0, none⟩) y661.length co43 : Value).ownBlock ∧ some k_ ≠ (v669 : Value).ownBlock ∧ some k_ ≠ (v673 : Value).ownBlock ∧ k_ ≠ gb649) (.slice A0_2 l0_2.length c0_2) l0_2) := ⟨h3_⟩
                        have n4_ : Aside0 (w63.heap[gb649]? = some (.cells #[.int .i64 a0_0, .int .i64 a0_1, .slice A0_2 l0_2.length c0_2] 44 (0, 0))) := ⟨h4_⟩
                        have n5_ : Aside0 (Below w.heap.size w w63) := ⟨h5_⟩
                        clear HO_650002
                        clear HO663
                        clear BK649
                        clear HB
                        clear h0_ h1_ h2_ h3_ h4_ h5_
                        have HO663 := n0_
                        have HO670 := n1_
                        have HO674 := n2_
                        have HO_650002 := n3_
                        have BK649 := n4_
                        have HB := n5_
                        clear n0_ n1_ n2_ n3_ n4_ n5_
                        have hHeld : w63.cell? ⟨gb649, 0, none⟩ = some (.int .i64 a0_0) ∧ w63.cell? ⟨gb649, 1, none⟩ = some (.int .i64 a0_1) ∧ w63.cell? ⟨gb649, 2, none⟩ = some (.slice A0_2 l0_2.length c0_2) ∧ w63.cell? (ad656.add ((ji36)).toNat) = some (.int .i64 (rd l1 (ji36))) := hS_
                        obtain ⟨Ao65, co65, eo65⟩ := Kd.R_slice HO674.out
                        (first | subst eo65 | (injection eo65 with f1_ f2_ f3_; have f4_ := f1_.symm; have f5_ := f3_.symm; clear f1_ f2_ f3_; subst f4_; subst f5_))
                        refine norm_ (a' := ?_) ?_ ?_
                        rotate_left
                        · simp only [putAll, Act.put, List.setIfInBounds_toArray, List.set_cons_zero, List.set_cons_succ]
                          rfl
                        refine one_ (i := 11) (N := some 70) #[true, true, true, true, true, true, true, true, true, true, true, true, false, false, false, false, false, false, false, false] rfl rfl (one_of HT_.out (by kernel_rfl)) (by decide) (fun K hK => ?_)
                        refine Kd.R_append_rows_step (Kd.int .i64) (w0 := w) w.heap.size (by rfl) (.tmp 62) (.tmp 69) 22 3 (.int .i64 0) 8 rfl Try.underlying22 info3 rfl (by decide) (by omega) v669 y668 y672 _ _ _ (fun k_ => (w.heap.size ≤ k_) ∧ some k_ ≠ (.slice (some ⟨go43, 0, none⟩) y661.length co43 : Value).ownBlock ∧ some k_ ≠ (.slice Ao65 y672.length co65 : Value).ownBlock) (fun _ => False) rfl rfl ?aO ?aR (fun _ _ h => h) (fun _ h => h.elim) ?aF ?aB ?aS ?aL ?_
                        (case aR => repeat (first | exact (Kd.R_reads' HO674.out).2.2 | (with_reducible refine Kd.C_alloc ?_ _) | (with_reducible refine Kd.C_drewN ?_ _) | (with_reducible refine Kd.C_drew ?_)))
                        (case aB => exact (by repeat (first | (with_reducible first | exact HB.out | apply below_alloc | apply pw_below_drewN | apply below_drew1 | refine below_set ?_ GE649.out) | exact HB.out)))
                        (case aF => exact (fun k_ hk => ⟨(Nat.le_trans (below_size (by repeat (first | (with_reducible first | exact HB.out | apply below_alloc | apply pw_below_drewN | apply below_drew1 | refine below_set ?_ GE649.out) | exact HB.out))) hk), Kd.fresh' (Kd.R_lt (by (with_reducible repeat (first | apply Kd.R_alloc | apply Kd.R_drewN | apply Kd.R_drew)); exact HO663.out)) k_ hk, Kd.fresh' (Kd.R_lt (by (with_reducible repeat (first | apply Kd.R_alloc | apply Kd.R_drewN | apply Kd.R_drew)); exact HO674.out)) k_ hk⟩))
                        (case aO => exact (by (with_reducible repeat (first | apply Kd.R_alloc | apply Kd.R_drewN | apply Kd.R_drew)); exact HO670.out))
                        (case aS => exact (below_size (by repeat (first | (with_reducible first | exact HB.out | apply below_alloc | apply pw_below_drewN | apply below_drew1 | refine below_set ?_ GE649.out) | exact HB.out))))
                        (case aL => have := LMc45.out; omega)
                        intro v676 w64 ho hb hg hat
                        rw [← Ny675.out] at ho
                        have n0_ := Aside0.mk (Kd.V_afterv (ok := (fun k_ => (P0_2_ k_ ∨ w.heap.size ≤ k_) ∧ some k_ ≠ (.slice (some ⟨go43, 0, none⟩) y661.length co43 : Value).ownBlock ∧ some k_ ≠ (.slice Ao65 y672.length co65 : Value).ownBlock ∧ k_ ≠ gb649)) (by (with_reducible repeat (first | apply Kd.V_alloc | apply Kd.V_drewN | apply Kd.V_drew)); exact Kd.V_mono HO_650002.out (fun _ hk => ⟨⟨hk.1, ⟨hk.2.1, ⟨hk.2.2.2.1, hk.2.2.2.2⟩⟩⟩, hk.2.2.1⟩)) hg hat)
                        have n1_ := Aside0.mk (blk_grown (g := gb649) (o := .cells #[.int .i64 a0_0, .int .i64 a0_1, .slice A0_2 l0_2.length c0_2] 44 (0, 0)) (by (with_reducible repeat (first | refine blk_drewN ?_ _ | refine blk_drew ?_ | refine blk_alloc ?_ _)); exact BK649.out) hg (Kd.R_ne HO670.out BK649.out (by decide)))
                        have n2_ := Aside0.mk (Kd.R_after (ok := (fun k_ => (w.heap.size ≤ k_) ∧ some k_ ≠ (.slice Ao65 y672.length co65 : Value).ownBlock)) (by (with_reducible repeat (first | apply Kd.R_alloc | apply Kd.R_drewN | apply Kd.R_drew)); exact Kd.R_mono HO663.out (fun _ hk => ⟨⟨hk.1, hk.2.2⟩, hk.2.1⟩)) hg hat)
                        have n3_ := Aside0.mk (Kd.R_after (ok := (fun k_ => (w.heap.size ≤ k_) ∧ some k_ ≠ (.slice (some ⟨go43, 0, none⟩) y661.length co43 : Value).ownBlock)) (by (with_reducible repeat (first | apply Kd.R_alloc | apply Kd.R_drewN | apply Kd.R_drew)); exact Kd.R_mono HO674.out (fun _ hk => ⟨⟨hk.1, hk.2.1⟩, hk.2.2⟩)) hg hat)
                        have n4_ := Aside0.mk (hb)
                        have n5_ := Aside0.mk (ho)
                        clear HO_650002
                        clear BK649
                        clear HO663
                        clear HO674
                        clear HB
                        clear HO670
                        have HO_650002 := n0_
                        have BK649 := n1_
                        have HO663 := n2_
                        have HO674 := n3_
                        have HB := n4_
                        have HO677 := n5_
                        clear n0_ n1_ n2_ n3_ n4_ n5_
                        clear ho hb hg hat
                        obtain ⟨Ao66, co66, eo66⟩ := Kd.R_slice HO677.out
                        (first | subst eo66 | (injection eo66 with f1_ f2_ f3_; have f4_ := f1_.symm; have f5_ := f3_.symm; clear f1_ f2_ f3_; subst f4_; subst f5_))
                        refine hK.out _ _ ⟨(blk_cell BK649.out 0).trans rfl, (blk_cell BK649.out 1).trans rfl, (blk_cell BK649.out 2).trans rfl, ((HB.out.cell (World.block_lt_of_cell? w _ hw671_0)).trans hw671_0)⟩ (fun hHeld => ?_)
                        clear hK K
                        refine norm_ (a' := ?_) ?_ ?_
                        rotate_left
                        · show Act.put _ (some 70) _ = _
                          simp only [Act.put, List.setIfInBounds_toArray, List.set_cons_zero, List.set_cons_succ, i64_w, i32_w]
                          rfl
                        refine one_ (i := 12) (N := some 71) #[true, true, true, true, true, true, true, true, true, true, true, true, true, false, false, false, false, false, false, false] rfl rfl (one_of HT_.out (by kernel_rfl)) (by decide) (fun K hK => ?_)
                        refine goes_ Try.func36 (by kernel_rfl) rfl #[.agg #[.int .i64 a0_0, .int .i64 a0_1, .slice A0_2 l0_2.length c0_2], .int .i64 0, .int .i64 0, .slice Ao66 y675.length co66] (by rfl) rfl rfl (by (try simp only [List.map_toArray, List.map_cons, List.map_nil]); first | done | rfl | (simp only [List.length_drop, List.length_take]; rfl)) ?_
                        with_reducible refine (wageofficelaw28_withheld.calls kj5 a0_0 a0_1 _ _ l0_2 0 0 _ _ y675 t678 t679 t680 _ ?side1 ?side2 ?side3 ?side4 A46.out).mono ?_
                        (case side1 => repeat (first | exact (Kd.V_reads' HO_650002.out).2.2 | (with_reducible refine Kd.C_alloc ?_ _) | (with_reducible refine Kd.C_drewN ?_ _) | (with_reducible refine Kd.C_drew ?_)))
                        (case side2 => exact (Kd.V_reads' HO_650002.out).2.1)
                        (case side3 => repeat (first | exact (Kd.R_reads' HO677.out).2.2 | (with_reducible refine Kd.C_alloc ?_ _) | (with_reducible refine Kd.C_drewN ?_ _) | (with_reducible refine Kd.C_drew ?_)))
                        (case side4 => exact (Kd.R_reads' HO677.out).2.1)
                        rintro e w67 ⟨rfl, hb⟩
                        refine ⟨_, rfl, ?_⟩
                        have n0_ := Aside0.mk (Kd.V_below (by (with_reducible repeat (first | apply Kd.V_alloc | apply Kd.V_drewN | apply Kd.V_drew)); exact HO_650002.out) hb)
                        have n1_ := Aside0.mk (Kd.R_below (by (with_reducible repeat (first | apply Kd.R_alloc | apply Kd.R_drewN | apply Kd.R_drew)); exact HO663.out) hb)
                        have n2_ := Aside0.mk (Kd.R_below (by (with_reducible repeat (first | apply Kd.R_alloc | apply Kd.R_drewN | apply Kd.R_drew)); exact HO674.out) hb)
                        have n3_ := Aside0.mk (Kd.R_below (by (with_reducible repeat (first | apply Kd.R_alloc | apply Kd.R_drewN | apply Kd.R_drew)); exact HO677.out) hb)
                        have n4_ := Aside0.mk (blk_below (g := gb649) (o := .cells #[.int .i64 a0_0, .int .i64 a0_1, .slice A0_2 l0_2.length c0_2] 44 (0, 0)) (by (with_reducible repeat (first | refine blk_drewN ?_ _ | refine blk_drew ?_ | refine blk_alloc ?_ _)); exact BK649.out) hb)
                        have n5_ := Aside0.mk (below_step (by repeat (first | (with_reducible first | exact HB.out | apply below_alloc | apply pw_below_drewN | apply below_drew1 | refine below_set ?_ GE649.out) | exact HB.out)) hb)
                        clear HO_650002
                        clear HO663
                        clear HO674
                        clear HO677
                        clear BK649
                        clear HB
                        have HO_650002 := n0_
                        have HO663 := n1_
                        have HO674 := n2_
                        have HO677 := n3_
                        have BK649 := n4_
                        have HB := n5_
                        clear n0_ n1_ n2_ n3_ n4_ n5_
                        (try clear hb)
                        (try clear hb2)
                        (try clear hk)
                        (try clear hi)
                        refine hK.out _ _ ⟨(blk_cell BK649.out 0).trans rfl, (blk_cell BK649.out 1).trans rfl, (blk_cell BK649.out 2).trans rfl, ((HB.out.cell (World.block_lt_of_cell? w _ hw671_0)).trans hw671_0)⟩ (fun hHeld => ?_)
                        clear hK K
                        refine norm_ (a' := ?_) ?_ ?_
                        rotate_left
                        · show Act.put _ (some 71) _ = _
                          simp only [Act.put, List.setIfInBounds_toArray, List.set_cons_zero, List.set_cons_succ, i64_w, i32_w]
                          rfl
                        refine pure_ (i := 13) (N := some 58) (v := ?_) (a' := ?_) #[true, true, true, true, true, true, true, true, true, true, true, true, true, true, false, false, false, false, false, false] rfl rfl (any_of HT_.out (by kernel_rfl)) (fun _ _ _ h => h) (Or.inl ⟨by rfl, ?_⟩) ?_ ?_
                        rotate_left
                        · intro w'
                          go_simp
                          with_reducible rfl
                        rotate_left
                        · simp only [Act.put, List.setIfInBounds_toArray, List.set_cons_zero, List.set_cons_succ, i64_w, i32_w]
                          rfl
                        refine pure_ (i := 14) (N := some 72) (v := ?_) (a' := ?_) #[true, true, true, true, true, true, true, true, true, true, true, true, true, true, true, false, false, false, false, false] rfl rfl (any_of HT_.out (by kernel_rfl)) (fun _ _ _ h => h) (Or.inl ⟨by rfl, ?_⟩) ?_ ?_
                        rotate_left
                        · intro w'
                          go_simp
                          with_reducible rfl
                        rotate_left
                        · simp only [Act.put, List.setIfInBounds_toArray, List.set_cons_zero, List.set_cons_succ, i64_w, i32_w]
                          rfl
                        refine pure_ (i := 15) (N := some 73) (v := ?_) (a' := ?_) #[true, true, true, true, true, true, true, true, true, true, true, true, true, true, true, true, false, false, false, false] rfl rfl (any_of HT_.out (by kernel_rfl)) (fun _ _ _ h => h) (Or.inl ⟨by rfl, ?_⟩) ?_ ?_
                        rotate_left
                        · intro w'
                          go_simp
                          with_reducible rfl
                        rotate_left
                        · simp only [Act.put, List.setIfInBounds_toArray, List.set_cons_zero, List.set_cons_succ, i64_w, i32_w]
                          rfl
                        refine pure_ (i := 16) (N := some 74) (v := ?_) (a' := ?_) #[true, true, true, true, true, true, true, true, true, true, true, true, true, true, true, true, true, false, false, false] rfl rfl (any_of HT_.out (by kernel_rfl)) (fun _ _ _ h => h) (Or.inl ⟨by rfl, ?_⟩) ?_ ?_
                        rotate_left
                        · intro w'
                          go_simp
                          with_reducible rfl
                        rotate_left
                        · simp only [Act.put, List.setIfInBounds_toArray, List.set_cons_zero, List.set_cons_succ, i64_w, i32_w]
                          rfl
                        refine pure_ (i := 17) (N := some 12) (v := ?_) (a' := ?_) #[true, true, true, true, true, true, true, true, true, true, true, true, true, true, true, true, true, true, false, false] rfl rfl (any_of HT_.out (by kernel_rfl)) (fun _ _ _ h => h) (Or.inl ⟨by rfl, ?_⟩) ?_ ?_
                        rotate_left
                        · intro w'
                          go_simp
                          with_reducible rfl
                        rotate_left
                        · simp only [Act.put, List.setIfInBounds_toArray, List.set_cons_zero, List.set_cons_succ, i64_w, i32_w]
                          rfl
                        refine pure_ (i := 18) (N := some 13) (v := ?_) (a' := ?_) #[true, true, true, true, true, true, true, true, true, true, true, true, true, true, true, true, true, true, true, false] rfl rfl (any_of HT_.out (by kernel_rfl)) (fun _ _ _ h => h) (Or.inl ⟨by rfl, ?_⟩) ?_ ?_
                        rotate_left
                        · intro w'
                          go_simp
                          with_reducible rfl
                        rotate_left
                        · simp only [Act.put, List.setIfInBounds_toArray, List.set_cons_zero, List.set_cons_succ, i64_w, i32_w]
                          rfl
                        refine pure_ (i := 19) (N := some 14) (v := ?_) (a' := ?_) #[true, true, true, true, true, true, true, true, true, true, true, true, true, true, true, true, true, true, true, true] rfl rfl (any_of HT_.out (by kernel_rfl)) (fun _ _ _ h => h) (Or.inl ⟨by rfl, ?_⟩) ?_ ?_
                        rotate_left
                        · intro w'
                          go_simp
                          with_reducible rfl
                        rotate_left
                        · simp only [Act.put, List.setIfInBounds_toArray, List.set_cons_zero, List.set_cons_succ, i64_w, i32_w]
                          rfl
                        refine done_ (done_of HT_.out (by kernel_rfl)) ?_
                        have hcz68_0 : w67.cell? ⟨gb649, 0, none⟩ = some (.int .i64 a0_0) := (blk_cell BK649.out 0).trans rfl
                        have hcz68_1 : w67.cell? ⟨gb649, 1, none⟩ = some (.int .i64 a0_1) := (blk_cell BK649.out 1).trans rfl
                        have hcz68_2 : w67.cell? ⟨gb649, 2, none⟩ = some (.slice A0_2 l0_2.length c0_2) := (blk_cell BK649.out 2).trans rfl
                        have hfz68_0 := blk_frozen BK649.out 0
                        have hfz68_1 := blk_frozen BK649.out 1
                        have hfz68_2 := blk_frozen BK649.out 2
                        try go_wp2_with fail
                        by_cases c48 : t650 = true
                        · subst c48
                          have H1 : (if t680 = true then (if t683 = true then (if t678 = t681 then (some (t679 == t682)) else (some false)) else (some true)) else (some true)) = some r := by rw [if_pos rfl] at H; exact H
                          clear H
                          have H := H1
                          clear H1
                          by_cases c49 : t680 = true
                          · subst c49
                            have H1 : (if t683 = true then (if t678 = t681 then (some (t679 == t682)) else (some false)) else (some true)) = some r := by rw [if_pos rfl] at H; exact H
                            clear H
                            have H := H1
                            clear H1
                            by_cases c50 : t683 = true
                            · subst c50
                              have H1 : (if t678 = t681 then (some (t679 == t682)) else (some false)) = some r := by rw [if_pos rfl] at H; exact H
                              clear H
                              have H := H1
                              clear H1
                              by_cases c51 : t678 = t681
                              · rw [if_pos c51] at H
                                have c51b0 : (t678 == t681) = true := beq_iff_eq.mpr c51
                                have c51b1 : (t678 != t681) = false := bne_eq_false_iff_eq.mpr c51
                                clear c51
                                obtain rfl := Option.some.inj H
                                refine Eq.mpr (congrArg (fun a_ => Calls _ _ a_ _ _) (show _ = #[.agg #[.int .i64 a0_0, .int .i64 a0_1, .slice A0_2 l0_2.length c0_2], .int .i64 0, .int .i64 0, .slice (some ⟨go43, 0, none⟩) y664.length co43] from (by (try simp only [List.map_toArray, List.map_cons, List.map_nil]); first | done | (rw [show y664.length = y661.length from (Kd.R_reads' HO663.out).1.symm] <;> rfl) | rfl | (simp only [List.length_drop, List.length_take]; rfl)))) ?_; (with_reducible refine (wageofficelaw28_withheld.calls kj5 a0_0 a0_1 _ _ l0_2 0 0 _ _ y664 t681 t682 true _ ?side1 ?side2 ?side3 ?side4 A47.out).mono ?_); (case side1 => repeat (first | exact (Kd.V_reads' HO_650002.out).2.2 | (with_reducible refine Kd.C_alloc ?_ _) | (with_reducible refine Kd.C_drewN ?_ _) | (with_reducible refine Kd.C_drew ?_))); (case side2 => exact (Kd.V_reads' HO_650002.out).2.1); (case side3 => repeat (first | exact (Kd.R_reads' HO663.out).2.2 | (with_reducible refine Kd.C_alloc ?_ _) | (with_reducible refine Kd.C_drewN ?_ _) | (with_reducible refine Kd.C_drew ?_))); (case side4 => rw [show y664.length = y661.length from (Kd.R_reads' HO663.out).1.symm]; exact (Kd.R_reads' HO663.out).2.1); rintro e w69 ⟨rfl, hb⟩; have n0_ := Aside0.mk (Kd.V_below (by (with_reducible repeat (first | apply Kd.V_alloc | apply Kd.V_drewN | apply Kd.V_drew)); exact HO_650002.out) hb); have n1_ := Aside0.mk (Kd.R_below (by (with_reducible repeat (first | apply Kd.R_alloc | apply Kd.R_drewN | apply Kd.R_drew)); exact HO663.out) hb); have n2_ := Aside0.mk (Kd.R_below (by (with_reducible repeat (first | apply Kd.R_alloc | apply Kd.R_drewN | apply Kd.R_drew)); exact HO674.out) hb); have n3_ := Aside0.mk (Kd.R_below (by (with_reducible repeat (first | apply Kd.R_alloc | apply Kd.R_drewN | apply Kd.R_drew)); exact HO677.out) hb); have n4_ := Aside0.mk (blk_below (g := gb649) (o := .cells #[.int .i64 a0_0, .int .i64 a0_1, .slice A0_2 l0_2.length c0_2] 44 (0, 0)) (by (with_reducible repeat (first | refine blk_drewN ?_ _ | refine blk_drew ?_ | refine blk_alloc ?_ _)); exact BK649.out) hb); have n5_ := Aside0.mk (below_step (by repeat (first | (with_reducible first | exact HB.out | apply below_alloc | apply pw_below_drewN | apply below_drew1 | refine below_set ?_ GE649.out) | exact HB.out)) hb); clear HO_650002; clear HO663; clear HO674; clear HO677; clear BK649; clear HB; have HO_650002 := n0_; have HO663 := n1_; have HO674 := n2_; have HO677 := n3_; have BK649 := n4_; have HB := n5_; clear n0_ n1_ n2_ n3_ n4_ n5_; (try clear hb); (try clear hb2); (try clear hk); (try clear hi)
                                try go_wp2
                                go_ret
                                exact ⟨by first | rfl | (simp [errW_none, errW_some] <;> rfl) | (simp only [← hji36]; first | rfl | (simp [errW_none, errW_some] <;> rfl)) | (simp [*, errW_none, errW_some] <;> rfl), by repeat (first | (with_reducible first | exact HB.out | apply below_alloc | apply pw_below_drewN | apply below_drew1 | refine below_set ?_ GE649.out) | exact HB.out)⟩
                              · rw [if_neg c51] at H
                                have c51b0 : (t678 == t681) = false := beq_eq_false_iff_ne.mpr c51
                                have c51b1 : (t678 != t681) = true := bne_iff_ne.mpr c51
                                obtain rfl := Option.some.inj H
                                refine Eq.mpr (congrArg (fun a_ => Calls _ _ a_ _ _) (show _ = #[.agg #[.int .i64 a0_0, .int .i64 a0_1, .slice A0_2 l0_2.length c0_2], .int .i64 0, .int .i64 0, .slice (some ⟨go43, 0, none⟩) y664.length co43] from (by (try simp only [List.map_toArray, List.map_cons, List.map_nil]); first | done | (rw [show y664.length = y661.length from (Kd.R_reads' HO663.out).1.symm] <;> rfl) | rfl | (simp only [List.length_drop, List.length_take]; rfl)))) ?_; (with_reducible refine (wageofficelaw28_withheld.calls kj5 a0_0 a0_1 _ _ l0_2 0 0 _ _ y664 t681 t682 true _ ?side1 ?side2 ?side3 ?side4 A47.out).mono ?_); (case side1 => repeat (first | exact (Kd.V_reads' HO_650002.out).2.2 | (with_reducible refine Kd.C_alloc ?_ _) | (with_reducible refine Kd.C_drewN ?_ _) | (with_reducible refine Kd.C_drew ?_))); (case side2 => exact (Kd.V_reads' HO_650002.out).2.1); (case side3 => repeat (first | exact (Kd.R_reads' HO663.out).2.2 | (with_reducible refine Kd.C_alloc ?_ _) | (with_reducible refine Kd.C_drewN ?_ _) | (with_reducible refine Kd.C_drew ?_))); (case side4 => rw [show y664.length = y661.length from (Kd.R_reads' HO663.out).1.symm]; exact (Kd.R_reads' HO663.out).2.1); rintro e w69 ⟨rfl, hb⟩; have n0_ := Aside0.mk (Kd.V_below (by (with_reducible repeat (first | apply Kd.V_alloc | apply Kd.V_drewN | apply Kd.V_drew)); exact HO_650002.out) hb); have n1_ := Aside0.mk (Kd.R_below (by (with_reducible repeat (first | apply Kd.R_alloc | apply Kd.R_drewN | apply Kd.R_drew)); exact HO663.out) hb); have n2_ := Aside0.mk (Kd.R_below (by (with_reducible repeat (first | apply Kd.R_alloc | apply Kd.R_drewN | apply Kd.R_drew)); exact HO674.out) hb); have n3_ := Aside0.mk (Kd.R_below (by (with_reducible repeat (first | apply Kd.R_alloc | apply Kd.R_drewN | apply Kd.R_drew)); exact HO677.out) hb); have n4_ := Aside0.mk (blk_below (g := gb649) (o := .cells #[.int .i64 a0_0, .int .i64 a0_1, .slice A0_2 l0_2.length c0_2] 44 (0, 0)) (by (with_reducible repeat (first | refine blk_drewN ?_ _ | refine blk_drew ?_ | refine blk_alloc ?_ _)); exact BK649.out) hb); have n5_ := Aside0.mk (below_step (by repeat (first | (with_reducible first | exact HB.out | apply below_alloc | apply pw_below_drewN | apply below_drew1 | refine below_set ?_ GE649.out) | exact HB.out)) hb); clear HO_650002; clear HO663; clear HO674; clear HO677; clear BK649; clear HB; have HO_650002 := n0_; have HO663 := n1_; have HO674 := n2_; have HO677 := n3_; have BK649 := n4_; have HB := n5_; clear n0_ n1_ n2_ n3_ n4_ n5_; (try clear hb); (try clear hb2); (try clear hk); (try clear hi)
                                try go_wp2
                                go_ret
                                exact ⟨by first | rfl | (simp [errW_none, errW_some] <;> rfl) | (simp only [← hji36]; first | rfl | (simp [errW_none, errW_some] <;> rfl)) | (simp [*, errW_none, errW_some] <;> rfl), by repeat (first | (with_reducible first | exact HB.out | apply below_alloc | apply pw_below_drewN | apply below_drew1 | refine below_set ?_ GE649.out) | exact HB.out)⟩
                            · replace c50 := Bool.eq_false_iff.mpr c50
                              subst c50
                              have H1 : (some true) = some r := by rw [if_neg (show ¬ (false = true) by decide)] at H; exact H
                              clear H
                              have H := H1
                              clear H1
                              obtain rfl := Option.some.inj H
                              refine Eq.mpr (congrArg (fun a_ => Calls _ _ a_ _ _) (show _ = #[.agg #[.int .i64 a0_0, .int .i64 a0_1, .slice A0_2 l0_2.length c0_2], .int .i64 0, .int .i64 0, .slice (some ⟨go43, 0, none⟩) y664.length co43] from (by (try simp only [List.map_toArray, List.map_cons, List.map_nil]); first | done | (rw [show y664.length = y661.length from (Kd.R_reads' HO663.out).1.symm] <;> rfl) | rfl | (simp only [List.length_drop, List.length_take]; rfl)))) ?_; (with_reducible refine (wageofficelaw28_withheld.calls kj5 a0_0 a0_1 _ _ l0_2 0 0 _ _ y664 t681 t682 false _ ?side1 ?side2 ?side3 ?side4 A47.out).mono ?_); (case side1 => repeat (first | exact (Kd.V_reads' HO_650002.out).2.2 | (with_reducible refine Kd.C_alloc ?_ _) | (with_reducible refine Kd.C_drewN ?_ _) | (with_reducible refine Kd.C_drew ?_))); (case side2 => exact (Kd.V_reads' HO_650002.out).2.1); (case side3 => repeat (first | exact (Kd.R_reads' HO663.out).2.2 | (with_reducible refine Kd.C_alloc ?_ _) | (with_reducible refine Kd.C_drewN ?_ _) | (with_reducible refine Kd.C_drew ?_))); (case side4 => rw [show y664.length = y661.length from (Kd.R_reads' HO663.out).1.symm]; exact (Kd.R_reads' HO663.out).2.1); rintro e w69 ⟨rfl, hb⟩; have n0_ := Aside0.mk (Kd.V_below (by (with_reducible repeat (first | apply Kd.V_alloc | apply Kd.V_drewN | apply Kd.V_drew)); exact HO_650002.out) hb); have n1_ := Aside0.mk (Kd.R_below (by (with_reducible repeat (first | apply Kd.R_alloc | apply Kd.R_drewN | apply Kd.R_drew)); exact HO663.out) hb); have n2_ := Aside0.mk (Kd.R_below (by (with_reducible repeat (first | apply Kd.R_alloc | apply Kd.R_drewN | apply Kd.R_drew)); exact HO674.out) hb); have n3_ := Aside0.mk (Kd.R_below (by (with_reducible repeat (first | apply Kd.R_alloc | apply Kd.R_drewN | apply Kd.R_drew)); exact HO677.out) hb); have n4_ := Aside0.mk (blk_below (g := gb649) (o := .cells #[.int .i64 a0_0, .int .i64 a0_1, .slice A0_2 l0_2.length c0_2] 44 (0, 0)) (by (with_reducible repeat (first | refine blk_drewN ?_ _ | refine blk_drew ?_ | refine blk_alloc ?_ _)); exact BK649.out) hb); have n5_ := Aside0.mk (below_step (by repeat (first | (with_reducible first | exact HB.out | apply below_alloc | apply pw_below_drewN | apply below_drew1 | refine below_set ?_ GE649.out) | exact HB.out)) hb); clear HO_650002; clear HO663; clear HO674; clear HO677; clear BK649; clear HB; have HO_650002 := n0_; have HO663 := n1_; have HO674 := n2_; have HO677 := n3_; have BK649 := n4_; have HB := n5_; clear n0_ n1_ n2_ n3_ n4_ n5_; (try clear hb); (try clear hb2); (try clear hk); (try clear hi)
                              try go_wp2
                              go_ret
                              exact ⟨by first | rfl | (simp [errW_none, errW_some] <;> rfl) | (simp only [← hji36]; first | rfl | (simp [errW_none, errW_some] <;> rfl)) | (simp [*, errW_none, errW_some] <;> rfl), by repeat (first | (with_reducible first | exact HB.out | apply below_alloc | apply pw_below_drewN | apply below_drew1 | refine below_set ?_ GE649.out) | exact HB.out)⟩
                          · replace c49 := Bool.eq_false_iff.mpr c49
                            subst c49
                            have H1 : (some true) = some r := by rw [if_neg (show ¬ (false = true) by decide)] at H; exact H
                            clear H
                            have H := H1
                            clear H1
                            obtain rfl := Option.some.inj H
                            refine Eq.mpr (congrArg (fun a_ => Calls _ _ a_ _ _) (show _ = #[.agg #[.int .i64 a0_0, .int .i64 a0_1, .slice A0_2 l0_2.length c0_2], .int .i64 0, .int .i64 0, .slice (some ⟨go43, 0, none⟩) y664.length co43] from (by (try simp only [List.map_toArray, List.map_cons, List.map_nil]); first | done | (rw [show y664.length = y661.length from (Kd.R_reads' HO663.out).1.symm] <;> rfl) | rfl | (simp only [List.length_drop, List.length_take]; rfl)))) ?_; (with_reducible refine (wageofficelaw28_withheld.calls kj5 a0_0 a0_1 _ _ l0_2 0 0 _ _ y664 t681 t682 t683 _ ?side1 ?side2 ?side3 ?side4 A47.out).mono ?_); (case side1 => repeat (first | exact (Kd.V_reads' HO_650002.out).2.2 | (with_reducible refine Kd.C_alloc ?_ _) | (with_reducible refine Kd.C_drewN ?_ _) | (with_reducible refine Kd.C_drew ?_))); (case side2 => exact (Kd.V_reads' HO_650002.out).2.1); (case side3 => repeat (first | exact (Kd.R_reads' HO663.out).2.2 | (with_reducible refine Kd.C_alloc ?_ _) | (with_reducible refine Kd.C_drewN ?_ _) | (with_reducible refine Kd.C_drew ?_))); (case side4 => rw [show y664.length = y661.length from (Kd.R_reads' HO663.out).1.symm]; exact (Kd.R_reads' HO663.out).2.1); rintro e w69 ⟨rfl, hb⟩; have n0_ := Aside0.mk (Kd.V_below (by (with_reducible repeat (first | apply Kd.V_alloc | apply Kd.V_drewN | apply Kd.V_drew)); exact HO_650002.out) hb); have n1_ := Aside0.mk (Kd.R_below (by (with_reducible repeat (first | apply Kd.R_alloc | apply Kd.R_drewN | apply Kd.R_drew)); exact HO663.out) hb); have n2_ := Aside0.mk (Kd.R_below (by (with_reducible repeat (first | apply Kd.R_alloc | apply Kd.R_drewN | apply Kd.R_drew)); exact HO674.out) hb); have n3_ := Aside0.mk (Kd.R_below (by (with_reducible repeat (first | apply Kd.R_alloc | apply Kd.R_drewN | apply Kd.R_drew)); exact HO677.out) hb); have n4_ := Aside0.mk (blk_below (g := gb649) (o := .cells #[.int .i64 a0_0, .int .i64 a0_1, .slice A0_2 l0_2.length c0_2] 44 (0, 0)) (by (with_reducible repeat (first | refine blk_drewN ?_ _ | refine blk_drew ?_ | refine blk_alloc ?_ _)); exact BK649.out) hb); have n5_ := Aside0.mk (below_step (by repeat (first | (with_reducible first | exact HB.out | apply below_alloc | apply pw_below_drewN | apply below_drew1 | refine below_set ?_ GE649.out) | exact HB.out)) hb); clear HO_650002; clear HO663; clear HO674; clear HO677; clear BK649; clear HB; have HO_650002 := n0_; have HO663 := n1_; have HO674 := n2_; have HO677 := n3_; have BK649 := n4_; have HB := n5_; clear n0_ n1_ n2_ n3_ n4_ n5_; (try clear hb); (try clear hb2); (try clear hk); (try clear hi)
                            try go_wp2
                            go_ret
                            exact ⟨by first | rfl | (simp [errW_none, errW_some] <;> rfl) | (simp only [← hji36]; first | rfl | (simp [errW_none, errW_some] <;> rfl)) | (simp [*, errW_none, errW_some] <;> rfl), by repeat (first | (with_reducible first | exact HB.out | apply below_alloc | apply pw_below_drewN | apply below_drew1 | refine below_set ?_ GE649.out) | exact HB.out)⟩
                        · replace c48 := Bool.eq_false_iff.mpr c48
                          subst c48
                          have H1 : (some false) = some r := by rw [if_neg (show ¬ (false = true) by decide)] at H; exact H
                          clear H
                          have H := H1
                          clear H1
                          obtain rfl := Option.some.inj H
                          refine Eq.mpr (congrArg (fun a_ => Calls _ _ a_ _ _) (show _ = #[.agg #[.int .i64 a0_0, .int .i64 a0_1, .slice A0_2 l0_2.length c0_2], .int .i64 0, .int .i64 0, .slice (some ⟨go43, 0, none⟩) y664.length co43] from (by (try simp only [List.map_toArray, List.map_cons, List.map_nil]); first | done | (rw [show y664.length = y661.length from (Kd.R_reads' HO663.out).1.symm] <;> rfl) | rfl | (simp only [List.length_drop, List.length_take]; rfl)))) ?_; (with_reducible refine (wageofficelaw28_withheld.calls kj5 a0_0 a0_1 _ _ l0_2 0 0 _ _ y664 t681 t682 t683 _ ?side1 ?side2 ?side3 ?side4 A47.out).mono ?_); (case side1 => repeat (first | exact (Kd.V_reads' HO_650002.out).2.2 | (with_reducible refine Kd.C_alloc ?_ _) | (with_reducible refine Kd.C_drewN ?_ _) | (with_reducible refine Kd.C_drew ?_))); (case side2 => exact (Kd.V_reads' HO_650002.out).2.1); (case side3 => repeat (first | exact (Kd.R_reads' HO663.out).2.2 | (with_reducible refine Kd.C_alloc ?_ _) | (with_reducible refine Kd.C_drewN ?_ _) | (with_reducible refine Kd.C_drew ?_))); (case side4 => rw [show y664.length = y661.length from (Kd.R_reads' HO663.out).1.symm]; exact (Kd.R_reads' HO663.out).2.1); rintro e w69 ⟨rfl, hb⟩; have n0_ := Aside0.mk (Kd.V_below (by (with_reducible repeat (first | apply Kd.V_alloc | apply Kd.V_drewN | apply Kd.V_drew)); exact HO_650002.out) hb); have n1_ := Aside0.mk (Kd.R_below (by (with_reducible repeat (first | apply Kd.R_alloc | apply Kd.R_drewN | apply Kd.R_drew)); exact HO663.out) hb); have n2_ := Aside0.mk (Kd.R_below (by (with_reducible repeat (first | apply Kd.R_alloc | apply Kd.R_drewN | apply Kd.R_drew)); exact HO674.out) hb); have n3_ := Aside0.mk (Kd.R_below (by (with_reducible repeat (first | apply Kd.R_alloc | apply Kd.R_drewN | apply Kd.R_drew)); exact HO677.out) hb); have n4_ := Aside0.mk (blk_below (g := gb649) (o := .cells #[.int .i64 a0_0, .int .i64 a0_1, .slice A0_2 l0_2.length c0_2] 44 (0, 0)) (by (with_reducible repeat (first | refine blk_drewN ?_ _ | refine blk_drew ?_ | refine blk_alloc ?_ _)); exact BK649.out) hb); have n5_ := Aside0.mk (below_step (by repeat (first | (with_reducible first | exact HB.out | apply below_alloc | apply pw_below_drewN | apply below_drew1 | refine below_set ?_ GE649.out) | exact HB.out)) hb); clear HO_650002; clear HO663; clear HO674; clear HO677; clear BK649; clear HB; have HO_650002 := n0_; have HO663 := n1_; have HO674 := n2_; have HO677 := n3_; have BK649 := n4_; have HB := n5_; clear n0_ n1_ n2_ n3_ n4_ n5_; (try clear hb); (try clear hb2); (try clear hk); (try clear hi)
                          try go_wp2
                          go_ret
                          exact ⟨by first | rfl | (simp [errW_none, errW_some] <;> rfl) | (simp only [← hji36]; first | rfl | (simp [errW_none, errW_some] <;> rfl)) | (simp [*, errW_none, errW_some] <;> rfl), by repeat (first | (with_reducible first | exact HB.out | apply below_alloc | apply pw_below_drewN | apply below_drew1 | refine below_set ?_ GE649.out) | exact HB.out)⟩
                      · rw [if_neg c45] at H
                        exact absurd H (by simp)
                    · rw [if_neg c44] at H
                      exact absurd H (by simp)
                  · rw [if_neg c42] at H
                    exact absurd H (by simp)
                · rw [if_neg c41] at H
                  exact absurd H (by simp)
              · replace c40 := Bool.eq_false_iff.mpr c40
                subst c40
                have H1 : (some t650) = some r := by rw [if_neg (show ¬ (false = true) by decide)] at H; exact H
                clear H
                have H := H1
                clear H1
                obtain rfl := Option.some.inj H
                have p656 : 0 ≤ ((ji36) : Int) := of_decide_eq_true (by first | (with_reducible assumption) | assumption)
                have q656 : (ji36) < (l1.length : Int) := of_decide_eq_true (by first | (with_reducible assumption) | assumption)
                obtain ⟨ad656, e656, hx656_0⟩ := Kd.at_int HR1.out (ji36) p656 q656
                cases e656
                replace hx656_0 := (HB.out.cell (World.block_lt_of_cell? w _ hx656_0)).trans hx656_0
                replace p656 := eq_true p656
                replace q656 := eq_true q656
                go_wp2_with (first | ((with_reducible refine gate_callee (f := 40) rfl ?_); refine goesL_ (some 48) rfl rfl Try.func40 (by kernel_rfl) rfl #[.int .i64 (rd l1 (ji36))] rfl (by (try simp only [List.map_toArray, List.map_cons, List.map_nil]); first | done | (simp only [hji36]; rfl) | rfl | (simp only [List.length_drop, List.length_take]; rfl)) ?_; (with_reducible refine (wageofficeref28_In.calls (rd l1 (ji36)) false _ A39.out).mono ?_); rintro e w' ⟨rfl, ⟨nd, rfl⟩⟩; refine ⟨_, rfl, ?_⟩))
                go_ret
                exact ⟨by first | rfl | (simp [errW_none, errW_some] <;> rfl) | (simp only [← hji36]; first | rfl | (simp [errW_none, errW_some] <;> rfl)) | (simp [*, errW_none, errW_some] <;> rfl), by repeat (first | (with_reducible first | exact HB.out | apply below_alloc | apply pw_below_drewN | apply below_drew1 | refine below_set ?_ GE649.out) | exact HB.out)⟩
            · rw [if_neg c38] at H
              exact absurd H (by simp)
          · rw [if_neg c37] at H
            exact absurd H (by simp)

end Go.Proofs.Ytnadfkhllfgoiaa.My
