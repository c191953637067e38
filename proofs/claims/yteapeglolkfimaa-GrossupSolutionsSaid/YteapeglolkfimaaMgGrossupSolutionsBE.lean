-- Merged by a program of this session (wip/sh/merge.py) from texts of mine.
import Derived.Test.YteapeglolkfimaaMyx0
import Derived.Test.YteapeglolkfimaaMgGrossupSolutionsBD
import Derived.Test.YteapeglolkfimaaMyx26
import Derived.Test.YteapeglolkfimaaMyx40
import Derived.Test.YteapeglolkfimaaMyx69
import Derived.Test.YteapeglolkfimaaPwE
import Derived.Test.YteapeglolkfimaaKdX
import Derived.ChangeArms
import Derived.WideShapes
import Derived.Lib.SmallJoins
import Derived.Deep.Slices
section
-- Written by a program of this session (wip/myprint.py), which drives the kit's print over hand-written fragments. Not trusted: Lean checks it.

namespace Go.Proofs.Yteapeglolkfimaa.My
open Go.Proofs.Yteapeglolkfimaa.Aid Go.Proofs.Yteapeglolkfimaa.KdX
open Go.RowKit Go.Proofs.YteapeglolkfimaaW.PrintWords Go.Proofs.YteapeglolkfimaaW.PrintLast Go.Proofs.YteapeglolkfimaaW.PrintMore
attribute [local go_sem] max2_int min2_int max_two min_two max_three min_three max_four min_four   -- for this text's walks alone
set_option linter.unusedVariables false
set_option linter.unusedSimpArgs false

/-! ### wageofficelaw30_example: function 25 -/
def wageofficelaw30_example.f  : Option (Int × (List (S39))) := some (10, (([(⟨0, 0, 0⟩ : S39), (⟨1000, 0, 10⟩ : S39), (⟨1200, 2000, 5⟩ : S39)] : List (S39))))
set_option maxHeartbeats 8000000 in
set_option maxRecDepth 100000 in
theorem wageofficelaw30_example.calls  (r1 : Int) (r2 : List (S39)) (w : World) (h : wageofficelaw30_example.f  = some (r1, r2)) :
    Calls Try.prog 25 #[] w fun e w' => ∃ v1_ : Value, e = .returned (.agg #[.int .i64 r1, v1_]) ∧ Kd.R k39 39 w' w.heap.size (fun _ => True) v1_ r2 ∧ Below w.heap.size w w' := by
  have hu24 := Try.underlying24
  have hu39 := Try.underlying39
  have HB := Aside0.mk (Below.refl w.heap.size w)
  have H : (some (10, (([(⟨0, 0, 0⟩ : S39), (⟨1000, 0, 10⟩ : S39), (⟨1200, 2000, 5⟩ : S39)] : List (S39))))) = some (r1, r2) := h
  clear h
  obtain ⟨y132, hy132⟩ : ∃ y_ : List (S39), y_ = (([(⟨0, 0, 0⟩ : S39), (⟨1000, 0, 10⟩ : S39), (⟨1200, 2000, 5⟩ : S39)] : List (S39))) := ⟨_, rfl⟩
  replace H : (some (10, y132)) = some (r1, r2) := by first | (rw [hy132]; with_reducible exact H) | (have H2_ := (Option.bind_some _ _).symm.trans H; rw [hy132]; with_reducible exact H2_) | (have H2_ := (Option.bind_some _ _).symm.trans H; with_reducible exact H2_) | with_reducible exact H | (rw [hy132]; exact H) | exact H
  have Ny132 := Aside0.mk hy132
  clear hy132
  simp only [Option.some.injEq, Prod.mk.injEq] at H
  obtain ⟨rfl, rfl⟩ := H
  go_enter Try.func25, Try.ntmps25
  go_wp2_with (first | ((with_reducible refine gate_dst (N := 0) rfl ?_); refine box_event ?hg (N := 0) ?hd (cs := #[.int .i64 0, .slice none 0 0]) (t := 24) ?hr ?_; (case hd => rfl); (case hg => rfl); (case hr => first | (go_simp; done) | (go_simp; rfl)); intro gb131 hg w1 hbox hb; have n0_ := Aside0.mk (below_step (by repeat (first | (with_reducible first | exact HB.out | apply below_alloc | apply pw_below_drewN | apply below_drew1) | exact HB.out)) hb); have n1_ := Aside0.mk (hbox); have n2_ := Aside0.mk ((by rw [hg]; exact (below_size (by repeat (first | (with_reducible first | exact HB.out | apply below_alloc | apply pw_below_drewN | apply below_drew1) | exact HB.out))) : w.heap.size ≤ gb131)); have n3_ := Aside0.mk ((by rw [hg]; exact (below_size (by repeat (first | (with_reducible first | exact HB.out | apply below_alloc | apply pw_below_drewN | apply below_drew1) | exact HB.out))) : w.heap.size ≤ gb131)); clear HB; have HB := n0_; have BK131 := n1_; have GW131 := n2_; have GE131 := n3_; clear n0_ n1_ n2_ n3_; clear hb hbox hg) | ((with_reducible refine gate_dst (N := 4) rfl ?_); refine Kd.R_lit k39 _ 39 ?hg (N := 4) ?hd (xs := ([(⟨0, 0, 0⟩ : S39), (⟨1000, 0, 10⟩ : S39), (⟨1200, 2000, 5⟩ : S39)] : List (S39))) (inner := [.int .i64 0, .int .i64 0, .int .i64 0, .int .i64 1000, .int .i64 0, .int .i64 10, .int .i64 1200, .int .i64 2000, .int .i64 5]) (ok := fun _ => True) (okp := fun _ => True) ?hr ?hp (fun _ hk => hk) trivial (Below.refl _ _) (Nat.le_refl _) (by simp) ?_; (case hd => rfl); (case hg => rfl); (case hr => first | (go_simp; done) | (go_simp; rfl)); (case hp => exact (Reps.c3 (show Kd.M k39 _ _ _ (⟨0, 0, 0⟩ : S39) [.int .i64 0, .int .i64 0, .int .i64 0] from (k39_mkM _ _ _ (⟨0, 0, 0⟩ : S39) )) (Reps.c3 (show Kd.M k39 _ _ _ (⟨1000, 0, 10⟩ : S39) [.int .i64 1000, .int .i64 0, .int .i64 10] from (k39_mkM _ _ _ (⟨1000, 0, 10⟩ : S39) )) (Reps.c3 (show Kd.M k39 _ _ _ (⟨1200, 2000, 5⟩ : S39) [.int .i64 1200, .int .i64 2000, .int .i64 5] from (k39_mkM _ _ _ (⟨1200, 2000, 5⟩ : S39) )) (Reps.none _ _))))); intro v133 w2 ho3 hb hg_ hnew_; clear hg_ hnew_; (first | rw [← Ny132.out] at ho3 | (simp only [Int.reduceToNat] at ho3; rw [← Ny132.out] at ho3)); have n0_ := Aside0.mk (Kd.R_lower ho3 (below_size (by repeat (first | (with_reducible first | exact HB.out | apply below_alloc | apply pw_below_drewN | apply below_drew1 | refine below_set ?_ GE131.out) | exact HB.out)))); have n1_ := Aside0.mk (blk_below (g := gb131) (o := .cells #[.int .i64 0, .slice none 0 0] 24 (0, 0)) (by (with_reducible repeat (first | refine blk_drewN ?_ _ | refine blk_drew ?_ | refine blk_alloc ?_ _)); exact BK131.out) hb); have n2_ := Aside0.mk (below_step (by repeat (first | (with_reducible first | exact HB.out | apply below_alloc | apply pw_below_drewN | apply below_drew1 | refine below_set ?_ GE131.out) | exact HB.out)) hb); clear BK131; clear HB; have HO134 := n0_; have BK131 := n1_; have HB := n2_; clear n0_ n1_ n2_; clear hb ho3; obtain ⟨Ao4, co4, eo4⟩ := Kd.R_slice HO134.out; subst eo4; have hcz5_0 : w2.cell? ⟨gb131, 0, none⟩ = some (.int .i64 0) := (blk_cell BK131.out 0).trans rfl; have hcz5_1 : w2.cell? ⟨gb131, 1, none⟩ = some (.slice none 0 0) := (blk_cell BK131.out 1).trans rfl; have hfz5_0 := blk_frozen BK131.out 0; have hfz5_1 := blk_frozen BK131.out 1))
  refine bodyPost_ret (results_cell_row rfl _ _ gb131 24 #[.int .i64 10, .slice Ao4 y132.length co4] (0, 0) _ rfl (by (with_reducible repeat (first | refine blk_drewN ?_ _ | refine blk_drew ?_ | refine blk_alloc ?_ _)); refine blk_put (cs := #[.int .i64 10, .slice none 0 0]) ?_ 1 _ rfl; (with_reducible repeat (first | refine blk_drewN ?_ _ | refine blk_drew ?_ | refine blk_alloc ?_ _)); refine blk_put (cs := #[.int .i64 0, .slice none 0 0]) ?_ 0 _ rfl; (with_reducible repeat (first | refine blk_drewN ?_ _ | refine blk_drew ?_ | refine blk_alloc ?_ _)); exact BK131.out) Try.underlying24 rfl (by kernel_rfl)) rfl ?_
  exact ⟨_, by first | rfl | (simp [errW_none, errW_some] <;> rfl) | (simp [*, errW_none, errW_some] <;> rfl), by (with_reducible repeat (first | apply Kd.R_alloc | apply Kd.R_drewN | apply Kd.R_drew)); exact Kd.R_mono (Kd.R_far (p := ⟨gb131, 1, none⟩) (Kd.R_far (p := ⟨gb131, 0, none⟩) (Kd.R_types HO134.out BK131.out (by decide)) (fun _ hk => hk.2) (.int .i64 10)) (fun _ hk => hk.2) (.slice Ao4 y132.length co4)) (fun _ hk => trivial), by repeat (first | (with_reducible first | exact HB.out | apply below_alloc | apply pw_below_drewN | apply below_drew1 | refine below_set ?_ GE131.out) | exact HB.out)⟩

end Go.Proofs.Yteapeglolkfimaa.My
end
section
-- Written by a program of this session (wip/myprint.py), which drives the kit's print over hand-written fragments. Not trusted: Lean checks it.




namespace Go.Proofs.Yteapeglolkfimaa.My
open Go.Proofs.Yteapeglolkfimaa.Aid Go.Proofs.Yteapeglolkfimaa.KdX
open Go.RowKit Go.Proofs.YteapeglolkfimaaW.PrintWords Go.Proofs.YteapeglolkfimaaW.PrintLast Go.Proofs.YteapeglolkfimaaW.PrintMore
attribute [local go_sem] max2_int min2_int max_two min_two max_three min_three max_four min_four   -- for this text's walks alone
set_option linter.unusedVariables false
set_option linter.unusedSimpArgs false

/-! ### wageofficelaw30_solves: function 24 -/
def wageofficelaw30_solves.f (k : Nat) (a0 : Int) (a1 : Int) (a2 : Int) : Option (Bool) := (wageofficelaw30_example.f).bind fun bt143 => ((grossup_Solve.f k bt143.1 bt143.2 a0).bind fun bt147 => (if bt147.2 = 0 then ((wageofficeref30_Spans.f k bt147.1 (([(⟨a1, wrap64 (a2 + 1)⟩ : S36)] : List (S36)))).bind fun t154 => (some t154)) else (some false)))
theorem wageofficelaw30_solves.mono : ∀ a0 a1 a2 k, LeO (wageofficelaw30_solves.f k a0 a1 a2) (wageofficelaw30_solves.f (k + 1) a0 a1 a2) := by
  intro a0 a1 a2 k
  unfold wageofficelaw30_solves.f
  repeat' first
      | (with_reducible exact grossup_Solve.mono _ _ _ _)
      | (with_reducible exact wageofficeref30_Spans.mono _ _ _)
      | (with_reducible exact LeO.refl _)
      | (with_reducible exact LeO.none _)
      | (with_reducible refine LeO.ite ?_ ?_)
      | (with_reducible refine LeO.bind ?_ (fun _ => ?_))
      | exact grossup_Solve.mono _ _ _ _
      | exact wageofficeref30_Spans.mono _ _ _
      | exact LeO.none _
      | refine LeO.ite ?_ ?_
      | refine LeO.bind ?_ (fun _ => ?_)
set_option maxHeartbeats 8000000 in
set_option maxRecDepth 100000 in
theorem wageofficelaw30_solves.calls (k : Nat) (a0 : Int) (a1 : Int) (a2 : Int) (r : Bool) (w : World) (h : wageofficelaw30_solves.f k a0 a1 a2 = some r) :
    Calls Try.prog 24 #[.int .i64 a0, .int .i64 a1, .int .i64 a2] w fun e w' => e = .returned (.bool r) ∧ Below w.heap.size w w' := by
  have hu36 := Try.underlying36
  have HB := Aside0.mk (Below.refl w.heap.size w)
  have H : ((wageofficelaw30_example.f).bind fun bt143 => ((grossup_Solve.f k bt143.1 bt143.2 a0).bind fun bt147 => (if bt147.2 = 0 then ((wageofficeref30_Spans.f k bt147.1 (([(⟨a1, wrap64 (a2 + 1)⟩ : S36)] : List (S36)))).bind fun t154 => (some t154)) else (some false)))) = some r := h
  clear h
  replace H := Option.bind_eq_some_iff.mp H
  obtain ⟨⟨t143, t144⟩, A40, H⟩ := H
  replace H : ((grossup_Solve.f k t143 t144 a0).bind fun bt147 => (if bt147.2 = 0 then ((wageofficeref30_Spans.f k bt147.1 (([(⟨a1, wrap64 (a2 + 1)⟩ : S36)] : List (S36)))).bind fun t154 => (some t154)) else (some false))) = some r := H
  have A4 := Aside0.mk A40
  clear A40
  replace H := Option.bind_eq_some_iff.mp H
  obtain ⟨⟨t147, t150⟩, A50, H⟩ := H
  replace H : (if t150 = 0 then ((wageofficeref30_Spans.f k t147 (([(⟨a1, wrap64 (a2 + 1)⟩ : S36)] : List (S36)))).bind fun t154 => (some t154)) else (some false)) = some r := H
  have A5 := Aside0.mk A50
  clear A50
  by_cases c6 : t150 = 0
  · rw [if_pos c6] at H
    have c6b0 : (t150 == 0) = true := beq_iff_eq.mpr c6
    have c6b1 : (t150 != 0) = false := bne_eq_false_iff_eq.mpr c6
    clear c6
    obtain ⟨y151, hy151⟩ : ∃ y_ : List (S36), y_ = (([(⟨a1, wrap64 (a2 + 1)⟩ : S36)] : List (S36))) := ⟨_, rfl⟩
    replace H : ((wageofficeref30_Spans.f k t147 y151).bind fun t154 => (some t154)) = some r := by first | (rw [hy151]; with_reducible exact H) | (have H2_ := (Option.bind_some _ _).symm.trans H; rw [hy151]; with_reducible exact H2_) | (have H2_ := (Option.bind_some _ _).symm.trans H; with_reducible exact H2_) | with_reducible exact H | (rw [hy151]; exact H) | exact H
    have Ny151 := Aside0.mk hy151
    clear hy151
    replace H := Option.bind_eq_some_iff.mp H
    obtain ⟨t154, A70, H⟩ := H
    replace H : (some t154) = some r := H
    have A7 := Aside0.mk A70
    clear A70
    obtain rfl := Option.some.inj H
    go_enter Try.func24, Try.ntmps24
    go_wp2_with (first | ((with_reducible refine gate_callee (f := 25) rfl ?_); refine goesL_ (some 10) rfl rfl Try.func25 (by kernel_rfl) rfl #[] rfl (by (try simp only [List.map_toArray, List.map_cons, List.map_nil]); first | done | rfl | (simp only [List.length_drop, List.length_take]; rfl)) ?_; (with_reducible refine (wageofficelaw30_example.calls  t143 t144 _ A4.out).mono ?_); rintro e w8 ⟨v145, rfl, ho0, hb⟩; refine ⟨_, rfl, ?_⟩; have n0_ := Aside0.mk (Kd.R_lower ho0 (below_size (by repeat (first | (with_reducible first | exact HB.out | apply below_alloc | apply pw_below_drewN | apply below_drew1) | exact HB.out)))); have n1_ := Aside0.mk (below_step (by repeat (first | (with_reducible first | exact HB.out | apply below_alloc | apply pw_below_drewN | apply below_drew1) | exact HB.out)) hb); clear HB; have HO146 := n0_; have HB := n1_; clear n0_ n1_; (try clear hb); (try clear hb2); (try clear hk); (try clear hi); (try clear ho0); obtain ⟨Ao9, co9, eo9⟩ := Kd.R_slice HO146.out; subst eo9) | ((with_reducible refine gate_callee (f := 14) rfl ?_); refine goesL_ (some 12) rfl rfl Try.func14 (by kernel_rfl) rfl #[.agg #[.int .i64 t143, .slice Ao9 t144.length co9], .int .i64 a0] rfl (by (try simp only [List.map_toArray, List.map_cons, List.map_nil]); first | done | rfl | (simp only [List.length_drop, List.length_take]; rfl)) ?_; (with_reducible refine (grossup_Solve.calls k t143 _ _ t144 a0 t147 t150 _ ?side1 ?side2 A5.out).mono ?_); (case side1 => repeat (first | exact (Kd.R_reads' HO146.out).2.2 | (with_reducible refine Kd.C_alloc ?_ _) | (with_reducible refine Kd.C_drewN ?_ _) | (with_reducible refine Kd.C_drew ?_))); (case side2 => exact (Kd.R_reads' HO146.out).2.1); rintro e w10 ⟨v148, rfl, ho0, hb⟩; refine ⟨_, rfl, ?_⟩; have n0_ := Aside0.mk (Kd.R_below (by (with_reducible repeat (first | apply Kd.R_alloc | apply Kd.R_drewN | apply Kd.R_drew)); exact HO146.out) hb); have n1_ := Aside0.mk (Kd.R_lower ho0 (below_size (by repeat (first | (with_reducible first | exact HB.out | apply below_alloc | apply pw_below_drewN | apply below_drew1) | exact HB.out)))); have n2_ := Aside0.mk (below_step (by repeat (first | (with_reducible first | exact HB.out | apply below_alloc | apply pw_below_drewN | apply below_drew1) | exact HB.out)) hb); clear HO146; clear HB; have HO146 := n0_; have HO149 := n1_; have HB := n2_; clear n0_ n1_ n2_; (try clear hb); (try clear hb2); (try clear hk); (try clear hi); (try clear ho0)) | ((with_reducible refine gate_dst (N := 23) rfl ?_); (try (refine gate_guard (by rfl) ?_; dsimp only)); refine Kd.R_lit k36 _ 36 ?hg (N := 23) ?hd (xs := ([(⟨a1, wrap64 (a2 + 1)⟩ : S36)] : List (S36))) (inner := [.int .i64 a1, .int .i64 (wrap64 (a2 + 1))]) (ok := fun _ => True) (okp := fun _ => True) ?hr ?hp (fun _ hk => hk) trivial (Below.refl _ _) (Nat.le_refl _) (by simp) ?_; (case hd => rfl); (case hg => rfl); (case hr => first | (go_simp; done) | (go_simp; rfl)); (case hp => exact (Reps.c2 (show Kd.M k36 _ _ _ (⟨a1, wrap64 (a2 + 1)⟩ : S36) [.int .i64 a1, .int .i64 (wrap64 (a2 + 1))] from (k36_mkM _ _ _ (⟨a1, wrap64 (a2 + 1)⟩ : S36) )) (Reps.none _ _))); intro v152 w11 ho12 hb hg_ hnew_; clear hg_ hnew_; (first | rw [← Ny151.out] at ho12 | (simp only [Int.reduceToNat] at ho12; rw [← Ny151.out] at ho12)); have n0_ := Aside0.mk (Kd.R_below (by (with_reducible repeat (first | apply Kd.R_alloc | apply Kd.R_drewN | apply Kd.R_drew)); exact HO146.out) hb); have n1_ := Aside0.mk (Kd.R_elder' (by (with_reducible repeat (first | apply Kd.R_alloc | apply Kd.R_drewN | apply Kd.R_drew)); exact HO149.out) (Kd.R_base ho12) hb); have n2_ := Aside0.mk (Kd.R_lower (Kd.R_new' ho12 (Kd.R_lt (by (with_reducible repeat (first | apply Kd.R_alloc | apply Kd.R_drewN | apply Kd.R_drew)); exact HO149.out))) (below_size (by repeat (first | (with_reducible first | exact HB.out | apply below_alloc | apply pw_below_drewN | apply below_drew1) | exact HB.out)))); have n3_ := Aside0.mk (below_step (by repeat (first | (with_reducible first | exact HB.out | apply below_alloc | apply pw_below_drewN | apply below_drew1) | exact HB.out)) hb); clear HO146; clear HO149; clear HB; have HO146 := n0_; have HO149 := n1_; have HO153 := n2_; have HB := n3_; clear n0_ n1_ n2_ n3_; clear hb ho12; obtain ⟨Ao13, co13, eo13⟩ := Kd.R_slice HO149.out; subst eo13; obtain ⟨Ao14, co14, eo14⟩ := Kd.R_slice HO153.out; subst eo14) | (go_at_call 18; (with_reducible refine (wageofficeref30_Spans.calls k _ _ t147 _ _ y151 t154 _ ?side1 ?side2 ?side3 ?side4 A7.out).mono ?_); (case side1 => repeat (first | exact (Kd.R_reads' HO149.out).2.2 | (with_reducible refine Kd.C_alloc ?_ _) | (with_reducible refine Kd.C_drewN ?_ _) | (with_reducible refine Kd.C_drew ?_))); (case side2 => exact (Kd.R_reads' HO149.out).2.1); (case side3 => repeat (first | exact (Kd.R_reads' HO153.out).2.2 | (with_reducible refine Kd.C_alloc ?_ _) | (with_reducible refine Kd.C_drewN ?_ _) | (with_reducible refine Kd.C_drew ?_))); (case side4 => exact (Kd.R_reads' HO153.out).2.1); rintro e w' ⟨rfl, ⟨nd, rfl⟩⟩))
    go_ret
    exact ⟨by first | rfl | (simp [errW_none, errW_some] <;> rfl) | (simp [*, errW_none, errW_some] <;> rfl), by repeat (first | (with_reducible first | exact HB.out | apply below_alloc | apply pw_below_drewN | apply below_drew1) | exact HB.out)⟩
  · rw [if_neg c6] at H
    have c6b0 : (t150 == 0) = false := beq_eq_false_iff_ne.mpr c6
    have c6b1 : (t150 != 0) = true := bne_iff_ne.mpr c6
    obtain rfl := Option.some.inj H
    go_enter Try.func24, Try.ntmps24
    go_wp2_with (first | ((with_reducible refine gate_callee (f := 25) rfl ?_); refine goesL_ (some 10) rfl rfl Try.func25 (by kernel_rfl) rfl #[] rfl (by (try simp only [List.map_toArray, List.map_cons, List.map_nil]); first | done | rfl | (simp only [List.length_drop, List.length_take]; rfl)) ?_; (with_reducible refine (wageofficelaw30_example.calls  t143 t144 _ A4.out).mono ?_); rintro e w15 ⟨v145, rfl, ho0, hb⟩; refine ⟨_, rfl, ?_⟩; have n0_ := Aside0.mk (Kd.R_lower ho0 (below_size (by repeat (first | (with_reducible first | exact HB.out | apply below_alloc | apply pw_below_drewN | apply below_drew1) | exact HB.out)))); have n1_ := Aside0.mk (below_step (by repeat (first | (with_reducible first | exact HB.out | apply below_alloc | apply pw_below_drewN | apply below_drew1) | exact HB.out)) hb); clear HB; have HO146 := n0_; have HB := n1_; clear n0_ n1_; (try clear hb); (try clear hb2); (try clear hk); (try clear hi); (try clear ho0); obtain ⟨Ao16, co16, eo16⟩ := Kd.R_slice HO146.out; subst eo16) | ((with_reducible refine gate_callee (f := 14) rfl ?_); refine goesL_ (some 12) rfl rfl Try.func14 (by kernel_rfl) rfl #[.agg #[.int .i64 t143, .slice Ao16 t144.length co16], .int .i64 a0] rfl (by (try simp only [List.map_toArray, List.map_cons, List.map_nil]); first | done | rfl | (simp only [List.length_drop, List.length_take]; rfl)) ?_; (with_reducible refine (grossup_Solve.calls k t143 _ _ t144 a0 t147 t150 _ ?side1 ?side2 A5.out).mono ?_); (case side1 => repeat (first | exact (Kd.R_reads' HO146.out).2.2 | (with_reducible refine Kd.C_alloc ?_ _) | (with_reducible refine Kd.C_drewN ?_ _) | (with_reducible refine Kd.C_drew ?_))); (case side2 => exact (Kd.R_reads' HO146.out).2.1); rintro e w17 ⟨v148, rfl, ho0, hb⟩; refine ⟨_, rfl, ?_⟩; have n0_ := Aside0.mk (Kd.R_below (by (with_reducible repeat (first | apply Kd.R_alloc | apply Kd.R_drewN | apply Kd.R_drew)); exact HO146.out) hb); have n1_ := Aside0.mk (Kd.R_lower ho0 (below_size (by repeat (first | (with_reducible first | exact HB.out | apply below_alloc | apply pw_below_drewN | apply below_drew1) | exact HB.out)))); have n2_ := Aside0.mk (below_step (by repeat (first | (with_reducible first | exact HB.out | apply below_alloc | apply pw_below_drewN | apply below_drew1) | exact HB.out)) hb); clear HO146; clear HB; have HO146 := n0_; have HO149 := n1_; have HB := n2_; clear n0_ n1_ n2_; (try clear hb); (try clear hb2); (try clear hk); (try clear hi); (try clear ho0)))
    go_ret
    exact ⟨by first | rfl | (simp [errW_none, errW_some] <;> rfl) | (simp [*, errW_none, errW_some] <;> rfl), by repeat (first | (with_reducible first | exact HB.out | apply below_alloc | apply pw_below_drewN | apply below_drew1) | exact HB.out)⟩

end Go.Proofs.Yteapeglolkfimaa.My
end
section
-- Written by a program of this session (wip/myprint.py), which drives the kit's print over hand-written fragments. Not trusted: Lean checks it.


namespace Go.Proofs.Yteapeglolkfimaa.My
open Go.Proofs.Yteapeglolkfimaa.Aid Go.Proofs.Yteapeglolkfimaa.KdX
open Go.RowKit Go.Proofs.YteapeglolkfimaaW.PrintWords Go.Proofs.YteapeglolkfimaaW.PrintLast Go.Proofs.YteapeglolkfimaaW.PrintMore
attribute [local go_sem] max2_int min2_int max_two min_two max_three min_three max_four min_four   -- for this text's walks alone
set_option linter.unusedVariables false
set_option linter.unusedSimpArgs false

/-! ### grossup_Net: function 12 -/
def grossup_Net.f (k : Nat) (a0_0 : Int) (l0_1 : List (S39)) (a1 : Int) : Option (Int × Int) := (piecewise_Round.f k a0_0 l0_1 a1 0).bind fun bt124 => (if bt124.2 = 0 then (some (wrap64 (a1 - bt124.1), 0)) else (some (0, bt124.2)))
theorem grossup_Net.mono : ∀ a0 a1 a2 k, LeO (grossup_Net.f k a0 a1 a2) (grossup_Net.f (k + 1) a0 a1 a2) := by
  intro a0 a1 a2 k
  unfold grossup_Net.f
  repeat' first
      | (with_reducible exact piecewise_Round.mono _ _ _ _ _)
      | (with_reducible exact LeO.refl _)
      | (with_reducible exact LeO.none _)
      | (with_reducible refine LeO.ite ?_ ?_)
      | (with_reducible refine LeO.bind ?_ (fun _ => ?_))
      | exact piecewise_Round.mono _ _ _ _ _
      | exact LeO.none _
      | refine LeO.ite ?_ ?_
      | refine LeO.bind ?_ (fun _ => ?_)
set_option maxHeartbeats 8000000 in
set_option maxRecDepth 100000 in
theorem grossup_Net.calls (k : Nat) (a0_0 : Int) (A0_1 : Option Addr) (c0_1 : Nat) (l0_1 : List (S39)) (a1 : Int) (r1 : Int) (r2 : Int) (w : World) (hr0_1 : Kd.C k39 w A0_1 l0_1.length l0_1) (hc0_1 : l0_1.length ≤ c0_1) (h : grossup_Net.f k a0_0 l0_1 a1 = some (r1, r2)) :
    Calls Try.prog 12 #[.agg #[.int .i64 a0_0, .slice A0_1 l0_1.length c0_1], .int .i64 a1] w fun e w' => e = .returned (.tuple #[.int .i64 r1, .int .i64 r2]) ∧ Below w.heap.size w w' := by
  have hu24 := Try.underlying24
  have HR0_1 := Aside0.mk hr0_1
  have HC0_1 := Aside0.mk hc0_1
  clear hr0_1 hc0_1
  have HB := Aside0.mk (Below.refl w.heap.size w)
  have H : ((piecewise_Round.f k a0_0 l0_1 a1 0).bind fun bt124 => (if bt124.2 = 0 then (some (wrap64 (a1 - bt124.1), 0)) else (some (0, bt124.2)))) = some (r1, r2) := h
  clear h
  replace H := Option.bind_eq_some_iff.mp H
  obtain ⟨⟨t124, t125⟩, A30, H⟩ := H
  replace H : (if t125 = 0 then (some (wrap64 (a1 - t124), 0)) else (some (0, t125))) = some (r1, r2) := H
  have A3 := Aside0.mk A30
  clear A30
  by_cases c4 : t125 = 0
  · rw [if_pos c4] at H
    have c4b0 : (t125 == 0) = true := beq_iff_eq.mpr c4
    have c4b1 : (t125 != 0) = false := bne_eq_false_iff_eq.mpr c4
    clear c4
    simp only [Option.some.injEq, Prod.mk.injEq] at H
    obtain ⟨rfl, rfl⟩ := H
    go_enter Try.func12, Try.ntmps12
    go_wp2_with (first | ((with_reducible refine gate_dst (N := 2) rfl ?_); refine box_event ?hg (N := 2) ?hd (cs := #[.int .i64 a0_0, .slice A0_1 l0_1.length c0_1]) (t := 24) ?hr ?_; (case hd => rfl); (case hg => rfl); (case hr => first | (go_simp; done) | (go_simp; rfl)); intro gb123 hg w5 hbox hb; have n0_ := Aside0.mk (below_step (by repeat (first | (with_reducible first | exact HB.out | apply below_alloc | apply pw_below_drewN | apply below_drew1) | exact HB.out)) hb); have n1_ := Aside0.mk (hbox); have n2_ := Aside0.mk ((by rw [hg]; exact (below_size (by repeat (first | (with_reducible first | exact HB.out | apply below_alloc | apply pw_below_drewN | apply below_drew1) | exact HB.out))) : w.heap.size ≤ gb123)); have n3_ := Aside0.mk ((by rw [hg]; exact (below_size (by repeat (first | (with_reducible first | exact HB.out | apply below_alloc | apply pw_below_drewN | apply below_drew1) | exact HB.out))) : w.heap.size ≤ gb123)); clear HB; have HB := n0_; have BK123 := n1_; have GW123 := n2_; have GE123 := n3_; clear n0_ n1_ n2_ n3_; clear hb hbox hg; have hcz6_0 : w5.cell? ⟨gb123, 0, none⟩ = some (.int .i64 a0_0) := (blk_cell BK123.out 0).trans rfl; have hcz6_1 : w5.cell? ⟨gb123, 1, none⟩ = some (.slice A0_1 l0_1.length c0_1) := (blk_cell BK123.out 1).trans rfl; have hfz6_0 := blk_frozen BK123.out 0; have hfz6_1 := blk_frozen BK123.out 1) | ((with_reducible refine gate_callee (f := 26) rfl ?_); refine goesL_ (some 11) rfl rfl Try.func26 (by kernel_rfl) rfl #[.agg #[.int .i64 a0_0, .slice A0_1 l0_1.length c0_1], .int .i64 a1, .int .i64 0] rfl (by (try simp only [List.map_toArray, List.map_cons, List.map_nil]); first | done | rfl | (simp only [List.length_drop, List.length_take]; rfl)) ?_; (with_reducible refine (piecewise_Round.calls k a0_0 _ _ l0_1 a1 0 t124 t125 _ ?side1 ?side2 A3.out).mono ?_); (case side1 => repeat (first | exact (Kd.C_below HR0_1.out HB.out) | (with_reducible refine Kd.C_alloc ?_ _) | (with_reducible refine Kd.C_drewN ?_ _) | (with_reducible refine Kd.C_drew ?_))); (case side2 => exact HC0_1.out); rintro e w7 ⟨rfl, hb⟩; refine ⟨_, rfl, ?_⟩; have n0_ := Aside0.mk (blk_below (g := gb123) (o := .cells #[.int .i64 a0_0, .slice A0_1 l0_1.length c0_1] 24 (0, 0)) (by (with_reducible repeat (first | refine blk_drewN ?_ _ | refine blk_drew ?_ | refine blk_alloc ?_ _)); exact BK123.out) hb); have n1_ := Aside0.mk (below_step (by repeat (first | (with_reducible first | exact HB.out | apply below_alloc | apply pw_below_drewN | apply below_drew1 | refine below_set ?_ GE123.out) | exact HB.out)) hb); clear BK123; clear HB; have BK123 := n0_; have HB := n1_; clear n0_ n1_; (try clear hb); (try clear hb2); (try clear hk); (try clear hi)))
    go_ret2
    exact ⟨by first | rfl | (simp [errW_none, errW_some] <;> rfl) | (simp [*, errW_none, errW_some] <;> rfl), by repeat (first | (with_reducible first | exact HB.out | apply below_alloc | apply pw_below_drewN | apply below_drew1 | refine below_set ?_ GE123.out) | exact HB.out)⟩
  · rw [if_neg c4] at H
    have c4b0 : (t125 == 0) = false := beq_eq_false_iff_ne.mpr c4
    have c4b1 : (t125 != 0) = true := bne_iff_ne.mpr c4
    simp only [Option.some.injEq, Prod.mk.injEq] at H
    obtain ⟨rfl, rfl⟩ := H
    go_enter Try.func12, Try.ntmps12
    go_wp2_with (first | ((with_reducible refine gate_dst (N := 2) rfl ?_); refine box_event ?hg (N := 2) ?hd (cs := #[.int .i64 a0_0, .slice A0_1 l0_1.length c0_1]) (t := 24) ?hr ?_; (case hd => rfl); (case hg => rfl); (case hr => first | (go_simp; done) | (go_simp; rfl)); intro gb123 hg w8 hbox hb; have n0_ := Aside0.mk (below_step (by repeat (first | (with_reducible first | exact HB.out | apply below_alloc | apply pw_below_drewN | apply below_drew1) | exact HB.out)) hb); have n1_ := Aside0.mk (hbox); have n2_ := Aside0.mk ((by rw [hg]; exact (below_size (by repeat (first | (with_reducible first | exact HB.out | apply below_alloc | apply pw_below_drewN | apply below_drew1) | exact HB.out))) : w.heap.size ≤ gb123)); have n3_ := Aside0.mk ((by rw [hg]; exact (below_size (by repeat (first | (with_reducible first | exact HB.out | apply below_alloc | apply pw_below_drewN | apply below_drew1) | exact HB.out))) : w.heap.size ≤ gb123)); clear HB; have HB := n0_; have BK123 := n1_; have GW123 := n2_; have GE123 := n3_; clear n0_ n1_ n2_ n3_; clear hb hbox hg; have hcz9_0 : w8.cell? ⟨gb123, 0, none⟩ = some (.int .i64 a0_0) := (blk_cell BK123.out 0).trans rfl; have hcz9_1 : w8.cell? ⟨gb123, 1, none⟩ = some (.slice A0_1 l0_1.length c0_1) := (blk_cell BK123.out 1).trans rfl; have hfz9_0 := blk_frozen BK123.out 0; have hfz9_1 := blk_frozen BK123.out 1) | ((with_reducible refine gate_callee (f := 26) rfl ?_); refine goesL_ (some 11) rfl rfl Try.func26 (by kernel_rfl) rfl #[.agg #[.int .i64 a0_0, .slice A0_1 l0_1.length c0_1], .int .i64 a1, .int .i64 0] rfl (by (try simp only [List.map_toArray, List.map_cons, List.map_nil]); first | done | rfl | (simp only [List.length_drop, List.length_take]; rfl)) ?_; (with_reducible refine (piecewise_Round.calls k a0_0 _ _ l0_1 a1 0 t124 t125 _ ?side1 ?side2 A3.out).mono ?_); (case side1 => repeat (first | exact (Kd.C_below HR0_1.out HB.out) | (with_reducible refine Kd.C_alloc ?_ _) | (with_reducible refine Kd.C_drewN ?_ _) | (with_reducible refine Kd.C_drew ?_))); (case side2 => exact HC0_1.out); rintro e w10 ⟨rfl, hb⟩; refine ⟨_, rfl, ?_⟩; have n0_ := Aside0.mk (blk_below (g := gb123) (o := .cells #[.int .i64 a0_0, .slice A0_1 l0_1.length c0_1] 24 (0, 0)) (by (with_reducible repeat (first | refine blk_drewN ?_ _ | refine blk_drew ?_ | refine blk_alloc ?_ _)); exact BK123.out) hb); have n1_ := Aside0.mk (below_step (by repeat (first | (with_reducible first | exact HB.out | apply below_alloc | apply pw_below_drewN | apply below_drew1 | refine below_set ?_ GE123.out) | exact HB.out)) hb); clear BK123; clear HB; have BK123 := n0_; have HB := n1_; clear n0_ n1_; (try clear hb); (try clear hb2); (try clear hk); (try clear hi)))
    go_ret2
    exact ⟨by first | rfl | (simp [errW_none, errW_some] <;> rfl) | (simp [*, errW_none, errW_some] <;> rfl), by repeat (first | (with_reducible first | exact HB.out | apply below_alloc | apply pw_below_drewN | apply below_drew1 | refine below_set ?_ GE123.out) | exact HB.out)⟩

end Go.Proofs.Yteapeglolkfimaa.My
end
section
-- Written by a program of this session (wip/myprint.py), which drives the kit's print over hand-written fragments. Not trusted: Lean checks it.



namespace Go.Proofs.Yteapeglolkfimaa.My
open Go.Proofs.Yteapeglolkfimaa.Aid Go.Proofs.Yteapeglolkfimaa.KdX
open Go.RowKit Go.Proofs.YteapeglolkfimaaW.PrintWords Go.Proofs.YteapeglolkfimaaW.PrintLast Go.Proofs.YteapeglolkfimaaW.PrintMore
attribute [local go_sem] max2_int min2_int max_two min_two max_three min_three max_four min_four   -- for this text's walks alone
set_option linter.unusedVariables false
set_option linter.unusedSimpArgs false

/-! ### wageofficelaw30_nets: function 23 -/
def wageofficelaw30_nets.f (k : Nat) (a0 : Int) (a1 : Int) : Option (Bool) := (wageofficelaw30_example.f).bind fun bt135 => ((grossup_Net.f k bt135.1 bt135.2 a0).bind fun bt139 => (if bt139.2 = 0 then (some (bt139.1 == a1)) else (some false)))
theorem wageofficelaw30_nets.mono : ∀ a0 a1 k, LeO (wageofficelaw30_nets.f k a0 a1) (wageofficelaw30_nets.f (k + 1) a0 a1) := by
  intro a0 a1 k
  unfold wageofficelaw30_nets.f
  repeat' first
      | (with_reducible exact grossup_Net.mono _ _ _ _)
      | (with_reducible exact LeO.refl _)
      | (with_reducible exact LeO.none _)
      | (with_reducible refine LeO.ite ?_ ?_)
      | (with_reducible refine LeO.bind ?_ (fun _ => ?_))
      | exact grossup_Net.mono _ _ _ _
      | exact LeO.none _
      | refine LeO.ite ?_ ?_
      | refine LeO.bind ?_ (fun _ => ?_)
set_option maxHeartbeats 8000000 in
set_option maxRecDepth 100000 in
theorem wageofficelaw30_nets.calls (k : Nat) (a0 : Int) (a1 : Int) (r : Bool) (w : World) (h : wageofficelaw30_nets.f k a0 a1 = some r) :
    Calls Try.prog 23 #[.int .i64 a0, .int .i64 a1] w fun e w' => e = .returned (.bool r) ∧ Below w.heap.size w w' := by
  have HB := Aside0.mk (Below.refl w.heap.size w)
  have H : ((wageofficelaw30_example.f).bind fun bt135 => ((grossup_Net.f k bt135.1 bt135.2 a0).bind fun bt139 => (if bt139.2 = 0 then (some (bt139.1 == a1)) else (some false)))) = some r := h
  clear h
  replace H := Option.bind_eq_some_iff.mp H
  obtain ⟨⟨t135, t136⟩, A30, H⟩ := H
  replace H : ((grossup_Net.f k t135 t136 a0).bind fun bt139 => (if bt139.2 = 0 then (some (bt139.1 == a1)) else (some false))) = some r := H
  have A3 := Aside0.mk A30
  clear A30
  replace H := Option.bind_eq_some_iff.mp H
  obtain ⟨⟨t139, t140⟩, A40, H⟩ := H
  replace H : (if t140 = 0 then (some (t139 == a1)) else (some false)) = some r := H
  have A4 := Aside0.mk A40
  clear A40
  by_cases c5 : t140 = 0
  · rw [if_pos c5] at H
    have c5b0 : (t140 == 0) = true := beq_iff_eq.mpr c5
    have c5b1 : (t140 != 0) = false := bne_eq_false_iff_eq.mpr c5
    clear c5
    obtain rfl := Option.some.inj H
    go_enter Try.func23, Try.ntmps23
    go_wp2_with (first | ((with_reducible refine gate_callee (f := 25) rfl ?_); refine goesL_ (some 8) rfl rfl Try.func25 (by kernel_rfl) rfl #[] rfl (by (try simp only [List.map_toArray, List.map_cons, List.map_nil]); first | done | rfl | (simp only [List.length_drop, List.length_take]; rfl)) ?_; (with_reducible refine (wageofficelaw30_example.calls  t135 t136 _ A3.out).mono ?_); rintro e w6 ⟨v137, rfl, ho0, hb⟩; refine ⟨_, rfl, ?_⟩; have n0_ := Aside0.mk (Kd.R_lower ho0 (below_size (by repeat (first | (with_reducible first | exact HB.out | apply below_alloc | apply pw_below_drewN | apply below_drew1) | exact HB.out)))); have n1_ := Aside0.mk (below_step (by repeat (first | (with_reducible first | exact HB.out | apply below_alloc | apply pw_below_drewN | apply below_drew1) | exact HB.out)) hb); clear HB; have HO138 := n0_; have HB := n1_; clear n0_ n1_; (try clear hb); (try clear hb2); (try clear hk); (try clear hi); (try clear ho0); obtain ⟨Ao7, co7, eo7⟩ := Kd.R_slice HO138.out; subst eo7) | ((with_reducible refine gate_callee (f := 12) rfl ?_); refine goesL_ (some 10) rfl rfl Try.func12 (by kernel_rfl) rfl #[.agg #[.int .i64 t135, .slice Ao7 t136.length co7], .int .i64 a0] rfl (by (try simp only [List.map_toArray, List.map_cons, List.map_nil]); first | done | rfl | (simp only [List.length_drop, List.length_take]; rfl)) ?_; (with_reducible refine (grossup_Net.calls k t135 _ _ t136 a0 t139 t140 _ ?side1 ?side2 A4.out).mono ?_); (case side1 => repeat (first | exact (Kd.R_reads' HO138.out).2.2 | (with_reducible refine Kd.C_alloc ?_ _) | (with_reducible refine Kd.C_drewN ?_ _) | (with_reducible refine Kd.C_drew ?_))); (case side2 => exact (Kd.R_reads' HO138.out).2.1); rintro e w8 ⟨rfl, hb⟩; refine ⟨_, rfl, ?_⟩; have n0_ := Aside0.mk (Kd.R_below (by (with_reducible repeat (first | apply Kd.R_alloc | apply Kd.R_drewN | apply Kd.R_drew)); exact HO138.out) hb); have n1_ := Aside0.mk (below_step (by repeat (first | (with_reducible first | exact HB.out | apply below_alloc | apply pw_below_drewN | apply below_drew1) | exact HB.out)) hb); clear HO138; clear HB; have HO138 := n0_; have HB := n1_; clear n0_ n1_; (try clear hb); (try clear hb2); (try clear hk); (try clear hi)))
    go_ret
    exact ⟨by first | rfl | (simp [errW_none, errW_some] <;> rfl) | (simp [*, errW_none, errW_some] <;> rfl), by repeat (first | (with_reducible first | exact HB.out | apply below_alloc | apply pw_below_drewN | apply below_drew1) | exact HB.out)⟩
  · rw [if_neg c5] at H
    have c5b0 : (t140 == 0) = false := beq_eq_false_iff_ne.mpr c5
    have c5b1 : (t140 != 0) = true := bne_iff_ne.mpr c5
    obtain rfl := Option.some.inj H
    go_enter Try.func23, Try.ntmps23
    go_wp2_with (first | ((with_reducible refine gate_callee (f := 25) rfl ?_); refine goesL_ (some 8) rfl rfl Try.func25 (by kernel_rfl) rfl #[] rfl (by (try simp only [List.map_toArray, List.map_cons, List.map_nil]); first | done | rfl | (simp only [List.length_drop, List.length_take]; rfl)) ?_; (with_reducible refine (wageofficelaw30_example.calls  t135 t136 _ A3.out).mono ?_); rintro e w9 ⟨v137, rfl, ho0, hb⟩; refine ⟨_, rfl, ?_⟩; have n0_ := Aside0.mk (Kd.R_lower ho0 (below_size (by repeat (first | (with_reducible first | exact HB.out | apply below_alloc | apply pw_below_drewN | apply below_drew1) | exact HB.out)))); have n1_ := Aside0.mk (below_step (by repeat (first | (with_reducible first | exact HB.out | apply below_alloc | apply pw_below_drewN | apply below_drew1) | exact HB.out)) hb); clear HB; have HO138 := n0_; have HB := n1_; clear n0_ n1_; (try clear hb); (try clear hb2); (try clear hk); (try clear hi); (try clear ho0); obtain ⟨Ao10, co10, eo10⟩ := Kd.R_slice HO138.out; subst eo10) | ((with_reducible refine gate_callee (f := 12) rfl ?_); refine goesL_ (some 10) rfl rfl Try.func12 (by kernel_rfl) rfl #[.agg #[.int .i64 t135, .slice Ao10 t136.length co10], .int .i64 a0] rfl (by (try simp only [List.map_toArray, List.map_cons, List.map_nil]); first | done | rfl | (simp only [List.length_drop, List.length_take]; rfl)) ?_; (with_reducible refine (grossup_Net.calls k t135 _ _ t136 a0 t139 t140 _ ?side1 ?side2 A4.out).mono ?_); (case side1 => repeat (first | exact (Kd.R_reads' HO138.out).2.2 | (with_reducible refine Kd.C_alloc ?_ _) | (with_reducible refine Kd.C_drewN ?_ _) | (with_reducible refine Kd.C_drew ?_))); (case side2 => exact (Kd.R_reads' HO138.out).2.1); rintro e w11 ⟨rfl, hb⟩; refine ⟨_, rfl, ?_⟩; have n0_ := Aside0.mk (Kd.R_below (by (with_reducible repeat (first | apply Kd.R_alloc | apply Kd.R_drewN | apply Kd.R_drew)); exact HO138.out) hb); have n1_ := Aside0.mk (below_step (by repeat (first | (with_reducible first | exact HB.out | apply below_alloc | apply pw_below_drewN | apply below_drew1) | exact HB.out)) hb); clear HO138; clear HB; have HO138 := n0_; have HB := n1_; clear n0_ n1_; (try clear hb); (try clear hb2); (try clear hk); (try clear hi)))
    go_ret
    exact ⟨by first | rfl | (simp [errW_none, errW_some] <;> rfl) | (simp [*, errW_none, errW_some] <;> rfl), by repeat (first | (with_reducible first | exact HB.out | apply below_alloc | apply pw_below_drewN | apply below_drew1) | exact HB.out)⟩

end Go.Proofs.Yteapeglolkfimaa.My
end
section
-- Written by a program of this session (wip/myprint.py), which drives the kit's print over hand-written fragments. Not trusted: Lean checks it.







namespace Go.Proofs.Yteapeglolkfimaa.My
open Go.Proofs.Yteapeglolkfimaa.Aid Go.Proofs.Yteapeglolkfimaa.KdX
open Go.RowKit Go.Proofs.YteapeglolkfimaaW.PrintWords Go.Proofs.YteapeglolkfimaaW.PrintLast Go.Proofs.YteapeglolkfimaaW.PrintMore
attribute [local go_sem] max2_int min2_int max_two min_two max_three min_three max_four min_four   -- for this text's walks alone
set_option linter.unusedVariables false
set_option linter.unusedSimpArgs false

/-! ### wageofficelaw30_head: function 10 -/
def wageofficelaw30_head.j0 : Nat → Bool → Option (Bool)
  | 0, _ => none
  | k + 1, x1 => (wageofficelaw30_example.f).bind fun bt161 => ((grossup_Least.f k bt161.1 bt161.2 1001).bind fun bt165 => ((wageofficelaw30_example.f).bind fun bt167 => ((grossup_Least.f k bt167.1 bt167.2 2000000000000).bind fun bt171 => ((wageofficelaw30_example.f).bind fun bt173 => ((grossup_Net.f k bt173.1 bt173.2 1000000000001).bind fun bt177 => ((grossup_Solve.f k 0 ([] : List (S39)) 5).bind fun bt179 => (if x1 = true then (if bt165.1 = 1201 then (if bt165.2 = 0 then (if bt171.2 = 3 then (if bt177.2 = 1 then (some (bt179.2 == 1)) else (some false)) else (some false)) else (some false)) else (some false)) else (some false))))))))
def wageofficelaw30_head.f (k : Nat)  : Option (Bool) := (wageofficelaw30_nets.f k 999 999).bind fun t155 => (if t155 = true then ((wageofficelaw30_nets.f k 1100 1000).bind fun t156 => (if t156 = true then ((wageofficelaw30_nets.f k 1203 1002).bind fun t157 => (if t157 = true then ((wageofficelaw30_solves.f k 999 999 999).bind fun t158 => (if t158 = true then ((wageofficelaw30_solves.f k 1000 1000 1200).bind fun t159 => (if t159 = true then ((wageofficelaw30_solves.f k 1001 1201 1202).bind fun t160 => (wageofficelaw30_head.j0 k t160)) else (wageofficelaw30_head.j0 k false))) else (wageofficelaw30_head.j0 k false))) else (wageofficelaw30_head.j0 k false))) else (wageofficelaw30_head.j0 k false))) else (wageofficelaw30_head.j0 k false))
theorem wageofficelaw30_head.mono_l : ∀ k, (∀ y0, LeO (wageofficelaw30_head.j0 k y0) (wageofficelaw30_head.j0 (k + 1) y0))
  | 0 => fun _ r h => by simp [wageofficelaw30_head.j0] at h
  | k + 1 => by
    have ih0 := wageofficelaw30_head.mono_l k
    · intro y0
      unfold wageofficelaw30_head.j0
      repeat' first
      | (with_reducible exact ih0 _)
      | (with_reducible exact grossup_Least.mono _ _ _ _)
      | (with_reducible exact grossup_Net.mono _ _ _ _)
      | (with_reducible exact grossup_Solve.mono _ _ _ _)
      | (with_reducible exact wageofficelaw30_nets.mono _ _ _)
      | (with_reducible exact wageofficelaw30_solves.mono _ _ _ _)
      | (with_reducible exact LeO.refl _)
      | (with_reducible exact LeO.none _)
      | (with_reducible refine LeO.ite ?_ ?_)
      | (with_reducible refine LeO.bind ?_ (fun _ => ?_))
      | exact ih0 _
      | exact grossup_Least.mono _ _ _ _
      | exact grossup_Net.mono _ _ _ _
      | exact grossup_Solve.mono _ _ _ _
      | exact wageofficelaw30_nets.mono _ _ _
      | exact wageofficelaw30_solves.mono _ _ _ _
      | exact LeO.none _
      | refine LeO.ite ?_ ?_
      | refine LeO.bind ?_ (fun _ => ?_)
theorem wageofficelaw30_head.mono : ∀ k, LeO (wageofficelaw30_head.f k ) (wageofficelaw30_head.f (k + 1) ) := by
  intro  k
  have ih0 := wageofficelaw30_head.mono_l k
  unfold wageofficelaw30_head.f
  repeat' first
      | (with_reducible exact ih0 _)
      | (with_reducible exact grossup_Least.mono _ _ _ _)
      | (with_reducible exact grossup_Net.mono _ _ _ _)
      | (with_reducible exact grossup_Solve.mono _ _ _ _)
      | (with_reducible exact wageofficelaw30_nets.mono _ _ _)
      | (with_reducible exact wageofficelaw30_solves.mono _ _ _ _)
      | (with_reducible exact LeO.refl _)
      | (with_reducible exact LeO.none _)
      | (with_reducible refine LeO.ite ?_ ?_)
      | (with_reducible refine LeO.bind ?_ (fun _ => ?_))
      | exact ih0 _
      | exact grossup_Least.mono _ _ _ _
      | exact grossup_Net.mono _ _ _ _
      | exact grossup_Solve.mono _ _ _ _
      | exact wageofficelaw30_nets.mono _ _ _
      | exact wageofficelaw30_solves.mono _ _ _ _
      | exact LeO.none _
      | refine LeO.ite ?_ ?_
      | refine LeO.bind ?_ (fun _ => ?_)
set_option maxHeartbeats 8000000 in
set_option maxRecDepth 100000 in
theorem wageofficelaw30_head.calls (k : Nat)  (r : Bool) (w : World) (h : wageofficelaw30_head.f k  = some r) :
    Calls Try.prog 10 #[] w fun e w' => e = .returned (.bool r) ∧ Below w.heap.size w w' := by
  have hu24 := Try.underlying24
  have HB := Aside0.mk (Below.refl w.heap.size w)
  have H : ((wageofficelaw30_nets.f k 999 999).bind fun t155 => (if t155 = true then ((wageofficelaw30_nets.f k 1100 1000).bind fun t156 => (if t156 = true then ((wageofficelaw30_nets.f k 1203 1002).bind fun t157 => (if t157 = true then ((wageofficelaw30_solves.f k 999 999 999).bind fun t158 => (if t158 = true then ((wageofficelaw30_solves.f k 1000 1000 1200).bind fun t159 => (if t159 = true then ((wageofficelaw30_solves.f k 1001 1201 1202).bind fun t160 => (wageofficelaw30_head.j0 k t160)) else (wageofficelaw30_head.j0 k false))) else (wageofficelaw30_head.j0 k false))) else (wageofficelaw30_head.j0 k false))) else (wageofficelaw30_head.j0 k false))) else (wageofficelaw30_head.j0 k false))) = some r := h
  clear h
  have HC1 := Aside0.mk H
  clear H
  go_enter Try.func10, Try.ntmps10
  go_upto_region 1 with (fail)
  go_cut [1] (fun v1 wc => ∃ (kq : Nat) (x1_0 : Bool), v1 = .bool x1_0 ∧ Aside0 (wageofficelaw30_head.j0 kq x1_0 = some r) ∧ Aside0 (kq ≤ k) ∧ Aside0 (Below w.heap.size w wc))
  case first =>
    have H := HC1.out
    clear HC1
    replace H := Option.bind_eq_some_iff.mp H
    obtain ⟨t155, A20, H⟩ := H
    replace H : (if t155 = true then ((wageofficelaw30_nets.f k 1100 1000).bind fun t156 => (if t156 = true then ((wageofficelaw30_nets.f k 1203 1002).bind fun t157 => (if t157 = true then ((wageofficelaw30_solves.f k 999 999 999).bind fun t158 => (if t158 = true then ((wageofficelaw30_solves.f k 1000 1000 1200).bind fun t159 => (if t159 = true then ((wageofficelaw30_solves.f k 1001 1201 1202).bind fun t160 => (wageofficelaw30_head.j0 k t160)) else (wageofficelaw30_head.j0 k false))) else (wageofficelaw30_head.j0 k false))) else (wageofficelaw30_head.j0 k false))) else (wageofficelaw30_head.j0 k false))) else (wageofficelaw30_head.j0 k false)) = some r := H
    have A2 := Aside0.mk A20
    clear A20
    by_cases c3 : t155 = true
    · subst c3
      have H1 : ((wageofficelaw30_nets.f k 1100 1000).bind fun t156 => (if t156 = true then ((wageofficelaw30_nets.f k 1203 1002).bind fun t157 => (if t157 = true then ((wageofficelaw30_solves.f k 999 999 999).bind fun t158 => (if t158 = true then ((wageofficelaw30_solves.f k 1000 1000 1200).bind fun t159 => (if t159 = true then ((wageofficelaw30_solves.f k 1001 1201 1202).bind fun t160 => (wageofficelaw30_head.j0 k t160)) else (wageofficelaw30_head.j0 k false))) else (wageofficelaw30_head.j0 k false))) else (wageofficelaw30_head.j0 k false))) else (wageofficelaw30_head.j0 k false))) = some r := by rw [if_pos rfl] at H; exact H
      clear H
      have H := H1
      clear H1
      replace H := Option.bind_eq_some_iff.mp H
      obtain ⟨t156, A40, H⟩ := H
      replace H : (if t156 = true then ((wageofficelaw30_nets.f k 1203 1002).bind fun t157 => (if t157 = true then ((wageofficelaw30_solves.f k 999 999 999).bind fun t158 => (if t158 = true then ((wageofficelaw30_solves.f k 1000 1000 1200).bind fun t159 => (if t159 = true then ((wageofficelaw30_solves.f k 1001 1201 1202).bind fun t160 => (wageofficelaw30_head.j0 k t160)) else (wageofficelaw30_head.j0 k false))) else (wageofficelaw30_head.j0 k false))) else (wageofficelaw30_head.j0 k false))) else (wageofficelaw30_head.j0 k false)) = some r := H
      have A4 := Aside0.mk A40
      clear A40
      by_cases c5 : t156 = true
      · subst c5
        have H1 : ((wageofficelaw30_nets.f k 1203 1002).bind fun t157 => (if t157 = true then ((wageofficelaw30_solves.f k 999 999 999).bind fun t158 => (if t158 = true then ((wageofficelaw30_solves.f k 1000 1000 1200).bind fun t159 => (if t159 = true then ((wageofficelaw30_solves.f k 1001 1201 1202).bind fun t160 => (wageofficelaw30_head.j0 k t160)) else (wageofficelaw30_head.j0 k false))) else (wageofficelaw30_head.j0 k false))) else (wageofficelaw30_head.j0 k false))) = some r := by rw [if_pos rfl] at H; exact H
        clear H
        have H := H1
        clear H1
        replace H := Option.bind_eq_some_iff.mp H
        obtain ⟨t157, A60, H⟩ := H
        replace H : (if t157 = true then ((wageofficelaw30_solves.f k 999 999 999).bind fun t158 => (if t158 = true then ((wageofficelaw30_solves.f k 1000 1000 1200).bind fun t159 => (if t159 = true then ((wageofficelaw30_solves.f k 1001 1201 1202).bind fun t160 => (wageofficelaw30_head.j0 k t160)) else (wageofficelaw30_head.j0 k false))) else (wageofficelaw30_head.j0 k false))) else (wageofficelaw30_head.j0 k false)) = some r := H
        have A6 := Aside0.mk A60
        clear A60
        by_cases c7 : t157 = true
        · subst c7
          have H1 : ((wageofficelaw30_solves.f k 999 999 999).bind fun t158 => (if t158 = true then ((wageofficelaw30_solves.f k 1000 1000 1200).bind fun t159 => (if t159 = true then ((wageofficelaw30_solves.f k 1001 1201 1202).bind fun t160 => (wageofficelaw30_head.j0 k t160)) else (wageofficelaw30_head.j0 k false))) else (wageofficelaw30_head.j0 k false))) = some r := by rw [if_pos rfl] at H; exact H
          clear H
          have H := H1
          clear H1
          replace H := Option.bind_eq_some_iff.mp H
          obtain ⟨t158, A80, H⟩ := H
          replace H : (if t158 = true then ((wageofficelaw30_solves.f k 1000 1000 1200).bind fun t159 => (if t159 = true then ((wageofficelaw30_solves.f k 1001 1201 1202).bind fun t160 => (wageofficelaw30_head.j0 k t160)) else (wageofficelaw30_head.j0 k false))) else (wageofficelaw30_head.j0 k false)) = some r := H
          have A8 := Aside0.mk A80
          clear A80
          by_cases c9 : t158 = true
          · subst c9
            have H1 : ((wageofficelaw30_solves.f k 1000 1000 1200).bind fun t159 => (if t159 = true then ((wageofficelaw30_solves.f k 1001 1201 1202).bind fun t160 => (wageofficelaw30_head.j0 k t160)) else (wageofficelaw30_head.j0 k false))) = some r := by rw [if_pos rfl] at H; exact H
            clear H
            have H := H1
            clear H1
            replace H := Option.bind_eq_some_iff.mp H
            obtain ⟨t159, A100, H⟩ := H
            replace H : (if t159 = true then ((wageofficelaw30_solves.f k 1001 1201 1202).bind fun t160 => (wageofficelaw30_head.j0 k t160)) else (wageofficelaw30_head.j0 k false)) = some r := H
            have A10 := Aside0.mk A100
            clear A100
            by_cases c11 : t159 = true
            · subst c11
              have H1 : ((wageofficelaw30_solves.f k 1001 1201 1202).bind fun t160 => (wageofficelaw30_head.j0 k t160)) = some r := by rw [if_pos rfl] at H; exact H
              clear H
              have H := H1
              clear H1
              replace H := Option.bind_eq_some_iff.mp H
              obtain ⟨t160, A120, H⟩ := H
              replace H : (wageofficelaw30_head.j0 k t160) = some r := H
              have A12 := Aside0.mk A120
              clear A120
              have H' := Aside0.mk H
              clear H
              go_wp2_with (first | ((with_reducible refine gate_callee (f := 23) rfl ?_); refine goesL_ (some 10) rfl rfl Try.func23 (by kernel_rfl) rfl #[.int .i64 999, .int .i64 999] rfl (by (try simp only [List.map_toArray, List.map_cons, List.map_nil]); first | done | rfl | (simp only [List.length_drop, List.length_take]; rfl)) ?_; (with_reducible refine (wageofficelaw30_nets.calls k 999 999 true _ A2.out).mono ?_); rintro e w13 ⟨rfl, hb⟩; refine ⟨_, rfl, ?_⟩; have n0_ := Aside0.mk (below_step (by repeat (first | (with_reducible first | exact HB.out | apply below_alloc | apply pw_below_drewN | apply below_drew1) | exact HB.out)) hb); clear HB; have HB := n0_; clear n0_; (try clear hb); (try clear hb2); (try clear hk); (try clear hi)) | (go_at_call 23; (with_reducible refine (wageofficelaw30_nets.calls k 1100 1000 true _ A4.out).mono ?_); rintro e w14 ⟨rfl, hb⟩; have n0_ := Aside0.mk (below_step (by repeat (first | (with_reducible first | exact HB.out | apply below_alloc | apply pw_below_drewN | apply below_drew1) | exact HB.out)) hb); clear HB; have HB := n0_; clear n0_; (try clear hb); (try clear hb2); (try clear hk); (try clear hi)) | (go_at_call 23; (with_reducible refine (wageofficelaw30_nets.calls k 1203 1002 true _ A6.out).mono ?_); rintro e w15 ⟨rfl, hb⟩; have n0_ := Aside0.mk (below_step (by repeat (first | (with_reducible first | exact HB.out | apply below_alloc | apply pw_below_drewN | apply below_drew1) | exact HB.out)) hb); clear HB; have HB := n0_; clear n0_; (try clear hb); (try clear hb2); (try clear hk); (try clear hi)) | (go_at_call 24; (with_reducible refine (wageofficelaw30_solves.calls k 999 999 999 true _ A8.out).mono ?_); rintro e w16 ⟨rfl, hb⟩; have n0_ := Aside0.mk (below_step (by repeat (first | (with_reducible first | exact HB.out | apply below_alloc | apply pw_below_drewN | apply below_drew1) | exact HB.out)) hb); clear HB; have HB := n0_; clear n0_; (try clear hb); (try clear hb2); (try clear hk); (try clear hi)) | (go_at_call 24; (with_reducible refine (wageofficelaw30_solves.calls k 1000 1000 1200 true _ A10.out).mono ?_); rintro e w17 ⟨rfl, hb⟩; have n0_ := Aside0.mk (below_step (by repeat (first | (with_reducible first | exact HB.out | apply below_alloc | apply pw_below_drewN | apply below_drew1) | exact HB.out)) hb); clear HB; have HB := n0_; clear n0_; (try clear hb); (try clear hb2); (try clear hk); (try clear hi)) | (go_at_call 24; (with_reducible refine (wageofficelaw30_solves.calls k 1001 1201 1202 t160 _ A12.out).mono ?_); rintro e w18 ⟨rfl, hb⟩; have n0_ := Aside0.mk (below_step (by repeat (first | (with_reducible first | exact HB.out | apply below_alloc | apply pw_below_drewN | apply below_drew1) | exact HB.out)) hb); clear HB; have HB := n0_; clear n0_; (try clear hb); (try clear hb2); (try clear hk); (try clear hi)))
              go_meet
              case rel => exact ⟨_, (t160), (by first | rfl | (simp; done) | (simp [*]; done)), H', ⟨by first | omega | exact Nat.le_refl _⟩, ⟨by repeat (first | (with_reducible first | exact HB.out | apply below_alloc | apply pw_below_drewN | apply below_drew1) | exact HB.out)⟩⟩
            · replace c11 := Bool.eq_false_iff.mpr c11
              subst c11
              have H1 : (wageofficelaw30_head.j0 k false) = some r := by rw [if_neg (show ¬ (false = true) by decide)] at H; exact H
              clear H
              have H := H1
              clear H1
              have H' := Aside0.mk H
              clear H
              go_wp2_with (first | ((with_reducible refine gate_callee (f := 23) rfl ?_); refine goesL_ (some 10) rfl rfl Try.func23 (by kernel_rfl) rfl #[.int .i64 999, .int .i64 999] rfl (by (try simp only [List.map_toArray, List.map_cons, List.map_nil]); first | done | rfl | (simp only [List.length_drop, List.length_take]; rfl)) ?_; (with_reducible refine (wageofficelaw30_nets.calls k 999 999 true _ A2.out).mono ?_); rintro e w19 ⟨rfl, hb⟩; refine ⟨_, rfl, ?_⟩; have n0_ := Aside0.mk (below_step (by repeat (first | (with_reducible first | exact HB.out | apply below_alloc | apply pw_below_drewN | apply below_drew1) | exact HB.out)) hb); clear HB; have HB := n0_; clear n0_; (try clear hb); (try clear hb2); (try clear hk); (try clear hi)) | (go_at_call 23; (with_reducible refine (wageofficelaw30_nets.calls k 1100 1000 true _ A4.out).mono ?_); rintro e w20 ⟨rfl, hb⟩; have n0_ := Aside0.mk (below_step (by repeat (first | (with_reducible first | exact HB.out | apply below_alloc | apply pw_below_drewN | apply below_drew1) | exact HB.out)) hb); clear HB; have HB := n0_; clear n0_; (try clear hb); (try clear hb2); (try clear hk); (try clear hi)) | (go_at_call 23; (with_reducible refine (wageofficelaw30_nets.calls k 1203 1002 true _ A6.out).mono ?_); rintro e w21 ⟨rfl, hb⟩; have n0_ := Aside0.mk (below_step (by repeat (first | (with_reducible first | exact HB.out | apply below_alloc | apply pw_below_drewN | apply below_drew1) | exact HB.out)) hb); clear HB; have HB := n0_; clear n0_; (try clear hb); (try clear hb2); (try clear hk); (try clear hi)) | (go_at_call 24; (with_reducible refine (wageofficelaw30_solves.calls k 999 999 999 true _ A8.out).mono ?_); rintro e w22 ⟨rfl, hb⟩; have n0_ := Aside0.mk (below_step (by repeat (first | (with_reducible first | exact HB.out | apply below_alloc | apply pw_below_drewN | apply below_drew1) | exact HB.out)) hb); clear HB; have HB := n0_; clear n0_; (try clear hb); (try clear hb2); (try clear hk); (try clear hi)) | (go_at_call 24; (with_reducible refine (wageofficelaw30_solves.calls k 1000 1000 1200 false _ A10.out).mono ?_); rintro e w23 ⟨rfl, hb⟩; have n0_ := Aside0.mk (below_step (by repeat (first | (with_reducible first | exact HB.out | apply below_alloc | apply pw_below_drewN | apply below_drew1) | exact HB.out)) hb); clear HB; have HB := n0_; clear n0_; (try clear hb); (try clear hb2); (try clear hk); (try clear hi)))
              go_meet
              case rel => exact ⟨_, (false), (by first | rfl | (simp; done) | (simp [*]; done)), H', ⟨by first | omega | exact Nat.le_refl _⟩, ⟨by repeat (first | (with_reducible first | exact HB.out | apply below_alloc | apply pw_below_drewN | apply below_drew1) | exact HB.out)⟩⟩
          · replace c9 := Bool.eq_false_iff.mpr c9
            subst c9
            have H1 : (wageofficelaw30_head.j0 k false) = some r := by rw [if_neg (show ¬ (false = true) by decide)] at H; exact H
            clear H
            have H := H1
            clear H1
            have H' := Aside0.mk H
            clear H
            go_wp2_with (first | ((with_reducible refine gate_callee (f := 23) rfl ?_); refine goesL_ (some 10) rfl rfl Try.func23 (by kernel_rfl) rfl #[.int .i64 999, .int .i64 999] rfl (by (try simp only [List.map_toArray, List.map_cons, List.map_nil]); first | done | rfl | (simp only [List.length_drop, List.length_take]; rfl)) ?_; (with_reducible refine (wageofficelaw30_nets.calls k 999 999 true _ A2.out).mono ?_); rintro e w24 ⟨rfl, hb⟩; refine ⟨_, rfl, ?_⟩; have n0_ := Aside0.mk (below_step (by repeat (first | (with_reducible first | exact HB.out | apply below_alloc | apply pw_below_drewN | apply below_drew1) | exact HB.out)) hb); clear HB; have HB := n0_; clear n0_; (try clear hb); (try clear hb2); (try clear hk); (try clear hi)) | (go_at_call 23; (with_reducible refine (wageofficelaw30_nets.calls k 1100 1000 true _ A4.out).mono ?_); rintro e w25 ⟨rfl, hb⟩; have n0_ := Aside0.mk (below_step (by repeat (first | (with_reducible first | exact HB.out | apply below_alloc | apply pw_below_drewN | apply below_drew1) | exact HB.out)) hb); clear HB; have HB := n0_; clear n0_; (try clear hb); (try clear hb2); (try clear hk); (try clear hi)) | (go_at_call 23; (with_reducible refine (wageofficelaw30_nets.calls k 1203 1002 true _ A6.out).mono ?_); rintro e w26 ⟨rfl, hb⟩; have n0_ := Aside0.mk (below_step (by repeat (first | (with_reducible first | exact HB.out | apply below_alloc | apply pw_below_drewN | apply below_drew1) | exact HB.out)) hb); clear HB; have HB := n0_; clear n0_; (try clear hb); (try clear hb2); (try clear hk); (try clear hi)) | (go_at_call 24; (with_reducible refine (wageofficelaw30_solves.calls k 999 999 999 false _ A8.out).mono ?_); rintro e w27 ⟨rfl, hb⟩; have n0_ := Aside0.mk (below_step (by repeat (first | (with_reducible first | exact HB.out | apply below_alloc | apply pw_below_drewN | apply below_drew1) | exact HB.out)) hb); clear HB; have HB := n0_; clear n0_; (try clear hb); (try clear hb2); (try clear hk); (try clear hi)))
            go_meet
            case rel => exact ⟨_, (false), (by first | rfl | (simp; done) | (simp [*]; done)), H', ⟨by first | omega | exact Nat.le_refl _⟩, ⟨by repeat (first | (with_reducible first | exact HB.out | apply below_alloc | apply pw_below_drewN | apply below_drew1) | exact HB.out)⟩⟩
        · replace c7 := Bool.eq_false_iff.mpr c7
          subst c7
          have H1 : (wageofficelaw30_head.j0 k false) = some r := by rw [if_neg (show ¬ (false = true) by decide)] at H; exact H
          clear H
          have H := H1
          clear H1
          have H' := Aside0.mk H
          clear H
          go_wp2_with (first | ((with_reducible refine gate_callee (f := 23) rfl ?_); refine goesL_ (some 10) rfl rfl Try.func23 (by kernel_rfl) rfl #[.int .i64 999, .int .i64 999] rfl (by (try simp only [List.map_toArray, List.map_cons, List.map_nil]); first | done | rfl | (simp only [List.length_drop, List.length_take]; rfl)) ?_; (with_reducible refine (wageofficelaw30_nets.calls k 999 999 true _ A2.out).mono ?_); rintro e w28 ⟨rfl, hb⟩; refine ⟨_, rfl, ?_⟩; have n0_ := Aside0.mk (below_step (by repeat (first | (with_reducible first | exact HB.out | apply below_alloc | apply pw_below_drewN | apply below_drew1) | exact HB.out)) hb); clear HB; have HB := n0_; clear n0_; (try clear hb); (try clear hb2); (try clear hk); (try clear hi)) | (go_at_call 23; (with_reducible refine (wageofficelaw30_nets.calls k 1100 1000 true _ A4.out).mono ?_); rintro e w29 ⟨rfl, hb⟩; have n0_ := Aside0.mk (below_step (by repeat (first | (with_reducible first | exact HB.out | apply below_alloc | apply pw_below_drewN | apply below_drew1) | exact HB.out)) hb); clear HB; have HB := n0_; clear n0_; (try clear hb); (try clear hb2); (try clear hk); (try clear hi)) | (go_at_call 23; (with_reducible refine (wageofficelaw30_nets.calls k 1203 1002 false _ A6.out).mono ?_); rintro e w30 ⟨rfl, hb⟩; have n0_ := Aside0.mk (below_step (by repeat (first | (with_reducible first | exact HB.out | apply below_alloc | apply pw_below_drewN | apply below_drew1) | exact HB.out)) hb); clear HB; have HB := n0_; clear n0_; (try clear hb); (try clear hb2); (try clear hk); (try clear hi)))
          go_meet
          case rel => exact ⟨_, (false), (by first | rfl | (simp; done) | (simp [*]; done)), H', ⟨by first | omega | exact Nat.le_refl _⟩, ⟨by repeat (first | (with_reducible first | exact HB.out | apply below_alloc | apply pw_below_drewN | apply below_drew1) | exact HB.out)⟩⟩
      · replace c5 := Bool.eq_false_iff.mpr c5
        subst c5
        have H1 : (wageofficelaw30_head.j0 k false) = some r := by rw [if_neg (show ¬ (false = true) by decide)] at H; exact H
        clear H
        have H := H1
        clear H1
        have H' := Aside0.mk H
        clear H
        go_wp2_with (first | ((with_reducible refine gate_callee (f := 23) rfl ?_); refine goesL_ (some 10) rfl rfl Try.func23 (by kernel_rfl) rfl #[.int .i64 999, .int .i64 999] rfl (by (try simp only [List.map_toArray, List.map_cons, List.map_nil]); first | done | rfl | (simp only [List.length_drop, List.length_take]; rfl)) ?_; (with_reducible refine (wageofficelaw30_nets.calls k 999 999 true _ A2.out).mono ?_); rintro e w31 ⟨rfl, hb⟩; refine ⟨_, rfl, ?_⟩; have n0_ := Aside0.mk (below_step (by repeat (first | (with_reducible first | exact HB.out | apply below_alloc | apply pw_below_drewN | apply below_drew1) | exact HB.out)) hb); clear HB; have HB := n0_; clear n0_; (try clear hb); (try clear hb2); (try clear hk); (try clear hi)) | (go_at_call 23; (with_reducible refine (wageofficelaw30_nets.calls k 1100 1000 false _ A4.out).mono ?_); rintro e w32 ⟨rfl, hb⟩; have n0_ := Aside0.mk (below_step (by repeat (first | (with_reducible first | exact HB.out | apply below_alloc | apply pw_below_drewN | apply below_drew1) | exact HB.out)) hb); clear HB; have HB := n0_; clear n0_; (try clear hb); (try clear hb2); (try clear hk); (try clear hi)))
        go_meet
        case rel => exact ⟨_, (false), (by first | rfl | (simp; done) | (simp [*]; done)), H', ⟨by first | omega | exact Nat.le_refl _⟩, ⟨by repeat (first | (with_reducible first | exact HB.out | apply below_alloc | apply pw_below_drewN | apply below_drew1) | exact HB.out)⟩⟩
    · replace c3 := Bool.eq_false_iff.mpr c3
      subst c3
      have H1 : (wageofficelaw30_head.j0 k false) = some r := by rw [if_neg (show ¬ (false = true) by decide)] at H; exact H
      clear H
      have H := H1
      clear H1
      have H' := Aside0.mk H
      clear H
      go_wp2_with (first | ((with_reducible refine gate_callee (f := 23) rfl ?_); refine goesL_ (some 10) rfl rfl Try.func23 (by kernel_rfl) rfl #[.int .i64 999, .int .i64 999] rfl (by (try simp only [List.map_toArray, List.map_cons, List.map_nil]); first | done | rfl | (simp only [List.length_drop, List.length_take]; rfl)) ?_; (with_reducible refine (wageofficelaw30_nets.calls k 999 999 false _ A2.out).mono ?_); rintro e w33 ⟨rfl, hb⟩; refine ⟨_, rfl, ?_⟩; have n0_ := Aside0.mk (below_step (by repeat (first | (with_reducible first | exact HB.out | apply below_alloc | apply pw_below_drewN | apply below_drew1) | exact HB.out)) hb); clear HB; have HB := n0_; clear n0_; (try clear hb); (try clear hb2); (try clear hk); (try clear hi)))
      go_meet
      case rel => exact ⟨_, (false), (by first | rfl | (simp; done) | (simp [*]; done)), H', ⟨by first | omega | exact Nat.le_refl _⟩, ⟨by repeat (first | (with_reducible first | exact HB.out | apply below_alloc | apply pw_below_drewN | apply below_drew1) | exact HB.out)⟩⟩
  case rest =>
    clear HC1
    try clear c1
    try clear c2
    try clear p2
    try clear c3
    try clear c5
    try clear c7
    try clear c9
    try clear c10
    try clear c11
    try clear c23
    obtain ⟨kq, x1_0, rfl, HA, HJ0, HB⟩ := hcut
    cases kq with
    | zero => exact absurd HA.out (by simp [wageofficelaw30_head.j0])
    | succ kj0 =>
      have H := HA.out
      clear HA
      simp only [wageofficelaw30_head.j0] at H
      replace H := Option.bind_eq_some_iff.mp H
      obtain ⟨⟨t161, t162⟩, A340, H⟩ := H
      replace H : ((grossup_Least.f kj0 t161 t162 1001).bind fun bt165 => ((wageofficelaw30_example.f).bind fun bt167 => ((grossup_Least.f kj0 bt167.1 bt167.2 2000000000000).bind fun bt171 => ((wageofficelaw30_example.f).bind fun bt173 => ((grossup_Net.f kj0 bt173.1 bt173.2 1000000000001).bind fun bt177 => ((grossup_Solve.f kj0 0 ([] : List (S39)) 5).bind fun bt179 => (if x1_0 = true then (if bt165.1 = 1201 then (if bt165.2 = 0 then (if bt171.2 = 3 then (if bt177.2 = 1 then (some (bt179.2 == 1)) else (some false)) else (some false)) else (some false)) else (some false)) else (some false)))))))) = some r := H
      have A34 := Aside0.mk A340
      clear A340
      replace H := Option.bind_eq_some_iff.mp H
      obtain ⟨⟨t165, t166⟩, A350, H⟩ := H
      replace H : ((wageofficelaw30_example.f).bind fun bt167 => ((grossup_Least.f kj0 bt167.1 bt167.2 2000000000000).bind fun bt171 => ((wageofficelaw30_example.f).bind fun bt173 => ((grossup_Net.f kj0 bt173.1 bt173.2 1000000000001).bind fun bt177 => ((grossup_Solve.f kj0 0 ([] : List (S39)) 5).bind fun bt179 => (if x1_0 = true then (if t165 = 1201 then (if t166 = 0 then (if bt171.2 = 3 then (if bt177.2 = 1 then (some (bt179.2 == 1)) else (some false)) else (some false)) else (some false)) else (some false)) else (some false))))))) = some r := H
      have A35 := Aside0.mk A350
      clear A350
      replace H := Option.bind_eq_some_iff.mp H
      obtain ⟨⟨t167, t168⟩, A360, H⟩ := H
      replace H : ((grossup_Least.f kj0 t167 t168 2000000000000).bind fun bt171 => ((wageofficelaw30_example.f).bind fun bt173 => ((grossup_Net.f kj0 bt173.1 bt173.2 1000000000001).bind fun bt177 => ((grossup_Solve.f kj0 0 ([] : List (S39)) 5).bind fun bt179 => (if x1_0 = true then (if t165 = 1201 then (if t166 = 0 then (if bt171.2 = 3 then (if bt177.2 = 1 then (some (bt179.2 == 1)) else (some false)) else (some false)) else (some false)) else (some false)) else (some false)))))) = some r := H
      have A36 := Aside0.mk A360
      clear A360
      replace H := Option.bind_eq_some_iff.mp H
      obtain ⟨⟨t171, t172⟩, A370, H⟩ := H
      replace H : ((wageofficelaw30_example.f).bind fun bt173 => ((grossup_Net.f kj0 bt173.1 bt173.2 1000000000001).bind fun bt177 => ((grossup_Solve.f kj0 0 ([] : List (S39)) 5).bind fun bt179 => (if x1_0 = true then (if t165 = 1201 then (if t166 = 0 then (if t172 = 3 then (if bt177.2 = 1 then (some (bt179.2 == 1)) else (some false)) else (some false)) else (some false)) else (some false)) else (some false))))) = some r := H
      have A37 := Aside0.mk A370
      clear A370
      replace H := Option.bind_eq_some_iff.mp H
      obtain ⟨⟨t173, t174⟩, A380, H⟩ := H
      replace H : ((grossup_Net.f kj0 t173 t174 1000000000001).bind fun bt177 => ((grossup_Solve.f kj0 0 ([] : List (S39)) 5).bind fun bt179 => (if x1_0 = true then (if t165 = 1201 then (if t166 = 0 then (if t172 = 3 then (if bt177.2 = 1 then (some (bt179.2 == 1)) else (some false)) else (some false)) else (some false)) else (some false)) else (some false)))) = some r := H
      have A38 := Aside0.mk A380
      clear A380
      replace H := Option.bind_eq_some_iff.mp H
      obtain ⟨⟨t177, t178⟩, A390, H⟩ := H
      replace H : ((grossup_Solve.f kj0 0 ([] : List (S39)) 5).bind fun bt179 => (if x1_0 = true then (if t165 = 1201 then (if t166 = 0 then (if t172 = 3 then (if t178 = 1 then (some (bt179.2 == 1)) else (some false)) else (some false)) else (some false)) else (some false)) else (some false))) = some r := H
      have A39 := Aside0.mk A390
      clear A390
      replace H := Option.bind_eq_some_iff.mp H
      obtain ⟨⟨t179, t182⟩, A400, H⟩ := H
      replace H : (if x1_0 = true then (if t165 = 1201 then (if t166 = 0 then (if t172 = 3 then (if t178 = 1 then (some (t182 == 1)) else (some false)) else (some false)) else (some false)) else (some false)) else (some false)) = some r := H
      have A40 := Aside0.mk A400
      clear A400
      by_cases c41 : x1_0 = true
      · subst c41
        have H1 : (if t165 = 1201 then (if t166 = 0 then (if t172 = 3 then (if t178 = 1 then (some (t182 == 1)) else (some false)) else (some false)) else (some false)) else (some false)) = some r := by rw [if_pos rfl] at H; exact H
        clear H
        have H := H1
        clear H1
        by_cases c42 : t165 = 1201
        · rw [if_pos c42] at H
          have c42b0 : (t165 == 1201) = true := beq_iff_eq.mpr c42
          have c42b1 : (t165 != 1201) = false := bne_eq_false_iff_eq.mpr c42
          clear c42
          by_cases c43 : t166 = 0
          · rw [if_pos c43] at H
            have c43b0 : (t166 == 0) = true := beq_iff_eq.mpr c43
            have c43b1 : (t166 != 0) = false := bne_eq_false_iff_eq.mpr c43
            clear c43
            by_cases c44 : t172 = 3
            · rw [if_pos c44] at H
              have c44b0 : (t172 == 3) = true := beq_iff_eq.mpr c44
              have c44b1 : (t172 != 3) = false := bne_eq_false_iff_eq.mpr c44
              clear c44
              by_cases c45 : t178 = 1
              · rw [if_pos c45] at H
                have c45b0 : (t178 == 1) = true := beq_iff_eq.mpr c45
                have c45b1 : (t178 != 1) = false := bne_eq_false_iff_eq.mpr c45
                clear c45
                obtain rfl := Option.some.inj H
                go_wp2_with (first | ((with_reducible refine gate_callee (f := 25) rfl ?_); refine goesL_ (some 27) rfl rfl Try.func25 (by kernel_rfl) rfl #[] rfl (by (try simp only [List.map_toArray, List.map_cons, List.map_nil]); first | done | rfl | (simp only [List.length_drop, List.length_take]; rfl)) ?_; (with_reducible refine (wageofficelaw30_example.calls  t161 t162 _ A34.out).mono ?_); rintro e w46 ⟨v163, rfl, ho0, hb⟩; refine ⟨_, rfl, ?_⟩; have n0_ := Aside0.mk (Kd.R_lower ho0 (below_size (by repeat (first | (with_reducible first | exact HB.out | apply below_alloc | apply pw_below_drewN | apply below_drew1) | exact HB.out)))); have n1_ := Aside0.mk (below_step (by repeat (first | (with_reducible first | exact HB.out | apply below_alloc | apply pw_below_drewN | apply below_drew1) | exact HB.out)) hb); clear HB; have HO164 := n0_; have HB := n1_; clear n0_ n1_; (try clear hb); (try clear hb2); (try clear hk); (try clear hi); (try clear ho0); obtain ⟨Ao47, co47, eo47⟩ := Kd.R_slice HO164.out; subst eo47) | ((with_reducible refine gate_callee (f := 16) rfl ?_); refine goesL_ (some 28) rfl rfl Try.func16 (by kernel_rfl) rfl #[.agg #[.int .i64 t161, .slice Ao47 t162.length co47], .int .i64 1001] rfl (by (try simp only [List.map_toArray, List.map_cons, List.map_nil]); first | done | rfl | (simp only [List.length_drop, List.length_take]; rfl)) ?_; (with_reducible refine (grossup_Least.calls kj0 t161 _ _ t162 1001 t165 t166 _ ?side1 ?side2 A35.out).mono ?_); (case side1 => repeat (first | exact (Kd.R_reads' HO164.out).2.2 | (with_reducible refine Kd.C_alloc ?_ _) | (with_reducible refine Kd.C_drewN ?_ _) | (with_reducible refine Kd.C_drew ?_))); (case side2 => exact (Kd.R_reads' HO164.out).2.1); rintro e w48 ⟨rfl, hb⟩; refine ⟨_, rfl, ?_⟩; have n0_ := Aside0.mk (Kd.R_below (by (with_reducible repeat (first | apply Kd.R_alloc | apply Kd.R_drewN | apply Kd.R_drew)); exact HO164.out) hb); have n1_ := Aside0.mk (below_step (by repeat (first | (with_reducible first | exact HB.out | apply below_alloc | apply pw_below_drewN | apply below_drew1) | exact HB.out)) hb); clear HO164; clear HB; have HO164 := n0_; have HB := n1_; clear n0_ n1_; (try clear hb); (try clear hb2); (try clear hk); (try clear hi)) | ((with_reducible refine gate_callee (f := 25) rfl ?_); refine goesL_ (some 32) rfl rfl Try.func25 (by kernel_rfl) rfl #[] rfl (by (try simp only [List.map_toArray, List.map_cons, List.map_nil]); first | done | rfl | (simp only [List.length_drop, List.length_take]; rfl)) ?_; (with_reducible refine (wageofficelaw30_example.calls  t167 t168 _ A36.out).mono ?_); rintro e w49 ⟨v169, rfl, ho0, hb⟩; refine ⟨_, rfl, ?_⟩; have n0_ := Aside0.mk (Kd.R_elder' (by (with_reducible repeat (first | apply Kd.R_alloc | apply Kd.R_drewN | apply Kd.R_drew)); exact HO164.out) (Kd.R_base ho0) hb); have n1_ := Aside0.mk (Kd.R_lower (Kd.R_new' ho0 (Kd.R_lt (by (with_reducible repeat (first | apply Kd.R_alloc | apply Kd.R_drewN | apply Kd.R_drew)); exact HO164.out))) (below_size (by repeat (first | (with_reducible first | exact HB.out | apply below_alloc | apply pw_below_drewN | apply below_drew1) | exact HB.out)))); have n2_ := Aside0.mk (below_step (by repeat (first | (with_reducible first | exact HB.out | apply below_alloc | apply pw_below_drewN | apply below_drew1) | exact HB.out)) hb); clear HO164; clear HB; have HO164 := n0_; have HO170 := n1_; have HB := n2_; clear n0_ n1_ n2_; (try clear hb); (try clear hb2); (try clear hk); (try clear hi); (try clear ho0); obtain ⟨Ao50, co50, eo50⟩ := Kd.R_slice HO170.out; subst eo50) | ((with_reducible refine gate_callee (f := 16) rfl ?_); refine goesL_ (some 33) rfl rfl Try.func16 (by kernel_rfl) rfl #[.agg #[.int .i64 t167, .slice Ao50 t168.length co50], .int .i64 2000000000000] rfl (by (try simp only [List.map_toArray, List.map_cons, List.map_nil]); first | done | rfl | (simp only [List.length_drop, List.length_take]; rfl)) ?_; (with_reducible refine (grossup_Least.calls kj0 t167 _ _ t168 2000000000000 t171 t172 _ ?side1 ?side2 A37.out).mono ?_); (case side1 => repeat (first | exact (Kd.R_reads' HO170.out).2.2 | (with_reducible refine Kd.C_alloc ?_ _) | (with_reducible refine Kd.C_drewN ?_ _) | (with_reducible refine Kd.C_drew ?_))); (case side2 => exact (Kd.R_reads' HO170.out).2.1); rintro e w51 ⟨rfl, hb⟩; refine ⟨_, rfl, ?_⟩; have n0_ := Aside0.mk (Kd.R_below (by (with_reducible repeat (first | apply Kd.R_alloc | apply Kd.R_drewN | apply Kd.R_drew)); exact HO164.out) hb); have n1_ := Aside0.mk (Kd.R_below (by (with_reducible repeat (first | apply Kd.R_alloc | apply Kd.R_drewN | apply Kd.R_drew)); exact HO170.out) hb); have n2_ := Aside0.mk (below_step (by repeat (first | (with_reducible first | exact HB.out | apply below_alloc | apply pw_below_drewN | apply below_drew1) | exact HB.out)) hb); clear HO164; clear HO170; clear HB; have HO164 := n0_; have HO170 := n1_; have HB := n2_; clear n0_ n1_ n2_; (try clear hb); (try clear hb2); (try clear hk); (try clear hi)) | ((with_reducible refine gate_callee (f := 25) rfl ?_); refine goesL_ (some 37) rfl rfl Try.func25 (by kernel_rfl) rfl #[] rfl (by (try simp only [List.map_toArray, List.map_cons, List.map_nil]); first | done | rfl | (simp only [List.length_drop, List.length_take]; rfl)) ?_; (with_reducible refine (wageofficelaw30_example.calls  t173 t174 _ A38.out).mono ?_); rintro e w52 ⟨v175, rfl, ho0, hb⟩; refine ⟨_, rfl, ?_⟩; have n0_ := Aside0.mk (Kd.R_elder' (by (with_reducible repeat (first | apply Kd.R_alloc | apply Kd.R_drewN | apply Kd.R_drew)); exact HO164.out) (Kd.R_base ho0) hb); have n1_ := Aside0.mk (Kd.R_elder' (by (with_reducible repeat (first | apply Kd.R_alloc | apply Kd.R_drewN | apply Kd.R_drew)); exact HO170.out) (Kd.R_base ho0) hb); have n2_ := Aside0.mk (Kd.R_lower (Kd.R_new' (Kd.R_new' ho0 (Kd.R_lt (by (with_reducible repeat (first | apply Kd.R_alloc | apply Kd.R_drewN | apply Kd.R_drew)); exact HO164.out))) (Kd.R_lt (by (with_reducible repeat (first | apply Kd.R_alloc | apply Kd.R_drewN | apply Kd.R_drew)); exact HO170.out))) (below_size (by repeat (first | (with_reducible first | exact HB.out | apply below_alloc | apply pw_below_drewN | apply below_drew1) | exact HB.out)))); have n3_ := Aside0.mk (below_step (by repeat (first | (with_reducible first | exact HB.out | apply below_alloc | apply pw_below_drewN | apply below_drew1) | exact HB.out)) hb); clear HO164; clear HO170; clear HB; have HO164 := n0_; have HO170 := n1_; have HO176 := n2_; have HB := n3_; clear n0_ n1_ n2_ n3_; (try clear hb); (try clear hb2); (try clear hk); (try clear hi); (try clear ho0); obtain ⟨Ao53, co53, eo53⟩ := Kd.R_slice HO176.out; subst eo53) | ((with_reducible refine gate_callee (f := 12) rfl ?_); refine goesL_ (some 38) rfl rfl Try.func12 (by kernel_rfl) rfl #[.agg #[.int .i64 t173, .slice Ao53 t174.length co53], .int .i64 1000000000001] rfl (by (try simp only [List.map_toArray, List.map_cons, List.map_nil]); first | done | rfl | (simp only [List.length_drop, List.length_take]; rfl)) ?_; (with_reducible refine (grossup_Net.calls kj0 t173 _ _ t174 1000000000001 t177 t178 _ ?side1 ?side2 A39.out).mono ?_); (case side1 => repeat (first | exact (Kd.R_reads' HO176.out).2.2 | (with_reducible refine Kd.C_alloc ?_ _) | (with_reducible refine Kd.C_drewN ?_ _) | (with_reducible refine Kd.C_drew ?_))); (case side2 => exact (Kd.R_reads' HO176.out).2.1); rintro e w54 ⟨rfl, hb⟩; refine ⟨_, rfl, ?_⟩; have n0_ := Aside0.mk (Kd.R_below (by (with_reducible repeat (first | apply Kd.R_alloc | apply Kd.R_drewN | apply Kd.R_drew)); exact HO164.out) hb); have n1_ := Aside0.mk (Kd.R_below (by (with_reducible repeat (first | apply Kd.R_alloc | apply Kd.R_drewN | apply Kd.R_drew)); exact HO170.out) hb); have n2_ := Aside0.mk (Kd.R_below (by (with_reducible repeat (first | apply Kd.R_alloc | apply Kd.R_drewN | apply Kd.R_drew)); exact HO176.out) hb); have n3_ := Aside0.mk (below_step (by repeat (first | (with_reducible first | exact HB.out | apply below_alloc | apply pw_below_drewN | apply below_drew1) | exact HB.out)) hb); clear HO164; clear HO170; clear HO176; clear HB; have HO164 := n0_; have HO170 := n1_; have HO176 := n2_; have HB := n3_; clear n0_ n1_ n2_ n3_; (try clear hb); (try clear hb2); (try clear hk); (try clear hi)) | ((with_reducible refine gate_callee (f := 14) rfl ?_); refine goesL_ (some 43) rfl rfl Try.func14 (by kernel_rfl) rfl #[.agg #[.int .i64 0, .slice none 0 0], .int .i64 5] rfl (by (try simp only [List.map_toArray, List.map_cons, List.map_nil]); first | done | rfl | (simp only [List.length_drop, List.length_take]; rfl)) ?_; (refine (grossup_Solve.calls kj0 0 _ _ ([] : List (S39)) 5 t179 t182 _ ?side1 ?side2 A40.out).mono ?_); (case side1 => exact Kd.C_nil _ _); (case side2 => exact Nat.le_refl _); rintro e w55 ⟨v180, rfl, ho0, hb⟩; refine ⟨_, rfl, ?_⟩; have n0_ := Aside0.mk (Kd.R_below (by (with_reducible repeat (first | apply Kd.R_alloc | apply Kd.R_drewN | apply Kd.R_drew)); exact HO164.out) hb); have n1_ := Aside0.mk (Kd.R_below (by (with_reducible repeat (first | apply Kd.R_alloc | apply Kd.R_drewN | apply Kd.R_drew)); exact HO170.out) hb); have n2_ := Aside0.mk (Kd.R_below (by (with_reducible repeat (first | apply Kd.R_alloc | apply Kd.R_drewN | apply Kd.R_drew)); exact HO176.out) hb); have n3_ := Aside0.mk (Kd.R_lower ho0 (below_size (by repeat (first | (with_reducible first | exact HB.out | apply below_alloc | apply pw_below_drewN | apply below_drew1) | exact HB.out)))); have n4_ := Aside0.mk (below_step (by repeat (first | (with_reducible first | exact HB.out | apply below_alloc | apply pw_below_drewN | apply below_drew1) | exact HB.out)) hb); clear HO164; clear HO170; clear HO176; clear HB; have HO164 := n0_; have HO170 := n1_; have HO176 := n2_; have HO181 := n3_; have HB := n4_; clear n0_ n1_ n2_ n3_ n4_; (try clear hb); (try clear hb2); (try clear hk); (try clear hi); (try clear ho0)))
                go_ret
                exact ⟨by first | rfl | (simp [errW_none, errW_some] <;> rfl) | (simp [*, errW_none, errW_some] <;> rfl), by repeat (first | (with_reducible first | exact HB.out | apply below_alloc | apply pw_below_drewN | apply below_drew1) | exact HB.out)⟩
              · rw [if_neg c45] at H
                have c45b0 : (t178 == 1) = false := beq_eq_false_iff_ne.mpr c45
                have c45b1 : (t178 != 1) = true := bne_iff_ne.mpr c45
                obtain rfl := Option.some.inj H
                go_wp2_with (first | ((with_reducible refine gate_callee (f := 25) rfl ?_); refine goesL_ (some 27) rfl rfl Try.func25 (by kernel_rfl) rfl #[] rfl (by (try simp only [List.map_toArray, List.map_cons, List.map_nil]); first | done | rfl | (simp only [List.length_drop, List.length_take]; rfl)) ?_; (with_reducible refine (wageofficelaw30_example.calls  t161 t162 _ A34.out).mono ?_); rintro e w56 ⟨v163, rfl, ho0, hb⟩; refine ⟨_, rfl, ?_⟩; have n0_ := Aside0.mk (Kd.R_lower ho0 (below_size (by repeat (first | (with_reducible first | exact HB.out | apply below_alloc | apply pw_below_drewN | apply below_drew1) | exact HB.out)))); have n1_ := Aside0.mk (below_step (by repeat (first | (with_reducible first | exact HB.out | apply below_alloc | apply pw_below_drewN | apply below_drew1) | exact HB.out)) hb); clear HB; have HO164 := n0_; have HB := n1_; clear n0_ n1_; (try clear hb); (try clear hb2); (try clear hk); (try clear hi); (try clear ho0); obtain ⟨Ao57, co57, eo57⟩ := Kd.R_slice HO164.out; subst eo57) | ((with_reducible refine gate_callee (f := 16) rfl ?_); refine goesL_ (some 28) rfl rfl Try.func16 (by kernel_rfl) rfl #[.agg #[.int .i64 t161, .slice Ao57 t162.length co57], .int .i64 1001] rfl (by (try simp only [List.map_toArray, List.map_cons, List.map_nil]); first | done | rfl | (simp only [List.length_drop, List.length_take]; rfl)) ?_; (with_reducible refine (grossup_Least.calls kj0 t161 _ _ t162 1001 t165 t166 _ ?side1 ?side2 A35.out).mono ?_); (case side1 => repeat (first | exact (Kd.R_reads' HO164.out).2.2 | (with_reducible refine Kd.C_alloc ?_ _) | (with_reducible refine Kd.C_drewN ?_ _) | (with_reducible refine Kd.C_drew ?_))); (case side2 => exact (Kd.R_reads' HO164.out).2.1); rintro e w58 ⟨rfl, hb⟩; refine ⟨_, rfl, ?_⟩; have n0_ := Aside0.mk (Kd.R_below (by (with_reducible repeat (first | apply Kd.R_alloc | apply Kd.R_drewN | apply Kd.R_drew)); exact HO164.out) hb); have n1_ := Aside0.mk (below_step (by repeat (first | (with_reducible first | exact HB.out | apply below_alloc | apply pw_below_drewN | apply below_drew1) | exact HB.out)) hb); clear HO164; clear HB; have HO164 := n0_; have HB := n1_; clear n0_ n1_; (try clear hb); (try clear hb2); (try clear hk); (try clear hi)) | ((with_reducible refine gate_callee (f := 25) rfl ?_); refine goesL_ (some 32) rfl rfl Try.func25 (by kernel_rfl) rfl #[] rfl (by (try simp only [List.map_toArray, List.map_cons, List.map_nil]); first | done | rfl | (simp only [List.length_drop, List.length_take]; rfl)) ?_; (with_reducible refine (wageofficelaw30_example.calls  t167 t168 _ A36.out).mono ?_); rintro e w59 ⟨v169, rfl, ho0, hb⟩; refine ⟨_, rfl, ?_⟩; have n0_ := Aside0.mk (Kd.R_elder' (by (with_reducible repeat (first | apply Kd.R_alloc | apply Kd.R_drewN | apply Kd.R_drew)); exact HO164.out) (Kd.R_base ho0) hb); have n1_ := Aside0.mk (Kd.R_lower (Kd.R_new' ho0 (Kd.R_lt (by (with_reducible repeat (first | apply Kd.R_alloc | apply Kd.R_drewN | apply Kd.R_drew)); exact HO164.out))) (below_size (by repeat (first | (with_reducible first | exact HB.out | apply below_alloc | apply pw_below_drewN | apply below_drew1) | exact HB.out)))); have n2_ := Aside0.mk (below_step (by repeat (first | (with_reducible first | exact HB.out | apply below_alloc | apply pw_below_drewN | apply below_drew1) | exact HB.out)) hb); clear HO164; clear HB; have HO164 := n0_; have HO170 := n1_; have HB := n2_; clear n0_ n1_ n2_; (try clear hb); (try clear hb2); (try clear hk); (try clear hi); (try clear ho0); obtain ⟨Ao60, co60, eo60⟩ := Kd.R_slice HO170.out; subst eo60) | ((with_reducible refine gate_callee (f := 16) rfl ?_); refine goesL_ (some 33) rfl rfl Try.func16 (by kernel_rfl) rfl #[.agg #[.int .i64 t167, .slice Ao60 t168.length co60], .int .i64 2000000000000] rfl (by (try simp only [List.map_toArray, List.map_cons, List.map_nil]); first | done | rfl | (simp only [List.length_drop, List.length_take]; rfl)) ?_; (with_reducible refine (grossup_Least.calls kj0 t167 _ _ t168 2000000000000 t171 t172 _ ?side1 ?side2 A37.out).mono ?_); (case side1 => repeat (first | exact (Kd.R_reads' HO170.out).2.2 | (with_reducible refine Kd.C_alloc ?_ _) | (with_reducible refine Kd.C_drewN ?_ _) | (with_reducible refine Kd.C_drew ?_))); (case side2 => exact (Kd.R_reads' HO170.out).2.1); rintro e w61 ⟨rfl, hb⟩; refine ⟨_, rfl, ?_⟩; have n0_ := Aside0.mk (Kd.R_below (by (with_reducible repeat (first | apply Kd.R_alloc | apply Kd.R_drewN | apply Kd.R_drew)); exact HO164.out) hb); have n1_ := Aside0.mk (Kd.R_below (by (with_reducible repeat (first | apply Kd.R_alloc | apply Kd.R_drewN | apply Kd.R_drew)); exact HO170.out) hb); have n2_ := Aside0.mk (below_step (by repeat (first | (with_reducible first | exact HB.out | apply below_alloc | apply pw_below_drewN | apply below_drew1) | exact HB.out)) hb); clear HO164; clear HO170; clear HB; have HO164 := n0_; have HO170 := n1_; have HB := n2_; clear n0_ n1_ n2_; (try clear hb); (try clear hb2); (try clear hk); (try clear hi)) | ((with_reducible refine gate_callee (f := 25) rfl ?_); refine goesL_ (some 37) rfl rfl Try.func25 (by kernel_rfl) rfl #[] rfl (by (try simp only [List.map_toArray, List.map_cons, List.map_nil]); first | done | rfl | (simp only [List.length_drop, List.length_take]; rfl)) ?_; (with_reducible refine (wageofficelaw30_example.calls  t173 t174 _ A38.out).mono ?_); rintro e w62 ⟨v175, rfl, ho0, hb⟩; refine ⟨_, rfl, ?_⟩; have n0_ := Aside0.mk (Kd.R_elder' (by (with_reducible repeat (first | apply Kd.R_alloc | apply Kd.R_drewN | apply Kd.R_drew)); exact HO164.out) (Kd.R_base ho0) hb); have n1_ := Aside0.mk (Kd.R_elder' (by (with_reducible repeat (first | apply Kd.R_alloc | apply Kd.R_drewN | apply Kd.R_drew)); exact HO170.out) (Kd.R_base ho0) hb); have n2_ := Aside0.mk (Kd.R_lower (Kd.R_new' (Kd.R_new' ho0 (Kd.R_lt (by (with_reducible repeat (first | apply Kd.R_alloc | apply Kd.R_drewN | apply Kd.R_drew)); exact HO164.out))) (Kd.R_lt (by (with_reducible repeat (first | apply Kd.R_alloc | apply Kd.R_drewN | apply Kd.R_drew)); exact HO170.out))) (below_size (by repeat (first | (with_reducible first | exact HB.out | apply below_alloc | apply pw_below_drewN | apply below_drew1) | exact HB.out)))); have n3_ := Aside0.mk (below_step (by repeat (first | (with_reducible first | exact HB.out | apply below_alloc | apply pw_below_drewN | apply below_drew1) | exact HB.out)) hb); clear HO164; clear HO170; clear HB; have HO164 := n0_; have HO170 := n1_; have HO176 := n2_; have HB := n3_; clear n0_ n1_ n2_ n3_; (try clear hb); (try clear hb2); (try clear hk); (try clear hi); (try clear ho0); obtain ⟨Ao63, co63, eo63⟩ := Kd.R_slice HO176.out; subst eo63) | ((with_reducible refine gate_callee (f := 12) rfl ?_); refine goesL_ (some 38) rfl rfl Try.func12 (by kernel_rfl) rfl #[.agg #[.int .i64 t173, .slice Ao63 t174.length co63], .int .i64 1000000000001] rfl (by (try simp only [List.map_toArray, List.map_cons, List.map_nil]); first | done | rfl | (simp only [List.length_drop, List.length_take]; rfl)) ?_; (with_reducible refine (grossup_Net.calls kj0 t173 _ _ t174 1000000000001 t177 t178 _ ?side1 ?side2 A39.out).mono ?_); (case side1 => repeat (first | exact (Kd.R_reads' HO176.out).2.2 | (with_reducible refine Kd.C_alloc ?_ _) | (with_reducible refine Kd.C_drewN ?_ _) | (with_reducible refine Kd.C_drew ?_))); (case side2 => exact (Kd.R_reads' HO176.out).2.1); rintro e w64 ⟨rfl, hb⟩; refine ⟨_, rfl, ?_⟩; have n0_ := Aside0.mk (Kd.R_below (by (with_reducible repeat (first | apply Kd.R_alloc | apply Kd.R_drewN | apply Kd.R_drew)); exact HO164.out) hb); have n1_ := Aside0.mk (Kd.R_below (by (with_reducible repeat (first | apply Kd.R_alloc | apply Kd.R_drewN | apply Kd.R_drew)); exact HO170.out) hb); have n2_ := Aside0.mk (Kd.R_below (by (with_reducible repeat (first | apply Kd.R_alloc | apply Kd.R_drewN | apply Kd.R_drew)); exact HO176.out) hb); have n3_ := Aside0.mk (below_step (by repeat (first | (with_reducible first | exact HB.out | apply below_alloc | apply pw_below_drewN | apply below_drew1) | exact HB.out)) hb); clear HO164; clear HO170; clear HO176; clear HB; have HO164 := n0_; have HO170 := n1_; have HO176 := n2_; have HB := n3_; clear n0_ n1_ n2_ n3_; (try clear hb); (try clear hb2); (try clear hk); (try clear hi)) | ((with_reducible refine gate_callee (f := 14) rfl ?_); refine goesL_ (some 43) rfl rfl Try.func14 (by kernel_rfl) rfl #[.agg #[.int .i64 0, .slice none 0 0], .int .i64 5] rfl (by (try simp only [List.map_toArray, List.map_cons, List.map_nil]); first | done | rfl | (simp only [List.length_drop, List.length_take]; rfl)) ?_; (refine (grossup_Solve.calls kj0 0 _ _ ([] : List (S39)) 5 t179 t182 _ ?side1 ?side2 A40.out).mono ?_); (case side1 => exact Kd.C_nil _ _); (case side2 => exact Nat.le_refl _); rintro e w65 ⟨v180, rfl, ho0, hb⟩; refine ⟨_, rfl, ?_⟩; have n0_ := Aside0.mk (Kd.R_below (by (with_reducible repeat (first | apply Kd.R_alloc | apply Kd.R_drewN | apply Kd.R_drew)); exact HO164.out) hb); have n1_ := Aside0.mk (Kd.R_below (by (with_reducible repeat (first | apply Kd.R_alloc | apply Kd.R_drewN | apply Kd.R_drew)); exact HO170.out) hb); have n2_ := Aside0.mk (Kd.R_below (by (with_reducible repeat (first | apply Kd.R_alloc | apply Kd.R_drewN | apply Kd.R_drew)); exact HO176.out) hb); have n3_ := Aside0.mk (Kd.R_lower ho0 (below_size (by repeat (first | (with_reducible first | exact HB.out | apply below_alloc | apply pw_below_drewN | apply below_drew1) | exact HB.out)))); have n4_ := Aside0.mk (below_step (by repeat (first | (with_reducible first | exact HB.out | apply below_alloc | apply pw_below_drewN | apply below_drew1) | exact HB.out)) hb); clear HO164; clear HO170; clear HO176; clear HB; have HO164 := n0_; have HO170 := n1_; have HO176 := n2_; have HO181 := n3_; have HB := n4_; clear n0_ n1_ n2_ n3_ n4_; (try clear hb); (try clear hb2); (try clear hk); (try clear hi); (try clear ho0)))
                go_ret
                exact ⟨by first | rfl | (simp [errW_none, errW_some] <;> rfl) | (simp [*, errW_none, errW_some] <;> rfl), by repeat (first | (with_reducible first | exact HB.out | apply below_alloc | apply pw_below_drewN | apply below_drew1) | exact HB.out)⟩
            · rw [if_neg c44] at H
              have c44b0 : (t172 == 3) = false := beq_eq_false_iff_ne.mpr c44
              have c44b1 : (t172 != 3) = true := bne_iff_ne.mpr c44
              obtain rfl := Option.some.inj H
              go_wp2_with (first | ((with_reducible refine gate_callee (f := 25) rfl ?_); refine goesL_ (some 27) rfl rfl Try.func25 (by kernel_rfl) rfl #[] rfl (by (try simp only [List.map_toArray, List.map_cons, List.map_nil]); first | done | rfl | (simp only [List.length_drop, List.length_take]; rfl)) ?_; (with_reducible refine (wageofficelaw30_example.calls  t161 t162 _ A34.out).mono ?_); rintro e w66 ⟨v163, rfl, ho0, hb⟩; refine ⟨_, rfl, ?_⟩; have n0_ := Aside0.mk (Kd.R_lower ho0 (below_size (by repeat (first | (with_reducible first | exact HB.out | apply below_alloc | apply pw_below_drewN | apply below_drew1) | exact HB.out)))); have n1_ := Aside0.mk (below_step (by repeat (first | (with_reducible first | exact HB.out | apply below_alloc | apply pw_below_drewN | apply below_drew1) | exact HB.out)) hb); clear HB; have HO164 := n0_; have HB := n1_; clear n0_ n1_; (try clear hb); (try clear hb2); (try clear hk); (try clear hi); (try clear ho0); obtain ⟨Ao67, co67, eo67⟩ := Kd.R_slice HO164.out; subst eo67) | ((with_reducible refine gate_callee (f := 16) rfl ?_); refine goesL_ (some 28) rfl rfl Try.func16 (by kernel_rfl) rfl #[.agg #[.int .i64 t161, .slice Ao67 t162.length co67], .int .i64 1001] rfl (by (try simp only [List.map_toArray, List.map_cons, List.map_nil]); first | done | rfl | (simp only [List.length_drop, List.length_take]; rfl)) ?_; (with_reducible refine (grossup_Least.calls kj0 t161 _ _ t162 1001 t165 t166 _ ?side1 ?side2 A35.out).mono ?_); (case side1 => repeat (first | exact (Kd.R_reads' HO164.out).2.2 | (with_reducible refine Kd.C_alloc ?_ _) | (with_reducible refine Kd.C_drewN ?_ _) | (with_reducible refine Kd.C_drew ?_))); (case side2 => exact (Kd.R_reads' HO164.out).2.1); rintro e w68 ⟨rfl, hb⟩; refine ⟨_, rfl, ?_⟩; have n0_ := Aside0.mk (Kd.R_below (by (with_reducible repeat (first | apply Kd.R_alloc | apply Kd.R_drewN | apply Kd.R_drew)); exact HO164.out) hb); have n1_ := Aside0.mk (below_step (by repeat (first | (with_reducible first | exact HB.out | apply below_alloc | apply pw_below_drewN | apply below_drew1) | exact HB.out)) hb); clear HO164; clear HB; have HO164 := n0_; have HB := n1_; clear n0_ n1_; (try clear hb); (try clear hb2); (try clear hk); (try clear hi)) | ((with_reducible refine gate_callee (f := 25) rfl ?_); refine goesL_ (some 32) rfl rfl Try.func25 (by kernel_rfl) rfl #[] rfl (by (try simp only [List.map_toArray, List.map_cons, List.map_nil]); first | done | rfl | (simp only [List.length_drop, List.length_take]; rfl)) ?_; (with_reducible refine (wageofficelaw30_example.calls  t167 t168 _ A36.out).mono ?_); rintro e w69 ⟨v169, rfl, ho0, hb⟩; refine ⟨_, rfl, ?_⟩; have n0_ := Aside0.mk (Kd.R_elder' (by (with_reducible repeat (first | apply Kd.R_alloc | apply Kd.R_drewN | apply Kd.R_drew)); exact HO164.out) (Kd.R_base ho0) hb); have n1_ := Aside0.mk (Kd.R_lower (Kd.R_new' ho0 (Kd.R_lt (by (with_reducible repeat (first | apply Kd.R_alloc | apply Kd.R_drewN | apply Kd.R_drew)); exact HO164.out))) (below_size (by repeat (first | (with_reducible first | exact HB.out | apply below_alloc | apply pw_below_drewN | apply below_drew1) | exact HB.out)))); have n2_ := Aside0.mk (below_step (by repeat (first | (with_reducible first | exact HB.out | apply below_alloc | apply pw_below_drewN | apply below_drew1) | exact HB.out)) hb); clear HO164; clear HB; have HO164 := n0_; have HO170 := n1_; have HB := n2_; clear n0_ n1_ n2_; (try clear hb); (try clear hb2); (try clear hk); (try clear hi); (try clear ho0); obtain ⟨Ao70, co70, eo70⟩ := Kd.R_slice HO170.out; subst eo70) | ((with_reducible refine gate_callee (f := 16) rfl ?_); refine goesL_ (some 33) rfl rfl Try.func16 (by kernel_rfl) rfl #[.agg #[.int .i64 t167, .slice Ao70 t168.length co70], .int .i64 2000000000000] rfl (by (try simp only [List.map_toArray, List.map_cons, List.map_nil]); first | done | rfl | (simp only [List.length_drop, List.length_take]; rfl)) ?_; (with_reducible refine (grossup_Least.calls kj0 t167 _ _ t168 2000000000000 t171 t172 _ ?side1 ?side2 A37.out).mono ?_); (case side1 => repeat (first | exact (Kd.R_reads' HO170.out).2.2 | (with_reducible refine Kd.C_alloc ?_ _) | (with_reducible refine Kd.C_drewN ?_ _) | (with_reducible refine Kd.C_drew ?_))); (case side2 => exact (Kd.R_reads' HO170.out).2.1); rintro e w71 ⟨rfl, hb⟩; refine ⟨_, rfl, ?_⟩; have n0_ := Aside0.mk (Kd.R_below (by (with_reducible repeat (first | apply Kd.R_alloc | apply Kd.R_drewN | apply Kd.R_drew)); exact HO164.out) hb); have n1_ := Aside0.mk (Kd.R_below (by (with_reducible repeat (first | apply Kd.R_alloc | apply Kd.R_drewN | apply Kd.R_drew)); exact HO170.out) hb); have n2_ := Aside0.mk (below_step (by repeat (first | (with_reducible first | exact HB.out | apply below_alloc | apply pw_below_drewN | apply below_drew1) | exact HB.out)) hb); clear HO164; clear HO170; clear HB; have HO164 := n0_; have HO170 := n1_; have HB := n2_; clear n0_ n1_ n2_; (try clear hb); (try clear hb2); (try clear hk); (try clear hi)) | ((with_reducible refine gate_callee (f := 25) rfl ?_); refine goesL_ (some 37) rfl rfl Try.func25 (by kernel_rfl) rfl #[] rfl (by (try simp only [List.map_toArray, List.map_cons, List.map_nil]); first | done | rfl | (simp only [List.length_drop, List.length_take]; rfl)) ?_; (with_reducible refine (wageofficelaw30_example.calls  t173 t174 _ A38.out).mono ?_); rintro e w72 ⟨v175, rfl, ho0, hb⟩; refine ⟨_, rfl, ?_⟩; have n0_ := Aside0.mk (Kd.R_elder' (by (with_reducible repeat (first | apply Kd.R_alloc | apply Kd.R_drewN | apply Kd.R_drew)); exact HO164.out) (Kd.R_base ho0) hb); have n1_ := Aside0.mk (Kd.R_elder' (by (with_reducible repeat (first | apply Kd.R_alloc | apply Kd.R_drewN | apply Kd.R_drew)); exact HO170.out) (Kd.R_base ho0) hb); have n2_ := Aside0.mk (Kd.R_lower (Kd.R_new' (Kd.R_new' ho0 (Kd.R_lt (by (with_reducible repeat (first | apply Kd.R_alloc | apply Kd.R_drewN | apply Kd.R_drew)); exact HO164.out))) (Kd.R_lt (by (with_reducible repeat (first | apply Kd.R_alloc | apply Kd.R_drewN | apply Kd.R_drew)); exact HO170.out))) (below_size (by repeat (first | (with_reducible first | exact HB.out | apply below_alloc | apply pw_below_drewN | apply below_drew1) | exact HB.out)))); have n3_ := Aside0.mk (below_step (by repeat (first | (with_reducible first | exact HB.out | apply below_alloc | apply pw_below_drewN | apply below_drew1) | exact HB.out)) hb); clear HO164; clear HO170; clear HB; have HO164 := n0_; have HO170 := n1_; have HO176 := n2_; have HB := n3_; clear n0_ n1_ n2_ n3_; (try clear hb); (try clear hb2); (try clear hk); (try clear hi); (try clear ho0); obtain ⟨Ao73, co73, eo73⟩ := Kd.R_slice HO176.out; subst eo73) | ((with_reducible refine gate_callee (f := 12) rfl ?_); refine goesL_ (some 38) rfl rfl Try.func12 (by kernel_rfl) rfl #[.agg #[.int .i64 t173, .slice Ao73 t174.length co73], .int .i64 1000000000001] rfl (by (try simp only [List.map_toArray, List.map_cons, List.map_nil]); first | done | rfl | (simp only [List.length_drop, List.length_take]; rfl)) ?_; (with_reducible refine (grossup_Net.calls kj0 t173 _ _ t174 1000000000001 t177 t178 _ ?side1 ?side2 A39.out).mono ?_); (case side1 => repeat (first | exact (Kd.R_reads' HO176.out).2.2 | (with_reducible refine Kd.C_alloc ?_ _) | (with_reducible refine Kd.C_drewN ?_ _) | (with_reducible refine Kd.C_drew ?_))); (case side2 => exact (Kd.R_reads' HO176.out).2.1); rintro e w74 ⟨rfl, hb⟩; refine ⟨_, rfl, ?_⟩; have n0_ := Aside0.mk (Kd.R_below (by (with_reducible repeat (first | apply Kd.R_alloc | apply Kd.R_drewN | apply Kd.R_drew)); exact HO164.out) hb); have n1_ := Aside0.mk (Kd.R_below (by (with_reducible repeat (first | apply Kd.R_alloc | apply Kd.R_drewN | apply Kd.R_drew)); exact HO170.out) hb); have n2_ := Aside0.mk (Kd.R_below (by (with_reducible repeat (first | apply Kd.R_alloc | apply Kd.R_drewN | apply Kd.R_drew)); exact HO176.out) hb); have n3_ := Aside0.mk (below_step (by repeat (first | (with_reducible first | exact HB.out | apply below_alloc | apply pw_below_drewN | apply below_drew1) | exact HB.out)) hb); clear HO164; clear HO170; clear HO176; clear HB; have HO164 := n0_; have HO170 := n1_; have HO176 := n2_; have HB := n3_; clear n0_ n1_ n2_ n3_; (try clear hb); (try clear hb2); (try clear hk); (try clear hi)) | ((with_reducible refine gate_callee (f := 14) rfl ?_); refine goesL_ (some 43) rfl rfl Try.func14 (by kernel_rfl) rfl #[.agg #[.int .i64 0, .slice none 0 0], .int .i64 5] rfl (by (try simp only [List.map_toArray, List.map_cons, List.map_nil]); first | done | rfl | (simp only [List.length_drop, List.length_take]; rfl)) ?_; (refine (grossup_Solve.calls kj0 0 _ _ ([] : List (S39)) 5 t179 t182 _ ?side1 ?side2 A40.out).mono ?_); (case side1 => exact Kd.C_nil _ _); (case side2 => exact Nat.le_refl _); rintro e w75 ⟨v180, rfl, ho0, hb⟩; refine ⟨_, rfl, ?_⟩; have n0_ := Aside0.mk (Kd.R_below (by (with_reducible repeat (first | apply Kd.R_alloc | apply Kd.R_drewN | apply Kd.R_drew)); exact HO164.out) hb); have n1_ := Aside0.mk (Kd.R_below (by (with_reducible repeat (first | apply Kd.R_alloc | apply Kd.R_drewN | apply Kd.R_drew)); exact HO170.out) hb); have n2_ := Aside0.mk (Kd.R_below (by (with_reducible repeat (first | apply Kd.R_alloc | apply Kd.R_drewN | apply Kd.R_drew)); exact HO176.out) hb); have n3_ := Aside0.mk (Kd.R_lower ho0 (below_size (by repeat (first | (with_reducible first | exact HB.out | apply below_alloc | apply pw_below_drewN | apply below_drew1) | exact HB.out)))); have n4_ := Aside0.mk (below_step (by repeat (first | (with_reducible first | exact HB.out | apply below_alloc | apply pw_below_drewN | apply below_drew1) | exact HB.out)) hb); clear HO164; clear HO170; clear HO176; clear HB; have HO164 := n0_; have HO170 := n1_; have HO176 := n2_; have HO181 := n3_; have HB := n4_; clear n0_ n1_ n2_ n3_ n4_; (try clear hb); (try clear hb2); (try clear hk); (try clear hi); (try clear ho0)))
              go_ret
              exact ⟨by first | rfl | (simp [errW_none, errW_some] <;> rfl) | (simp [*, errW_none, errW_some] <;> rfl), by repeat (first | (with_reducible first | exact HB.out | apply below_alloc | apply pw_below_drewN | apply below_drew1) | exact HB.out)⟩
          · rw [if_neg c43] at H
            have c43b0 : (t166 == 0) = false := beq_eq_false_iff_ne.mpr c43
            have c43b1 : (t166 != 0) = true := bne_iff_ne.mpr c43
            obtain rfl := Option.some.inj H
            go_wp2_with (first | ((with_reducible refine gate_callee (f := 25) rfl ?_); refine goesL_ (some 27) rfl rfl Try.func25 (by kernel_rfl) rfl #[] rfl (by (try simp only [List.map_toArray, List.map_cons, List.map_nil]); first | done | rfl | (simp only [List.length_drop, List.length_take]; rfl)) ?_; (with_reducible refine (wageofficelaw30_example.calls  t161 t162 _ A34.out).mono ?_); rintro e w76 ⟨v163, rfl, ho0, hb⟩; refine ⟨_, rfl, ?_⟩; have n0_ := Aside0.mk (Kd.R_lower ho0 (below_size (by repeat (first | (with_reducible first | exact HB.out | apply below_alloc | apply pw_below_drewN | apply below_drew1) | exact HB.out)))); have n1_ := Aside0.mk (below_step (by repeat (first | (with_reducible first | exact HB.out | apply below_alloc | apply pw_below_drewN | apply below_drew1) | exact HB.out)) hb); clear HB; have HO164 := n0_; have HB := n1_; clear n0_ n1_; (try clear hb); (try clear hb2); (try clear hk); (try clear hi); (try clear ho0); obtain ⟨Ao77, co77, eo77⟩ := Kd.R_slice HO164.out; subst eo77) | ((with_reducible refine gate_callee (f := 16) rfl ?_); refine goesL_ (some 28) rfl rfl Try.func16 (by kernel_rfl) rfl #[.agg #[.int .i64 t161, .slice Ao77 t162.length co77], .int .i64 1001] rfl (by (try simp only [List.map_toArray, List.map_cons, List.map_nil]); first | done | rfl | (simp only [List.length_drop, List.length_take]; rfl)) ?_; (with_reducible refine (grossup_Least.calls kj0 t161 _ _ t162 1001 t165 t166 _ ?side1 ?side2 A35.out).mono ?_); (case side1 => repeat (first | exact (Kd.R_reads' HO164.out).2.2 | (with_reducible refine Kd.C_alloc ?_ _) | (with_reducible refine Kd.C_drewN ?_ _) | (with_reducible refine Kd.C_drew ?_))); (case side2 => exact (Kd.R_reads' HO164.out).2.1); rintro e w78 ⟨rfl, hb⟩; refine ⟨_, rfl, ?_⟩; have n0_ := Aside0.mk (Kd.R_below (by (with_reducible repeat (first | apply Kd.R_alloc | apply Kd.R_drewN | apply Kd.R_drew)); exact HO164.out) hb); have n1_ := Aside0.mk (below_step (by repeat (first | (with_reducible first | exact HB.out | apply below_alloc | apply pw_below_drewN | apply below_drew1) | exact HB.out)) hb); clear HO164; clear HB; have HO164 := n0_; have HB := n1_; clear n0_ n1_; (try clear hb); (try clear hb2); (try clear hk); (try clear hi)) | ((with_reducible refine gate_callee (f := 25) rfl ?_); refine goesL_ (some 32) rfl rfl Try.func25 (by kernel_rfl) rfl #[] rfl (by (try simp only [List.map_toArray, List.map_cons, List.map_nil]); first | done | rfl | (simp only [List.length_drop, List.length_take]; rfl)) ?_; (with_reducible refine (wageofficelaw30_example.calls  t167 t168 _ A36.out).mono ?_); rintro e w79 ⟨v169, rfl, ho0, hb⟩; refine ⟨_, rfl, ?_⟩; have n0_ := Aside0.mk (Kd.R_elder' (by (with_reducible repeat (first | apply Kd.R_alloc | apply Kd.R_drewN | apply Kd.R_drew)); exact HO164.out) (Kd.R_base ho0) hb); have n1_ := Aside0.mk (Kd.R_lower (Kd.R_new' ho0 (Kd.R_lt (by (with_reducible repeat (first | apply Kd.R_alloc | apply Kd.R_drewN | apply Kd.R_drew)); exact HO164.out))) (below_size (by repeat (first | (with_reducible first | exact HB.out | apply below_alloc | apply pw_below_drewN | apply below_drew1) | exact HB.out)))); have n2_ := Aside0.mk (below_step (by repeat (first | (with_reducible first | exact HB.out | apply below_alloc | apply pw_below_drewN | apply below_drew1) | exact HB.out)) hb); clear HO164; clear HB; have HO164 := n0_; have HO170 := n1_; have HB := n2_; clear n0_ n1_ n2_; (try clear hb); (try clear hb2); (try clear hk); (try clear hi); (try clear ho0); obtain ⟨Ao80, co80, eo80⟩ := Kd.R_slice HO170.out; subst eo80) | ((with_reducible refine gate_callee (f := 16) rfl ?_); refine goesL_ (some 33) rfl rfl Try.func16 (by kernel_rfl) rfl #[.agg #[.int .i64 t167, .slice Ao80 t168.length co80], .int .i64 2000000000000] rfl (by (try simp only [List.map_toArray, List.map_cons, List.map_nil]); first | done | rfl | (simp only [List.length_drop, List.length_take]; rfl)) ?_; (with_reducible refine (grossup_Least.calls kj0 t167 _ _ t168 2000000000000 t171 t172 _ ?side1 ?side2 A37.out).mono ?_); (case side1 => repeat (first | exact (Kd.R_reads' HO170.out).2.2 | (with_reducible refine Kd.C_alloc ?_ _) | (with_reducible refine Kd.C_drewN ?_ _) | (with_reducible refine Kd.C_drew ?_))); (case side2 => exact (Kd.R_reads' HO170.out).2.1); rintro e w81 ⟨rfl, hb⟩; refine ⟨_, rfl, ?_⟩; have n0_ := Aside0.mk (Kd.R_below (by (with_reducible repeat (first | apply Kd.R_alloc | apply Kd.R_drewN | apply Kd.R_drew)); exact HO164.out) hb); have n1_ := Aside0.mk (Kd.R_below (by (with_reducible repeat (first | apply Kd.R_alloc | apply Kd.R_drewN | apply Kd.R_drew)); exact HO170.out) hb); have n2_ := Aside0.mk (below_step (by repeat (first | (with_reducible first | exact HB.out | apply below_alloc | apply pw_below_drewN | apply below_drew1) | exact HB.out)) hb); clear HO164; clear HO170; clear HB; have HO164 := n0_; have HO170 := n1_; have HB := n2_; clear n0_ n1_ n2_; (try clear hb); (try clear hb2); (try clear hk); (try clear hi)) | ((with_reducible refine gate_callee (f := 25) rfl ?_); refine goesL_ (some 37) rfl rfl Try.func25 (by kernel_rfl) rfl #[] rfl (by (try simp only [List.map_toArray, List.map_cons, List.map_nil]); first | done | rfl | (simp only [List.length_drop, List.length_take]; rfl)) ?_; (with_reducible refine (wageofficelaw30_example.calls  t173 t174 _ A38.out).mono ?_); rintro e w82 ⟨v175, rfl, ho0, hb⟩; refine ⟨_, rfl, ?_⟩; have n0_ := Aside0.mk (Kd.R_elder' (by (with_reducible repeat (first | apply Kd.R_alloc | apply Kd.R_drewN | apply Kd.R_drew)); exact HO164.out) (Kd.R_base ho0) hb); have n1_ := Aside0.mk (Kd.R_elder' (by (with_reducible repeat (first | apply Kd.R_alloc | apply Kd.R_drewN | apply Kd.R_drew)); exact HO170.out) (Kd.R_base ho0) hb); have n2_ := Aside0.mk (Kd.R_lower (Kd.R_new' (Kd.R_new' ho0 (Kd.R_lt (by (with_reducible repeat (first | apply Kd.R_alloc | apply Kd.R_drewN | apply Kd.R_drew)); exact HO164.out))) (Kd.R_lt (by (with_reducible repeat (first | apply Kd.R_alloc | apply Kd.R_drewN | apply Kd.R_drew)); exact HO170.out))) (below_size (by repeat (first | (with_reducible first | exact HB.out | apply below_alloc | apply pw_below_drewN | apply below_drew1) | exact HB.out)))); have n3_ := Aside0.mk (below_step (by repeat (first | (with_reducible first | exact HB.out | apply below_alloc | apply pw_below_drewN | apply below_drew1) | exact HB.out)) hb); clear HO164; clear HO170; clear HB; have HO164 := n0_; have HO170 := n1_; have HO176 := n2_; have HB := n3_; clear n0_ n1_ n2_ n3_; (try clear hb); (try clear hb2); (try clear hk); (try clear hi); (try clear ho0); obtain ⟨Ao83, co83, eo83⟩ := Kd.R_slice HO176.out; subst eo83) | ((with_reducible refine gate_callee (f := 12) rfl ?_); refine goesL_ (some 38) rfl rfl Try.func12 (by kernel_rfl) rfl #[.agg #[.int .i64 t173, .slice Ao83 t174.length co83], .int .i64 1000000000001] rfl (by (try simp only [List.map_toArray, List.map_cons, List.map_nil]); first | done | rfl | (simp only [List.length_drop, List.length_take]; rfl)) ?_; (with_reducible refine (grossup_Net.calls kj0 t173 _ _ t174 1000000000001 t177 t178 _ ?side1 ?side2 A39.out).mono ?_); (case side1 => repeat (first | exact (Kd.R_reads' HO176.out).2.2 | (with_reducible refine Kd.C_alloc ?_ _) | (with_reducible refine Kd.C_drewN ?_ _) | (with_reducible refine Kd.C_drew ?_))); (case side2 => exact (Kd.R_reads' HO176.out).2.1); rintro e w84 ⟨rfl, hb⟩; refine ⟨_, rfl, ?_⟩; have n0_ := Aside0.mk (Kd.R_below (by (with_reducible repeat (first | apply Kd.R_alloc | apply Kd.R_drewN | apply Kd.R_drew)); exact HO164.out) hb); have n1_ := Aside0.mk (Kd.R_below (by (with_reducible repeat (first | apply Kd.R_alloc | apply Kd.R_drewN | apply Kd.R_drew)); exact HO170.out) hb); have n2_ := Aside0.mk (Kd.R_below (by (with_reducible repeat (first | apply Kd.R_alloc | apply Kd.R_drewN | apply Kd.R_drew)); exact HO176.out) hb); have n3_ := Aside0.mk (below_step (by repeat (first | (with_reducible first | exact HB.out | apply below_alloc | apply pw_below_drewN | apply below_drew1) | exact HB.out)) hb); clear HO164; clear HO170; clear HO176; clear HB; have HO164 := n0_; have HO170 := n1_; have HO176 := n2_; have HB := n3_; clear n0_ n1_ n2_ n3_; (try clear hb); (try clear hb2); (try clear hk); (try clear hi)) | ((with_reducible refine gate_callee (f := 14) rfl ?_); refine goesL_ (some 43) rfl rfl Try.func14 (by kernel_rfl) rfl #[.agg #[.int .i64 0, .slice none 0 0], .int .i64 5] rfl (by (try simp only [List.map_toArray, List.map_cons, List.map_nil]); first | done | rfl | (simp only [List.length_drop, List.length_take]; rfl)) ?_; (refine (grossup_Solve.calls kj0 0 _ _ ([] : List (S39)) 5 t179 t182 _ ?side1 ?side2 A40.out).mono ?_); (case side1 => exact Kd.C_nil _ _); (case side2 => exact Nat.le_refl _); rintro e w85 ⟨v180, rfl, ho0, hb⟩; refine ⟨_, rfl, ?_⟩; have n0_ := Aside0.mk (Kd.R_below (by (with_reducible repeat (first | apply Kd.R_alloc | apply Kd.R_drewN | apply Kd.R_drew)); exact HO164.out) hb); have n1_ := Aside0.mk (Kd.R_below (by (with_reducible repeat (first | apply Kd.R_alloc | apply Kd.R_drewN | apply Kd.R_drew)); exact HO170.out) hb); have n2_ := Aside0.mk (Kd.R_below (by (with_reducible repeat (first | apply Kd.R_alloc | apply Kd.R_drewN | apply Kd.R_drew)); exact HO176.out) hb); have n3_ := Aside0.mk (Kd.R_lower ho0 (below_size (by repeat (first | (with_reducible first | exact HB.out | apply below_alloc | apply pw_below_drewN | apply below_drew1) | exact HB.out)))); have n4_ := Aside0.mk (below_step (by repeat (first | (with_reducible first | exact HB.out | apply below_alloc | apply pw_below_drewN | apply below_drew1) | exact HB.out)) hb); clear HO164; clear HO170; clear HO176; clear HB; have HO164 := n0_; have HO170 := n1_; have HO176 := n2_; have HO181 := n3_; have HB := n4_; clear n0_ n1_ n2_ n3_ n4_; (try clear hb); (try clear hb2); (try clear hk); (try clear hi); (try clear ho0)))
            go_ret
            exact ⟨by first | rfl | (simp [errW_none, errW_some] <;> rfl) | (simp [*, errW_none, errW_some] <;> rfl), by repeat (first | (with_reducible first | exact HB.out | apply below_alloc | apply pw_below_drewN | apply below_drew1) | exact HB.out)⟩
        · rw [if_neg c42] at H
          have c42b0 : (t165 == 1201) = false := beq_eq_false_iff_ne.mpr c42
          have c42b1 : (t165 != 1201) = true := bne_iff_ne.mpr c42
          obtain rfl := Option.some.inj H
          go_wp2_with (first | ((with_reducible refine gate_callee (f := 25) rfl ?_); refine goesL_ (some 27) rfl rfl Try.func25 (by kernel_rfl) rfl #[] rfl (by (try simp only [List.map_toArray, List.map_cons, List.map_nil]); first | done | rfl | (simp only [List.length_drop, List.length_take]; rfl)) ?_; (with_reducible refine (wageofficelaw30_example.calls  t161 t162 _ A34.out).mono ?_); rintro e w86 ⟨v163, rfl, ho0, hb⟩; refine ⟨_, rfl, ?_⟩; have n0_ := Aside0.mk (Kd.R_lower ho0 (below_size (by repeat (first | (with_reducible first | exact HB.out | apply below_alloc | apply pw_below_drewN | apply below_drew1) | exact HB.out)))); have n1_ := Aside0.mk (below_step (by repeat (first | (with_reducible first | exact HB.out | apply below_alloc | apply pw_below_drewN | apply below_drew1) | exact HB.out)) hb); clear HB; have HO164 := n0_; have HB := n1_; clear n0_ n1_; (try clear hb); (try clear hb2); (try clear hk); (try clear hi); (try clear ho0); obtain ⟨Ao87, co87, eo87⟩ := Kd.R_slice HO164.out; subst eo87) | ((with_reducible refine gate_callee (f := 16) rfl ?_); refine goesL_ (some 28) rfl rfl Try.func16 (by kernel_rfl) rfl #[.agg #[.int .i64 t161, .slice Ao87 t162.length co87], .int .i64 1001] rfl (by (try simp only [List.map_toArray, List.map_cons, List.map_nil]); first | done | rfl | (simp only [List.length_drop, List.length_take]; rfl)) ?_; (with_reducible refine (grossup_Least.calls kj0 t161 _ _ t162 1001 t165 t166 _ ?side1 ?side2 A35.out).mono ?_); (case side1 => repeat (first | exact (Kd.R_reads' HO164.out).2.2 | (with_reducible refine Kd.C_alloc ?_ _) | (with_reducible refine Kd.C_drewN ?_ _) | (with_reducible refine Kd.C_drew ?_))); (case side2 => exact (Kd.R_reads' HO164.out).2.1); rintro e w88 ⟨rfl, hb⟩; refine ⟨_, rfl, ?_⟩; have n0_ := Aside0.mk (Kd.R_below (by (with_reducible repeat (first | apply Kd.R_alloc | apply Kd.R_drewN | apply Kd.R_drew)); exact HO164.out) hb); have n1_ := Aside0.mk (below_step (by repeat (first | (with_reducible first | exact HB.out | apply below_alloc | apply pw_below_drewN | apply below_drew1) | exact HB.out)) hb); clear HO164; clear HB; have HO164 := n0_; have HB := n1_; clear n0_ n1_; (try clear hb); (try clear hb2); (try clear hk); (try clear hi)) | ((with_reducible refine gate_callee (f := 25) rfl ?_); refine goesL_ (some 32) rfl rfl Try.func25 (by kernel_rfl) rfl #[] rfl (by (try simp only [List.map_toArray, List.map_cons, List.map_nil]); first | done | rfl | (simp only [List.length_drop, List.length_take]; rfl)) ?_; (with_reducible refine (wageofficelaw30_example.calls  t167 t168 _ A36.out).mono ?_); rintro e w89 ⟨v169, rfl, ho0, hb⟩; refine ⟨_, rfl, ?_⟩; have n0_ := Aside0.mk (Kd.R_elder' (by (with_reducible repeat (first | apply Kd.R_alloc | apply Kd.R_drewN | apply Kd.R_drew)); exact HO164.out) (Kd.R_base ho0) hb); have n1_ := Aside0.mk (Kd.R_lower (Kd.R_new' ho0 (Kd.R_lt (by (with_reducible repeat (first | apply Kd.R_alloc | apply Kd.R_drewN | apply Kd.R_drew)); exact HO164.out))) (below_size (by repeat (first | (with_reducible first | exact HB.out | apply below_alloc | apply pw_below_drewN | apply below_drew1) | exact HB.out)))); have n2_ := Aside0.mk (below_step (by repeat (first | (with_reducible first | exact HB.out | apply below_alloc | apply pw_below_drewN | apply below_drew1) | exact HB.out)) hb); clear HO164; clear HB; have HO164 := n0_; have HO170 := n1_; have HB := n2_; clear n0_ n1_ n2_; (try clear hb); (try clear hb2); (try clear hk); (try clear hi); (try clear ho0); obtain ⟨Ao90, co90, eo90⟩ := Kd.R_slice HO170.out; subst eo90) | ((with_reducible refine gate_callee (f := 16) rfl ?_); refine goesL_ (some 33) rfl rfl Try.func16 (by kernel_rfl) rfl #[.agg #[.int .i64 t167, .slice Ao90 t168.length co90], .int .i64 2000000000000] rfl (by (try simp only [List.map_toArray, List.map_cons, List.map_nil]); first | done | rfl | (simp only [List.length_drop, List.length_take]; rfl)) ?_; (with_reducible refine (grossup_Least.calls kj0 t167 _ _ t168 2000000000000 t171 t172 _ ?side1 ?side2 A37.out).mono ?_); (case side1 => repeat (first | exact (Kd.R_reads' HO170.out).2.2 | (with_reducible refine Kd.C_alloc ?_ _) | (with_reducible refine Kd.C_drewN ?_ _) | (with_reducible refine Kd.C_drew ?_))); (case side2 => exact (Kd.R_reads' HO170.out).2.1); rintro e w91 ⟨rfl, hb⟩; refine ⟨_, rfl, ?_⟩; have n0_ := Aside0.mk (Kd.R_below (by (with_reducible repeat (first | apply Kd.R_alloc | apply Kd.R_drewN | apply Kd.R_drew)); exact HO164.out) hb); have n1_ := Aside0.mk (Kd.R_below (by (with_reducible repeat (first | apply Kd.R_alloc | apply Kd.R_drewN | apply Kd.R_drew)); exact HO170.out) hb); have n2_ := Aside0.mk (below_step (by repeat (first | (with_reducible first | exact HB.out | apply below_alloc | apply pw_below_drewN | apply below_drew1) | exact HB.out)) hb); clear HO164; clear HO170; clear HB; have HO164 := n0_; have HO170 := n1_; have HB := n2_; clear n0_ n1_ n2_; (try clear hb); (try clear hb2); (try clear hk); (try clear hi)) | ((with_reducible refine gate_callee (f := 25) rfl ?_); refine goesL_ (some 37) rfl rfl Try.func25 (by kernel_rfl) rfl #[] rfl (by (try simp only [List.map_toArray, List.map_cons, List.map_nil]); first | done | rfl | (simp only [List.length_drop, List.length_take]; rfl)) ?_; (with_reducible refine (wageofficelaw30_example.calls  t173 t174 _ A38.out).mono ?_); rintro e w92 ⟨v175, rfl, ho0, hb⟩; refine ⟨_, rfl, ?_⟩; have n0_ := Aside0.mk (Kd.R_elder' (by (with_reducible repeat (first | apply Kd.R_alloc | apply Kd.R_drewN | apply Kd.R_drew)); exact HO164.out) (Kd.R_base ho0) hb); have n1_ := Aside0.mk (Kd.R_elder' (by (with_reducible repeat (first | apply Kd.R_alloc | apply Kd.R_drewN | apply Kd.R_drew)); exact HO170.out) (Kd.R_base ho0) hb); have n2_ := Aside0.mk (Kd.R_lower (Kd.R_new' (Kd.R_new' ho0 (Kd.R_lt (by (with_reducible repeat (first | apply Kd.R_alloc | apply Kd.R_drewN | apply Kd.R_drew)); exact HO164.out))) (Kd.R_lt (by (with_reducible repeat (first | apply Kd.R_alloc | apply Kd.R_drewN | apply Kd.R_drew)); exact HO170.out))) (below_size (by repeat (first | (with_reducible first | exact HB.out | apply below_alloc | apply pw_below_drewN | apply below_drew1) | exact HB.out)))); have n3_ := Aside0.mk (below_step (by repeat (first | (with_reducible first | exact HB.out | apply below_alloc | apply pw_below_drewN | apply below_drew1) | exact HB.out)) hb); clear HO164; clear HO170; clear HB; have HO164 := n0_; have HO170 := n1_; have HO176 := n2_; have HB := n3_; clear n0_ n1_ n2_ n3_; (try clear hb); (try clear hb2); (try clear hk); (try clear hi); (try clear ho0); obtain ⟨Ao93, co93, eo93⟩ := Kd.R_slice HO176.out; subst eo93) | ((with_reducible refine gate_callee (f := 12) rfl ?_); refine goesL_ (some 38) rfl rfl Try.func12 (by kernel_rfl) rfl #[.agg #[.int .i64 t173, .slice Ao93 t174.length co93], .int .i64 1000000000001] rfl (by (try simp only [List.map_toArray, List.map_cons, List.map_nil]); first | done | rfl | (simp only [List.length_drop, List.length_take]; rfl)) ?_; (with_reducible refine (grossup_Net.calls kj0 t173 _ _ t174 1000000000001 t177 t178 _ ?side1 ?side2 A39.out).mono ?_); (case side1 => repeat (first | exact (Kd.R_reads' HO176.out).2.2 | (with_reducible refine Kd.C_alloc ?_ _) | (with_reducible refine Kd.C_drewN ?_ _) | (with_reducible refine Kd.C_drew ?_))); (case side2 => exact (Kd.R_reads' HO176.out).2.1); rintro e w94 ⟨rfl, hb⟩; refine ⟨_, rfl, ?_⟩; have n0_ := Aside0.mk (Kd.R_below (by (with_reducible repeat (first | apply Kd.R_alloc | apply Kd.R_drewN | apply Kd.R_drew)); exact HO164.out) hb); have n1_ := Aside0.mk (Kd.R_below (by (with_reducible repeat (first | apply Kd.R_alloc | apply Kd.R_drewN | apply Kd.R_drew)); exact HO170.out) hb); have n2_ := Aside0.mk (Kd.R_below (by (with_reducible repeat (first | apply Kd.R_alloc | apply Kd.R_drewN | apply Kd.R_drew)); exact HO176.out) hb); have n3_ := Aside0.mk (below_step (by repeat (first | (with_reducible first | exact HB.out | apply below_alloc | apply pw_below_drewN | apply below_drew1) | exact HB.out)) hb); clear HO164; clear HO170; clear HO176; clear HB; have HO164 := n0_; have HO170 := n1_; have HO176 := n2_; have HB := n3_; clear n0_ n1_ n2_ n3_; (try clear hb); (try clear hb2); (try clear hk); (try clear hi)) | ((with_reducible refine gate_callee (f := 14) rfl ?_); refine goesL_ (some 43) rfl rfl Try.func14 (by kernel_rfl) rfl #[.agg #[.int .i64 0, .slice none 0 0], .int .i64 5] rfl (by (try simp only [List.map_toArray, List.map_cons, List.map_nil]); first | done | rfl | (simp only [List.length_drop, List.length_take]; rfl)) ?_; (refine (grossup_Solve.calls kj0 0 _ _ ([] : List (S39)) 5 t179 t182 _ ?side1 ?side2 A40.out).mono ?_); (case side1 => exact Kd.C_nil _ _); (case side2 => exact Nat.le_refl _); rintro e w95 ⟨v180, rfl, ho0, hb⟩; refine ⟨_, rfl, ?_⟩; have n0_ := Aside0.mk (Kd.R_below (by (with_reducible repeat (first | apply Kd.R_alloc | apply Kd.R_drewN | apply Kd.R_drew)); exact HO164.out) hb); have n1_ := Aside0.mk (Kd.R_below (by (with_reducible repeat (first | apply Kd.R_alloc | apply Kd.R_drewN | apply Kd.R_drew)); exact HO170.out) hb); have n2_ := Aside0.mk (Kd.R_below (by (with_reducible repeat (first | apply Kd.R_alloc | apply Kd.R_drewN | apply Kd.R_drew)); exact HO176.out) hb); have n3_ := Aside0.mk (Kd.R_lower ho0 (below_size (by repeat (first | (with_reducible first | exact HB.out | apply below_alloc | apply pw_below_drewN | apply below_drew1) | exact HB.out)))); have n4_ := Aside0.mk (below_step (by repeat (first | (with_reducible first | exact HB.out | apply below_alloc | apply pw_below_drewN | apply below_drew1) | exact HB.out)) hb); clear HO164; clear HO170; clear HO176; clear HB; have HO164 := n0_; have HO170 := n1_; have HO176 := n2_; have HO181 := n3_; have HB := n4_; clear n0_ n1_ n2_ n3_ n4_; (try clear hb); (try clear hb2); (try clear hk); (try clear hi); (try clear ho0)))
          go_ret
          exact ⟨by first | rfl | (simp [errW_none, errW_some] <;> rfl) | (simp [*, errW_none, errW_some] <;> rfl), by repeat (first | (with_reducible first | exact HB.out | apply below_alloc | apply pw_below_drewN | apply below_drew1) | exact HB.out)⟩
      · replace c41 := Bool.eq_false_iff.mpr c41
        subst c41
        have H1 : (some false) = some r := by rw [if_neg (show ¬ (false = true) by decide)] at H; exact H
        clear H
        have H := H1
        clear H1
        obtain rfl := Option.some.inj H
        go_wp2_with (first | ((with_reducible refine gate_callee (f := 25) rfl ?_); refine goesL_ (some 27) rfl rfl Try.func25 (by kernel_rfl) rfl #[] rfl (by (try simp only [List.map_toArray, List.map_cons, List.map_nil]); first | done | rfl | (simp only [List.length_drop, List.length_take]; rfl)) ?_; (with_reducible refine (wageofficelaw30_example.calls  t161 t162 _ A34.out).mono ?_); rintro e w96 ⟨v163, rfl, ho0, hb⟩; refine ⟨_, rfl, ?_⟩; have n0_ := Aside0.mk (Kd.R_lower ho0 (below_size (by repeat (first | (with_reducible first | exact HB.out | apply below_alloc | apply pw_below_drewN | apply below_drew1) | exact HB.out)))); have n1_ := Aside0.mk (below_step (by repeat (first | (with_reducible first | exact HB.out | apply below_alloc | apply pw_below_drewN | apply below_drew1) | exact HB.out)) hb); clear HB; have HO164 := n0_; have HB := n1_; clear n0_ n1_; (try clear hb); (try clear hb2); (try clear hk); (try clear hi); (try clear ho0); obtain ⟨Ao97, co97, eo97⟩ := Kd.R_slice HO164.out; subst eo97) | ((with_reducible refine gate_callee (f := 16) rfl ?_); refine goesL_ (some 28) rfl rfl Try.func16 (by kernel_rfl) rfl #[.agg #[.int .i64 t161, .slice Ao97 t162.length co97], .int .i64 1001] rfl (by (try simp only [List.map_toArray, List.map_cons, List.map_nil]); first | done | rfl | (simp only [List.length_drop, List.length_take]; rfl)) ?_; (with_reducible refine (grossup_Least.calls kj0 t161 _ _ t162 1001 t165 t166 _ ?side1 ?side2 A35.out).mono ?_); (case side1 => repeat (first | exact (Kd.R_reads' HO164.out).2.2 | (with_reducible refine Kd.C_alloc ?_ _) | (with_reducible refine Kd.C_drewN ?_ _) | (with_reducible refine Kd.C_drew ?_))); (case side2 => exact (Kd.R_reads' HO164.out).2.1); rintro e w98 ⟨rfl, hb⟩; refine ⟨_, rfl, ?_⟩; have n0_ := Aside0.mk (Kd.R_below (by (with_reducible repeat (first | apply Kd.R_alloc | apply Kd.R_drewN | apply Kd.R_drew)); exact HO164.out) hb); have n1_ := Aside0.mk (below_step (by repeat (first | (with_reducible first | exact HB.out | apply below_alloc | apply pw_below_drewN | apply below_drew1) | exact HB.out)) hb); clear HO164; clear HB; have HO164 := n0_; have HB := n1_; clear n0_ n1_; (try clear hb); (try clear hb2); (try clear hk); (try clear hi)) | ((with_reducible refine gate_callee (f := 25) rfl ?_); refine goesL_ (some 32) rfl rfl Try.func25 (by kernel_rfl) rfl #[] rfl (by (try simp only [List.map_toArray, List.map_cons, List.map_nil]); first | done | rfl | (simp only [List.length_drop, List.length_take]; rfl)) ?_; (with_reducible refine (wageofficelaw30_example.calls  t167 t168 _ A36.out).mono ?_); rintro e w99 ⟨v169, rfl, ho0, hb⟩; refine ⟨_, rfl, ?_⟩; have n0_ := Aside0.mk (Kd.R_elder' (by (with_reducible repeat (first | apply Kd.R_alloc | apply Kd.R_drewN | apply Kd.R_drew)); exact HO164.out) (Kd.R_base ho0) hb); have n1_ := Aside0.mk (Kd.R_lower (Kd.R_new' ho0 (Kd.R_lt (by (with_reducible repeat (first | apply Kd.R_alloc | apply Kd.R_drewN | apply Kd.R_drew)); exact HO164.out))) (below_size (by repeat (first | (with_reducible first | exact HB.out | apply below_alloc | apply pw_below_drewN | apply below_drew1) | exact HB.out)))); have n2_ := Aside0.mk (below_step (by repeat (first | (with_reducible first | exact HB.out | apply below_alloc | apply pw_below_drewN | apply below_drew1) | exact HB.out)) hb); clear HO164; clear HB; have HO164 := n0_; have HO170 := n1_; have HB := n2_; clear n0_ n1_ n2_; (try clear hb); (try clear hb2); (try clear hk); (try clear hi); (try clear ho0); obtain ⟨Ao100, co100, eo100⟩ := Kd.R_slice HO170.out; subst eo100) | ((with_reducible refine gate_callee (f := 16) rfl ?_); refine goesL_ (some 33) rfl rfl Try.func16 (by kernel_rfl) rfl #[.agg #[.int .i64 t167, .slice Ao100 t168.length co100], .int .i64 2000000000000] rfl (by (try simp only [List.map_toArray, List.map_cons, List.map_nil]); first | done | rfl | (simp only [List.length_drop, List.length_take]; rfl)) ?_; (with_reducible refine (grossup_Least.calls kj0 t167 _ _ t168 2000000000000 t171 t172 _ ?side1 ?side2 A37.out).mono ?_); (case side1 => repeat (first | exact (Kd.R_reads' HO170.out).2.2 | (with_reducible refine Kd.C_alloc ?_ _) | (with_reducible refine Kd.C_drewN ?_ _) | (with_reducible refine Kd.C_drew ?_))); (case side2 => exact (Kd.R_reads' HO170.out).2.1); rintro e w101 ⟨rfl, hb⟩; refine ⟨_, rfl, ?_⟩; have n0_ := Aside0.mk (Kd.R_below (by (with_reducible repeat (first | apply Kd.R_alloc | apply Kd.R_drewN | apply Kd.R_drew)); exact HO164.out) hb); have n1_ := Aside0.mk (Kd.R_below (by (with_reducible repeat (first | apply Kd.R_alloc | apply Kd.R_drewN | apply Kd.R_drew)); exact HO170.out) hb); have n2_ := Aside0.mk (below_step (by repeat (first | (with_reducible first | exact HB.out | apply below_alloc | apply pw_below_drewN | apply below_drew1) | exact HB.out)) hb); clear HO164; clear HO170; clear HB; have HO164 := n0_; have HO170 := n1_; have HB := n2_; clear n0_ n1_ n2_; (try clear hb); (try clear hb2); (try clear hk); (try clear hi)) | ((with_reducible refine gate_callee (f := 25) rfl ?_); refine goesL_ (some 37) rfl rfl Try.func25 (by kernel_rfl) rfl #[] rfl (by (try simp only [List.map_toArray, List.map_cons, List.map_nil]); first | done | rfl | (simp only [List.length_drop, List.length_take]; rfl)) ?_; (with_reducible refine (wageofficelaw30_example.calls  t173 t174 _ A38.out).mono ?_); rintro e w102 ⟨v175, rfl, ho0, hb⟩; refine ⟨_, rfl, ?_⟩; have n0_ := Aside0.mk (Kd.R_elder' (by (with_reducible repeat (first | apply Kd.R_alloc | apply Kd.R_drewN | apply Kd.R_drew)); exact HO164.out) (Kd.R_base ho0) hb); have n1_ := Aside0.mk (Kd.R_elder' (by (with_reducible repeat (first | apply Kd.R_alloc | apply Kd.R_drewN | apply Kd.R_drew)); exact HO170.out) (Kd.R_base ho0) hb); have n2_ := Aside0.mk (Kd.R_lower (Kd.R_new' (Kd.R_new' ho0 (Kd.R_lt (by (with_reducible repeat (first | apply Kd.R_alloc | apply Kd.R_drewN | apply Kd.R_drew)); exact HO164.out))) (Kd.R_lt (by (with_reducible repeat (first | apply Kd.R_alloc | apply Kd.R_drewN | apply Kd.R_drew)); exact HO170.out))) (below_size (by repeat (first | (with_reducible first | exact HB.out | apply below_alloc | apply pw_below_drewN | apply below_drew1) | exact HB.out)))); have n3_ := Aside0.mk (below_step (by repeat (first | (with_reducible first | exact HB.out | apply below_alloc | apply pw_below_drewN | apply below_drew1) | exact HB.out)) hb); clear HO164; clear HO170; clear HB; have HO164 := n0_; have HO170 := n1_; have HO176 := n2_; have HB := n3_; clear n0_ n1_ n2_ n3_; (try clear hb); (try clear hb2); (try clear hk); (try clear hi); (try clear ho0); obtain ⟨Ao103, co103, eo103⟩ := Kd.R_slice HO176.out; subst eo103) | ((with_reducible refine gate_callee (f := 12) rfl ?_); refine goesL_ (some 38) rfl rfl Try.func12 (by kernel_rfl) rfl #[.agg #[.int .i64 t173, .slice Ao103 t174.length co103], .int .i64 1000000000001] rfl (by (try simp only [List.map_toArray, List.map_cons, List.map_nil]); first | done | rfl | (simp only [List.length_drop, List.length_take]; rfl)) ?_; (with_reducible refine (grossup_Net.calls kj0 t173 _ _ t174 1000000000001 t177 t178 _ ?side1 ?side2 A39.out).mono ?_); (case side1 => repeat (first | exact (Kd.R_reads' HO176.out).2.2 | (with_reducible refine Kd.C_alloc ?_ _) | (with_reducible refine Kd.C_drewN ?_ _) | (with_reducible refine Kd.C_drew ?_))); (case side2 => exact (Kd.R_reads' HO176.out).2.1); rintro e w104 ⟨rfl, hb⟩; refine ⟨_, rfl, ?_⟩; have n0_ := Aside0.mk (Kd.R_below (by (with_reducible repeat (first | apply Kd.R_alloc | apply Kd.R_drewN | apply Kd.R_drew)); exact HO164.out) hb); have n1_ := Aside0.mk (Kd.R_below (by (with_reducible repeat (first | apply Kd.R_alloc | apply Kd.R_drewN | apply Kd.R_drew)); exact HO170.out) hb); have n2_ := Aside0.mk (Kd.R_below (by (with_reducible repeat (first | apply Kd.R_alloc | apply Kd.R_drewN | apply Kd.R_drew)); exact HO176.out) hb); have n3_ := Aside0.mk (below_step (by repeat (first | (with_reducible first | exact HB.out | apply below_alloc | apply pw_below_drewN | apply below_drew1) | exact HB.out)) hb); clear HO164; clear HO170; clear HO176; clear HB; have HO164 := n0_; have HO170 := n1_; have HO176 := n2_; have HB := n3_; clear n0_ n1_ n2_ n3_; (try clear hb); (try clear hb2); (try clear hk); (try clear hi)) | ((with_reducible refine gate_callee (f := 14) rfl ?_); refine goesL_ (some 43) rfl rfl Try.func14 (by kernel_rfl) rfl #[.agg #[.int .i64 0, .slice none 0 0], .int .i64 5] rfl (by (try simp only [List.map_toArray, List.map_cons, List.map_nil]); first | done | rfl | (simp only [List.length_drop, List.length_take]; rfl)) ?_; (refine (grossup_Solve.calls kj0 0 _ _ ([] : List (S39)) 5 t179 t182 _ ?side1 ?side2 A40.out).mono ?_); (case side1 => exact Kd.C_nil _ _); (case side2 => exact Nat.le_refl _); rintro e w105 ⟨v180, rfl, ho0, hb⟩; refine ⟨_, rfl, ?_⟩; have n0_ := Aside0.mk (Kd.R_below (by (with_reducible repeat (first | apply Kd.R_alloc | apply Kd.R_drewN | apply Kd.R_drew)); exact HO164.out) hb); have n1_ := Aside0.mk (Kd.R_below (by (with_reducible repeat (first | apply Kd.R_alloc | apply Kd.R_drewN | apply Kd.R_drew)); exact HO170.out) hb); have n2_ := Aside0.mk (Kd.R_below (by (with_reducible repeat (first | apply Kd.R_alloc | apply Kd.R_drewN | apply Kd.R_drew)); exact HO176.out) hb); have n3_ := Aside0.mk (Kd.R_lower ho0 (below_size (by repeat (first | (with_reducible first | exact HB.out | apply below_alloc | apply pw_below_drewN | apply below_drew1) | exact HB.out)))); have n4_ := Aside0.mk (below_step (by repeat (first | (with_reducible first | exact HB.out | apply below_alloc | apply pw_below_drewN | apply below_drew1) | exact HB.out)) hb); clear HO164; clear HO170; clear HO176; clear HB; have HO164 := n0_; have HO170 := n1_; have HO176 := n2_; have HO181 := n3_; have HB := n4_; clear n0_ n1_ n2_ n3_ n4_; (try clear hb); (try clear hb2); (try clear hk); (try clear hi); (try clear ho0)))
        go_ret
        exact ⟨by first | rfl | (simp [errW_none, errW_some] <;> rfl) | (simp [*, errW_none, errW_some] <;> rfl), by repeat (first | (with_reducible first | exact HB.out | apply below_alloc | apply pw_below_drewN | apply below_drew1) | exact HB.out)⟩

end Go.Proofs.Yteapeglolkfimaa.My
end
section
-- Written by a program of this session (wip/myprint.py), which drives the kit's print over hand-written fragments. Not trusted: Lean checks it.

namespace Go.Proofs.Yteapeglolkfimaa.My
open Go.Proofs.Yteapeglolkfimaa.Aid Go.Proofs.Yteapeglolkfimaa.KdX
open Go.RowKit Go.Proofs.YteapeglolkfimaaW.PrintWords Go.Proofs.YteapeglolkfimaaW.PrintLast Go.Proofs.YteapeglolkfimaaW.PrintMore
attribute [local go_sem] max2_int min2_int max_two min_two max_three min_three max_four min_four   -- for this text's walks alone
set_option linter.unusedVariables false
set_option linter.unusedSimpArgs false

/-! ### api_Span_64: function 64 (by hand) -/
set_option maxRecDepth 100000 in
set_option maxHeartbeats 1000000 in
theorem api_Span_64.calls (F : Nat) (cs : Array Value) (A0 : Option Addr) (c0 : Nat) (l0 : List S36) (p : S36 → Bool) (R : World → Prop) (w : World)
    (hF : ∀ args w1, (callFunc F args).run Try.prog w1 = .ok (.enter F args) w1)
    (hr0 : Kd.C k36 w A0 l0.length l0) (hRw : R w) (hRB : ∀ w1, R w1 → Below w.heap.size w w1)
    (hp : ∀ x w1, R w1 → Calls Try.prog F (#[.agg #[.int .i64 x.f0, .int .i64 x.f1]] ++ cs) w1 fun e w2 => e = .returned (.bool (p x)) ∧ R w2) :
    Calls Try.prog 64 #[.slice A0 l0.length c0, .func (.func F) #[] cs] w fun e w' => e = .returned (.int .i64 ((l0.findIdx? p).elim (-1) fun n => (n : Int))) ∧ R w' := by
  have hm0 : l0.length ≤ 9223372036854775807 := hr0.2.1
  have hu36 := Try.underlying36
  have HR0 := Aside0.mk hr0
  have HRW := Aside0.mk hRw
  have HRB := Aside0.mk hRB
  have HP := Aside0.mk hp
  clear hr0 hRw hRB hp
  go_enter Try.func64, Try.ntmps64
  go_wp2_with fail
  go_loopw [5, 8] (fun _ i wr => ∃ k : Nat, i = .int .i64 k ∧ k ≤ l0.length ∧ Aside0 (R wr) ∧ Aside0 (∀ j, (h : j < l0.length) → j < k → p l0[j] = false))
    (fun _ i _ => l0.length - (intOf i).toNat)
  case atStart => exact ⟨0, rfl, Nat.zero_le _, HRW, ⟨fun j h hj => absurd hj (by omega)⟩⟩
  case round =>
    obtain ⟨k, rfl, hk, HR, HJ⟩ := hrel
    by_cases hlt : k < l0.length
    · obtain ⟨ad, rfl, g0, g1⟩ := at_T36 HR0.out (k : Int) (by omega) (by omega)
      have hrd : rd_T36 l0 (k : Int) = l0[k] := by simp [rd_T36, List.getD_eq_getElem?_getD, hlt]
      rw [Int.toNat_natCast, hrd] at g0 g1
      clear hrd
      have HPY := Aside0.mk (HP.out l0[k])
      have HJK := Aside0.mk (show p l0[k] = true → l0.findIdx? p = some k from fun h => by
        rw [List.findIdx?_eq_some_iff_getElem]
        exact ⟨hlt, h, fun j hj => by simpa using HJ.out j (by omega) hj⟩)
      have HJN := Aside0.mk (show p l0[k] = false → ∀ j, (h : j < l0.length) → j < k + 1 → p l0[j] = false from fun hf j h hj => by
          by_cases e : j = k
          · subst e; exact hf
          · exact HJ.out j h (by omega))
      obtain ⟨y, hy⟩ : ∃ y, l0[k] = y := ⟨_, rfl⟩
      rw [hy] at g0 g1 HPY HJK HJN
      clear hy
      replace g0 := ((HRB.out _ HR.out).cell (World.block_lt_of_cell? w _ g0)).trans g0
      replace g1 := ((HRB.out _ HR.out).cell (World.block_lt_of_cell? w _ g1)).trans g1
      go_wp2_with fail
      refine (HPY.out _ HR.out).mono ?_
      rintro e w2 ⟨rfl, hR2⟩
      have HR2 := Aside0.mk hR2
      clear hR2
      cases hpk : p y with
      | true =>
        have HFIN := Aside0.mk (HJK.out hpk)
        clear hpk
        go_wp2
        go_ret
        exact ⟨by rw [HFIN.out]; rfl, HR2.out⟩
      | false =>
        have HFN := Aside0.mk (HJN.out hpk)
        clear hpk
        go_wp2
        go_roundw
        case rel => exact ⟨k + 1, by go_num, by omega, HR2, HFN⟩
        case measure => simp [intOf]; omega
    · have hfin : l0.findIdx? p = none := by
        rw [List.findIdx?_eq_none_iff]
        intro x hx
        obtain ⟨j, hj, rfl⟩ := List.getElem_of_mem hx
        exact HJ.out j hj (by omega)
      have HFIN := Aside0.mk hfin
      clear hfin
      go_wp2
      go_ret
      exact ⟨by rw [HFIN.out]; rfl, HR.out⟩


end Go.Proofs.Yteapeglolkfimaa.My
end
section
-- Written by a program of this session (wip/myprint.py), which drives the kit's print over hand-written fragments. Not trusted: Lean checks it.


namespace Go.Proofs.Yteapeglolkfimaa.My
open Go.Proofs.Yteapeglolkfimaa.Aid Go.Proofs.Yteapeglolkfimaa.KdX
open Go.RowKit Go.Proofs.YteapeglolkfimaaW.PrintWords Go.Proofs.YteapeglolkfimaaW.PrintLast Go.Proofs.YteapeglolkfimaaW.PrintMore
attribute [local go_sem] max2_int min2_int max_two min_two max_three min_three max_four min_four   -- for this text's walks alone
set_option linter.unusedVariables false
set_option linter.unusedSimpArgs false

/-! ### api_Span_38: function 38 (by hand) -/
set_option maxHeartbeats 400000 in
theorem api_Span_38.calls (F : Nat) (cs : Array Value) (A0 : Option Addr) (c0 : Nat) (l0 : List S36) (p : S36 → Bool) (R : World → Prop) (w : World)
    (hF : ∀ args w1, (callFunc F args).run Try.prog w1 = .ok (.enter F args) w1)
    (hr0 : Kd.C k36 w A0 l0.length l0) (hRw : R w) (hRB : ∀ w1, R w1 → Below w.heap.size w w1)
    (hp : ∀ x w1, R w1 → Calls Try.prog F (#[.agg #[.int .i64 x.f0, .int .i64 x.f1]] ++ cs) w1 fun e w2 => e = .returned (.bool (p x)) ∧ R w2) :
    Calls Try.prog 38 #[.slice A0 l0.length c0, .func (.func F) #[] cs] w fun e w' => e = .returned (.bool (l0.any p)) ∧ R w' := by
  have HC := Aside0.mk (api_Span_64.calls F cs A0 c0 l0 p R w hF hr0 hRw hRB hp)
  clear hp hRB hRw hr0
  cases hi : l0.findIdx? p with
  | none =>
    have hfin : l0.any p = false := by
      rw [List.findIdx?_eq_none_iff] at hi
      rw [List.any_eq_false]; intro x hx; simpa using hi x hx
    rw [hi] at HC
    rw [hfin]
    clear hi hfin
    go_enter Try.func38, Try.ntmps38
    go_wp2_with fail
    refine HC.out.mono ?_
    rintro e w2 ⟨rfl, hR2⟩
    have HR2 := Aside0.mk hR2
    clear hR2
    simp only [Option.elim]
    go_wp2
    go_ret
    exact ⟨rfl, HR2.out⟩
  | some k =>
    have hfin : l0.any p = true := by
      rw [List.findIdx?_eq_some_iff_getElem] at hi
      obtain ⟨h, h1, _⟩ := hi
      rw [List.any_eq_true]; exact ⟨_, List.getElem_mem h, h1⟩
    rw [hi] at HC
    rw [hfin]
    clear hi hfin
    go_enter Try.func38, Try.ntmps38
    go_wp2_with fail
    refine HC.out.mono ?_
    rintro e w2 ⟨rfl, hR2⟩
    have HR2 := Aside0.mk hR2
    clear hR2
    simp only [Option.elim]
    go_wp2
    go_ret
    exact ⟨rfl, HR2.out⟩


end Go.Proofs.Yteapeglolkfimaa.My
end
section
-- Written by a program of this session (wip/myprint.py), which drives the kit's print over hand-written fragments. Not trusted: Lean checks it.




namespace Go.Proofs.Yteapeglolkfimaa.My
open Go.Proofs.Yteapeglolkfimaa.Aid Go.Proofs.Yteapeglolkfimaa.KdX
open Go.RowKit Go.Proofs.YteapeglolkfimaaW.PrintWords Go.Proofs.YteapeglolkfimaaW.PrintLast Go.Proofs.YteapeglolkfimaaW.PrintMore
attribute [local go_sem] max2_int min2_int max_two min_two max_three min_three max_four min_four   -- for this text's walks alone
set_option linter.unusedVariables false
set_option linter.unusedSimpArgs false

/-! ### span_Has: function 21 (by hand) -/
-- (the words of span_Normal; calls span_proper api_Span_38)
def hasS (n : Int) (s : S36) : Bool := prB s && decide (s.f0 ≤ n ∧ n < s.f1)
def hasB (l : List S36) (n : Int) : Bool := l.any (hasS n)
def span_Has.f (l0 : List S36) (a1 : Int) : Option Bool := some (hasB l0 a1)
theorem proper_eval (x : S36) : span_proper.f x.f0 x.f1 = some (prB x) := by
  unfold span_proper.f prB
  split
  · split
    · congr 1; rw [Bool.eq_iff_iff]; simp; omega
    · rw [decide_eq_false (by omega)]
  · rw [decide_eq_false (by omega)]
theorem has1_enter : ∀ args w1, (callFunc 39 args).run Try.prog w1 = .ok (.enter 39 args) w1 := by
  intro args w1
  go_simp
set_option maxRecDepth 100000 in
set_option maxHeartbeats 800000 in
theorem has1_calls (x : S36) (n : Int) (pn : Nat) (w : World) (h1 : w.cell? ⟨pn, 0, none⟩ = some (.int .i64 n)) :
    Calls Try.prog 39 #[.agg #[.int .i64 x.f0, .int .i64 x.f1], .pointer (some ⟨pn, 0, none⟩)] w fun e w2 => e = .returned (.bool (hasS n x)) ∧ Below w.heap.size w w2 := by
  have hu36 := Try.underlying36
  obtain ⟨W, hW⟩ : ∃ W, W = w.alloc (.cells #[.int .i64 x.f0, .int .i64 x.f1] 36) := ⟨_, rfl⟩
  have hB : Below w.heap.size w W := by subst hW; exact below_alloc (Below.refl _ _) _
  have k1 : W.heap[w.heap.size]? = some (.cells #[.int .i64 x.f0, .int .i64 x.f1] 36 (0, 0)) := by subst hW; exact blk_new _ _
  have c1 : W.cell? ⟨pn, 0, none⟩ = some (.int .i64 n) := (hB.cell (World.block_lt_of_cell? w _ h1)).trans h1
  have HC := Aside0.mk (span_proper.calls x.f0 x.f1 (prB x) W (proper_eval x))
  have HB := Aside0.mk hB
  have K1 := Aside0.mk k1
  have C1 := Aside0.mk c1
  have HX := Aside0.mk hW
  have HS : Aside0 (hasS n x = (prB x && decide (x.f0 ≤ n ∧ n < x.f1))) := ⟨rfl⟩
  generalize hasS n x = r at HS ⊢
  clear hB k1 c1 hW h1
  cases hp : prB x with
  | false =>
    rw [hp] at HC HS
    have HR : Aside0 (r = false) := ⟨by rw [HS.out]; rfl⟩
    clear hp HS
    go_enter Try.func39, Try.ntmps39
    go_wp2_with fail
    rw [← HX.out]
    refine HC.out.mono ?_
    rintro e w2 ⟨rfl, hb⟩
    have HB2 := Aside0.mk (below_step HB.out hb)
    clear hb
    go_wp2
    go_ret
    exact ⟨by rw [HR.out]; rfl, HB2.out⟩
  | true =>
    rw [hp] at HC HS
    clear hp
    by_cases q1 : x.f0 ≤ n
    · by_cases q2 : n < x.f1
      · have HR : Aside0 (r = true) := ⟨by rw [HS.out, decide_eq_true ⟨q1, q2⟩]; rfl⟩
        clear HS
        go_enter Try.func39, Try.ntmps39
        go_wp2_with fail
        rw [← HX.out]
        refine HC.out.mono ?_
        rintro e w2 ⟨rfl, hb⟩
        have HB2 := Aside0.mk (below_step HB.out hb)
        have k2 := blk_below K1.out hb
        have d0 := (blk_cell k2 0).trans rfl
        have d1 := (blk_cell k2 1).trans rfl
        have dn := (hb.cell (World.block_lt_of_cell? W _ C1.out)).trans C1.out
        clear hb k2
        go_wp2
        go_ret
        exact ⟨by rw [HR.out]; rfl, HB2.out⟩
      · have HR : Aside0 (r = false) := ⟨by rw [HS.out, decide_eq_false (fun h => q2 h.2)]; rfl⟩
        have bq : decide (n < x.f1) = false := decide_eq_false q2
        clear HS
        go_enter Try.func39, Try.ntmps39
        go_wp2_with fail
        rw [← HX.out]
        refine HC.out.mono ?_
        rintro e w2 ⟨rfl, hb⟩
        have HB2 := Aside0.mk (below_step HB.out hb)
        have k2 := blk_below K1.out hb
        have d0 := (blk_cell k2 0).trans rfl
        have d1 := (blk_cell k2 1).trans rfl
        have dn := (hb.cell (World.block_lt_of_cell? W _ C1.out)).trans C1.out
        clear hb k2
        go_wp2
        go_ret
        exact ⟨by rw [HR.out]; rfl, HB2.out⟩
    · have HR : Aside0 (r = false) := ⟨by rw [HS.out, decide_eq_false (fun h => q1 h.1)]; rfl⟩
      have bq : decide (x.f0 ≤ n) = false := decide_eq_false q1
      clear HS
      go_enter Try.func39, Try.ntmps39
      go_wp2_with fail
      rw [← HX.out]
      refine HC.out.mono ?_
      rintro e w2 ⟨rfl, hb⟩
      have HB2 := Aside0.mk (below_step HB.out hb)
      have k2 := blk_below K1.out hb
      have d0 := (blk_cell k2 0).trans rfl
      have d1 := (blk_cell k2 1).trans rfl
      have dn := (hb.cell (World.block_lt_of_cell? W _ C1.out)).trans C1.out
      clear hb k2
      go_wp2
      go_ret
      exact ⟨by rw [HR.out]; rfl, HB2.out⟩
set_option maxHeartbeats 400000 in
theorem span_Has.calls (A0 : Option Addr) (c0 : Nat) (l0 : List S36) (a1 : Int) (r : Bool) (w : World) (hr0 : Kd.C k36 w A0 l0.length l0) (hc0 : l0.length ≤ c0) (h : span_Has.f l0 a1 = some r) :
    Calls Try.prog 21 #[.slice A0 l0.length c0, .int .i64 a1] w fun e w' => e = .returned (.bool r) ∧ Below w.heap.size w w' := by
  obtain rfl := Option.some.inj h
  obtain ⟨W, hW⟩ : ∃ W, W = w.alloc (.cells #[.int .i64 a1] 3) := ⟨_, rfl⟩
  have hB : Below w.heap.size w W := by subst hW; exact below_alloc (Below.refl _ _) _
  have c1 : W.cell? ⟨w.heap.size, 0, none⟩ = some (.int .i64 a1) := by subst hW; go_simp
  have HC := Aside0.mk (api_Span_38.calls 39 #[.pointer (some ⟨w.heap.size, 0, none⟩)] A0 c0 l0 (hasS a1) (fun X => Below W.heap.size W X) W has1_enter (Kd.C_below hr0 hB) (Below.refl _ _) (fun _ h => h)
    (fun x w1 h1 => (has1_calls x a1 w.heap.size w1 ((h1.cell (World.block_lt_of_cell? W _ c1)).trans c1)).mono fun e w2 h => ⟨h.1, below_step h1 h.2⟩))
  change Aside0 (Calls _ _ _ _ fun e w' => e = .returned (.bool (hasB l0 a1)) ∧ _) at HC
  generalize hasB l0 a1 = r at HC ⊢
  have HB := Aside0.mk hB
  have HX := Aside0.mk hW
  clear hr0 hB hW c1 h
  go_enter Try.func21, Try.ntmps21
  go_wp2_with fail
  rw [← HX.out]
  refine HC.out.mono ?_
  rintro e w2 ⟨rfl, hb⟩
  have HB2 := Aside0.mk (below_step HB.out hb)
  clear hb
  go_wp2
  go_ret
  exact ⟨rfl, HB2.out⟩


end Go.Proofs.Yteapeglolkfimaa.My
end
section
-- Written by a program of this session (wip/myprint.py), which drives the kit's print over hand-written fragments. Not trusted: Lean checks it.

namespace Go.Proofs.Yteapeglolkfimaa.My
open Go.Proofs.Yteapeglolkfimaa.Aid Go.Proofs.Yteapeglolkfimaa.KdX
open Go.RowKit Go.Proofs.YteapeglolkfimaaW.PrintWords Go.Proofs.YteapeglolkfimaaW.PrintLast Go.Proofs.YteapeglolkfimaaW.PrintMore
attribute [local go_sem] max2_int min2_int max_two min_two max_three min_three max_four min_four   -- for this text's walks alone
set_option linter.unusedVariables false
set_option linter.unusedSimpArgs false

/-! ### api_Span_41: function 41 (by hand) -/
def eqLb (q : S36 → S36 → Bool) : List S36 → List S36 → Bool
  | [], [] => true
  | x :: l, y :: m => q x y && eqLb q l m
  | _, _ => false
theorem eqLb_len (q : S36 → S36 → Bool) : ∀ l m, l.length ≠ m.length → eqLb q l m = false
  | [], [], h => absurd rfl h
  | [], _ :: _, _ => rfl
  | _ :: _, [], _ => rfl
  | x :: l, y :: m, h => by rw [eqLb, eqLb_len q l m (fun e => h (by simp [e])), Bool.and_false]
theorem eqLb_drop (q : S36 → S36 → Bool) {l m : List S36} {k : Nat} (h : k < l.length) (h' : k < m.length) : eqLb q (l.drop k) (m.drop k) = (q l[k] m[k] && eqLb q (l.drop (k + 1)) (m.drop (k + 1))) := by
  rw [List.drop_eq_getElem_cons h, List.drop_eq_getElem_cons h', eqLb]
set_option maxRecDepth 100000 in
set_option maxHeartbeats 1000000 in
theorem api_Span_41.calls (F : Nat) (cs : Array Value) (A0 : Option Addr) (c0 : Nat) (l0 : List S36) (A1 : Option Addr) (c1 : Nat) (l1 : List S36) (q : S36 → S36 → Bool) (w : World)
    (hF : ∀ args w1, (callFunc F args).run Try.prog w1 = .ok (.enter F args) w1)
    (hr0 : Kd.C k36 w A0 l0.length l0) (hr1 : Kd.C k36 w A1 l1.length l1)
    (hp : ∀ x y w1, Calls Try.prog F (#[.agg #[.int .i64 x.f0, .int .i64 x.f1], .agg #[.int .i64 y.f0, .int .i64 y.f1]] ++ cs) w1 fun e w2 => e = .returned (.bool (q x y)) ∧ Below w1.heap.size w1 w2) :
    Calls Try.prog 41 #[.slice A0 l0.length c0, .slice A1 l1.length c1, .func (.func F) #[] cs] w fun e w' => e = .returned (.bool (eqLb q l0 l1)) ∧ Below w.heap.size w w' := by
  have hm0 : l0.length ≤ 9223372036854775807 := hr0.2.1
  have hm1 : l1.length ≤ 9223372036854775807 := hr1.2.1
  have hu36 := Try.underlying36
  have HR0 := Aside0.mk hr0
  have HR1 := Aside0.mk hr1
  have HP := Aside0.mk hp
  clear hr0 hr1 hp
  by_cases hl : l0.length = l1.length
  · obtain ⟨r, hr⟩ : ∃ r, eqLb q l0 l1 = r := ⟨_, rfl⟩
    rw [hr]
    have HRR := Aside0.mk hr
    have HL := Aside0.mk hl
    have hb0 : ((l0.length : Int) == (l1.length : Int)) = true := by rw [hl]; simp
    have hb1 : ((l0.length : Int) != (l1.length : Int)) = false := by rw [hl]; simp
    have hb2 : (l0.length == l1.length) = true := by rw [hl]; simp
    clear hr hl
    go_enter Try.func41, Try.ntmps41
    go_wp2_with fail
    clear hb0 hb1 hb2
    go_loopw [17] (fun i wr => ∃ k : Nat, i = .int .i64 k ∧ k ≤ l0.length ∧ Aside0 (Below w.heap.size w wr) ∧ Aside0 (eqLb q (l0.drop k) (l1.drop k) = r))
      (fun i _ => l0.length - (intOf i).toNat)
    case atStart => exact ⟨0, rfl, Nat.zero_le _, ⟨Below.refl _ _⟩, ⟨by rw [List.drop_zero, List.drop_zero]; exact HRR.out⟩⟩
    case round =>
      obtain ⟨k, rfl, hk, HB, HJ⟩ := hrel
      by_cases hlt : k < l0.length
      · have hlt1 : k < l1.length := by have := HL.out; omega
        obtain ⟨ad, rfl, g0, g1⟩ := at_T36 HR0.out (k : Int) (by omega) (by omega)
        obtain ⟨ad', rfl, g0', g1'⟩ := at_T36 HR1.out (k : Int) (by omega) (by omega)
        rw [Int.toNat_natCast, show rd_T36 l0 (k : Int) = l0[k] from by simp [rd_T36, List.getD_eq_getElem?_getD, hlt]] at g0 g1
        rw [Int.toNat_natCast, show rd_T36 l1 (k : Int) = l1[k] from by simp [rd_T36, List.getD_eq_getElem?_getD, hlt1]] at g0' g1'
        have HJ2 := HJ.out
        rw [eqLb_drop q hlt hlt1] at HJ2
        obtain ⟨x, hx⟩ : ∃ x, l0[k] = x := ⟨_, rfl⟩
        obtain ⟨y, hy⟩ : ∃ y, l1[k] = y := ⟨_, rfl⟩
        rw [hx] at g0 g1 HJ2
        rw [hy] at g0' g1' HJ2
        have HJ3 := Aside0.mk HJ2
        clear hx hy HJ2
        replace g0 := (HB.out.cell (World.block_lt_of_cell? w _ g0)).trans g0
        replace g1 := (HB.out.cell (World.block_lt_of_cell? w _ g1)).trans g1
        replace g0' := (HB.out.cell (World.block_lt_of_cell? w _ g0')).trans g0'
        replace g1' := (HB.out.cell (World.block_lt_of_cell? w _ g1')).trans g1'
        have b0 := World.block_lt_of_cell? wr _ g0'
        have b1 := World.block_lt_of_cell? wr _ g1'
        go_wp2_with fail
        refine (HP.out x y _).mono ?_
        rintro e w2 ⟨rfl, hb⟩
        have HB2 := Aside0.mk (below_step (below_alloc (below_alloc HB.out _) _) hb)
        clear hb b0 b1 g0 g1 g0' g1'
        cases hq : q x y with
        | true =>
          have HJ4 : Aside0 (eqLb q (l0.drop (k + 1)) (l1.drop (k + 1)) = r) := ⟨by have := HJ3.out; rw [hq, Bool.true_and] at this; exact this⟩
          clear hq
          go_wp2
          go_roundw
          case rel => exact ⟨k + 1, by go_num, by omega, HB2, HJ4⟩
          case measure => simp [intOf]; omega
        | false =>
          have HJ4 : Aside0 (false = r) := ⟨by have := HJ3.out; rw [hq, Bool.false_and] at this; exact this⟩
          clear hq
          go_wp2
          go_ret
          exact ⟨by rw [← HJ4.out]; rfl, HB2.out⟩
      · have HJ4 : Aside0 (true = r) := ⟨by have := HJ.out; rw [List.drop_of_length_le (by omega), List.drop_of_length_le (by have := HL.out; omega)] at this; exact this⟩
        go_wp2
        go_ret
        exact ⟨by rw [← HJ4.out]; rfl, HB.out⟩
  · rw [eqLb_len q l0 l1 hl]
    have hb0 : ((l0.length : Int) == (l1.length : Int)) = false := by simp; omega
    have hb1 : ((l0.length : Int) != (l1.length : Int)) = true := by simp; omega
    have hb2 : (l0.length == l1.length) = false := by simp; omega
    clear hl
    go_enter Try.func41, Try.ntmps41
    go_wp2
    go_ret
    exact ⟨rfl, Below.refl _ _⟩


end Go.Proofs.Yteapeglolkfimaa.My
end
section
-- Written by a program of this session (wip/myprint.py), which drives the kit's print over hand-written fragments. Not trusted: Lean checks it.



namespace Go.Proofs.Yteapeglolkfimaa.My
open Go.Proofs.Yteapeglolkfimaa.Aid Go.Proofs.Yteapeglolkfimaa.KdX
open Go.RowKit Go.Proofs.YteapeglolkfimaaW.PrintWords Go.Proofs.YteapeglolkfimaaW.PrintLast Go.Proofs.YteapeglolkfimaaW.PrintMore
attribute [local go_sem] max2_int min2_int max_two min_two max_three min_three max_four min_four   -- for this text's walks alone
set_option linter.unusedVariables false
set_option linter.unusedSimpArgs false

/-! ### span_Valid: function 22 (by hand) -/
-- (calls api_Span_41)
def eqS (a b : S36) : Bool := decide (a.f0 = b.f0 ∧ a.f1 = b.f1)
def span_Valid.f (l0 : List S36) : Option Bool := (span_Normal.f l0).bind fun n => some (eqLb eqS n l0)
theorem vld1_enter : ∀ args w1, (callFunc 42 args).run Try.prog w1 = .ok (.enter 42 args) w1 := by
  intro args w1
  go_simp
set_option maxRecDepth 100000 in
set_option maxHeartbeats 800000 in
theorem vld1_calls (x y : S36) (w : World) : Calls Try.prog 42 #[.agg #[.int .i64 x.f0, .int .i64 x.f1], .agg #[.int .i64 y.f0, .int .i64 y.f1]] w fun e w2 => e = .returned (.bool (eqS x y)) ∧ Below w.heap.size w w2 := by
  have hu36 := Try.underlying36
  have hb : Below w.heap.size w ((w.alloc (.cells #[.int .i64 x.f0, .int .i64 x.f1] 36)).alloc (.cells #[.int .i64 y.f0, .int .i64 y.f1] 36)) := below_alloc (below_alloc (Below.refl _ _) _) _
  have HB := Aside0.mk hb
  clear hb
  by_cases h0 : x.f0 = y.f0
  · by_cases h1 : x.f1 = y.f1
    · have hq : eqS x y = true := decide_eq_true ⟨h0, h1⟩
      rw [hq]
      rw [← h0, ← h1] at HB ⊢
      clear hq h0 h1
      go_enter Try.func42, Try.ntmps42
      go_wp2
      repeat (go_quiet (fail); try go_wp2)
      go_ret
      exact ⟨rfl, by repeat (first | exact HB.out | apply pw_below_drewN | apply below_drew1)⟩
    · have hq : eqS x y = false := decide_eq_false (fun h => h1 h.2)
      rw [hq]
      rw [← h0] at HB ⊢
      have b1 : (x.f1 == y.f1) = false := by simpa using h1
      clear hq h0
      go_enter Try.func42, Try.ntmps42
      go_wp2
      repeat (go_quiet (fail); try go_wp2)
      go_ret
      exact ⟨rfl, by repeat (first | exact HB.out | apply pw_below_drewN | apply below_drew1)⟩
  · have hq : eqS x y = false := decide_eq_false (fun h => h0 h.1)
    rw [hq]
    have b0 : (x.f0 == y.f0) = false := by simpa using h0
    clear hq
    go_enter Try.func42, Try.ntmps42
    go_wp2
    repeat (go_quiet (fail); try go_wp2)
    go_ret
    exact ⟨rfl, by repeat (first | exact HB.out | apply pw_below_drewN | apply below_drew1)⟩
set_option maxHeartbeats 800000 in
theorem span_Valid.calls (A0 : Option Addr) (c0 : Nat) (l0 : List S36) (r : Bool) (w : World) (hr0 : Kd.C k36 w A0 l0.length l0) (hc0 : l0.length ≤ c0) (h : span_Valid.f l0 = some r) :
    Calls Try.prog 22 #[.slice A0 l0.length c0] w fun e w' => e = .returned (.bool r) ∧ Below w.heap.size w w' := by
  obtain ⟨n, hn, h⟩ := Option.bind_eq_some_iff.1 h
  have hE0 := Option.some.inj h
  have HN := Aside0.mk (span_Normal.calls A0 c0 l0 n w hr0 hc0 hn)
  have HR := Aside0.mk hr0
  have HE0 := Aside0.mk hE0
  clear h hn hr0 hE0
  go_enter Try.func22, Try.ntmps22
  go_wp2_with fail
  refine HN.out.mono ?_
  rintro e w2 ⟨v, rfl, hR, hb⟩
  obtain ⟨A2, c2, rfl, hcap, hC⟩ := Kd.R_reads hR
  have HE := Aside0.mk (api_Span_41.calls 42 #[] A2 c2 n A0 c0 l0 eqS w2 vld1_enter hC (Kd.C_below HR.out hb) (fun x y w1 => vld1_calls x y w1))
  have HB := Aside0.mk hb
  clear hR hC hb HN HR
  rw [HE0.out] at HE
  go_wp2_with fail
  refine HE.out.mono ?_
  rintro e w3 ⟨rfl, hb3⟩
  have HB3 := Aside0.mk (HB.out.trans (hb3.mono HB.out.size))
  clear hb3
  go_wp2
  go_ret
  exact ⟨rfl, HB3.out⟩


end Go.Proofs.Yteapeglolkfimaa.My
end
section
-- Written by a program of this session (wip/myprint.py), which drives the kit's print over hand-written fragments. Not trusted: Lean checks it.

namespace Go.Proofs.Yteapeglolkfimaa.My
open Go.Proofs.Yteapeglolkfimaa.Aid Go.Proofs.Yteapeglolkfimaa.KdX
open Go.RowKit Go.Proofs.YteapeglolkfimaaW.PrintWords Go.Proofs.YteapeglolkfimaaW.PrintLast Go.Proofs.YteapeglolkfimaaW.PrintMore
attribute [local go_sem] max2_int min2_int max_two min_two max_three min_three max_four min_four   -- for this text's walks alone
set_option linter.unusedVariables false
set_option linter.unusedSimpArgs false

/-! ### wageofficelaw30_few: function 11 -/
def wageofficelaw30_few.f (a0_0 : Int) (l0_1 : List (S39)) : Option (Bool) := some (decide ((l0_1.length : Int) ≤ 70))
set_option maxHeartbeats 8000000 in
set_option maxRecDepth 100000 in
theorem wageofficelaw30_few.calls (a0_0 : Int) (A0_1 : Option Addr) (c0_1 : Nat) (l0_1 : List (S39)) (r : Bool) (w : World) (hr0_1 : Kd.C k39 w A0_1 l0_1.length l0_1) (hc0_1 : l0_1.length ≤ c0_1) (h : wageofficelaw30_few.f a0_0 l0_1 = some r) :
    Calls Try.prog 11 #[.agg #[.int .i64 a0_0, .slice A0_1 l0_1.length c0_1]] w fun e w' => e = .returned (.bool r) ∧ Below w.heap.size w w' := by
  have hu24 := Try.underlying24
  have HR0_1 := Aside0.mk hr0_1
  have HC0_1 := Aside0.mk hc0_1
  clear hr0_1 hc0_1
  have HB := Aside0.mk (Below.refl w.heap.size w)
  have H : (some (decide ((l0_1.length : Int) ≤ 70))) = some r := h
  clear h
  obtain rfl := Option.some.inj H
  go_enter Try.func11, Try.ntmps11
  go_wp2_with (first | ((with_reducible refine gate_dst (N := 1) rfl ?_); refine box_event ?hg (N := 1) ?hd (cs := #[.int .i64 a0_0, .slice A0_1 l0_1.length c0_1]) (t := 24) ?hr ?_; (case hd => rfl); (case hg => rfl); (case hr => first | (go_simp; done) | (go_simp; rfl)); intro gb183 hg w2 hbox hb; have n0_ := Aside0.mk (below_step (by repeat (first | (with_reducible first | exact HB.out | apply below_alloc | apply pw_below_drewN | apply below_drew1) | exact HB.out)) hb); have n1_ := Aside0.mk (hbox); have n2_ := Aside0.mk ((by rw [hg]; exact (below_size (by repeat (first | (with_reducible first | exact HB.out | apply below_alloc | apply pw_below_drewN | apply below_drew1) | exact HB.out))) : w.heap.size ≤ gb183)); have n3_ := Aside0.mk ((by rw [hg]; exact (below_size (by repeat (first | (with_reducible first | exact HB.out | apply below_alloc | apply pw_below_drewN | apply below_drew1) | exact HB.out))) : w.heap.size ≤ gb183)); clear HB; have HB := n0_; have BK183 := n1_; have GW183 := n2_; have GE183 := n3_; clear n0_ n1_ n2_ n3_; clear hb hbox hg; have hcz3_0 : w2.cell? ⟨gb183, 0, none⟩ = some (.int .i64 a0_0) := (blk_cell BK183.out 0).trans rfl; have hcz3_1 : w2.cell? ⟨gb183, 1, none⟩ = some (.slice A0_1 l0_1.length c0_1) := (blk_cell BK183.out 1).trans rfl; have hfz3_0 := blk_frozen BK183.out 0; have hfz3_1 := blk_frozen BK183.out 1))
  go_ret
  exact ⟨by first | rfl | (simp [errW_none, errW_some] <;> rfl) | (simp [*, errW_none, errW_some] <;> rfl), by repeat (first | (with_reducible first | exact HB.out | apply below_alloc | apply pw_below_drewN | apply below_drew1 | refine below_set ?_ GE183.out) | exact HB.out)⟩

end Go.Proofs.Yteapeglolkfimaa.My
end
section
-- Written by a program of this session (wip/myprint.py), which drives the kit's print over hand-written fragments. Not trusted: Lean checks it.







namespace Go.Proofs.Yteapeglolkfimaa.My
open Go.Proofs.Yteapeglolkfimaa.Aid Go.Proofs.Yteapeglolkfimaa.KdX
open Go.RowKit Go.Proofs.YteapeglolkfimaaW.PrintWords Go.Proofs.YteapeglolkfimaaW.PrintLast Go.Proofs.YteapeglolkfimaaW.PrintMore
attribute [local go_sem] max2_int min2_int max_two min_two max_three min_three max_four min_four   -- for this text's walks alone
set_option linter.unusedVariables false
set_option linter.unusedSimpArgs false

/-! ### wageofficelaw30_GrossupSolutions: function 9 -/
def wageofficelaw30_GrossupSolutions.f (k : Nat) (a0_0 : Int) (l0_1 : List (S39)) (a1 : Int) (a2 : Int) : Option (Bool) := (wageofficelaw30_head.f k).bind fun t377 => ((wageofficelaw30_few.f a0_0 l0_1).bind fun t378 => (if t378 = true then ((grossup_Solve.f k a0_0 l0_1 a1).bind fun bt379 => (if bt379.2 = 0 then ((grossup_Net.f k a0_0 l0_1 a2).bind fun bt383 => (if t377 = true then ((span_Valid.f bt379.1).bind fun t385 => (if t385 = true then (if (bt379.1.length : Int) ≤ (l0_1.length : Int) then ((span_Has.f bt379.1 a2).bind fun t386 => (if bt383.2 = 0 then (some (t386 == (bt383.1 == a1))) else (some (t386 == false)))) else (some false)) else (some false))) else (some false))) else (if t377 = true then (some ((bt379.1.length : Int) == 0)) else (some false)))) else (some t377)))
theorem wageofficelaw30_GrossupSolutions.mono : ∀ a0 a1 a2 a3 k, LeO (wageofficelaw30_GrossupSolutions.f k a0 a1 a2 a3) (wageofficelaw30_GrossupSolutions.f (k + 1) a0 a1 a2 a3) := by
  intro a0 a1 a2 a3 k
  unfold wageofficelaw30_GrossupSolutions.f
  repeat' first
      | (with_reducible exact grossup_Net.mono _ _ _ _)
      | (with_reducible exact grossup_Solve.mono _ _ _ _)
      | (with_reducible exact wageofficelaw30_head.mono _)
      | (with_reducible exact LeO.refl _)
      | (with_reducible exact LeO.none _)
      | (with_reducible refine LeO.ite ?_ ?_)
      | (with_reducible refine LeO.bind ?_ (fun _ => ?_))
      | exact grossup_Net.mono _ _ _ _
      | exact grossup_Solve.mono _ _ _ _
      | exact wageofficelaw30_head.mono _
      | exact LeO.none _
      | refine LeO.ite ?_ ?_
      | refine LeO.bind ?_ (fun _ => ?_)
set_option maxHeartbeats 8000000 in
set_option maxRecDepth 100000 in
theorem wageofficelaw30_GrossupSolutions.calls (k : Nat) (a0_0 : Int) (A0_1 : Option Addr) (c0_1 : Nat) (l0_1 : List (S39)) (a1 : Int) (a2 : Int) (r : Bool) (w : World) (hr0_1 : Kd.C k39 w A0_1 l0_1.length l0_1) (hc0_1 : l0_1.length ≤ c0_1) (h : wageofficelaw30_GrossupSolutions.f k a0_0 l0_1 a1 a2 = some r) :
    Calls Try.prog 9 #[.agg #[.int .i64 a0_0, .slice A0_1 l0_1.length c0_1], .int .i64 a1, .int .i64 a2] w fun e w' => e = .returned (.bool r) ∧ Below w.heap.size w w' := by
  have hu24 := Try.underlying24
  have HR0_1 := Aside0.mk hr0_1
  have HC0_1 := Aside0.mk hc0_1
  clear hr0_1 hc0_1
  have HB := Aside0.mk (Below.refl w.heap.size w)
  have H : ((wageofficelaw30_head.f k).bind fun t377 => ((wageofficelaw30_few.f a0_0 l0_1).bind fun t378 => (if t378 = true then ((grossup_Solve.f k a0_0 l0_1 a1).bind fun bt379 => (if bt379.2 = 0 then ((grossup_Net.f k a0_0 l0_1 a2).bind fun bt383 => (if t377 = true then ((span_Valid.f bt379.1).bind fun t385 => (if t385 = true then (if (bt379.1.length : Int) ≤ (l0_1.length : Int) then ((span_Has.f bt379.1 a2).bind fun t386 => (if bt383.2 = 0 then (some (t386 == (bt383.1 == a1))) else (some (t386 == false)))) else (some false)) else (some false))) else (some false))) else (if t377 = true then (some ((bt379.1.length : Int) == 0)) else (some false)))) else (some t377)))) = some r := h
  clear h
  replace H := Option.bind_eq_some_iff.mp H
  obtain ⟨t377, A40, H⟩ := H
  replace H : ((wageofficelaw30_few.f a0_0 l0_1).bind fun t378 => (if t378 = true then ((grossup_Solve.f k a0_0 l0_1 a1).bind fun bt379 => (if bt379.2 = 0 then ((grossup_Net.f k a0_0 l0_1 a2).bind fun bt383 => (if t377 = true then ((span_Valid.f bt379.1).bind fun t385 => (if t385 = true then (if (bt379.1.length : Int) ≤ (l0_1.length : Int) then ((span_Has.f bt379.1 a2).bind fun t386 => (if bt383.2 = 0 then (some (t386 == (bt383.1 == a1))) else (some (t386 == false)))) else (some false)) else (some false))) else (some false))) else (if t377 = true then (some ((bt379.1.length : Int) == 0)) else (some false)))) else (some t377))) = some r := H
  have A4 := Aside0.mk A40
  clear A40
  replace H := Option.bind_eq_some_iff.mp H
  obtain ⟨t378, A50, H⟩ := H
  replace H : (if t378 = true then ((grossup_Solve.f k a0_0 l0_1 a1).bind fun bt379 => (if bt379.2 = 0 then ((grossup_Net.f k a0_0 l0_1 a2).bind fun bt383 => (if t377 = true then ((span_Valid.f bt379.1).bind fun t385 => (if t385 = true then (if (bt379.1.length : Int) ≤ (l0_1.length : Int) then ((span_Has.f bt379.1 a2).bind fun t386 => (if bt383.2 = 0 then (some (t386 == (bt383.1 == a1))) else (some (t386 == false)))) else (some false)) else (some false))) else (some false))) else (if t377 = true then (some ((bt379.1.length : Int) == 0)) else (some false)))) else (some t377)) = some r := H
  have A5 := Aside0.mk A50
  clear A50
  by_cases c6 : t378 = true
  · subst c6
    have H1 : ((grossup_Solve.f k a0_0 l0_1 a1).bind fun bt379 => (if bt379.2 = 0 then ((grossup_Net.f k a0_0 l0_1 a2).bind fun bt383 => (if t377 = true then ((span_Valid.f bt379.1).bind fun t385 => (if t385 = true then (if (bt379.1.length : Int) ≤ (l0_1.length : Int) then ((span_Has.f bt379.1 a2).bind fun t386 => (if bt383.2 = 0 then (some (t386 == (bt383.1 == a1))) else (some (t386 == false)))) else (some false)) else (some false))) else (some false))) else (if t377 = true then (some ((bt379.1.length : Int) == 0)) else (some false)))) = some r := by rw [if_pos rfl] at H; exact H
    clear H
    have H := H1
    clear H1
    replace H := Option.bind_eq_some_iff.mp H
    obtain ⟨⟨t379, t382⟩, A70, H⟩ := H
    replace H : (if t382 = 0 then ((grossup_Net.f k a0_0 l0_1 a2).bind fun bt383 => (if t377 = true then ((span_Valid.f t379).bind fun t385 => (if t385 = true then (if (t379.length : Int) ≤ (l0_1.length : Int) then ((span_Has.f t379 a2).bind fun t386 => (if bt383.2 = 0 then (some (t386 == (bt383.1 == a1))) else (some (t386 == false)))) else (some false)) else (some false))) else (some false))) else (if t377 = true then (some ((t379.length : Int) == 0)) else (some false))) = some r := H
    have A7 := Aside0.mk A70
    clear A70
    by_cases c8 : t382 = 0
    · rw [if_pos c8] at H
      have c8b0 : (t382 == 0) = true := beq_iff_eq.mpr c8
      have c8b1 : (t382 != 0) = false := bne_eq_false_iff_eq.mpr c8
      clear c8
      replace H := Option.bind_eq_some_iff.mp H
      obtain ⟨⟨t383, t384⟩, A90, H⟩ := H
      replace H : (if t377 = true then ((span_Valid.f t379).bind fun t385 => (if t385 = true then (if (t379.length : Int) ≤ (l0_1.length : Int) then ((span_Has.f t379 a2).bind fun t386 => (if t384 = 0 then (some (t386 == (t383 == a1))) else (some (t386 == false)))) else (some false)) else (some false))) else (some false)) = some r := H
      have A9 := Aside0.mk A90
      clear A90
      by_cases c10 : t377 = true
      · subst c10
        have H1 : ((span_Valid.f t379).bind fun t385 => (if t385 = true then (if (t379.length : Int) ≤ (l0_1.length : Int) then ((span_Has.f t379 a2).bind fun t386 => (if t384 = 0 then (some (t386 == (t383 == a1))) else (some (t386 == false)))) else (some false)) else (some false))) = some r := by rw [if_pos rfl] at H; exact H
        clear H
        have H := H1
        clear H1
        replace H := Option.bind_eq_some_iff.mp H
        obtain ⟨t385, A110, H⟩ := H
        replace H : (if t385 = true then (if (t379.length : Int) ≤ (l0_1.length : Int) then ((span_Has.f t379 a2).bind fun t386 => (if t384 = 0 then (some (t386 == (t383 == a1))) else (some (t386 == false)))) else (some false)) else (some false)) = some r := H
        have A11 := Aside0.mk A110
        clear A110
        by_cases c12 : t385 = true
        · subst c12
          have H1 : (if (t379.length : Int) ≤ (l0_1.length : Int) then ((span_Has.f t379 a2).bind fun t386 => (if t384 = 0 then (some (t386 == (t383 == a1))) else (some (t386 == false)))) else (some false)) = some r := by rw [if_pos rfl] at H; exact H
          clear H
          have H := H1
          clear H1
          by_cases c13 : (t379.length : Int) ≤ (l0_1.length : Int)
          · rw [if_pos c13] at H
            have c13b0 : decide ((t379.length : Int) ≤ (l0_1.length : Int)) = true := decide_eq_true c13
            have c13b1 : decide (t379.length ≤ l0_1.length) = true := decide_eq_true (Int.ofNat_le.mp c13)
            clear c13
            replace H := Option.bind_eq_some_iff.mp H
            obtain ⟨t386, A140, H⟩ := H
            replace H : (if t384 = 0 then (some (t386 == (t383 == a1))) else (some (t386 == false))) = some r := H
            have A14 := Aside0.mk A140
            clear A140
            by_cases c15 : t384 = 0
            · rw [if_pos c15] at H
              have c15b0 : (t384 == 0) = true := beq_iff_eq.mpr c15
              have c15b1 : (t384 != 0) = false := bne_eq_false_iff_eq.mpr c15
              clear c15
              obtain rfl := Option.some.inj H
              go_enter Try.func9, Try.ntmps9
              go_wp2_with (first | ((with_reducible refine gate_dst (N := 3) rfl ?_); (try (refine gate_guard (by rfl) ?_; dsimp only)); refine box_event ?hg (N := 3) ?hd (cs := #[.int .i64 a0_0, .slice A0_1 l0_1.length c0_1]) (t := 24) ?hr ?_; (case hd => rfl); (case hg => rfl); (case hr => first | (go_simp; done) | (go_simp; rfl)); intro gb376 hg w16 hbox hb; have n0_ := Aside0.mk (below_step (by repeat (first | (with_reducible first | exact HB.out | apply below_alloc | apply pw_below_drewN | apply below_drew1) | exact HB.out)) hb); have n1_ := Aside0.mk (hbox); have n2_ := Aside0.mk ((by rw [hg]; exact (below_size (by repeat (first | (with_reducible first | exact HB.out | apply below_alloc | apply pw_below_drewN | apply below_drew1) | exact HB.out))) : w.heap.size ≤ gb376)); have n3_ := Aside0.mk ((by rw [hg]; exact (below_size (by repeat (first | (with_reducible first | exact HB.out | apply below_alloc | apply pw_below_drewN | apply below_drew1) | exact HB.out))) : w.heap.size ≤ gb376)); clear HB; have HB := n0_; have BK376 := n1_; have GW376 := n2_; have GE376 := n3_; clear n0_ n1_ n2_ n3_; clear hb hbox hg) | ((with_reducible refine gate_callee (f := 10) rfl ?_); refine goesL_ (some 12) rfl rfl Try.func10 (by kernel_rfl) rfl #[] rfl (by (try simp only [List.map_toArray, List.map_cons, List.map_nil]); first | done | rfl | (simp only [List.length_drop, List.length_take]; rfl)) ?_; (with_reducible refine (wageofficelaw30_head.calls k  true _ A4.out).mono ?_); rintro e w17 ⟨rfl, hb⟩; refine ⟨_, rfl, ?_⟩; have n0_ := Aside0.mk (blk_below (g := gb376) (o := .cells #[.int .i64 a0_0, .slice A0_1 l0_1.length c0_1] 24 (0, 0)) (by (with_reducible repeat (first | refine blk_drewN ?_ _ | refine blk_drew ?_ | refine blk_alloc ?_ _)); exact BK376.out) hb); have n1_ := Aside0.mk (below_step (by repeat (first | (with_reducible first | exact HB.out | apply below_alloc | apply pw_below_drewN | apply below_drew1 | refine below_set ?_ GE376.out) | exact HB.out)) hb); clear BK376; clear HB; have BK376 := n0_; have HB := n1_; clear n0_ n1_; (try clear hb); (try clear hb2); (try clear hk); (try clear hi); have hcz18_0 : w17.cell? ⟨gb376, 0, none⟩ = some (.int .i64 a0_0) := (blk_cell BK376.out 0).trans rfl; have hcz18_1 : w17.cell? ⟨gb376, 1, none⟩ = some (.slice A0_1 l0_1.length c0_1) := (blk_cell BK376.out 1).trans rfl; have hfz18_0 := blk_frozen BK376.out 0; have hfz18_1 := blk_frozen BK376.out 1) | ((with_reducible refine gate_callee (f := 11) rfl ?_); refine goesL_ (some 14) rfl rfl Try.func11 (by kernel_rfl) rfl #[.agg #[.int .i64 a0_0, .slice A0_1 l0_1.length c0_1]] rfl (by (try simp only [List.map_toArray, List.map_cons, List.map_nil]); first | done | rfl | (simp only [List.length_drop, List.length_take]; rfl)) ?_; (with_reducible refine (wageofficelaw30_few.calls a0_0 _ _ l0_1 true _ ?side1 ?side2 A5.out).mono ?_); (case side1 => repeat (first | exact (Kd.C_below HR0_1.out HB.out) | (with_reducible refine Kd.C_alloc ?_ _) | (with_reducible refine Kd.C_drewN ?_ _) | (with_reducible refine Kd.C_drew ?_))); (case side2 => exact HC0_1.out); rintro e w19 ⟨rfl, hb⟩; refine ⟨_, rfl, ?_⟩; have n0_ := Aside0.mk (blk_below (g := gb376) (o := .cells #[.int .i64 a0_0, .slice A0_1 l0_1.length c0_1] 24 (0, 0)) (by (with_reducible repeat (first | refine blk_drewN ?_ _ | refine blk_drew ?_ | refine blk_alloc ?_ _)); exact BK376.out) hb); have n1_ := Aside0.mk (below_step (by repeat (first | (with_reducible first | exact HB.out | apply below_alloc | apply pw_below_drewN | apply below_drew1 | refine below_set ?_ GE376.out) | exact HB.out)) hb); clear BK376; clear HB; have BK376 := n0_; have HB := n1_; clear n0_ n1_; (try clear hb); (try clear hb2); (try clear hk); (try clear hi); have hcz20_0 : w19.cell? ⟨gb376, 0, none⟩ = some (.int .i64 a0_0) := (blk_cell BK376.out 0).trans rfl; have hcz20_1 : w19.cell? ⟨gb376, 1, none⟩ = some (.slice A0_1 l0_1.length c0_1) := (blk_cell BK376.out 1).trans rfl; have hfz20_0 := blk_frozen BK376.out 0; have hfz20_1 := blk_frozen BK376.out 1) | ((with_reducible refine gate_callee (f := 14) rfl ?_); refine goesL_ (some 20) rfl rfl Try.func14 (by kernel_rfl) rfl #[.agg #[.int .i64 a0_0, .slice A0_1 l0_1.length c0_1], .int .i64 a1] rfl (by (try simp only [List.map_toArray, List.map_cons, List.map_nil]); first | done | rfl | (simp only [List.length_drop, List.length_take]; rfl)) ?_; (with_reducible refine (grossup_Solve.calls k a0_0 _ _ l0_1 a1 t379 t382 _ ?side1 ?side2 A7.out).mono ?_); (case side1 => repeat (first | exact (Kd.C_below HR0_1.out HB.out) | (with_reducible refine Kd.C_alloc ?_ _) | (with_reducible refine Kd.C_drewN ?_ _) | (with_reducible refine Kd.C_drew ?_))); (case side2 => exact HC0_1.out); rintro e w21 ⟨v380, rfl, ho0, hb⟩; refine ⟨_, rfl, ?_⟩; have n0_ := Aside0.mk (Kd.R_lower ho0 (below_size (by repeat (first | (with_reducible first | exact HB.out | apply below_alloc | apply pw_below_drewN | apply below_drew1 | refine below_set ?_ GE376.out) | exact HB.out)))); have n1_ := Aside0.mk (blk_below (g := gb376) (o := .cells #[.int .i64 a0_0, .slice A0_1 l0_1.length c0_1] 24 (0, 0)) (by (with_reducible repeat (first | refine blk_drewN ?_ _ | refine blk_drew ?_ | refine blk_alloc ?_ _)); exact BK376.out) hb); have n2_ := Aside0.mk (below_step (by repeat (first | (with_reducible first | exact HB.out | apply below_alloc | apply pw_below_drewN | apply below_drew1 | refine below_set ?_ GE376.out) | exact HB.out)) hb); clear BK376; clear HB; have HO381 := n0_; have BK376 := n1_; have HB := n2_; clear n0_ n1_ n2_; (try clear hb); (try clear hb2); (try clear hk); (try clear hi); (try clear ho0); have hcz22_0 : w21.cell? ⟨gb376, 0, none⟩ = some (.int .i64 a0_0) := (blk_cell BK376.out 0).trans rfl; have hcz22_1 : w21.cell? ⟨gb376, 1, none⟩ = some (.slice A0_1 l0_1.length c0_1) := (blk_cell BK376.out 1).trans rfl; have hfz22_0 := blk_frozen BK376.out 0; have hfz22_1 := blk_frozen BK376.out 1) | ((with_reducible refine gate_callee (f := 12) rfl ?_); refine goesL_ (some 34) rfl rfl Try.func12 (by kernel_rfl) rfl #[.agg #[.int .i64 a0_0, .slice A0_1 l0_1.length c0_1], .int .i64 a2] rfl (by (try simp only [List.map_toArray, List.map_cons, List.map_nil]); first | done | rfl | (simp only [List.length_drop, List.length_take]; rfl)) ?_; (with_reducible refine (grossup_Net.calls k a0_0 _ _ l0_1 a2 t383 t384 _ ?side1 ?side2 A9.out).mono ?_); (case side1 => repeat (first | exact (Kd.C_below HR0_1.out HB.out) | (with_reducible refine Kd.C_alloc ?_ _) | (with_reducible refine Kd.C_drewN ?_ _) | (with_reducible refine Kd.C_drew ?_))); (case side2 => exact HC0_1.out); rintro e w23 ⟨rfl, hb⟩; refine ⟨_, rfl, ?_⟩; have n0_ := Aside0.mk (Kd.R_below (by (with_reducible repeat (first | apply Kd.R_alloc | apply Kd.R_drewN | apply Kd.R_drew)); exact HO381.out) hb); have n1_ := Aside0.mk (blk_below (g := gb376) (o := .cells #[.int .i64 a0_0, .slice A0_1 l0_1.length c0_1] 24 (0, 0)) (by (with_reducible repeat (first | refine blk_drewN ?_ _ | refine blk_drew ?_ | refine blk_alloc ?_ _)); exact BK376.out) hb); have n2_ := Aside0.mk (below_step (by repeat (first | (with_reducible first | exact HB.out | apply below_alloc | apply pw_below_drewN | apply below_drew1 | refine below_set ?_ GE376.out) | exact HB.out)) hb); clear HO381; clear BK376; clear HB; have HO381 := n0_; have BK376 := n1_; have HB := n2_; clear n0_ n1_ n2_; (try clear hb); (try clear hb2); (try clear hk); (try clear hi); obtain ⟨Ao24, co24, eo24⟩ := Kd.R_slice HO381.out; subst eo24) | (go_at_call 22; (with_reducible refine (span_Valid.calls _ _ t379 true _ ?side1 ?side2 A11.out).mono ?_); (case side1 => repeat (first | exact (Kd.R_reads' HO381.out).2.2 | (with_reducible refine Kd.C_alloc ?_ _) | (with_reducible refine Kd.C_drewN ?_ _) | (with_reducible refine Kd.C_drew ?_))); (case side2 => exact (Kd.R_reads' HO381.out).2.1); rintro e w25 ⟨rfl, hb⟩; have n0_ := Aside0.mk (Kd.R_below (by (with_reducible repeat (first | apply Kd.R_alloc | apply Kd.R_drewN | apply Kd.R_drew)); exact HO381.out) hb); have n1_ := Aside0.mk (blk_below (g := gb376) (o := .cells #[.int .i64 a0_0, .slice A0_1 l0_1.length c0_1] 24 (0, 0)) (by (with_reducible repeat (first | refine blk_drewN ?_ _ | refine blk_drew ?_ | refine blk_alloc ?_ _)); exact BK376.out) hb); have n2_ := Aside0.mk (below_step (by repeat (first | (with_reducible first | exact HB.out | apply below_alloc | apply pw_below_drewN | apply below_drew1 | refine below_set ?_ GE376.out) | exact HB.out)) hb); clear HO381; clear BK376; clear HB; have HO381 := n0_; have BK376 := n1_; have HB := n2_; clear n0_ n1_ n2_; (try clear hb); (try clear hb2); (try clear hk); (try clear hi); have hcz26_0 : w25.cell? ⟨gb376, 0, none⟩ = some (.int .i64 a0_0) := (blk_cell BK376.out 0).trans rfl; have hcz26_1 : w25.cell? ⟨gb376, 1, none⟩ = some (.slice A0_1 l0_1.length c0_1) := (blk_cell BK376.out 1).trans rfl; have hfz26_0 := blk_frozen BK376.out 0; have hfz26_1 := blk_frozen BK376.out 1) | (go_at_call 21; (with_reducible refine (span_Has.calls _ _ t379 a2 t386 _ ?side1 ?side2 A14.out).mono ?_); (case side1 => repeat (first | exact (Kd.R_reads' HO381.out).2.2 | (with_reducible refine Kd.C_alloc ?_ _) | (with_reducible refine Kd.C_drewN ?_ _) | (with_reducible refine Kd.C_drew ?_))); (case side2 => exact (Kd.R_reads' HO381.out).2.1); rintro e w27 ⟨rfl, hb⟩; have n0_ := Aside0.mk (Kd.R_below (by (with_reducible repeat (first | apply Kd.R_alloc | apply Kd.R_drewN | apply Kd.R_drew)); exact HO381.out) hb); have n1_ := Aside0.mk (blk_below (g := gb376) (o := .cells #[.int .i64 a0_0, .slice A0_1 l0_1.length c0_1] 24 (0, 0)) (by (with_reducible repeat (first | refine blk_drewN ?_ _ | refine blk_drew ?_ | refine blk_alloc ?_ _)); exact BK376.out) hb); have n2_ := Aside0.mk (below_step (by repeat (first | (with_reducible first | exact HB.out | apply below_alloc | apply pw_below_drewN | apply below_drew1 | refine below_set ?_ GE376.out) | exact HB.out)) hb); clear HO381; clear BK376; clear HB; have HO381 := n0_; have BK376 := n1_; have HB := n2_; clear n0_ n1_ n2_; (try clear hb); (try clear hb2); (try clear hk); (try clear hi)))
              go_ret
              exact ⟨by first | rfl | (simp [errW_none, errW_some] <;> rfl) | (simp [*, errW_none, errW_some] <;> rfl), by repeat (first | (with_reducible first | exact HB.out | apply below_alloc | apply pw_below_drewN | apply below_drew1 | refine below_set ?_ GE376.out) | exact HB.out)⟩
            · rw [if_neg c15] at H
              have c15b0 : (t384 == 0) = false := beq_eq_false_iff_ne.mpr c15
              have c15b1 : (t384 != 0) = true := bne_iff_ne.mpr c15
              obtain rfl := Option.some.inj H
              go_enter Try.func9, Try.ntmps9
              go_wp2_with (first | ((with_reducible refine gate_dst (N := 3) rfl ?_); (try (refine gate_guard (by rfl) ?_; dsimp only)); refine box_event ?hg (N := 3) ?hd (cs := #[.int .i64 a0_0, .slice A0_1 l0_1.length c0_1]) (t := 24) ?hr ?_; (case hd => rfl); (case hg => rfl); (case hr => first | (go_simp; done) | (go_simp; rfl)); intro gb376 hg w28 hbox hb; have n0_ := Aside0.mk (below_step (by repeat (first | (with_reducible first | exact HB.out | apply below_alloc | apply pw_below_drewN | apply below_drew1) | exact HB.out)) hb); have n1_ := Aside0.mk (hbox); have n2_ := Aside0.mk ((by rw [hg]; exact (below_size (by repeat (first | (with_reducible first | exact HB.out | apply below_alloc | apply pw_below_drewN | apply below_drew1) | exact HB.out))) : w.heap.size ≤ gb376)); have n3_ := Aside0.mk ((by rw [hg]; exact (below_size (by repeat (first | (with_reducible first | exact HB.out | apply below_alloc | apply pw_below_drewN | apply below_drew1) | exact HB.out))) : w.heap.size ≤ gb376)); clear HB; have HB := n0_; have BK376 := n1_; have GW376 := n2_; have GE376 := n3_; clear n0_ n1_ n2_ n3_; clear hb hbox hg) | ((with_reducible refine gate_callee (f := 10) rfl ?_); refine goesL_ (some 12) rfl rfl Try.func10 (by kernel_rfl) rfl #[] rfl (by (try simp only [List.map_toArray, List.map_cons, List.map_nil]); first | done | rfl | (simp only [List.length_drop, List.length_take]; rfl)) ?_; (with_reducible refine (wageofficelaw30_head.calls k  true _ A4.out).mono ?_); rintro e w29 ⟨rfl, hb⟩; refine ⟨_, rfl, ?_⟩; have n0_ := Aside0.mk (blk_below (g := gb376) (o := .cells #[.int .i64 a0_0, .slice A0_1 l0_1.length c0_1] 24 (0, 0)) (by (with_reducible repeat (first | refine blk_drewN ?_ _ | refine blk_drew ?_ | refine blk_alloc ?_ _)); exact BK376.out) hb); have n1_ := Aside0.mk (below_step (by repeat (first | (with_reducible first | exact HB.out | apply below_alloc | apply pw_below_drewN | apply below_drew1 | refine below_set ?_ GE376.out) | exact HB.out)) hb); clear BK376; clear HB; have BK376 := n0_; have HB := n1_; clear n0_ n1_; (try clear hb); (try clear hb2); (try clear hk); (try clear hi); have hcz30_0 : w29.cell? ⟨gb376, 0, none⟩ = some (.int .i64 a0_0) := (blk_cell BK376.out 0).trans rfl; have hcz30_1 : w29.cell? ⟨gb376, 1, none⟩ = some (.slice A0_1 l0_1.length c0_1) := (blk_cell BK376.out 1).trans rfl; have hfz30_0 := blk_frozen BK376.out 0; have hfz30_1 := blk_frozen BK376.out 1) | ((with_reducible refine gate_callee (f := 11) rfl ?_); refine goesL_ (some 14) rfl rfl Try.func11 (by kernel_rfl) rfl #[.agg #[.int .i64 a0_0, .slice A0_1 l0_1.length c0_1]] rfl (by (try simp only [List.map_toArray, List.map_cons, List.map_nil]); first | done | rfl | (simp only [List.length_drop, List.length_take]; rfl)) ?_; (with_reducible refine (wageofficelaw30_few.calls a0_0 _ _ l0_1 true _ ?side1 ?side2 A5.out).mono ?_); (case side1 => repeat (first | exact (Kd.C_below HR0_1.out HB.out) | (with_reducible refine Kd.C_alloc ?_ _) | (with_reducible refine Kd.C_drewN ?_ _) | (with_reducible refine Kd.C_drew ?_))); (case side2 => exact HC0_1.out); rintro e w31 ⟨rfl, hb⟩; refine ⟨_, rfl, ?_⟩; have n0_ := Aside0.mk (blk_below (g := gb376) (o := .cells #[.int .i64 a0_0, .slice A0_1 l0_1.length c0_1] 24 (0, 0)) (by (with_reducible repeat (first | refine blk_drewN ?_ _ | refine blk_drew ?_ | refine blk_alloc ?_ _)); exact BK376.out) hb); have n1_ := Aside0.mk (below_step (by repeat (first | (with_reducible first | exact HB.out | apply below_alloc | apply pw_below_drewN | apply below_drew1 | refine below_set ?_ GE376.out) | exact HB.out)) hb); clear BK376; clear HB; have BK376 := n0_; have HB := n1_; clear n0_ n1_; (try clear hb); (try clear hb2); (try clear hk); (try clear hi); have hcz32_0 : w31.cell? ⟨gb376, 0, none⟩ = some (.int .i64 a0_0) := (blk_cell BK376.out 0).trans rfl; have hcz32_1 : w31.cell? ⟨gb376, 1, none⟩ = some (.slice A0_1 l0_1.length c0_1) := (blk_cell BK376.out 1).trans rfl; have hfz32_0 := blk_frozen BK376.out 0; have hfz32_1 := blk_frozen BK376.out 1) | ((with_reducible refine gate_callee (f := 14) rfl ?_); refine goesL_ (some 20) rfl rfl Try.func14 (by kernel_rfl) rfl #[.agg #[.int .i64 a0_0, .slice A0_1 l0_1.length c0_1], .int .i64 a1] rfl (by (try simp only [List.map_toArray, List.map_cons, List.map_nil]); first | done | rfl | (simp only [List.length_drop, List.length_take]; rfl)) ?_; (with_reducible refine (grossup_Solve.calls k a0_0 _ _ l0_1 a1 t379 t382 _ ?side1 ?side2 A7.out).mono ?_); (case side1 => repeat (first | exact (Kd.C_below HR0_1.out HB.out) | (with_reducible refine Kd.C_alloc ?_ _) | (with_reducible refine Kd.C_drewN ?_ _) | (with_reducible refine Kd.C_drew ?_))); (case side2 => exact HC0_1.out); rintro e w33 ⟨v380, rfl, ho0, hb⟩; refine ⟨_, rfl, ?_⟩; have n0_ := Aside0.mk (Kd.R_lower ho0 (below_size (by repeat (first | (with_reducible first | exact HB.out | apply below_alloc | apply pw_below_drewN | apply below_drew1 | refine below_set ?_ GE376.out) | exact HB.out)))); have n1_ := Aside0.mk (blk_below (g := gb376) (o := .cells #[.int .i64 a0_0, .slice A0_1 l0_1.length c0_1] 24 (0, 0)) (by (with_reducible repeat (first | refine blk_drewN ?_ _ | refine blk_drew ?_ | refine blk_alloc ?_ _)); exact BK376.out) hb); have n2_ := Aside0.mk (below_step (by repeat (first | (with_reducible first | exact HB.out | apply below_alloc | apply pw_below_drewN | apply below_drew1 | refine below_set ?_ GE376.out) | exact HB.out)) hb); clear BK376; clear HB; have HO381 := n0_; have BK376 := n1_; have HB := n2_; clear n0_ n1_ n2_; (try clear hb); (try clear hb2); (try clear hk); (try clear hi); (try clear ho0); have hcz34_0 : w33.cell? ⟨gb376, 0, none⟩ = some (.int .i64 a0_0) := (blk_cell BK376.out 0).trans rfl; have hcz34_1 : w33.cell? ⟨gb376, 1, none⟩ = some (.slice A0_1 l0_1.length c0_1) := (blk_cell BK376.out 1).trans rfl; have hfz34_0 := blk_frozen BK376.out 0; have hfz34_1 := blk_frozen BK376.out 1) | ((with_reducible refine gate_callee (f := 12) rfl ?_); refine goesL_ (some 34) rfl rfl Try.func12 (by kernel_rfl) rfl #[.agg #[.int .i64 a0_0, .slice A0_1 l0_1.length c0_1], .int .i64 a2] rfl (by (try simp only [List.map_toArray, List.map_cons, List.map_nil]); first | done | rfl | (simp only [List.length_drop, List.length_take]; rfl)) ?_; (with_reducible refine (grossup_Net.calls k a0_0 _ _ l0_1 a2 t383 t384 _ ?side1 ?side2 A9.out).mono ?_); (case side1 => repeat (first | exact (Kd.C_below HR0_1.out HB.out) | (with_reducible refine Kd.C_alloc ?_ _) | (with_reducible refine Kd.C_drewN ?_ _) | (with_reducible refine Kd.C_drew ?_))); (case side2 => exact HC0_1.out); rintro e w35 ⟨rfl, hb⟩; refine ⟨_, rfl, ?_⟩; have n0_ := Aside0.mk (Kd.R_below (by (with_reducible repeat (first | apply Kd.R_alloc | apply Kd.R_drewN | apply Kd.R_drew)); exact HO381.out) hb); have n1_ := Aside0.mk (blk_below (g := gb376) (o := .cells #[.int .i64 a0_0, .slice A0_1 l0_1.length c0_1] 24 (0, 0)) (by (with_reducible repeat (first | refine blk_drewN ?_ _ | refine blk_drew ?_ | refine blk_alloc ?_ _)); exact BK376.out) hb); have n2_ := Aside0.mk (below_step (by repeat (first | (with_reducible first | exact HB.out | apply below_alloc | apply pw_below_drewN | apply below_drew1 | refine below_set ?_ GE376.out) | exact HB.out)) hb); clear HO381; clear BK376; clear HB; have HO381 := n0_; have BK376 := n1_; have HB := n2_; clear n0_ n1_ n2_; (try clear hb); (try clear hb2); (try clear hk); (try clear hi); obtain ⟨Ao36, co36, eo36⟩ := Kd.R_slice HO381.out; subst eo36) | (go_at_call 22; (with_reducible refine (span_Valid.calls _ _ t379 true _ ?side1 ?side2 A11.out).mono ?_); (case side1 => repeat (first | exact (Kd.R_reads' HO381.out).2.2 | (with_reducible refine Kd.C_alloc ?_ _) | (with_reducible refine Kd.C_drewN ?_ _) | (with_reducible refine Kd.C_drew ?_))); (case side2 => exact (Kd.R_reads' HO381.out).2.1); rintro e w37 ⟨rfl, hb⟩; have n0_ := Aside0.mk (Kd.R_below (by (with_reducible repeat (first | apply Kd.R_alloc | apply Kd.R_drewN | apply Kd.R_drew)); exact HO381.out) hb); have n1_ := Aside0.mk (blk_below (g := gb376) (o := .cells #[.int .i64 a0_0, .slice A0_1 l0_1.length c0_1] 24 (0, 0)) (by (with_reducible repeat (first | refine blk_drewN ?_ _ | refine blk_drew ?_ | refine blk_alloc ?_ _)); exact BK376.out) hb); have n2_ := Aside0.mk (below_step (by repeat (first | (with_reducible first | exact HB.out | apply below_alloc | apply pw_below_drewN | apply below_drew1 | refine below_set ?_ GE376.out) | exact HB.out)) hb); clear HO381; clear BK376; clear HB; have HO381 := n0_; have BK376 := n1_; have HB := n2_; clear n0_ n1_ n2_; (try clear hb); (try clear hb2); (try clear hk); (try clear hi); have hcz38_0 : w37.cell? ⟨gb376, 0, none⟩ = some (.int .i64 a0_0) := (blk_cell BK376.out 0).trans rfl; have hcz38_1 : w37.cell? ⟨gb376, 1, none⟩ = some (.slice A0_1 l0_1.length c0_1) := (blk_cell BK376.out 1).trans rfl; have hfz38_0 := blk_frozen BK376.out 0; have hfz38_1 := blk_frozen BK376.out 1) | (go_at_call 21; (with_reducible refine (span_Has.calls _ _ t379 a2 t386 _ ?side1 ?side2 A14.out).mono ?_); (case side1 => repeat (first | exact (Kd.R_reads' HO381.out).2.2 | (with_reducible refine Kd.C_alloc ?_ _) | (with_reducible refine Kd.C_drewN ?_ _) | (with_reducible refine Kd.C_drew ?_))); (case side2 => exact (Kd.R_reads' HO381.out).2.1); rintro e w39 ⟨rfl, hb⟩; have n0_ := Aside0.mk (Kd.R_below (by (with_reducible repeat (first | apply Kd.R_alloc | apply Kd.R_drewN | apply Kd.R_drew)); exact HO381.out) hb); have n1_ := Aside0.mk (blk_below (g := gb376) (o := .cells #[.int .i64 a0_0, .slice A0_1 l0_1.length c0_1] 24 (0, 0)) (by (with_reducible repeat (first | refine blk_drewN ?_ _ | refine blk_drew ?_ | refine blk_alloc ?_ _)); exact BK376.out) hb); have n2_ := Aside0.mk (below_step (by repeat (first | (with_reducible first | exact HB.out | apply below_alloc | apply pw_below_drewN | apply below_drew1 | refine below_set ?_ GE376.out) | exact HB.out)) hb); clear HO381; clear BK376; clear HB; have HO381 := n0_; have BK376 := n1_; have HB := n2_; clear n0_ n1_ n2_; (try clear hb); (try clear hb2); (try clear hk); (try clear hi)))
              go_ret
              exact ⟨by first | rfl | (simp [errW_none, errW_some] <;> rfl) | (simp [*, errW_none, errW_some] <;> rfl), by repeat (first | (with_reducible first | exact HB.out | apply below_alloc | apply pw_below_drewN | apply below_drew1 | refine below_set ?_ GE376.out) | exact HB.out)⟩
          · rw [if_neg c13] at H
            have c13b0 : decide ((t379.length : Int) ≤ (l0_1.length : Int)) = false := decide_eq_false c13
            have c13b1 : decide (t379.length ≤ l0_1.length) = false := decide_eq_false (fun h => c13 (Int.ofNat_le.mpr h))
            clear c13
            obtain rfl := Option.some.inj H
            go_enter Try.func9, Try.ntmps9
            go_wp2_with (first | ((with_reducible refine gate_dst (N := 3) rfl ?_); (try (refine gate_guard (by rfl) ?_; dsimp only)); refine box_event ?hg (N := 3) ?hd (cs := #[.int .i64 a0_0, .slice A0_1 l0_1.length c0_1]) (t := 24) ?hr ?_; (case hd => rfl); (case hg => rfl); (case hr => first | (go_simp; done) | (go_simp; rfl)); intro gb376 hg w40 hbox hb; have n0_ := Aside0.mk (below_step (by repeat (first | (with_reducible first | exact HB.out | apply below_alloc | apply pw_below_drewN | apply below_drew1) | exact HB.out)) hb); have n1_ := Aside0.mk (hbox); have n2_ := Aside0.mk ((by rw [hg]; exact (below_size (by repeat (first | (with_reducible first | exact HB.out | apply below_alloc | apply pw_below_drewN | apply below_drew1) | exact HB.out))) : w.heap.size ≤ gb376)); have n3_ := Aside0.mk ((by rw [hg]; exact (below_size (by repeat (first | (with_reducible first | exact HB.out | apply below_alloc | apply pw_below_drewN | apply below_drew1) | exact HB.out))) : w.heap.size ≤ gb376)); clear HB; have HB := n0_; have BK376 := n1_; have GW376 := n2_; have GE376 := n3_; clear n0_ n1_ n2_ n3_; clear hb hbox hg) | ((with_reducible refine gate_callee (f := 10) rfl ?_); refine goesL_ (some 12) rfl rfl Try.func10 (by kernel_rfl) rfl #[] rfl (by (try simp only [List.map_toArray, List.map_cons, List.map_nil]); first | done | rfl | (simp only [List.length_drop, List.length_take]; rfl)) ?_; (with_reducible refine (wageofficelaw30_head.calls k  true _ A4.out).mono ?_); rintro e w41 ⟨rfl, hb⟩; refine ⟨_, rfl, ?_⟩; have n0_ := Aside0.mk (blk_below (g := gb376) (o := .cells #[.int .i64 a0_0, .slice A0_1 l0_1.length c0_1] 24 (0, 0)) (by (with_reducible repeat (first | refine blk_drewN ?_ _ | refine blk_drew ?_ | refine blk_alloc ?_ _)); exact BK376.out) hb); have n1_ := Aside0.mk (below_step (by repeat (first | (with_reducible first | exact HB.out | apply below_alloc | apply pw_below_drewN | apply below_drew1 | refine below_set ?_ GE376.out) | exact HB.out)) hb); clear BK376; clear HB; have BK376 := n0_; have HB := n1_; clear n0_ n1_; (try clear hb); (try clear hb2); (try clear hk); (try clear hi); have hcz42_0 : w41.cell? ⟨gb376, 0, none⟩ = some (.int .i64 a0_0) := (blk_cell BK376.out 0).trans rfl; have hcz42_1 : w41.cell? ⟨gb376, 1, none⟩ = some (.slice A0_1 l0_1.length c0_1) := (blk_cell BK376.out 1).trans rfl; have hfz42_0 := blk_frozen BK376.out 0; have hfz42_1 := blk_frozen BK376.out 1) | ((with_reducible refine gate_callee (f := 11) rfl ?_); refine goesL_ (some 14) rfl rfl Try.func11 (by kernel_rfl) rfl #[.agg #[.int .i64 a0_0, .slice A0_1 l0_1.length c0_1]] rfl (by (try simp only [List.map_toArray, List.map_cons, List.map_nil]); first | done | rfl | (simp only [List.length_drop, List.length_take]; rfl)) ?_; (with_reducible refine (wageofficelaw30_few.calls a0_0 _ _ l0_1 true _ ?side1 ?side2 A5.out).mono ?_); (case side1 => repeat (first | exact (Kd.C_below HR0_1.out HB.out) | (with_reducible refine Kd.C_alloc ?_ _) | (with_reducible refine Kd.C_drewN ?_ _) | (with_reducible refine Kd.C_drew ?_))); (case side2 => exact HC0_1.out); rintro e w43 ⟨rfl, hb⟩; refine ⟨_, rfl, ?_⟩; have n0_ := Aside0.mk (blk_below (g := gb376) (o := .cells #[.int .i64 a0_0, .slice A0_1 l0_1.length c0_1] 24 (0, 0)) (by (with_reducible repeat (first | refine blk_drewN ?_ _ | refine blk_drew ?_ | refine blk_alloc ?_ _)); exact BK376.out) hb); have n1_ := Aside0.mk (below_step (by repeat (first | (with_reducible first | exact HB.out | apply below_alloc | apply pw_below_drewN | apply below_drew1 | refine below_set ?_ GE376.out) | exact HB.out)) hb); clear BK376; clear HB; have BK376 := n0_; have HB := n1_; clear n0_ n1_; (try clear hb); (try clear hb2); (try clear hk); (try clear hi); have hcz44_0 : w43.cell? ⟨gb376, 0, none⟩ = some (.int .i64 a0_0) := (blk_cell BK376.out 0).trans rfl; have hcz44_1 : w43.cell? ⟨gb376, 1, none⟩ = some (.slice A0_1 l0_1.length c0_1) := (blk_cell BK376.out 1).trans rfl; have hfz44_0 := blk_frozen BK376.out 0; have hfz44_1 := blk_frozen BK376.out 1) | ((with_reducible refine gate_callee (f := 14) rfl ?_); refine goesL_ (some 20) rfl rfl Try.func14 (by kernel_rfl) rfl #[.agg #[.int .i64 a0_0, .slice A0_1 l0_1.length c0_1], .int .i64 a1] rfl (by (try simp only [List.map_toArray, List.map_cons, List.map_nil]); first | done | rfl | (simp only [List.length_drop, List.length_take]; rfl)) ?_; (with_reducible refine (grossup_Solve.calls k a0_0 _ _ l0_1 a1 t379 t382 _ ?side1 ?side2 A7.out).mono ?_); (case side1 => repeat (first | exact (Kd.C_below HR0_1.out HB.out) | (with_reducible refine Kd.C_alloc ?_ _) | (with_reducible refine Kd.C_drewN ?_ _) | (with_reducible refine Kd.C_drew ?_))); (case side2 => exact HC0_1.out); rintro e w45 ⟨v380, rfl, ho0, hb⟩; refine ⟨_, rfl, ?_⟩; have n0_ := Aside0.mk (Kd.R_lower ho0 (below_size (by repeat (first | (with_reducible first | exact HB.out | apply below_alloc | apply pw_below_drewN | apply below_drew1 | refine below_set ?_ GE376.out) | exact HB.out)))); have n1_ := Aside0.mk (blk_below (g := gb376) (o := .cells #[.int .i64 a0_0, .slice A0_1 l0_1.length c0_1] 24 (0, 0)) (by (with_reducible repeat (first | refine blk_drewN ?_ _ | refine blk_drew ?_ | refine blk_alloc ?_ _)); exact BK376.out) hb); have n2_ := Aside0.mk (below_step (by repeat (first | (with_reducible first | exact HB.out | apply below_alloc | apply pw_below_drewN | apply below_drew1 | refine below_set ?_ GE376.out) | exact HB.out)) hb); clear BK376; clear HB; have HO381 := n0_; have BK376 := n1_; have HB := n2_; clear n0_ n1_ n2_; (try clear hb); (try clear hb2); (try clear hk); (try clear hi); (try clear ho0); have hcz46_0 : w45.cell? ⟨gb376, 0, none⟩ = some (.int .i64 a0_0) := (blk_cell BK376.out 0).trans rfl; have hcz46_1 : w45.cell? ⟨gb376, 1, none⟩ = some (.slice A0_1 l0_1.length c0_1) := (blk_cell BK376.out 1).trans rfl; have hfz46_0 := blk_frozen BK376.out 0; have hfz46_1 := blk_frozen BK376.out 1) | ((with_reducible refine gate_callee (f := 12) rfl ?_); refine goesL_ (some 34) rfl rfl Try.func12 (by kernel_rfl) rfl #[.agg #[.int .i64 a0_0, .slice A0_1 l0_1.length c0_1], .int .i64 a2] rfl (by (try simp only [List.map_toArray, List.map_cons, List.map_nil]); first | done | rfl | (simp only [List.length_drop, List.length_take]; rfl)) ?_; (with_reducible refine (grossup_Net.calls k a0_0 _ _ l0_1 a2 t383 t384 _ ?side1 ?side2 A9.out).mono ?_); (case side1 => repeat (first | exact (Kd.C_below HR0_1.out HB.out) | (with_reducible refine Kd.C_alloc ?_ _) | (with_reducible refine Kd.C_drewN ?_ _) | (with_reducible refine Kd.C_drew ?_))); (case side2 => exact HC0_1.out); rintro e w47 ⟨rfl, hb⟩; refine ⟨_, rfl, ?_⟩; have n0_ := Aside0.mk (Kd.R_below (by (with_reducible repeat (first | apply Kd.R_alloc | apply Kd.R_drewN | apply Kd.R_drew)); exact HO381.out) hb); have n1_ := Aside0.mk (blk_below (g := gb376) (o := .cells #[.int .i64 a0_0, .slice A0_1 l0_1.length c0_1] 24 (0, 0)) (by (with_reducible repeat (first | refine blk_drewN ?_ _ | refine blk_drew ?_ | refine blk_alloc ?_ _)); exact BK376.out) hb); have n2_ := Aside0.mk (below_step (by repeat (first | (with_reducible first | exact HB.out | apply below_alloc | apply pw_below_drewN | apply below_drew1 | refine below_set ?_ GE376.out) | exact HB.out)) hb); clear HO381; clear BK376; clear HB; have HO381 := n0_; have BK376 := n1_; have HB := n2_; clear n0_ n1_ n2_; (try clear hb); (try clear hb2); (try clear hk); (try clear hi); obtain ⟨Ao48, co48, eo48⟩ := Kd.R_slice HO381.out; subst eo48) | (go_at_call 22; (with_reducible refine (span_Valid.calls _ _ t379 true _ ?side1 ?side2 A11.out).mono ?_); (case side1 => repeat (first | exact (Kd.R_reads' HO381.out).2.2 | (with_reducible refine Kd.C_alloc ?_ _) | (with_reducible refine Kd.C_drewN ?_ _) | (with_reducible refine Kd.C_drew ?_))); (case side2 => exact (Kd.R_reads' HO381.out).2.1); rintro e w49 ⟨rfl, hb⟩; have n0_ := Aside0.mk (Kd.R_below (by (with_reducible repeat (first | apply Kd.R_alloc | apply Kd.R_drewN | apply Kd.R_drew)); exact HO381.out) hb); have n1_ := Aside0.mk (blk_below (g := gb376) (o := .cells #[.int .i64 a0_0, .slice A0_1 l0_1.length c0_1] 24 (0, 0)) (by (with_reducible repeat (first | refine blk_drewN ?_ _ | refine blk_drew ?_ | refine blk_alloc ?_ _)); exact BK376.out) hb); have n2_ := Aside0.mk (below_step (by repeat (first | (with_reducible first | exact HB.out | apply below_alloc | apply pw_below_drewN | apply below_drew1 | refine below_set ?_ GE376.out) | exact HB.out)) hb); clear HO381; clear BK376; clear HB; have HO381 := n0_; have BK376 := n1_; have HB := n2_; clear n0_ n1_ n2_; (try clear hb); (try clear hb2); (try clear hk); (try clear hi); have hcz50_0 : w49.cell? ⟨gb376, 0, none⟩ = some (.int .i64 a0_0) := (blk_cell BK376.out 0).trans rfl; have hcz50_1 : w49.cell? ⟨gb376, 1, none⟩ = some (.slice A0_1 l0_1.length c0_1) := (blk_cell BK376.out 1).trans rfl; have hfz50_0 := blk_frozen BK376.out 0; have hfz50_1 := blk_frozen BK376.out 1))
            go_ret
            exact ⟨by first | rfl | (simp [errW_none, errW_some] <;> rfl) | (simp [*, errW_none, errW_some] <;> rfl), by repeat (first | (with_reducible first | exact HB.out | apply below_alloc | apply pw_below_drewN | apply below_drew1 | refine below_set ?_ GE376.out) | exact HB.out)⟩
        · replace c12 := Bool.eq_false_iff.mpr c12
          subst c12
          have H1 : (some false) = some r := by rw [if_neg (show ¬ (false = true) by decide)] at H; exact H
          clear H
          have H := H1
          clear H1
          obtain rfl := Option.some.inj H
          go_enter Try.func9, Try.ntmps9
          go_wp2_with (first | ((with_reducible refine gate_dst (N := 3) rfl ?_); (try (refine gate_guard (by rfl) ?_; dsimp only)); refine box_event ?hg (N := 3) ?hd (cs := #[.int .i64 a0_0, .slice A0_1 l0_1.length c0_1]) (t := 24) ?hr ?_; (case hd => rfl); (case hg => rfl); (case hr => first | (go_simp; done) | (go_simp; rfl)); intro gb376 hg w51 hbox hb; have n0_ := Aside0.mk (below_step (by repeat (first | (with_reducible first | exact HB.out | apply below_alloc | apply pw_below_drewN | apply below_drew1) | exact HB.out)) hb); have n1_ := Aside0.mk (hbox); have n2_ := Aside0.mk ((by rw [hg]; exact (below_size (by repeat (first | (with_reducible first | exact HB.out | apply below_alloc | apply pw_below_drewN | apply below_drew1) | exact HB.out))) : w.heap.size ≤ gb376)); have n3_ := Aside0.mk ((by rw [hg]; exact (below_size (by repeat (first | (with_reducible first | exact HB.out | apply below_alloc | apply pw_below_drewN | apply below_drew1) | exact HB.out))) : w.heap.size ≤ gb376)); clear HB; have HB := n0_; have BK376 := n1_; have GW376 := n2_; have GE376 := n3_; clear n0_ n1_ n2_ n3_; clear hb hbox hg) | ((with_reducible refine gate_callee (f := 10) rfl ?_); refine goesL_ (some 12) rfl rfl Try.func10 (by kernel_rfl) rfl #[] rfl (by (try simp only [List.map_toArray, List.map_cons, List.map_nil]); first | done | rfl | (simp only [List.length_drop, List.length_take]; rfl)) ?_; (with_reducible refine (wageofficelaw30_head.calls k  true _ A4.out).mono ?_); rintro e w52 ⟨rfl, hb⟩; refine ⟨_, rfl, ?_⟩; have n0_ := Aside0.mk (blk_below (g := gb376) (o := .cells #[.int .i64 a0_0, .slice A0_1 l0_1.length c0_1] 24 (0, 0)) (by (with_reducible repeat (first | refine blk_drewN ?_ _ | refine blk_drew ?_ | refine blk_alloc ?_ _)); exact BK376.out) hb); have n1_ := Aside0.mk (below_step (by repeat (first | (with_reducible first | exact HB.out | apply below_alloc | apply pw_below_drewN | apply below_drew1 | refine below_set ?_ GE376.out) | exact HB.out)) hb); clear BK376; clear HB; have BK376 := n0_; have HB := n1_; clear n0_ n1_; (try clear hb); (try clear hb2); (try clear hk); (try clear hi); have hcz53_0 : w52.cell? ⟨gb376, 0, none⟩ = some (.int .i64 a0_0) := (blk_cell BK376.out 0).trans rfl; have hcz53_1 : w52.cell? ⟨gb376, 1, none⟩ = some (.slice A0_1 l0_1.length c0_1) := (blk_cell BK376.out 1).trans rfl; have hfz53_0 := blk_frozen BK376.out 0; have hfz53_1 := blk_frozen BK376.out 1) | ((with_reducible refine gate_callee (f := 11) rfl ?_); refine goesL_ (some 14) rfl rfl Try.func11 (by kernel_rfl) rfl #[.agg #[.int .i64 a0_0, .slice A0_1 l0_1.length c0_1]] rfl (by (try simp only [List.map_toArray, List.map_cons, List.map_nil]); first | done | rfl | (simp only [List.length_drop, List.length_take]; rfl)) ?_; (with_reducible refine (wageofficelaw30_few.calls a0_0 _ _ l0_1 true _ ?side1 ?side2 A5.out).mono ?_); (case side1 => repeat (first | exact (Kd.C_below HR0_1.out HB.out) | (with_reducible refine Kd.C_alloc ?_ _) | (with_reducible refine Kd.C_drewN ?_ _) | (with_reducible refine Kd.C_drew ?_))); (case side2 => exact HC0_1.out); rintro e w54 ⟨rfl, hb⟩; refine ⟨_, rfl, ?_⟩; have n0_ := Aside0.mk (blk_below (g := gb376) (o := .cells #[.int .i64 a0_0, .slice A0_1 l0_1.length c0_1] 24 (0, 0)) (by (with_reducible repeat (first | refine blk_drewN ?_ _ | refine blk_drew ?_ | refine blk_alloc ?_ _)); exact BK376.out) hb); have n1_ := Aside0.mk (below_step (by repeat (first | (with_reducible first | exact HB.out | apply below_alloc | apply pw_below_drewN | apply below_drew1 | refine below_set ?_ GE376.out) | exact HB.out)) hb); clear BK376; clear HB; have BK376 := n0_; have HB := n1_; clear n0_ n1_; (try clear hb); (try clear hb2); (try clear hk); (try clear hi); have hcz55_0 : w54.cell? ⟨gb376, 0, none⟩ = some (.int .i64 a0_0) := (blk_cell BK376.out 0).trans rfl; have hcz55_1 : w54.cell? ⟨gb376, 1, none⟩ = some (.slice A0_1 l0_1.length c0_1) := (blk_cell BK376.out 1).trans rfl; have hfz55_0 := blk_frozen BK376.out 0; have hfz55_1 := blk_frozen BK376.out 1) | ((with_reducible refine gate_callee (f := 14) rfl ?_); refine goesL_ (some 20) rfl rfl Try.func14 (by kernel_rfl) rfl #[.agg #[.int .i64 a0_0, .slice A0_1 l0_1.length c0_1], .int .i64 a1] rfl (by (try simp only [List.map_toArray, List.map_cons, List.map_nil]); first | done | rfl | (simp only [List.length_drop, List.length_take]; rfl)) ?_; (with_reducible refine (grossup_Solve.calls k a0_0 _ _ l0_1 a1 t379 t382 _ ?side1 ?side2 A7.out).mono ?_); (case side1 => repeat (first | exact (Kd.C_below HR0_1.out HB.out) | (with_reducible refine Kd.C_alloc ?_ _) | (with_reducible refine Kd.C_drewN ?_ _) | (with_reducible refine Kd.C_drew ?_))); (case side2 => exact HC0_1.out); rintro e w56 ⟨v380, rfl, ho0, hb⟩; refine ⟨_, rfl, ?_⟩; have n0_ := Aside0.mk (Kd.R_lower ho0 (below_size (by repeat (first | (with_reducible first | exact HB.out | apply below_alloc | apply pw_below_drewN | apply below_drew1 | refine below_set ?_ GE376.out) | exact HB.out)))); have n1_ := Aside0.mk (blk_below (g := gb376) (o := .cells #[.int .i64 a0_0, .slice A0_1 l0_1.length c0_1] 24 (0, 0)) (by (with_reducible repeat (first | refine blk_drewN ?_ _ | refine blk_drew ?_ | refine blk_alloc ?_ _)); exact BK376.out) hb); have n2_ := Aside0.mk (below_step (by repeat (first | (with_reducible first | exact HB.out | apply below_alloc | apply pw_below_drewN | apply below_drew1 | refine below_set ?_ GE376.out) | exact HB.out)) hb); clear BK376; clear HB; have HO381 := n0_; have BK376 := n1_; have HB := n2_; clear n0_ n1_ n2_; (try clear hb); (try clear hb2); (try clear hk); (try clear hi); (try clear ho0); have hcz57_0 : w56.cell? ⟨gb376, 0, none⟩ = some (.int .i64 a0_0) := (blk_cell BK376.out 0).trans rfl; have hcz57_1 : w56.cell? ⟨gb376, 1, none⟩ = some (.slice A0_1 l0_1.length c0_1) := (blk_cell BK376.out 1).trans rfl; have hfz57_0 := blk_frozen BK376.out 0; have hfz57_1 := blk_frozen BK376.out 1) | ((with_reducible refine gate_callee (f := 12) rfl ?_); refine goesL_ (some 34) rfl rfl Try.func12 (by kernel_rfl) rfl #[.agg #[.int .i64 a0_0, .slice A0_1 l0_1.length c0_1], .int .i64 a2] rfl (by (try simp only [List.map_toArray, List.map_cons, List.map_nil]); first | done | rfl | (simp only [List.length_drop, List.length_take]; rfl)) ?_; (with_reducible refine (grossup_Net.calls k a0_0 _ _ l0_1 a2 t383 t384 _ ?side1 ?side2 A9.out).mono ?_); (case side1 => repeat (first | exact (Kd.C_below HR0_1.out HB.out) | (with_reducible refine Kd.C_alloc ?_ _) | (with_reducible refine Kd.C_drewN ?_ _) | (with_reducible refine Kd.C_drew ?_))); (case side2 => exact HC0_1.out); rintro e w58 ⟨rfl, hb⟩; refine ⟨_, rfl, ?_⟩; have n0_ := Aside0.mk (Kd.R_below (by (with_reducible repeat (first | apply Kd.R_alloc | apply Kd.R_drewN | apply Kd.R_drew)); exact HO381.out) hb); have n1_ := Aside0.mk (blk_below (g := gb376) (o := .cells #[.int .i64 a0_0, .slice A0_1 l0_1.length c0_1] 24 (0, 0)) (by (with_reducible repeat (first | refine blk_drewN ?_ _ | refine blk_drew ?_ | refine blk_alloc ?_ _)); exact BK376.out) hb); have n2_ := Aside0.mk (below_step (by repeat (first | (with_reducible first | exact HB.out | apply below_alloc | apply pw_below_drewN | apply below_drew1 | refine below_set ?_ GE376.out) | exact HB.out)) hb); clear HO381; clear BK376; clear HB; have HO381 := n0_; have BK376 := n1_; have HB := n2_; clear n0_ n1_ n2_; (try clear hb); (try clear hb2); (try clear hk); (try clear hi); obtain ⟨Ao59, co59, eo59⟩ := Kd.R_slice HO381.out; subst eo59) | (go_at_call 22; (with_reducible refine (span_Valid.calls _ _ t379 false _ ?side1 ?side2 A11.out).mono ?_); (case side1 => repeat (first | exact (Kd.R_reads' HO381.out).2.2 | (with_reducible refine Kd.C_alloc ?_ _) | (with_reducible refine Kd.C_drewN ?_ _) | (with_reducible refine Kd.C_drew ?_))); (case side2 => exact (Kd.R_reads' HO381.out).2.1); rintro e w60 ⟨rfl, hb⟩; have n0_ := Aside0.mk (Kd.R_below (by (with_reducible repeat (first | apply Kd.R_alloc | apply Kd.R_drewN | apply Kd.R_drew)); exact HO381.out) hb); have n1_ := Aside0.mk (blk_below (g := gb376) (o := .cells #[.int .i64 a0_0, .slice A0_1 l0_1.length c0_1] 24 (0, 0)) (by (with_reducible repeat (first | refine blk_drewN ?_ _ | refine blk_drew ?_ | refine blk_alloc ?_ _)); exact BK376.out) hb); have n2_ := Aside0.mk (below_step (by repeat (first | (with_reducible first | exact HB.out | apply below_alloc | apply pw_below_drewN | apply below_drew1 | refine below_set ?_ GE376.out) | exact HB.out)) hb); clear HO381; clear BK376; clear HB; have HO381 := n0_; have BK376 := n1_; have HB := n2_; clear n0_ n1_ n2_; (try clear hb); (try clear hb2); (try clear hk); (try clear hi)))
          go_ret
          exact ⟨by first | rfl | (simp [errW_none, errW_some] <;> rfl) | (simp [*, errW_none, errW_some] <;> rfl), by repeat (first | (with_reducible first | exact HB.out | apply below_alloc | apply pw_below_drewN | apply below_drew1 | refine below_set ?_ GE376.out) | exact HB.out)⟩
      · replace c10 := Bool.eq_false_iff.mpr c10
        subst c10
        have H1 : (some false) = some r := by rw [if_neg (show ¬ (false = true) by decide)] at H; exact H
        clear H
        have H := H1
        clear H1
        obtain rfl := Option.some.inj H
        go_enter Try.func9, Try.ntmps9
        go_wp2_with (first | ((with_reducible refine gate_dst (N := 3) rfl ?_); (try (refine gate_guard (by rfl) ?_; dsimp only)); refine box_event ?hg (N := 3) ?hd (cs := #[.int .i64 a0_0, .slice A0_1 l0_1.length c0_1]) (t := 24) ?hr ?_; (case hd => rfl); (case hg => rfl); (case hr => first | (go_simp; done) | (go_simp; rfl)); intro gb376 hg w61 hbox hb; have n0_ := Aside0.mk (below_step (by repeat (first | (with_reducible first | exact HB.out | apply below_alloc | apply pw_below_drewN | apply below_drew1) | exact HB.out)) hb); have n1_ := Aside0.mk (hbox); have n2_ := Aside0.mk ((by rw [hg]; exact (below_size (by repeat (first | (with_reducible first | exact HB.out | apply below_alloc | apply pw_below_drewN | apply below_drew1) | exact HB.out))) : w.heap.size ≤ gb376)); have n3_ := Aside0.mk ((by rw [hg]; exact (below_size (by repeat (first | (with_reducible first | exact HB.out | apply below_alloc | apply pw_below_drewN | apply below_drew1) | exact HB.out))) : w.heap.size ≤ gb376)); clear HB; have HB := n0_; have BK376 := n1_; have GW376 := n2_; have GE376 := n3_; clear n0_ n1_ n2_ n3_; clear hb hbox hg) | ((with_reducible refine gate_callee (f := 10) rfl ?_); refine goesL_ (some 12) rfl rfl Try.func10 (by kernel_rfl) rfl #[] rfl (by (try simp only [List.map_toArray, List.map_cons, List.map_nil]); first | done | rfl | (simp only [List.length_drop, List.length_take]; rfl)) ?_; (with_reducible refine (wageofficelaw30_head.calls k  false _ A4.out).mono ?_); rintro e w62 ⟨rfl, hb⟩; refine ⟨_, rfl, ?_⟩; have n0_ := Aside0.mk (blk_below (g := gb376) (o := .cells #[.int .i64 a0_0, .slice A0_1 l0_1.length c0_1] 24 (0, 0)) (by (with_reducible repeat (first | refine blk_drewN ?_ _ | refine blk_drew ?_ | refine blk_alloc ?_ _)); exact BK376.out) hb); have n1_ := Aside0.mk (below_step (by repeat (first | (with_reducible first | exact HB.out | apply below_alloc | apply pw_below_drewN | apply below_drew1 | refine below_set ?_ GE376.out) | exact HB.out)) hb); clear BK376; clear HB; have BK376 := n0_; have HB := n1_; clear n0_ n1_; (try clear hb); (try clear hb2); (try clear hk); (try clear hi); have hcz63_0 : w62.cell? ⟨gb376, 0, none⟩ = some (.int .i64 a0_0) := (blk_cell BK376.out 0).trans rfl; have hcz63_1 : w62.cell? ⟨gb376, 1, none⟩ = some (.slice A0_1 l0_1.length c0_1) := (blk_cell BK376.out 1).trans rfl; have hfz63_0 := blk_frozen BK376.out 0; have hfz63_1 := blk_frozen BK376.out 1) | ((with_reducible refine gate_callee (f := 11) rfl ?_); refine goesL_ (some 14) rfl rfl Try.func11 (by kernel_rfl) rfl #[.agg #[.int .i64 a0_0, .slice A0_1 l0_1.length c0_1]] rfl (by (try simp only [List.map_toArray, List.map_cons, List.map_nil]); first | done | rfl | (simp only [List.length_drop, List.length_take]; rfl)) ?_; (with_reducible refine (wageofficelaw30_few.calls a0_0 _ _ l0_1 true _ ?side1 ?side2 A5.out).mono ?_); (case side1 => repeat (first | exact (Kd.C_below HR0_1.out HB.out) | (with_reducible refine Kd.C_alloc ?_ _) | (with_reducible refine Kd.C_drewN ?_ _) | (with_reducible refine Kd.C_drew ?_))); (case side2 => exact HC0_1.out); rintro e w64 ⟨rfl, hb⟩; refine ⟨_, rfl, ?_⟩; have n0_ := Aside0.mk (blk_below (g := gb376) (o := .cells #[.int .i64 a0_0, .slice A0_1 l0_1.length c0_1] 24 (0, 0)) (by (with_reducible repeat (first | refine blk_drewN ?_ _ | refine blk_drew ?_ | refine blk_alloc ?_ _)); exact BK376.out) hb); have n1_ := Aside0.mk (below_step (by repeat (first | (with_reducible first | exact HB.out | apply below_alloc | apply pw_below_drewN | apply below_drew1 | refine below_set ?_ GE376.out) | exact HB.out)) hb); clear BK376; clear HB; have BK376 := n0_; have HB := n1_; clear n0_ n1_; (try clear hb); (try clear hb2); (try clear hk); (try clear hi); have hcz65_0 : w64.cell? ⟨gb376, 0, none⟩ = some (.int .i64 a0_0) := (blk_cell BK376.out 0).trans rfl; have hcz65_1 : w64.cell? ⟨gb376, 1, none⟩ = some (.slice A0_1 l0_1.length c0_1) := (blk_cell BK376.out 1).trans rfl; have hfz65_0 := blk_frozen BK376.out 0; have hfz65_1 := blk_frozen BK376.out 1) | ((with_reducible refine gate_callee (f := 14) rfl ?_); refine goesL_ (some 20) rfl rfl Try.func14 (by kernel_rfl) rfl #[.agg #[.int .i64 a0_0, .slice A0_1 l0_1.length c0_1], .int .i64 a1] rfl (by (try simp only [List.map_toArray, List.map_cons, List.map_nil]); first | done | rfl | (simp only [List.length_drop, List.length_take]; rfl)) ?_; (with_reducible refine (grossup_Solve.calls k a0_0 _ _ l0_1 a1 t379 t382 _ ?side1 ?side2 A7.out).mono ?_); (case side1 => repeat (first | exact (Kd.C_below HR0_1.out HB.out) | (with_reducible refine Kd.C_alloc ?_ _) | (with_reducible refine Kd.C_drewN ?_ _) | (with_reducible refine Kd.C_drew ?_))); (case side2 => exact HC0_1.out); rintro e w66 ⟨v380, rfl, ho0, hb⟩; refine ⟨_, rfl, ?_⟩; have n0_ := Aside0.mk (Kd.R_lower ho0 (below_size (by repeat (first | (with_reducible first | exact HB.out | apply below_alloc | apply pw_below_drewN | apply below_drew1 | refine below_set ?_ GE376.out) | exact HB.out)))); have n1_ := Aside0.mk (blk_below (g := gb376) (o := .cells #[.int .i64 a0_0, .slice A0_1 l0_1.length c0_1] 24 (0, 0)) (by (with_reducible repeat (first | refine blk_drewN ?_ _ | refine blk_drew ?_ | refine blk_alloc ?_ _)); exact BK376.out) hb); have n2_ := Aside0.mk (below_step (by repeat (first | (with_reducible first | exact HB.out | apply below_alloc | apply pw_below_drewN | apply below_drew1 | refine below_set ?_ GE376.out) | exact HB.out)) hb); clear BK376; clear HB; have HO381 := n0_; have BK376 := n1_; have HB := n2_; clear n0_ n1_ n2_; (try clear hb); (try clear hb2); (try clear hk); (try clear hi); (try clear ho0); have hcz67_0 : w66.cell? ⟨gb376, 0, none⟩ = some (.int .i64 a0_0) := (blk_cell BK376.out 0).trans rfl; have hcz67_1 : w66.cell? ⟨gb376, 1, none⟩ = some (.slice A0_1 l0_1.length c0_1) := (blk_cell BK376.out 1).trans rfl; have hfz67_0 := blk_frozen BK376.out 0; have hfz67_1 := blk_frozen BK376.out 1) | ((with_reducible refine gate_callee (f := 12) rfl ?_); refine goesL_ (some 34) rfl rfl Try.func12 (by kernel_rfl) rfl #[.agg #[.int .i64 a0_0, .slice A0_1 l0_1.length c0_1], .int .i64 a2] rfl (by (try simp only [List.map_toArray, List.map_cons, List.map_nil]); first | done | rfl | (simp only [List.length_drop, List.length_take]; rfl)) ?_; (with_reducible refine (grossup_Net.calls k a0_0 _ _ l0_1 a2 t383 t384 _ ?side1 ?side2 A9.out).mono ?_); (case side1 => repeat (first | exact (Kd.C_below HR0_1.out HB.out) | (with_reducible refine Kd.C_alloc ?_ _) | (with_reducible refine Kd.C_drewN ?_ _) | (with_reducible refine Kd.C_drew ?_))); (case side2 => exact HC0_1.out); rintro e w68 ⟨rfl, hb⟩; refine ⟨_, rfl, ?_⟩; have n0_ := Aside0.mk (Kd.R_below (by (with_reducible repeat (first | apply Kd.R_alloc | apply Kd.R_drewN | apply Kd.R_drew)); exact HO381.out) hb); have n1_ := Aside0.mk (blk_below (g := gb376) (o := .cells #[.int .i64 a0_0, .slice A0_1 l0_1.length c0_1] 24 (0, 0)) (by (with_reducible repeat (first | refine blk_drewN ?_ _ | refine blk_drew ?_ | refine blk_alloc ?_ _)); exact BK376.out) hb); have n2_ := Aside0.mk (below_step (by repeat (first | (with_reducible first | exact HB.out | apply below_alloc | apply pw_below_drewN | apply below_drew1 | refine below_set ?_ GE376.out) | exact HB.out)) hb); clear HO381; clear BK376; clear HB; have HO381 := n0_; have BK376 := n1_; have HB := n2_; clear n0_ n1_ n2_; (try clear hb); (try clear hb2); (try clear hk); (try clear hi)))
        go_ret
        exact ⟨by first | rfl | (simp [errW_none, errW_some] <;> rfl) | (simp [*, errW_none, errW_some] <;> rfl), by repeat (first | (with_reducible first | exact HB.out | apply below_alloc | apply pw_below_drewN | apply below_drew1 | refine below_set ?_ GE376.out) | exact HB.out)⟩
    · rw [if_neg c8] at H
      have c8b0 : (t382 == 0) = false := beq_eq_false_iff_ne.mpr c8
      have c8b1 : (t382 != 0) = true := bne_iff_ne.mpr c8
      by_cases c69 : t377 = true
      · subst c69
        have H1 : (some ((t379.length : Int) == 0)) = some r := by rw [if_pos rfl] at H; exact H
        clear H
        have H := H1
        clear H1
        obtain rfl := Option.some.inj H
        go_enter Try.func9, Try.ntmps9
        go_wp2_with (first | ((with_reducible refine gate_dst (N := 3) rfl ?_); (try (refine gate_guard (by rfl) ?_; dsimp only)); refine box_event ?hg (N := 3) ?hd (cs := #[.int .i64 a0_0, .slice A0_1 l0_1.length c0_1]) (t := 24) ?hr ?_; (case hd => rfl); (case hg => rfl); (case hr => first | (go_simp; done) | (go_simp; rfl)); intro gb376 hg w70 hbox hb; have n0_ := Aside0.mk (below_step (by repeat (first | (with_reducible first | exact HB.out | apply below_alloc | apply pw_below_drewN | apply below_drew1) | exact HB.out)) hb); have n1_ := Aside0.mk (hbox); have n2_ := Aside0.mk ((by rw [hg]; exact (below_size (by repeat (first | (with_reducible first | exact HB.out | apply below_alloc | apply pw_below_drewN | apply below_drew1) | exact HB.out))) : w.heap.size ≤ gb376)); have n3_ := Aside0.mk ((by rw [hg]; exact (below_size (by repeat (first | (with_reducible first | exact HB.out | apply below_alloc | apply pw_below_drewN | apply below_drew1) | exact HB.out))) : w.heap.size ≤ gb376)); clear HB; have HB := n0_; have BK376 := n1_; have GW376 := n2_; have GE376 := n3_; clear n0_ n1_ n2_ n3_; clear hb hbox hg) | ((with_reducible refine gate_callee (f := 10) rfl ?_); refine goesL_ (some 12) rfl rfl Try.func10 (by kernel_rfl) rfl #[] rfl (by (try simp only [List.map_toArray, List.map_cons, List.map_nil]); first | done | rfl | (simp only [List.length_drop, List.length_take]; rfl)) ?_; (with_reducible refine (wageofficelaw30_head.calls k  true _ A4.out).mono ?_); rintro e w71 ⟨rfl, hb⟩; refine ⟨_, rfl, ?_⟩; have n0_ := Aside0.mk (blk_below (g := gb376) (o := .cells #[.int .i64 a0_0, .slice A0_1 l0_1.length c0_1] 24 (0, 0)) (by (with_reducible repeat (first | refine blk_drewN ?_ _ | refine blk_drew ?_ | refine blk_alloc ?_ _)); exact BK376.out) hb); have n1_ := Aside0.mk (below_step (by repeat (first | (with_reducible first | exact HB.out | apply below_alloc | apply pw_below_drewN | apply below_drew1 | refine below_set ?_ GE376.out) | exact HB.out)) hb); clear BK376; clear HB; have BK376 := n0_; have HB := n1_; clear n0_ n1_; (try clear hb); (try clear hb2); (try clear hk); (try clear hi); have hcz72_0 : w71.cell? ⟨gb376, 0, none⟩ = some (.int .i64 a0_0) := (blk_cell BK376.out 0).trans rfl; have hcz72_1 : w71.cell? ⟨gb376, 1, none⟩ = some (.slice A0_1 l0_1.length c0_1) := (blk_cell BK376.out 1).trans rfl; have hfz72_0 := blk_frozen BK376.out 0; have hfz72_1 := blk_frozen BK376.out 1) | ((with_reducible refine gate_callee (f := 11) rfl ?_); refine goesL_ (some 14) rfl rfl Try.func11 (by kernel_rfl) rfl #[.agg #[.int .i64 a0_0, .slice A0_1 l0_1.length c0_1]] rfl (by (try simp only [List.map_toArray, List.map_cons, List.map_nil]); first | done | rfl | (simp only [List.length_drop, List.length_take]; rfl)) ?_; (with_reducible refine (wageofficelaw30_few.calls a0_0 _ _ l0_1 true _ ?side1 ?side2 A5.out).mono ?_); (case side1 => repeat (first | exact (Kd.C_below HR0_1.out HB.out) | (with_reducible refine Kd.C_alloc ?_ _) | (with_reducible refine Kd.C_drewN ?_ _) | (with_reducible refine Kd.C_drew ?_))); (case side2 => exact HC0_1.out); rintro e w73 ⟨rfl, hb⟩; refine ⟨_, rfl, ?_⟩; have n0_ := Aside0.mk (blk_below (g := gb376) (o := .cells #[.int .i64 a0_0, .slice A0_1 l0_1.length c0_1] 24 (0, 0)) (by (with_reducible repeat (first | refine blk_drewN ?_ _ | refine blk_drew ?_ | refine blk_alloc ?_ _)); exact BK376.out) hb); have n1_ := Aside0.mk (below_step (by repeat (first | (with_reducible first | exact HB.out | apply below_alloc | apply pw_below_drewN | apply below_drew1 | refine below_set ?_ GE376.out) | exact HB.out)) hb); clear BK376; clear HB; have BK376 := n0_; have HB := n1_; clear n0_ n1_; (try clear hb); (try clear hb2); (try clear hk); (try clear hi); have hcz74_0 : w73.cell? ⟨gb376, 0, none⟩ = some (.int .i64 a0_0) := (blk_cell BK376.out 0).trans rfl; have hcz74_1 : w73.cell? ⟨gb376, 1, none⟩ = some (.slice A0_1 l0_1.length c0_1) := (blk_cell BK376.out 1).trans rfl; have hfz74_0 := blk_frozen BK376.out 0; have hfz74_1 := blk_frozen BK376.out 1) | ((with_reducible refine gate_callee (f := 14) rfl ?_); refine goesL_ (some 20) rfl rfl Try.func14 (by kernel_rfl) rfl #[.agg #[.int .i64 a0_0, .slice A0_1 l0_1.length c0_1], .int .i64 a1] rfl (by (try simp only [List.map_toArray, List.map_cons, List.map_nil]); first | done | rfl | (simp only [List.length_drop, List.length_take]; rfl)) ?_; (with_reducible refine (grossup_Solve.calls k a0_0 _ _ l0_1 a1 t379 t382 _ ?side1 ?side2 A7.out).mono ?_); (case side1 => repeat (first | exact (Kd.C_below HR0_1.out HB.out) | (with_reducible refine Kd.C_alloc ?_ _) | (with_reducible refine Kd.C_drewN ?_ _) | (with_reducible refine Kd.C_drew ?_))); (case side2 => exact HC0_1.out); rintro e w75 ⟨v380, rfl, ho0, hb⟩; refine ⟨_, rfl, ?_⟩; have n0_ := Aside0.mk (Kd.R_lower ho0 (below_size (by repeat (first | (with_reducible first | exact HB.out | apply below_alloc | apply pw_below_drewN | apply below_drew1 | refine below_set ?_ GE376.out) | exact HB.out)))); have n1_ := Aside0.mk (blk_below (g := gb376) (o := .cells #[.int .i64 a0_0, .slice A0_1 l0_1.length c0_1] 24 (0, 0)) (by (with_reducible repeat (first | refine blk_drewN ?_ _ | refine blk_drew ?_ | refine blk_alloc ?_ _)); exact BK376.out) hb); have n2_ := Aside0.mk (below_step (by repeat (first | (with_reducible first | exact HB.out | apply below_alloc | apply pw_below_drewN | apply below_drew1 | refine below_set ?_ GE376.out) | exact HB.out)) hb); clear BK376; clear HB; have HO381 := n0_; have BK376 := n1_; have HB := n2_; clear n0_ n1_ n2_; (try clear hb); (try clear hb2); (try clear hk); (try clear hi); (try clear ho0); obtain ⟨Ao76, co76, eo76⟩ := Kd.R_slice HO381.out; subst eo76))
        go_ret
        exact ⟨by first | rfl | (simp [errW_none, errW_some] <;> rfl) | (simp [*, errW_none, errW_some] <;> rfl), by repeat (first | (with_reducible first | exact HB.out | apply below_alloc | apply pw_below_drewN | apply below_drew1 | refine below_set ?_ GE376.out) | exact HB.out)⟩
      · replace c69 := Bool.eq_false_iff.mpr c69
        subst c69
        have H1 : (some false) = some r := by rw [if_neg (show ¬ (false = true) by decide)] at H; exact H
        clear H
        have H := H1
        clear H1
        obtain rfl := Option.some.inj H
        go_enter Try.func9, Try.ntmps9
        go_wp2_with (first | ((with_reducible refine gate_dst (N := 3) rfl ?_); (try (refine gate_guard (by rfl) ?_; dsimp only)); refine box_event ?hg (N := 3) ?hd (cs := #[.int .i64 a0_0, .slice A0_1 l0_1.length c0_1]) (t := 24) ?hr ?_; (case hd => rfl); (case hg => rfl); (case hr => first | (go_simp; done) | (go_simp; rfl)); intro gb376 hg w77 hbox hb; have n0_ := Aside0.mk (below_step (by repeat (first | (with_reducible first | exact HB.out | apply below_alloc | apply pw_below_drewN | apply below_drew1) | exact HB.out)) hb); have n1_ := Aside0.mk (hbox); have n2_ := Aside0.mk ((by rw [hg]; exact (below_size (by repeat (first | (with_reducible first | exact HB.out | apply below_alloc | apply pw_below_drewN | apply below_drew1) | exact HB.out))) : w.heap.size ≤ gb376)); have n3_ := Aside0.mk ((by rw [hg]; exact (below_size (by repeat (first | (with_reducible first | exact HB.out | apply below_alloc | apply pw_below_drewN | apply below_drew1) | exact HB.out))) : w.heap.size ≤ gb376)); clear HB; have HB := n0_; have BK376 := n1_; have GW376 := n2_; have GE376 := n3_; clear n0_ n1_ n2_ n3_; clear hb hbox hg) | ((with_reducible refine gate_callee (f := 10) rfl ?_); refine goesL_ (some 12) rfl rfl Try.func10 (by kernel_rfl) rfl #[] rfl (by (try simp only [List.map_toArray, List.map_cons, List.map_nil]); first | done | rfl | (simp only [List.length_drop, List.length_take]; rfl)) ?_; (with_reducible refine (wageofficelaw30_head.calls k  false _ A4.out).mono ?_); rintro e w78 ⟨rfl, hb⟩; refine ⟨_, rfl, ?_⟩; have n0_ := Aside0.mk (blk_below (g := gb376) (o := .cells #[.int .i64 a0_0, .slice A0_1 l0_1.length c0_1] 24 (0, 0)) (by (with_reducible repeat (first | refine blk_drewN ?_ _ | refine blk_drew ?_ | refine blk_alloc ?_ _)); exact BK376.out) hb); have n1_ := Aside0.mk (below_step (by repeat (first | (with_reducible first | exact HB.out | apply below_alloc | apply pw_below_drewN | apply below_drew1 | refine below_set ?_ GE376.out) | exact HB.out)) hb); clear BK376; clear HB; have BK376 := n0_; have HB := n1_; clear n0_ n1_; (try clear hb); (try clear hb2); (try clear hk); (try clear hi); have hcz79_0 : w78.cell? ⟨gb376, 0, none⟩ = some (.int .i64 a0_0) := (blk_cell BK376.out 0).trans rfl; have hcz79_1 : w78.cell? ⟨gb376, 1, none⟩ = some (.slice A0_1 l0_1.length c0_1) := (blk_cell BK376.out 1).trans rfl; have hfz79_0 := blk_frozen BK376.out 0; have hfz79_1 := blk_frozen BK376.out 1) | ((with_reducible refine gate_callee (f := 11) rfl ?_); refine goesL_ (some 14) rfl rfl Try.func11 (by kernel_rfl) rfl #[.agg #[.int .i64 a0_0, .slice A0_1 l0_1.length c0_1]] rfl (by (try simp only [List.map_toArray, List.map_cons, List.map_nil]); first | done | rfl | (simp only [List.length_drop, List.length_take]; rfl)) ?_; (with_reducible refine (wageofficelaw30_few.calls a0_0 _ _ l0_1 true _ ?side1 ?side2 A5.out).mono ?_); (case side1 => repeat (first | exact (Kd.C_below HR0_1.out HB.out) | (with_reducible refine Kd.C_alloc ?_ _) | (with_reducible refine Kd.C_drewN ?_ _) | (with_reducible refine Kd.C_drew ?_))); (case side2 => exact HC0_1.out); rintro e w80 ⟨rfl, hb⟩; refine ⟨_, rfl, ?_⟩; have n0_ := Aside0.mk (blk_below (g := gb376) (o := .cells #[.int .i64 a0_0, .slice A0_1 l0_1.length c0_1] 24 (0, 0)) (by (with_reducible repeat (first | refine blk_drewN ?_ _ | refine blk_drew ?_ | refine blk_alloc ?_ _)); exact BK376.out) hb); have n1_ := Aside0.mk (below_step (by repeat (first | (with_reducible first | exact HB.out | apply below_alloc | apply pw_below_drewN | apply below_drew1 | refine below_set ?_ GE376.out) | exact HB.out)) hb); clear BK376; clear HB; have BK376 := n0_; have HB := n1_; clear n0_ n1_; (try clear hb); (try clear hb2); (try clear hk); (try clear hi); have hcz81_0 : w80.cell? ⟨gb376, 0, none⟩ = some (.int .i64 a0_0) := (blk_cell BK376.out 0).trans rfl; have hcz81_1 : w80.cell? ⟨gb376, 1, none⟩ = some (.slice A0_1 l0_1.length c0_1) := (blk_cell BK376.out 1).trans rfl; have hfz81_0 := blk_frozen BK376.out 0; have hfz81_1 := blk_frozen BK376.out 1) | ((with_reducible refine gate_callee (f := 14) rfl ?_); refine goesL_ (some 20) rfl rfl Try.func14 (by kernel_rfl) rfl #[.agg #[.int .i64 a0_0, .slice A0_1 l0_1.length c0_1], .int .i64 a1] rfl (by (try simp only [List.map_toArray, List.map_cons, List.map_nil]); first | done | rfl | (simp only [List.length_drop, List.length_take]; rfl)) ?_; (with_reducible refine (grossup_Solve.calls k a0_0 _ _ l0_1 a1 t379 t382 _ ?side1 ?side2 A7.out).mono ?_); (case side1 => repeat (first | exact (Kd.C_below HR0_1.out HB.out) | (with_reducible refine Kd.C_alloc ?_ _) | (with_reducible refine Kd.C_drewN ?_ _) | (with_reducible refine Kd.C_drew ?_))); (case side2 => exact HC0_1.out); rintro e w82 ⟨v380, rfl, ho0, hb⟩; refine ⟨_, rfl, ?_⟩; have n0_ := Aside0.mk (Kd.R_lower ho0 (below_size (by repeat (first | (with_reducible first | exact HB.out | apply below_alloc | apply pw_below_drewN | apply below_drew1 | refine below_set ?_ GE376.out) | exact HB.out)))); have n1_ := Aside0.mk (blk_below (g := gb376) (o := .cells #[.int .i64 a0_0, .slice A0_1 l0_1.length c0_1] 24 (0, 0)) (by (with_reducible repeat (first | refine blk_drewN ?_ _ | refine blk_drew ?_ | refine blk_alloc ?_ _)); exact BK376.out) hb); have n2_ := Aside0.mk (below_step (by repeat (first | (with_reducible first | exact HB.out | apply below_alloc | apply pw_below_drewN | apply below_drew1 | refine below_set ?_ GE376.out) | exact HB.out)) hb); clear BK376; clear HB; have HO381 := n0_; have BK376 := n1_; have HB := n2_; clear n0_ n1_ n2_; (try clear hb); (try clear hb2); (try clear hk); (try clear hi); (try clear ho0)))
        go_ret
        exact ⟨by first | rfl | (simp [errW_none, errW_some] <;> rfl) | (simp [*, errW_none, errW_some] <;> rfl), by repeat (first | (with_reducible first | exact HB.out | apply below_alloc | apply pw_below_drewN | apply below_drew1 | refine below_set ?_ GE376.out) | exact HB.out)⟩
  · replace c6 := Bool.eq_false_iff.mpr c6
    subst c6
    have H1 : (some t377) = some r := by rw [if_neg (show ¬ (false = true) by decide)] at H; exact H
    clear H
    have H := H1
    clear H1
    obtain rfl := Option.some.inj H
    go_enter Try.func9, Try.ntmps9
    go_wp2_with (first | ((with_reducible refine gate_dst (N := 3) rfl ?_); (try (refine gate_guard (by rfl) ?_; dsimp only)); refine box_event ?hg (N := 3) ?hd (cs := #[.int .i64 a0_0, .slice A0_1 l0_1.length c0_1]) (t := 24) ?hr ?_; (case hd => rfl); (case hg => rfl); (case hr => first | (go_simp; done) | (go_simp; rfl)); intro gb376 hg w83 hbox hb; have n0_ := Aside0.mk (below_step (by repeat (first | (with_reducible first | exact HB.out | apply below_alloc | apply pw_below_drewN | apply below_drew1) | exact HB.out)) hb); have n1_ := Aside0.mk (hbox); have n2_ := Aside0.mk ((by rw [hg]; exact (below_size (by repeat (first | (with_reducible first | exact HB.out | apply below_alloc | apply pw_below_drewN | apply below_drew1) | exact HB.out))) : w.heap.size ≤ gb376)); have n3_ := Aside0.mk ((by rw [hg]; exact (below_size (by repeat (first | (with_reducible first | exact HB.out | apply below_alloc | apply pw_below_drewN | apply below_drew1) | exact HB.out))) : w.heap.size ≤ gb376)); clear HB; have HB := n0_; have BK376 := n1_; have GW376 := n2_; have GE376 := n3_; clear n0_ n1_ n2_ n3_; clear hb hbox hg) | ((with_reducible refine gate_callee (f := 10) rfl ?_); refine goesL_ (some 12) rfl rfl Try.func10 (by kernel_rfl) rfl #[] rfl (by (try simp only [List.map_toArray, List.map_cons, List.map_nil]); first | done | rfl | (simp only [List.length_drop, List.length_take]; rfl)) ?_; (with_reducible refine (wageofficelaw30_head.calls k  t377 _ A4.out).mono ?_); rintro e w84 ⟨rfl, hb⟩; refine ⟨_, rfl, ?_⟩; have n0_ := Aside0.mk (blk_below (g := gb376) (o := .cells #[.int .i64 a0_0, .slice A0_1 l0_1.length c0_1] 24 (0, 0)) (by (with_reducible repeat (first | refine blk_drewN ?_ _ | refine blk_drew ?_ | refine blk_alloc ?_ _)); exact BK376.out) hb); have n1_ := Aside0.mk (below_step (by repeat (first | (with_reducible first | exact HB.out | apply below_alloc | apply pw_below_drewN | apply below_drew1 | refine below_set ?_ GE376.out) | exact HB.out)) hb); clear BK376; clear HB; have BK376 := n0_; have HB := n1_; clear n0_ n1_; (try clear hb); (try clear hb2); (try clear hk); (try clear hi); have hcz85_0 : w84.cell? ⟨gb376, 0, none⟩ = some (.int .i64 a0_0) := (blk_cell BK376.out 0).trans rfl; have hcz85_1 : w84.cell? ⟨gb376, 1, none⟩ = some (.slice A0_1 l0_1.length c0_1) := (blk_cell BK376.out 1).trans rfl; have hfz85_0 := blk_frozen BK376.out 0; have hfz85_1 := blk_frozen BK376.out 1) | ((with_reducible refine gate_callee (f := 11) rfl ?_); refine goesL_ (some 14) rfl rfl Try.func11 (by kernel_rfl) rfl #[.agg #[.int .i64 a0_0, .slice A0_1 l0_1.length c0_1]] rfl (by (try simp only [List.map_toArray, List.map_cons, List.map_nil]); first | done | rfl | (simp only [List.length_drop, List.length_take]; rfl)) ?_; (with_reducible refine (wageofficelaw30_few.calls a0_0 _ _ l0_1 false _ ?side1 ?side2 A5.out).mono ?_); (case side1 => repeat (first | exact (Kd.C_below HR0_1.out HB.out) | (with_reducible refine Kd.C_alloc ?_ _) | (with_reducible refine Kd.C_drewN ?_ _) | (with_reducible refine Kd.C_drew ?_))); (case side2 => exact HC0_1.out); rintro e w86 ⟨rfl, hb⟩; refine ⟨_, rfl, ?_⟩; have n0_ := Aside0.mk (blk_below (g := gb376) (o := .cells #[.int .i64 a0_0, .slice A0_1 l0_1.length c0_1] 24 (0, 0)) (by (with_reducible repeat (first | refine blk_drewN ?_ _ | refine blk_drew ?_ | refine blk_alloc ?_ _)); exact BK376.out) hb); have n1_ := Aside0.mk (below_step (by repeat (first | (with_reducible first | exact HB.out | apply below_alloc | apply pw_below_drewN | apply below_drew1 | refine below_set ?_ GE376.out) | exact HB.out)) hb); clear BK376; clear HB; have BK376 := n0_; have HB := n1_; clear n0_ n1_; (try clear hb); (try clear hb2); (try clear hk); (try clear hi)))
    go_ret
    exact ⟨by first | rfl | (simp [errW_none, errW_some] <;> rfl) | (simp [*, errW_none, errW_some] <;> rfl), by repeat (first | (with_reducible first | exact HB.out | apply below_alloc | apply pw_below_drewN | apply below_drew1 | refine below_set ?_ GE376.out) | exact HB.out)⟩

end Go.Proofs.Yteapeglolkfimaa.My
end
section
/- What the functions of grossup come to: the bisections, the stretches, the solutions, the least gross amount; and normal forms of spans. -/






namespace Go.Proofs.Yteapeglolkfimaa.GrE
open Go.RowKit Go.Proofs.Yteapeglolkfimaa.My Go.Proofs.Yteapeglolkfimaa.Aid Go.Proofs.Yteapeglolkfimaa.EvA Go.Proofs.Yteapeglolkfimaa.PwE Go.Proofs.YteapeglolkfimaaW.PrintWords Go.Proofs.YteapeglolkfimaaW.PrintLast Go.Proofs.YteapeglolkfimaaW.PrintMore
set_option linter.unusedVariables false
set_option linter.unusedSimpArgs false
abbrev Sp := S36

/-! ### Bisection -/
theorem firstB_spec (p : Int → Bool) : ∀ (m : Nat) (low high : Int), high - low + 1 < 2 ^ m → low ≤ high + 1 → (∀ x y, low ≤ x → x ≤ y → y ≤ high → p x = true → p y = true) →
    low ≤ firstB p m low high ∧ firstB p m low high ≤ high + 1 ∧ (∀ x, low ≤ x → x < firstB p m low high → p x = false) ∧ (∀ x, firstB p m low high ≤ x → x ≤ high → p x = true)
  | 0, low, high, h, h1, _ => by
    rw [firstB]
    exact ⟨by omega, by omega, fun x a b => by omega, fun x a b => by simp at h; omega⟩
  | m + 1, low, high, h, h1, mono => by
    rw [firstB]
    by_cases hl : low ≤ high
    · rw [if_pos hl]
      have hp : (2 : Int) ^ (m + 1) = 2 * 2 ^ m := by rw [Int.pow_succ]; omega
      rw [hp] at h
      obtain ⟨mid, hm⟩ : ∃ mid, low + (high - low) / 2 = mid := ⟨_, rfl⟩
      rw [hm]
      by_cases hpm : p mid = true
      · rw [if_pos hpm]
        obtain ⟨a, b, c, d⟩ := firstB_spec p m low (mid - 1) (by omega) (by omega) (fun x y h1 h2 h3 => mono x y h1 h2 (by omega))
        refine ⟨a, by omega, c, fun x hx hx2 => ?_⟩
        by_cases hlt : x ≤ mid - 1
        · exact d x hx hlt
        · exact mono mid x (by omega) (by omega) hx2 hpm
      · rw [if_neg hpm]
        obtain ⟨a, b, c, d⟩ := firstB_spec p m (mid + 1) high (by omega) (by omega) (fun x y h1 h2 h3 => mono x y (by omega) h2 h3)
        refine ⟨by omega, b, fun x hx hx2 => ?_, d⟩
        by_cases hlt : x ≤ mid
        · cases hpx : p x with
          | false => rfl
          | true => exact absurd (mono x mid hx hlt (by omega) hpx) hpm
        · exact c x (by omega) hx2
    · rw [if_neg hl]
      exact ⟨by omega, by omega, fun x a b => by omega, fun x a b => by omega⟩
theorem cut_iff {low high a b : Int} {g : Int → Int} {falls : Bool} (hw : high - low + 1 < 2 ^ 64)
    (mono : ∀ x y, low ≤ x → x ≤ y → y ≤ high → if falls = true then g y ≤ g x else g x ≤ g y) (x : Int) :
    (cutL low high g falls a b ≤ x ∧ x ≤ cutH low high g falls a b) ↔ (low ≤ x ∧ x ≤ high ∧ a ≤ g x ∧ g x ≤ b) := by
  by_cases hl : low ≤ high
  · cases falls with
    | true =>
      simp only [if_true] at mono
      obtain ⟨a1, a2, a3, a4⟩ := firstB_spec (fun x => decide (g x ≤ b)) 64 low high hw (by omega) (fun x y h1 h2 h3 h => by
        have := mono x y h1 h2 h3; simp only [decide_eq_true_eq] at h ⊢; omega)
      obtain ⟨b1, b2, b3, b4⟩ := firstB_spec (fun x => decide (g x < a)) 64 low high hw (by omega) (fun x y h1 h2 h3 h => by
        have := mono x y h1 h2 h3; simp only [decide_eq_true_eq] at h ⊢; omega)
      have e1 : cutL low high g true a b = firstB (fun x => decide (g x ≤ b)) 64 low high := by unfold cutL; simp
      have e2 : cutH low high g true a b = firstB (fun x => decide (g x < a)) 64 low high - 1 := by unfold cutH; simp
      rw [e1, e2]
      simp only [decide_eq_true_eq, decide_eq_false_iff_not] at a3 a4 b3 b4
      constructor
      · rintro ⟨h1, h2⟩
        have := a4 x h1 (by omega)
        have := b3 x (by omega) (by omega)
        omega
      · rintro ⟨h1, h2, h3, h4⟩
        refine ⟨Int.not_lt.1 fun h => ?_, Int.not_lt.1 fun h => ?_⟩
        · have := a3 x h1 h; omega
        · have := b4 x (by omega) h2; omega
    | false =>
      simp only [Bool.false_eq_true, if_false] at mono
      obtain ⟨a1, a2, a3, a4⟩ := firstB_spec (fun x => decide (a ≤ g x)) 64 low high hw (by omega) (fun x y h1 h2 h3 h => by
        have := mono x y h1 h2 h3; simp only [decide_eq_true_eq] at h ⊢; omega)
      obtain ⟨b1, b2, b3, b4⟩ := firstB_spec (fun x => decide (b < g x)) 64 low high hw (by omega) (fun x y h1 h2 h3 h => by
        have := mono x y h1 h2 h3; simp only [decide_eq_true_eq] at h ⊢; omega)
      have e1 : cutL low high g false a b = firstB (fun x => decide (a ≤ g x)) 64 low high := by unfold cutL; simp
      have e2 : cutH low high g false a b = firstB (fun x => decide (b < g x)) 64 low high - 1 := by unfold cutH; simp
      rw [e1, e2]
      simp only [decide_eq_true_eq, decide_eq_false_iff_not] at a3 a4 b3 b4
      constructor
      · rintro ⟨h1, h2⟩
        have := a4 x h1 (by omega)
        have := b3 x (by omega) (by omega)
        omega
      · rintro ⟨h1, h2, h3, h4⟩
        refine ⟨Int.not_lt.1 fun h => ?_, Int.not_lt.1 fun h => ?_⟩
        · have := a3 x h1 h; omega
        · have := b4 x (by omega) h2; omega
  · have e1 : cutL low high g falls a b = low := by unfold cutL; exact firstB_done _ _ _ _ hl
    have e2 : cutH low high g falls a b = low - 1 := by unfold cutH; rw [firstB_done _ _ _ _ hl]
    rw [e1, e2]
    constructor
    · rintro ⟨h1, h2⟩; omega
    · rintro ⟨h1, h2, _⟩; omega

/-! ### The tax and the net amount on a piece -/
theorem gtax_up {p : Pc} {d x y : Int} (hd : 1 ≤ d) (hs : 0 ≤ p.f2) (h : x ≤ y) : gtax p d x ≤ gtax p d y := by
  unfold gtax
  have := Int.mul_le_mul_of_nonneg_left (show x - p.f0 ≤ y - p.f0 by omega) hs
  exact Int.ediv_le_ediv (by omega) (by omega)
theorem gtax_down {p : Pc} {d x y : Int} (hd : 1 ≤ d) (hs : p.f2 ≤ 0) (h : x ≤ y) : gtax p d y ≤ gtax p d x := by
  unfold gtax
  have := Int.mul_le_mul_of_nonpos_left hs (show x - p.f0 ≤ y - p.f0 by omega)
  exact Int.ediv_le_ediv (by omega) (by omega)
theorem gnet_eq {p : Pc} {d : Int} (hd : 1 ≤ d) (x : Int) : gnet p d x = -((p.f1 + p.f2 * (x - p.f0) - x * d) / d) := by
  unfold gnet gtax
  have := Int.add_mul_ediv_right (p.f1 + p.f2 * (x - p.f0)) (-x) (show d ≠ 0 by omega)
  rw [Int.neg_mul, ← Int.sub_eq_add_neg] at this
  rw [this]; omega
theorem gnet_up {p : Pc} {d x y : Int} (hd : 1 ≤ d) (hs : p.f2 ≤ d) (h : x ≤ y) : gnet p d x ≤ gnet p d y := by
  rw [gnet_eq hd, gnet_eq hd]
  have h1 := Int.mul_le_mul_of_nonneg_left h (show 0 ≤ d - p.f2 by omega)
  have e : ∀ z, p.f1 + p.f2 * (z - p.f0) - z * d = p.f1 - p.f2 * p.f0 - (d - p.f2) * z := fun z => by rw [Int.mul_sub, Int.sub_mul, Int.mul_comm z d]; omega
  rw [e, e]
  have := Int.ediv_le_ediv (show 0 < d by omega) (show p.f1 - p.f2 * p.f0 - (d - p.f2) * y ≤ p.f1 - p.f2 * p.f0 - (d - p.f2) * x by omega)
  omega
theorem gnet_down {p : Pc} {d x y : Int} (hd : 1 ≤ d) (hs : d ≤ p.f2) (h : x ≤ y) : gnet p d y ≤ gnet p d x := by
  rw [gnet_eq hd, gnet_eq hd]
  have h1 := Int.mul_le_mul_of_nonneg_left h (show 0 ≤ p.f2 - d by omega)
  have e : ∀ z, p.f1 + p.f2 * (z - p.f0) - z * d = p.f1 - p.f2 * p.f0 + (p.f2 - d) * z := fun z => by rw [Int.mul_sub, Int.sub_mul, Int.mul_comm z d]; omega
  rw [e, e]
  have := Int.ediv_le_ediv (show 0 < d by omega) (show p.f1 - p.f2 * p.f0 + (p.f2 - d) * x ≤ p.f1 - p.f2 * p.f0 + (p.f2 - d) * y by omega)
  omega
/-- A gross amount of piece k that has a net amount. -/
def Ok (d : Int) (l : List Pc) (k : Nat) (x : Int) : Prop := fr l k ≤ x ∧ x ≤ ghi l k ∧ -1000000000000 ≤ gtax (rd_T39 l (k : Int)) d x ∧ gtax (rd_T39 l (k : Int)) d x ≤ 1000000000000
theorem ghi_bd {d : Int} {l : List Pc} (h : Vld d l) {k : Nat} (hk : k < l.length) : 0 ≤ fr l k ∧ fr l k ≤ ghi l k ∧ ghi l k ≤ 1000000000000 := by
  refine ⟨h.fr0 hk, ?_⟩
  unfold ghi
  split
  · rename_i hk1
    have := h.inc k hk1
    have := (h.good _ hk1).hi
    unfold fr at *
    omega
  · have := (h.good k hk).hi; omega
theorem ghi_next {d : Int} {l : List Pc} (h : Vld d l) {j k : Nat} (hjk : j < k) (hk : k < l.length) : ghi l j < fr l k := by
  unfold ghi
  rw [if_pos (by omega)]
  have := h.le (i := j + 1) (j := k) (by omega) hk
  unfold fr at *
  omega
theorem stretch_iff {d : Int} {l : List Pc} (h : Vld d l) {k : Nat} (hk : k < l.length) (x : Int) : (glow d l k ≤ x ∧ x ≤ ghigh d l k) ↔ Ok d l k x := by
  have hb := ghi_bd h hk
  unfold glow ghigh Ok
  refine cut_iff (by show ghi l k - fr l k + 1 < 2 ^ 64; omega) (fun x y _ hxy _ => ?_) x
  have hd := h.d1
  by_cases hs : (rd_T39 l (k : Int)).f2 < 0
  · rw [decide_eq_true hs, if_pos rfl]; exact gtax_down hd (by omega) hxy
  · rw [decide_eq_false hs, if_neg (by decide)]; exact gtax_up hd (by omega) hxy
theorem stretch_bd {d : Int} {l : List Pc} (h : Vld d l) {k : Nat} (hk : k < l.length) : fr l k ≤ glow d l k ∧ (ghigh d l k ≤ ghi l k ∨ ghigh d l k < glow d l k) := by
  by_cases he : glow d l k ≤ ghigh d l k
  · have h1 := (stretch_iff h hk (glow d l k)).1 ⟨Int.le_refl _, he⟩
    have h2 := (stretch_iff h hk (ghigh d l k)).1 ⟨he, Int.le_refl _⟩
    exact ⟨h1.1, .inl h2.2.1⟩
  · exact ⟨by unfold fr glow cutL; exact (firstB_bd _ 64 _ _).1, .inr (by omega)⟩
theorem sol_iff {d net : Int} {l : List Pc} (h : Vld d l) {k : Nat} (hk : k < l.length) (x : Int) : (solLow d l net k ≤ x ∧ x ≤ solHigh d l net k) ↔ (Ok d l k x ∧ gnet (rd_T39 l (k : Int)) d x = net) := by
  have hb := ghi_bd h hk
  have hs2 := stretch_bd h hk
  unfold solLow solHigh
  rw [cut_iff (by omega) (fun x y _ hxy _ => ?_) x, ← stretch_iff h hk]
  · constructor
    · rintro ⟨h1, h2, h3, h4⟩; exact ⟨⟨h1, h2⟩, by omega⟩
    · rintro ⟨⟨h1, h2⟩, h3⟩; exact ⟨h1, h2, by omega, by omega⟩
  · have hd := h.d1
    by_cases hs : d < (rd_T39 l (k : Int)).f2
    · rw [decide_eq_true hs, if_pos rfl]; exact gnet_down hd (by omega) hxy
    · rw [decide_eq_false hs, if_neg (by decide)]; exact gnet_up hd (by omega) hxy

/-! ### Normal forms -/
def ssGo : Sp → List Sp → Bool
  | x, [] => prB x
  | x, y :: l => prB x && (decide (x.f1 < y.f0) && ssGo y l)
def ssB : List Sp → Bool
  | [] => true
  | x :: l => ssGo x l
theorem ssGo_sd : ∀ {x : Sp} {l : List Sp}, ssGo x l = true → sdGo x l = true
  | x, [], h => h
  | x, y :: l, h => by
    simp only [ssGo, sdGo, Bool.and_eq_true, decide_eq_true_eq] at h ⊢
    exact ⟨h.1, by omega, ssGo_sd h.2.2⟩
theorem ssGo_pr {x : Sp} {l : List Sp} (h : ssGo x l = true) : prB x = true := sdGo_pr (ssGo_sd h)
theorem ssB_sd : ∀ {l : List Sp}, ssB l = true → sdB l = true
  | [], _ => rfl
  | _ :: _, h => ssGo_sd h
theorem ssGo_join : ∀ {x : Sp} {l : List Sp}, ssGo x l = true → joinGo x l = x :: l
  | x, [], _ => rfl
  | x, y :: l, h => by
    simp only [ssGo, Bool.and_eq_true, decide_eq_true_eq] at h
    rw [joinGo, if_neg (by omega), ssGo_join h.2.2]
theorem ssB_join : ∀ {l : List Sp}, ssB l = true → joinL l = l
  | [], _ => rfl
  | _ :: _, h => ssGo_join h
theorem prB_mk {a b c e : Int} (h1 : prB ⟨a, b⟩ = true) (h2 : prB ⟨c, e⟩ = true) (h : a < e) : prB ⟨a, e⟩ = true := by
  have a1 := prB_lt h1
  have a2 := prB_lt h2
  have h9 : (-1152921504606846976 : Int) ≤ a ∧ e ≤ 1152921504606846976 ∧ a < e := ⟨a1.1, a2.2.1, h⟩
  unfold prB
  exact decide_eq_true h9
/-- The first of the joined begins where the first began. -/
theorem joinGo_head : ∀ (l : List Sp) (x : Sp), ∃ y m, joinGo x l = y :: m ∧ y.f0 = x.f0
  | [], x => ⟨x, [], rfl, rfl⟩
  | z :: l, x => by
    rw [joinGo]
    split
    · exact joinGo_head l ⟨x.f0, z.f1⟩
    · exact ⟨x, _, rfl, rfl⟩
theorem sdGo_widen {x y : Sp} {l : List Sp} (h : sdGo x (y :: l) = true) : sdGo ⟨x.f0, y.f1⟩ l = true := by
  have hx := prB_lt (sdGo_pr h)
  simp only [sdGo, Bool.and_eq_true, decide_eq_true_eq] at h
  have hy := prB_lt (sdGo_pr h.2.2)
  have hp : prB ⟨x.f0, y.f1⟩ = true := prB_mk h.1 (sdGo_pr h.2.2) (by omega)
  cases l with
  | nil => exact hp
  | cons z l =>
    have h3 := h.2.2
    simp only [sdGo, Bool.and_eq_true, decide_eq_true_eq] at h3 ⊢
    exact ⟨hp, h3.2⟩
theorem joinGo_ss : ∀ (l : List Sp) (x : Sp), sdGo x l = true → ssB (joinGo x l) = true
  | [], x, h => h
  | y :: l, x, h => by
    rw [joinGo]
    split
    · exact joinGo_ss l _ (sdGo_widen h)
    · rename_i hne
      have h2 := h
      simp only [sdGo, Bool.and_eq_true, decide_eq_true_eq] at h2
      have ih := joinGo_ss l y h2.2.2
      obtain ⟨z, m, e, e0⟩ := joinGo_head l y
      rw [e] at ih ⊢
      show ssGo x (z :: m) = true
      simp only [ssGo, Bool.and_eq_true, decide_eq_true_eq]
      exact ⟨h2.1, by omega, ih⟩
theorem join_ss : ∀ {l : List Sp}, sdB l = true → ssB (joinL l) = true
  | [], _ => rfl
  | x :: l, h => joinGo_ss l x h
theorem joinGo_len : ∀ (l : List Sp) (x : Sp), (joinGo x l).length ≤ l.length + 1
  | [], x => by simp [joinGo]
  | y :: l, x => by
    rw [joinGo]
    split
    · have := joinGo_len l ⟨x.f0, y.f1⟩; simp; omega
    · have := joinGo_len l y; simp; omega
theorem join_len : ∀ l : List Sp, (joinL l).length ≤ l.length
  | [] => by simp [joinL]
  | x :: l => by have := joinGo_len l x; simpa [joinL] using this
theorem hasS_iff (n : Int) (x : Sp) : hasS n x = true ↔ (prB x = true ∧ x.f0 ≤ n ∧ n < x.f1) := by unfold hasS; simp
theorem joinGo_has (n : Int) : ∀ (l : List Sp) (x : Sp), sdGo x l = true → hasB (joinGo x l) n = hasB (x :: l) n
  | [], x, _ => rfl
  | y :: l, x, h => by
    have h2 := h
    simp only [sdGo, Bool.and_eq_true, decide_eq_true_eq] at h2
    rw [joinGo]
    split
    · rename_i he
      rw [joinGo_has n l _ (sdGo_widen h)]
      have hx := prB_lt (sdGo_pr h)
      have hy := prB_lt (sdGo_pr h2.2.2)
      have e : hasS n ⟨x.f0, y.f1⟩ = (hasS n x || hasS n y) := by
        rw [Bool.eq_iff_iff, Bool.or_eq_true, hasS_iff, hasS_iff, hasS_iff]
        have hp : prB ⟨x.f0, y.f1⟩ = true := sdGo_pr (sdGo_widen h)
        constructor
        · rintro ⟨_, h3, h4⟩
          by_cases hn : n < x.f1
          · exact .inl ⟨h2.1, h3, hn⟩
          · exact .inr ⟨sdGo_pr h2.2.2, by omega, h4⟩
        · rintro (⟨_, h3, h4⟩ | ⟨_, h3, h4⟩)
          · exact ⟨hp, h3, by show n < y.f1; omega⟩
          · exact ⟨hp, by show x.f0 ≤ n; omega, h4⟩
      unfold hasB
      rw [List.any_cons, List.any_cons, List.any_cons, e, Bool.or_assoc]
    · have ih := joinGo_has n l y h2.2.2
      unfold hasB at ih ⊢
      rw [List.any_cons, List.any_cons, ih]
theorem join_has (n : Int) : ∀ {l : List Sp}, sdB l = true → hasB (joinL l) n = hasB l n
  | [], _ => rfl
  | x :: l, h => joinGo_has n l x h
theorem eqS_refl (x : Sp) : eqS x x = true := decide_eq_true ⟨rfl, rfl⟩
theorem eqLb_refl : ∀ l : List Sp, eqLb eqS l l = true
  | [] => rfl
  | x :: l => by rw [eqLb, eqS_refl, eqLb_refl l]; rfl
theorem valid_ss {l : List Sp} (h : ssB l = true) (hl : l.length ≤ 1000000) : span_Valid.f l = some true := by
  unfold span_Valid.f span_Normal.f
  rw [if_pos ⟨ssB_sd h, hl⟩, ssB_join h]
  show some (eqLb eqS l l) = some true
  rw [eqLb_refl]
theorem sdGo_snoc {s : Sp} (hs : prB s = true) : ∀ {l : List Sp} {x : Sp}, sdGo x l = true → (∀ y ∈ x :: l, y.f1 ≤ s.f0) → sdGo x (l ++ [s]) = true
  | [], x, h, hb => by
    show (prB x && (decide (x.f1 ≤ s.f0) && prB s)) = true
    rw [show prB x = true from h, hs, decide_eq_true (hb x List.mem_cons_self)]; rfl
  | y :: l, x, h, hb => by
    rw [List.cons_append]
    simp only [sdGo, Bool.and_eq_true, decide_eq_true_eq] at h ⊢
    exact ⟨h.1, h.2.1, sdGo_snoc hs h.2.2 (fun z hz => hb z (List.mem_cons_of_mem _ hz))⟩
theorem sd_snoc {s : Sp} (hs : prB s = true) : ∀ {l : List Sp}, sdB l = true → (∀ y ∈ l, y.f1 ≤ s.f0) → sdB (l ++ [s]) = true
  | [], _, _ => hs
  | x :: l, h, hb => sdGo_snoc hs h hb
/-- A normal form whose points lie together is one span at most. -/
theorem ss_one {l : List Sp} (h : ssB l = true) (hc : ∀ a b n, hasB l a = true → hasB l b = true → a ≤ n → n ≤ b → hasB l n = true) : l.length ≤ 1 := by
  match l, h with
  | [], _ => simp
  | [x], _ => simp
  | x :: y :: m, h =>
    exfalso
    have hge : ∀ z ∈ y :: m, x.f1 < z.f0 := by
      have : ∀ (m : List Sp) (x y : Sp), ssGo x (y :: m) = true → ∀ z ∈ y :: m, x.f1 < z.f0 := by
        intro m
        induction m with
        | nil => intro x y h z hz; simp only [ssGo, Bool.and_eq_true, decide_eq_true_eq] at h; simp at hz; subst hz; exact h.2.1
        | cons u m ih =>
          intro x y h z hz
          simp only [ssGo, Bool.and_eq_true, decide_eq_true_eq] at h
          rcases List.mem_cons.1 hz with rfl | hz
          · exact h.2.1
          · have h4 := ih y u (by simp only [ssGo, Bool.and_eq_true, decide_eq_true_eq]; exact h.2.2) z hz
            have := prB_lt h.2.2.1; omega
      exact this m x y h
    have hx : prB x = true := ssGo_pr h
    have hy : prB y = true := by simp only [ssB, ssGo, Bool.and_eq_true, decide_eq_true_eq] at h; exact ssGo_pr h.2.2
    have lx := prB_lt hx
    have ly := prB_lt hy
    have lxy := hge y List.mem_cons_self
    have e1 : hasB (x :: y :: m) x.f0 = true := by unfold hasB; rw [List.any_cons, (hasS_iff _ _).2 ⟨hx, Int.le_refl _, lx.2.2⟩]; rfl
    have e2 : hasB (x :: y :: m) y.f0 = true := by unfold hasB; rw [List.any_cons, List.any_cons, (hasS_iff y.f0 y).2 ⟨hy, Int.le_refl _, ly.2.2⟩]; simp
    have e3 := hc _ _ x.f1 e1 e2 (by omega) (by omega)
    unfold hasB at e3
    obtain ⟨z, hz, hs⟩ := List.any_eq_true.1 e3
    have hs' := (hasS_iff _ _).1 hs
    rcases List.mem_cons.1 hz with rfl | hz
    · omega
    · have := hge z hz; omega

/-! ### All the solutions -/
theorem solP_mem {d net : Int} {l : List Pc} {k : Nat} {s : Sp} (h : s ∈ solP d l net k) : solLow d l net k ≤ solHigh d l net k ∧ s = ⟨solLow d l net k, solHigh d l net k + 1⟩ := by
  unfold solP at h
  split at h
  · rename_i hl; exact ⟨hl, by simpa using h⟩
  · cases h
theorem solP_bd {d net : Int} {l : List Pc} (hv : Vld d l) {k : Nat} (hk : k < l.length) {s : Sp} (h : s ∈ solP d l net k) : prB s = true ∧ fr l k ≤ s.f0 ∧ s.f1 ≤ ghi l k + 1 := by
  obtain ⟨hl, rfl⟩ := solP_mem h
  have h1 := (sol_iff hv hk (solLow d l net k)).1 ⟨Int.le_refl _, hl⟩
  have h2 := (sol_iff hv hk (solHigh d l net k)).1 ⟨hl, Int.le_refl _⟩
  have hb := ghi_bd hv hk
  have a1 := h1.1.1
  have a2 := h2.1.2.1
  refine ⟨?_, a1, by show solHigh d l net k + 1 ≤ _; omega⟩
  have h9 : (-1152921504606846976 : Int) ≤ solLow d l net k ∧ solHigh d l net k + 1 ≤ 1152921504606846976 ∧ solLow d l net k < solHigh d l net k + 1 := ⟨by omega, by omega, by omega⟩
  unfold prB
  exact decide_eq_true h9
theorem solL_sd {d net : Int} {l : List Pc} (hv : Vld d l) : ∀ n, n ≤ l.length → sdB (solL d l net n) = true ∧ ∀ s ∈ solL d l net n, ∃ k, k < n ∧ s ∈ solP d l net k
  | 0, _ => ⟨rfl, fun s h => by simp [solL] at h⟩
  | n + 1, hn => by
    obtain ⟨i1, i2⟩ := solL_sd hv n (by omega)
    rw [solL_succ]
    refine ⟨?_, fun s hs => ?_⟩
    · unfold solP
      split
      · rename_i hl
        have hm : (⟨solLow d l net n, solHigh d l net n + 1⟩ : Sp) ∈ solP d l net n := by unfold solP; rw [if_pos hl]; exact List.mem_singleton.2 rfl
        obtain ⟨p1, p2, _⟩ := solP_bd hv (by omega) hm
        refine sd_snoc p1 i1 (fun y hy => ?_)
        obtain ⟨k, hk, hyk⟩ := i2 y hy
        have q := (solP_bd hv (by omega) hyk).2.2
        have := ghi_next hv hk (by omega)
        omega
      · rw [List.append_nil]; exact i1
    · rcases List.mem_append.1 hs with hs | hs
      · obtain ⟨k, hk, h2⟩ := i2 s hs; exact ⟨k, by omega, h2⟩
      · exact ⟨n, by omega, hs⟩
theorem solL_mem {d net : Int} {l : List Pc} {k n : Nat} (hk : k < n) {s : Sp} (h : s ∈ solP d l net k) : s ∈ solL d l net n := by
  unfold solL; exact List.mem_flatMap.2 ⟨k, List.mem_range.2 hk, h⟩
theorem sols_iff {d net : Int} {l : List Pc} (hv : Vld d l) (x : Int) : hasB (joinL (solL d l net l.length)) x = true ↔ ∃ k, k < l.length ∧ Ok d l k x ∧ gnet (rd_T39 l (k : Int)) d x = net := by
  obtain ⟨i1, i2⟩ := solL_sd (net := net) hv l.length (Nat.le_refl _)
  rw [join_has x i1]
  unfold hasB
  rw [List.any_eq_true]
  constructor
  · rintro ⟨s, hs, h⟩
    obtain ⟨k, hk, hsk⟩ := i2 s hs
    obtain ⟨hl, rfl⟩ := solP_mem hsk
    have h' := (hasS_iff _ _).1 h
    have a1 : solLow d l net k ≤ x := h'.2.1
    have a2 : x < solHigh d l net k + 1 := h'.2.2
    exact ⟨k, hk, (sol_iff hv hk x).1 ⟨a1, by omega⟩⟩
  · rintro ⟨k, hk, h⟩
    obtain ⟨a1, a2⟩ := (sol_iff hv hk x).2 h
    have hm : (⟨solLow d l net k, solHigh d l net k + 1⟩ : Sp) ∈ solP d l net k := by unfold solP; rw [if_pos (by omega)]; exact List.mem_singleton.2 rfl
    exact ⟨_, solL_mem hk hm, (hasS_iff _ _).2 ⟨(solP_bd hv hk hm).1, a1, by show x < solHigh d l net k + 1; omega⟩⟩

/-! ### What the functions come to -/
theorem ev_mono {α : Type} {g : Nat → Option α} {r : α} {K : Nat} (hm : ∀ k, LeO (g k) (g (k + 1))) (h : g K = some r) : Ev g r := by
  refine ⟨K, fun k hk => ?_⟩
  obtain ⟨e, rfl⟩ := Nat.le.dest hk
  clear hk
  induction e with
  | zero => exact h
  | succ e ih => exact hm _ _ ih
theorem ok_at {d : Int} {l : List Pc} (hv : Vld d l) {k : Nat} (hk : k < l.length) {x : Int} (h : Ok d l k x) : At l x k ∧ 0 ≤ x ∧ x ≤ 1000000000000 := by
  have hb := ghi_bd hv hk
  have h1 := h.1
  have h2 := h.2.1
  exact ⟨⟨hk, h1, fun j hj hjl => by have := ghi_next hv hj hjl; omega⟩, by omega, by omega⟩
theorem net_ok {d : Int} {l : List Pc} (hv : Vld d l) {k : Nat} (hk : k < l.length) {x : Int} (h : Ok d l k x) : Ev (fun n => grossup_Net.f n d l x) (gnet (rd_T39 l (k : Int)) d x, 0) := by
  obtain ⟨ha, h0, h1⟩ := ok_at hv hk h
  have hr := round_ok hv ha h0 h1
  have e : rdown (num l k x) d = (gtax (rd_T39 l (k : Int)) d x, 0) := by
    show (if _ then _ else _) = _
    rw [if_pos ⟨h.2.2.1, h.2.2.2⟩]; rfl
  rw [e] at hr
  unfold grossup_Net.f
  refine ev_bnd hr ?_
  have hw : wrap64 (x - gtax (rd_T39 l (k : Int)) d x) = gnet (rd_T39 l (k : Int)) d x := by
    have a1 := h.2.2.1
    have a2 := h.2.2.2
    rw [w64 (by omega) (by omega)]; rfl
  exact ev_yes rfl (by show Ev (fun _ => some (wrap64 (x - gtax (rd_T39 l (k : Int)) d x), (0 : Int))) _; rw [hw]; exact ev_ret _)
theorem net_no {d x : Int} {l : List Pc} (h : ¬ (Vld d l ∧ ∃ k, k < l.length ∧ Ok d l k x)) : ∃ e, (e = 1 ∨ e = 3) ∧ Ev (fun n => grossup_Net.f n d l x) (0, e) := by
  unfold grossup_Net.f
  by_cases hv : Vld d l ∧ 0 ≤ x ∧ x ≤ 1000000000000
  · obtain ⟨hv, h0, h1⟩ := hv
    obtain ⟨q, hq⟩ := at_ex hv h0
    have hr := round_ok hv hq h0 h1
    have hx : fr l q ≤ x ∧ x ≤ ghi l q := by
      refine ⟨hq.le, ?_⟩
      unfold ghi
      split
      · rename_i hk; have := hq.nx (q + 1) (by omega) hk; unfold fr at this; omega
      · exact h1
    have e : rdown (num l q x) d = (0, 3) := by
      show (if _ then _ else _) = _
      rw [if_neg]
      rintro ⟨h2, h3⟩
      exact h ⟨hv, q, hq.lt, hx.1, hx.2, h2, h3⟩
    rw [e] at hr
    exact ⟨3, .inr rfl, ev_bnd hr (ev_no (by decide) (ev_ret _))⟩
  · exact ⟨1, .inl rfl, ev_bnd (round_no hv) (ev_no (by decide) (ev_ret _))⟩
/-- A gross amount has a net amount, or it has none. -/
theorem net_ev (d x : Int) (l : List Pc) : (∃ k, Vld d l ∧ k < l.length ∧ Ok d l k x ∧ Ev (fun n => grossup_Net.f n d l x) (gnet (rd_T39 l (k : Int)) d x, 0)) ∨
    (¬ (Vld d l ∧ ∃ k, k < l.length ∧ Ok d l k x)) ∧ ∃ e, (e = 1 ∨ e = 3) ∧ Ev (fun n => grossup_Net.f n d l x) (0, e) := by
  by_cases h : Vld d l ∧ ∃ k, k < l.length ∧ Ok d l k x
  · obtain ⟨hv, k, hk, ho⟩ := h
    exact .inl ⟨k, hv, hk, ho, net_ok hv hk ho⟩
  · exact .inr ⟨h, net_no h⟩
theorem ok_unique {d x : Int} {l : List Pc} (hv : Vld d l) {j k : Nat} (hj : j < l.length) (hk : k < l.length) (h1 : Ok d l j x) (h2 : Ok d l k x) : j = k :=
  (ok_at hv hj h1).1.unique (ok_at hv hk h2).1
theorem check_ev (d net : Int) (l : List Pc) : ∃ e, Ev (fun n => grossup_check.f n d l net) e ∧ ((e = 0 ∧ Vld d l ∧ -1000000000000 ≤ net ∧ net ≤ 1000000000000) ∨ (e = 1 ∧ ¬ Vld d l) ∨ (e = 3 ∧ Vld d l ∧ ¬ (-1000000000000 ≤ net ∧ net ≤ 1000000000000))) := by
  obtain ⟨b, hb, hv⟩ := valid_ev d l
  unfold grossup_check.f
  cases b with
  | false => exact ⟨1, ev_bnd hb (ev_no (by decide) (ev_ret _)), .inr (.inl ⟨rfl, fun h => by have := hv.2 h; cases this⟩)⟩
  | true =>
    by_cases h1 : net < -1000000000000
    · exact ⟨3, ev_bnd hb (ev_yes rfl (ev_yes h1 (ev_ret _))), .inr (.inr ⟨rfl, hv.1 rfl, by omega⟩)⟩
    · by_cases h2 : net > 1000000000000
      · exact ⟨3, ev_bnd hb (ev_yes rfl (ev_no h1 (ev_yes h2 (ev_ret _)))), .inr (.inr ⟨rfl, hv.1 rfl, by omega⟩)⟩
      · exact ⟨0, ev_bnd hb (ev_yes rfl (ev_no h1 (ev_no h2 (ev_ret _)))), .inl ⟨rfl, hv.1 rfl, by omega, by omega⟩⟩
def solA (d net : Int) (l : List Pc) : List Sp := joinL (solL d l net l.length)
theorem solA_ss {d net : Int} {l : List Pc} (hv : Vld d l) : ssB (solA d net l) = true := join_ss (solL_sd hv _ (Nat.le_refl _)).1
theorem solA_len (d net : Int) (l : List Pc) : (solA d net l).length ≤ l.length := Nat.le_trans (join_len _) (solL_len d l net l.length)
theorem solve_ev (d net : Int) (l : List Pc) : (Vld d l ∧ -1000000000000 ≤ net ∧ net ≤ 1000000000000 ∧ Ev (fun n => grossup_Solve.f n d l net) (solA d net l, 0)) ∨
    (∃ e, Ev (fun n => grossup_Solve.f n d l net) ([], e) ∧ ((e = 1 ∧ ¬ Vld d l) ∨ (e = 3 ∧ Vld d l ∧ ¬ (-1000000000000 ≤ net ∧ net ≤ 1000000000000)))) := by
  obtain ⟨e, he, h⟩ := check_ev d net l
  unfold grossup_Solve.f
  rcases h with ⟨rfl, hv, h1, h2⟩ | ⟨rfl, h⟩ | ⟨rfl, h⟩
  · refine .inl ⟨hv, h1, h2, ev_bnd he (ev_yes rfl (ev_bnd (ev_lift ?_) (ev_ret _)))⟩
    unfold span_Normal.f
    have := solL_len d l net l.length
    have := hv.n2
    rw [if_pos ⟨(solL_sd hv _ (Nat.le_refl _)).1, by omega⟩]; rfl
  · exact .inr ⟨1, ev_bnd he (ev_no (by decide) (ev_ret _)), .inl ⟨rfl, h⟩⟩
  · exact .inr ⟨3, ev_bnd he (ev_no (by decide) (ev_ret _)), .inr ⟨rfl, h⟩⟩
theorem least_ev (d net : Int) (l : List Pc) : (Vld d l ∧ -1000000000000 ≤ net ∧ net ≤ 1000000000000 ∧ Ev (fun n => grossup_Least.f n d l net) (leF d l net)) ∨
    (∃ e, Ev (fun n => grossup_Least.f n d l net) (0, e) ∧ ((e = 1 ∧ ¬ Vld d l) ∨ (e = 3 ∧ Vld d l ∧ ¬ (-1000000000000 ≤ net ∧ net ≤ 1000000000000)))) := by
  obtain ⟨e, he, h⟩ := check_ev d net l
  unfold grossup_Least.f
  rcases h with ⟨rfl, hv, h1, h2⟩ | ⟨rfl, h⟩ | ⟨rfl, h⟩
  · exact .inl ⟨hv, h1, h2, ev_bnd he (ev_yes rfl (ev_ret _))⟩
  · exact .inr ⟨1, ev_bnd he (ev_no (by decide) (ev_ret _)), .inl ⟨rfl, h⟩⟩
  · exact .inr ⟨3, ev_bnd he (ev_no (by decide) (ev_ret _)), .inr ⟨rfl, h⟩⟩
theorem find_range (p : Nat → Bool) : ∀ n, (∀ k, (List.range n).find? p = some k → p k = true ∧ k < n ∧ ∀ j, j < k → p j = false) ∧ ((List.range n).find? p = none → ∀ j, j < n → p j = false)
  | 0 => ⟨fun k h => by simp at h, fun _ j h => by omega⟩
  | n + 1 => by
    obtain ⟨i1, i2⟩ := find_range p n
    rw [List.range_succ, List.find?_append]
    cases hf : (List.range n).find? p with
    | some m =>
      refine ⟨fun k h => ?_, fun h => by simp at h⟩
      obtain rfl : m = k := by simpa using h
      obtain ⟨a, b, c⟩ := i1 m hf
      exact ⟨a, by omega, c⟩
    | none =>
      have hn := i2 hf
      cases hp : p n with
      | true =>
        refine ⟨fun k h => ?_, fun h => by simp [hp] at h⟩
        obtain rfl : n = k := by simpa [hp] using h
        exact ⟨hp, by omega, hn⟩
      | false =>
        refine ⟨fun k h => by simp [hp] at h, fun _ j hj => ?_⟩
        by_cases e : j = n
        · rw [e]; exact hp
        · exact hn j (by omega)
theorem leX_min {d net : Int} {l : List Pc} (hv : Vld d l) {k : Nat} (hk : k < l.length) {y : Int} (ho : Ok d l k y) (hn : net ≤ gnet (rd_T39 l (k : Int)) d y) : leOk d l net k = true ∧ leX d l net k ≤ y := by
  obtain ⟨h1, h2⟩ := (stretch_iff hv hk y).2 ho
  have hd := hv.d1
  have hsb := stretch_bd hv hk
  have hgb := ghi_bd hv hk
  have key : leX d l net k ≤ y ∧ net ≤ gnet (rd_T39 l (k : Int)) d (leX d l net k) := by
    unfold leX
    by_cases hs : d < (rd_T39 l (k : Int)).f2
    · rw [if_pos hs]
      exact ⟨h1, Int.le_trans hn (gnet_down hd (by omega) h1)⟩
    · rw [if_neg hs]
      obtain ⟨a, b, c, e⟩ := firstB_spec (fun x => decide (net ≤ gnet (rd_T39 l (k : Int)) d x)) 64 (glow d l k) (ghigh d l k) (by omega) (by omega) (fun x z _ hxz _ hx => by
        have := gnet_up (p := rd_T39 l (k : Int)) hd (show (rd_T39 l (k : Int)).f2 ≤ d by omega) hxz
        simp only [decide_eq_true_eq] at hx ⊢; omega)
      simp only [decide_eq_true_eq, decide_eq_false_iff_not] at c e
      have hry : firstB (fun x => decide (net ≤ gnet (rd_T39 l (k : Int)) d x)) 64 (glow d l k) (ghigh d l k) ≤ y := Int.not_lt.1 fun h => c y h1 h hn
      exact ⟨hry, e _ (Int.le_refl _) (by omega)⟩
  refine ⟨?_, key.1⟩
  unfold leOk
  rw [decide_eq_true (show leX d l net k ≤ ghigh d l k by omega), decide_eq_true key.2]; rfl
theorem leX_ok {d net : Int} {l : List Pc} (hv : Vld d l) {k : Nat} (hk : k < l.length) (h : leOk d l net k = true) : Ok d l k (leX d l net k) ∧ net ≤ gnet (rd_T39 l (k : Int)) d (leX d l net k) := by
  unfold leOk at h
  simp only [Bool.and_eq_true, decide_eq_true_eq] at h
  refine ⟨(stretch_iff hv hk _).1 ⟨?_, h.1⟩, h.2⟩
  unfold leX
  split
  · exact Int.le_refl _
  · exact (firstB_bd _ 64 _ _).1
theorem le_spec {d net : Int} {l : List Pc} (hv : Vld d l) : (∃ k x, leF d l net = (x, 0) ∧ k < l.length ∧ Ok d l k x ∧ net ≤ gnet (rd_T39 l (k : Int)) d x ∧ ∀ j y, j < l.length → Ok d l j y → net ≤ gnet (rd_T39 l (j : Int)) d y → x ≤ y) ∨
    (leF d l net = (0, 301) ∧ ∀ j y, j < l.length → Ok d l j y → ¬ net ≤ gnet (rd_T39 l (j : Int)) d y) := by
  obtain ⟨f1, f2⟩ := find_range (leOk d l net) l.length
  unfold leF
  cases hf : (List.range l.length).find? (leOk d l net) with
  | some k =>
    obtain ⟨a, b, c⟩ := f1 k hf
    obtain ⟨o1, o2⟩ := leX_ok hv b a
    refine .inl ⟨k, leX d l net k, rfl, b, o1, o2, fun j y hj ho hn => ?_⟩
    obtain ⟨m1, m2⟩ := leX_min hv hj ho hn
    rcases Nat.lt_trichotomy j k with h | h | h
    · rw [c j h] at m1; cases m1
    · subst h; exact m2
    · have := ghi_next hv h hj
      have h3 := o1.2.1
      have h4 := ho.1
      omega
  | none =>
    refine .inr ⟨rfl, fun j y hj ho hn => ?_⟩
    have := (leX_min hv hj ho hn).1
    rw [f2 hf j hj] at this; cases this
end Go.Proofs.Yteapeglolkfimaa.GrE
end
section
/- A value that can be read as data is a value of the print's kinds: numbers, bools, strings, slices, structs, to any depth. -/





namespace Go.Proofs.Yteapeglolkfimaa.Opn
open Go Go.RowKit Go.Proofs.YteapeglolkfimaaW.PrintWords Go.Proofs.YteapeglolkfimaaW.PrintLast Go.Proofs.YteapeglolkfimaaW.PrintMore
set_option linter.unusedVariables false
set_option linter.unusedSimpArgs false

def Opn (P : Program) (t : TypeId) {α : Type} (d : Kd α) (B : α → Prop) : Prop :=
  ∀ {H : Type} (enc : TypeId × Value → H) (w : World) (base : Nat) (spare : Nat → Bool) (held : Bool) (fuel : Nat) (cs : List Value) (x : DataW H × List MemPlace),
    DataW.trod enc P w base spare held fuel t cs = some x → ∃ a : α, Kd.FK d w (fun _ => True) a cs ∧ B a
theorem Opn.int {P : Program} {t : TypeId} {k : IntKind} (ht : P.underlying t = some (.int k)) : Opn P t (Kd.int k) (fun n => (Lit.int k n).wf = true) := by
  intro H enc w base spare held fuel cs x h
  obtain ⟨n, rfl, _, hw⟩ := DataW.trod_int ht h
  exact ⟨n, fun _ _ => rfl, hw⟩
theorem Opn.bool {P : Program} {t : TypeId} (ht : P.underlying t = some .bool) : Opn P t Kd.bool (fun _ => True) := by
  intro H enc w base spare held fuel cs x h
  obtain ⟨n, rfl, _⟩ := DataW.trod_bool ht h
  exact ⟨n, fun _ _ => rfl, trivial⟩
theorem Opn.string {P : Program} {t : TypeId} (ht : P.underlying t = some .string) : Opn P t Kd.string (fun s => s.size ≤ maxLen) := by
  intro H enc w base spare held fuel cs x h
  obtain ⟨s, rfl, _, hs⟩ := DataW.trod_string ht h
  exact ⟨s, fun _ _ => rfl, hs⟩
theorem cell_same {w W : World} {a : Addr} {v : Value} (h : w.cell? a = some v) (hW : ∀ k, True → k < w.heap.size → W.heap[k]? = w.heap[k]?) : W.cell? a = w.cell? a := by
  have := hW a.block trivial (World.block_lt_of_cell? w a h)
  unfold World.cell?
  rw [this]
theorem list_of {α : Type} {n : Nat} {p : Nat → α → Prop} (h : ∀ i, i < n → ∃ x, p i x) : ∃ xs : List α, xs.length = n ∧ ∀ i (hi : i < xs.length), p i xs[i] := by
  induction n with
  | zero => exact ⟨[], rfl, fun i hi => absurd hi (by simp)⟩
  | succ n ih =>
    obtain ⟨xs, hl, hx⟩ := ih fun i hi => h i (by omega)
    obtain ⟨x, hp⟩ := h n (by omega)
    refine ⟨xs ++ [x], by simp [hl], fun i hi => ?_⟩
    rw [List.length_append] at hi
    by_cases e : i < xs.length
    · rw [List.getElem_append_left e]; exact hx i e
    · have : i = n := by simp at hi; omega
      subst this
      rw [List.getElem_append_right (by omega)]
      simp [hl]; exact hp
theorem Opn.slice {P : Program} {t e : TypeId} {α : Type} {d : Kd α} {B : α → Prop} (ht : P.underlying t = some (.slice e)) (hc : P.cellsOf e = d.sz) (he : Opn P e d B) :
    Opn P t (Kd.slice e d) (fun l => l.length ≤ maxLen ∧ ∀ x ∈ l, B x) := by
  intro H enc w base spare held fuel cs x h
  rcases DataW.trod_slice ht h with ⟨rfl, _⟩ | ⟨a, len, cap, elems, rest, n, _, rfl, _, hb, hl, hm, hlen, hel, _⟩
  · exact ⟨[], fun _ _ => ⟨none, 0, rfl, Nat.le_refl _, ⟨rfl, by simp, fun h => absurd h (by simp)⟩⟩, by simp, fun x hx => by simp at hx⟩
  · have hx : ∀ i, i < len → ∃ y : α, (∃ ci, w.cells? base (a.add (i * P.cellsOf e)) (P.cellsOf e) = some ci ∧ Kd.FK d w (fun _ => True) y ci) ∧ B y := by
      intro i hi
      have h1 := hel i hi
      rw [List.getElem?_eq_getElem (by omega)] at h1
      obtain ⟨ci, hci, hy⟩ := Option.bind_eq_some_iff.1 h1
      obtain ⟨y, hK, hB⟩ := he enc w base spare held n ci _ hy
      exact ⟨y, ⟨ci, hci, hK⟩, hB⟩
    obtain ⟨xs, hxl, hxs⟩ := list_of hx
    subst hxl
    refine ⟨xs, fun W' hW' => ⟨some a, cap, rfl, hl, ⟨rfl, by unfold maxLen at hm; omega, fun _ => ⟨a, rfl, fun j p hj => ?_⟩⟩⟩, by omega, fun x hx => ?_⟩
    · obtain ⟨hjl, rfl⟩ := List.getElem?_eq_some_iff.1 hj
      obtain ⟨⟨ci, hci, hK⟩, _⟩ := hxs j hjl
      refine ⟨ci, d.K_len (hK W' hW'), hK W' hW', fun i u hu => ?_⟩
      unfold World.cells? at hci
      split at hci
      · have hcl := mapM_some_length hci
        have hi : i < ci.length := (List.getElem?_eq_some_iff.1 hu).1
        have hg := mapM_some_get hci i i (by rw [List.getElem?_range (by simpa [hcl] using hi)])
        rw [hu] at hg
        rw [← hc, ← Go.Deep.add_add]
        exact (cell_same hg hW').trans hg
      · cases hci
    · obtain ⟨i, hi, rfl⟩ := List.getElem_of_mem hx
      exact (hxs i hi).2

def OpnFs (P : Program) (fs : List Field) (off : Nat) {α : Type} (d : Kd α) (B : α → Prop) : Prop :=
  ∀ {H : Type} (enc : TypeId × Value → H) (w : World) (base : Nat) (spare : Nat → Bool) (held : Bool) (n : Nat) (cs : List Value),
    (∀ (i : Nat) (f : Field), fs[i]? = some f → ∃ y, DataW.trod enc P w base spare held n f.type ((cs.drop f.offset).take (P.cellsOf f.type)) = some y) → cs.length = off + d.sz → ∃ a : α, Kd.FK d w (fun _ => True) a (cs.drop off) ∧ B a
theorem OpnFs.one {P : Program} {f : Field} {off : Nat} {α : Type} {d : Kd α} {B : α → Prop} (ho : f.offset = off) (hc : P.cellsOf f.type = d.sz) (h : Opn P f.type d B) : OpnFs P [f] off d B := by
  intro H enc w base spare held n cs hf hl
  obtain ⟨y, hy⟩ := hf 0 f rfl
  rw [ho, List.take_of_length_le (by rw [List.length_drop]; omega)] at hy
  exact h enc w base spare held n _ _ hy
theorem OpnFs.cons {P : Program} {f : Field} {fs : List Field} {off : Nat} {α β : Type} {a : Kd α} {b : Kd β} {Ba : α → Prop} {Bb : β → Prop} (ho : f.offset = off) (hc : P.cellsOf f.type = a.sz) (h : Opn P f.type a Ba)
    (hs : OpnFs P fs (off + a.sz) b Bb) : OpnFs P (f :: fs) off (Kd.pair a b) (fun x => Ba x.1 ∧ Bb x.2) := by
  intro H enc w base spare held n cs hf hl
  have hl' : cs.length = off + (a.sz + b.sz) := hl
  obtain ⟨y, hy⟩ := hf 0 f rfl
  obtain ⟨x1, hK1, hB1⟩ := h enc w base spare held n _ _ hy
  obtain ⟨x2, hK2, hB2⟩ := hs enc w base spare held n cs (fun i g hg => hf (i + 1) g (by simpa using hg)) (by omega)
  refine ⟨(x1, x2), fun W' hW' => ⟨(cs.drop off).take a.sz, cs.drop (off + a.sz), ?_, ?_, hK2 W' hW'⟩, hB1, hB2⟩
  · rw [← List.drop_drop, List.take_append_drop]
  · rw [ho, hc] at hK1; exact hK1 W' hW'
theorem OpnFs.iso {P : Program} {fs : List Field} {off : Nat} {α β : Type} {d : Kd α} {B : α → Prop} (f : β → α) (g : α → β) (hg : ∀ a, f (g a) = a) (h : OpnFs P fs off d B) : OpnFs P fs off (Kd.iso d f) (fun x => B (f x)) := by
  intro H enc w base spare held n cs hf hl
  obtain ⟨a, hK, hB⟩ := h enc w base spare held n cs hf hl
  exact ⟨g a, fun W' hW' => show d.K W' (f (g a)) _ from (hg a).symm ▸ hK W' hW', show B (f (g a)) from (hg a).symm ▸ hB⟩
theorem Opn.struct {P : Program} {t : TypeId} {fs : Array Field} {α : Type} {d : Kd α} {B : α → Prop} (ht : P.underlying t = some (.struct fs)) (hc : P.cellsOf t = d.sz) (h : OpnFs P fs.toList 0 d B) : Opn P t d B := by
  intro H enc w base spare held fuel cs x hx
  obtain ⟨xs, n, _, _, hl, hxl, hf⟩ := DataW.trod_struct ht hx
  obtain ⟨a, hK, hB⟩ := h enc w base spare held n cs (fun i f hi => by
    have hi' : fs[i]? = some f := by simpa using hi
    have h1 := hf i f hi'
    have hlt : i < xs.length := by rw [hxl]; exact (Array.getElem?_eq_some_iff.1 hi').1
    rw [List.getElem?_eq_getElem hlt] at h1
    exact ⟨_, h1⟩) (by omega)
  exact ⟨a, hK, hB⟩
theorem Opn.mono {P : Program} {t : TypeId} {α : Type} {d : Kd α} {B B' : α → Prop} (h : Opn P t d B) (hB : ∀ a, B a → B' a) : Opn P t d B' := by
  intro H enc w base spare held fuel cs x hx
  obtain ⟨a, hK, hb⟩ := h enc w base spare held fuel cs x hx
  exact ⟨a, hK, hB a hb⟩
theorem arr_of {cs : Array Value} {l : List Value} (h : cs.toList = l) : cs = l.toArray := by subst h; simp
end Go.Proofs.Yteapeglolkfimaa.Opn
end
section
-- Written by a program of this session (wip/myprint.py), which drives the kit's print over hand-written fragments. Not trusted: Lean checks it.


namespace Go.Proofs.Yteapeglolkfimaa.My
open Go.RowKit Go.Proofs.Yteapeglolkfimaa.My Go.Proofs.YteapeglolkfimaaW.PrintWords Go.Proofs.YteapeglolkfimaaW.PrintLast Go.Proofs.YteapeglolkfimaaW.PrintMore Go.Proofs.Yteapeglolkfimaa.Opn
set_option linter.unusedVariables false
set_option linter.unusedSimpArgs false
def B39 (x : S39) : Prop := ((Lit.int .i64 x.f0).wf = true) ∧ ((Lit.int .i64 x.f1).wf = true) ∧ ((Lit.int .i64 x.f2).wf = true)
theorem opn39 : Opn Try.prog 39 k39 B39 :=
  Opn.mono (Opn.struct Try.underlying39 (by kernel_rfl) (OpnFs.iso (fun x : S39 => (x.f0, x.f1, x.f2)) (fun a => (⟨a.1, a.2.1, a.2.2⟩ : S39)) (fun _ => rfl) (OpnFs.cons rfl (by kernel_rfl) (Opn.int Try.underlying3) (OpnFs.cons rfl (by kernel_rfl) (Opn.int Try.underlying3) (OpnFs.one rfl (by kernel_rfl) (Opn.int Try.underlying3)))))) (fun _ h => h)
def B24 (x : S24) : Prop := ((Lit.int .i64 x.f0).wf = true) ∧ ((x.f1.length ≤ maxLen ∧ ∀ y ∈ x.f1, B39 y))
theorem opn24 : Opn Try.prog 24 k24 B24 :=
  Opn.mono (Opn.struct Try.underlying24 (by kernel_rfl) (OpnFs.iso (fun x : S24 => (x.f0, x.f1)) (fun a => (⟨a.1, a.2⟩ : S24)) (fun _ => rfl) (OpnFs.cons rfl (by kernel_rfl) (Opn.int Try.underlying3) (OpnFs.one rfl (by kernel_rfl) (Opn.slice Try.underlying22 (by kernel_rfl) opn39))))) (fun _ h => h)
theorem k24_openF {W : World} {ok : Nat → Prop} {x : S24} {cs : List Value} (h : Kd.FK k24 W ok x cs) : ∃ A1 c1, cs = [.int .i64 x.f0, .slice A1 x.f1.length c1] ∧ x.f1.length ≤ c1 ∧ Kd.F k39 W ok A1 x.f1.length x.f1 := by
  obtain ⟨A1, c1, rfl, l1, _⟩ := k24_open (Kd.FK_now h)
  exact ⟨A1, c1, rfl, l1, (fun W' hW => by obtain ⟨A1_, c1_, he, l1_, g1_⟩ := k24_open (h W' hW); injection (Option.some.inj (show some (Value.slice A1 (x.f1.length) c1) = some (Value.slice A1_ (x.f1.length) c1_) from congrArg (fun l => l[1]?) he)) with ha_ _ _; rw [ha_]; exact g1_)⟩
end Go.Proofs.Yteapeglolkfimaa.My
end
section
/- The laws' common parts: the fixed examples, few pieces, equal lists. -/




namespace Go.Proofs.Yteapeglolkfimaa.GrH
open Go.RowKit Go.Proofs.Yteapeglolkfimaa.My Go.Proofs.Yteapeglolkfimaa.Aid Go.Proofs.Yteapeglolkfimaa.EvA Go.Proofs.Yteapeglolkfimaa.PwE Go.Proofs.Yteapeglolkfimaa.GrE Go.Proofs.YteapeglolkfimaaW.PrintWords Go.Proofs.YteapeglolkfimaaW.PrintLast Go.Proofs.YteapeglolkfimaaW.PrintMore
set_option linter.unusedVariables false
set_option linter.unusedSimpArgs false
theorem ev_tt {b : Bool} (h : b = true) : Ev (fun _ => some b) true := h ▸ ev_ret b
set_option maxRecDepth 100000 in
theorem head_ok : wageofficelaw30_head.f 150 = some true := by decide +kernel
theorem head_ev : Ev (fun k => wageofficelaw30_head.f k) true := ev_mono wageofficelaw30_head.mono head_ok
theorem spans_loop (l : List Sp) (hl : l.length ≤ 1000000) : ∀ (m i : Nat), i + m = l.length → Ev (fun k => wageofficeref30_Spans.l0 k l l (i : Int)) true
  | 0, i, hi => by
    refine ev_up ?_
    simp only [wageofficeref30_Spans.l0]
    exact ev_no (by omega) (ev_ret _)
  | m + 1, i, hi => by
    refine ev_up ?_
    simp only [wageofficeref30_Spans.l0]
    refine ev_yes (by omega) (ev_yes (by omega) (ev_yes (by omega) (ev_no (by simp) ?_)))
    have hw : wrap64 ((i : Int) + 1) = ((i + 1 : Nat) : Int) := by rw [w64 (by omega) (by omega)]; omega
    rw [hw]
    exact spans_loop l hl m (i + 1) (by omega)
theorem spans_ev (l : List Sp) (hl : l.length ≤ 1000000) : Ev (fun k => wageofficeref30_Spans.f k l l) true := by
  unfold wageofficeref30_Spans.f
  exact ev_yes rfl (spans_loop l hl l.length 0 (by omega))
end Go.Proofs.Yteapeglolkfimaa.GrH
end
section
-- Written by a program of this session (wip/myprint.py), which drives the kit's print over hand-written fragments. Not trusted: Lean checks it.


namespace Go.Proofs.Yteapeglolkfimaa.My
open Go.RowKit Go.Proofs.Yteapeglolkfimaa.My Go.Proofs.YteapeglolkfimaaW.PrintWords Go.Proofs.YteapeglolkfimaaW.PrintLast Go.Proofs.YteapeglolkfimaaW.PrintMore Go.Proofs.Yteapeglolkfimaa.Opn
set_option linter.unusedVariables false
set_option linter.unusedSimpArgs false
def wageofficelaw30_GrossupSolutions.Pure : Prop := ∀ (a0_0 : Int) (l0_1 : List (S39)) (a1 : Int) (a2 : Int), ((Lit.int .i64 a0_0).wf = true) → ((l0_1.length ≤ maxLen ∧ ∀ y ∈ l0_1, B39 y)) → ((Lit.int .i64 a1).wf = true) → ((Lit.int .i64 a2).wf = true) → ∃ k, wageofficelaw30_GrossupSolutions.f k a0_0 l0_1 a1 a2 = some true
theorem wageofficelaw30_GrossupSolutions.truth (P : wageofficelaw30_GrossupSolutions.Pure) (a0_0 : Int) (A0_1 : Option Addr) (c0_1 : Nat) (l0_1 : List (S39)) (a1 : Int) (a2 : Int) (w : World) (hr0_1 : Kd.F k39 w (fun _ => True) A0_1 l0_1.length l0_1) (hc0_1 : l0_1.length ≤ c0_1) (hb0_0 : (Lit.int .i64 a0_0).wf = true) (hb0_1 : (l0_1.length ≤ maxLen ∧ ∀ y ∈ l0_1, B39 y)) (hb1 : (Lit.int .i64 a1).wf = true) (hb2 : (Lit.int .i64 a2).wf = true) :
    Calls Try.prog 9 #[.agg #[.int .i64 a0_0, .slice A0_1 l0_1.length c0_1], .int .i64 a1, .int .i64 a2] w fun e w' => e = .returned (.bool true) ∧ Below w.heap.size w w' := by
  obtain ⟨k, h⟩ := P a0_0 l0_1 a1 a2 hb0_0 hb0_1 hb1 hb2
  exact (wageofficelaw30_GrossupSolutions.calls k a0_0 A0_1 c0_1 l0_1 a1 a2 true w (Kd.F_now hr0_1) hc0_1 h).mono (fun e w' he => ⟨he.1, he.2⟩)
end Go.Proofs.Yteapeglolkfimaa.My
end
section
namespace Go.Proofs.Yteapeglolkfimaa.Pure
set_option linter.unusedVariables false
set_option linter.unusedSimpArgs false
open Go.RowKit Go.Proofs.Yteapeglolkfimaa.My Go.Proofs.Yteapeglolkfimaa.Aid Go.Proofs.Yteapeglolkfimaa.EvA Go.Proofs.Yteapeglolkfimaa.PwE Go.Proofs.Yteapeglolkfimaa.GrE Go.Proofs.Yteapeglolkfimaa.GrH Go.Proofs.YteapeglolkfimaaW.PrintWords Go.Proofs.YteapeglolkfimaaW.PrintLast Go.Proofs.YteapeglolkfimaaW.PrintMore
theorem GrossupSolutions : wageofficelaw30_GrossupSolutions.Pure := by
  intro d l net x hd hl hn hx
  apply ev_ex
  unfold wageofficelaw30_GrossupSolutions.f
  refine ev_bnd head_ev (ev_bnd (ev_lift rfl) (ev_ite (fun _ => ?_) (fun _ => ev_ret _)))
  rcases solve_ev d net l with ⟨hv, h1, h2, hs⟩ | ⟨e, hs, he⟩
  · refine ev_bnd hs (ev_yes (by first | rfl | trivial) ?_)
    have hlen := solA_len d net l
    have hn2 := hv.n2
    have hV : span_Valid.f (solA d net l) = some true := valid_ss (solA_ss hv) (by omega)
    have hH := sols_iff (net := net) hv x
    rcases net_ev d x l with ⟨k, _, hk, ho, hne⟩ | ⟨hno, e, he, hne⟩
    · refine ev_bnd hne (ev_yes (by first | rfl | trivial) (ev_bnd (ev_lift hV) (ev_yes (by first | rfl | trivial) (ev_yes (by show ((solA d net l).length : Int) ≤ _; omega) (ev_bnd (ev_lift rfl) (ev_yes (by first | rfl | trivial) (ev_tt ?_)))))))
      show (hasB (solA d net l) x == (gnet (rd_T39 l (k : Int)) d x == net)) = true
      rw [beq_iff_eq, Bool.eq_iff_iff, beq_iff_eq]
      show hasB (joinL (solL d l net l.length)) x = true ↔ _
      rw [hH]
      constructor
      · rintro ⟨j, hj, hoj, hg⟩
        obtain rfl := ok_unique hv hj hk hoj ho
        exact hg
      · intro hg; exact ⟨k, hk, ho, hg⟩
    · have hf : hasB (solA d net l) x = false := by
        rw [← Bool.not_eq_true]
        intro hh
        obtain ⟨j, hj, hoj, _⟩ := hH.1 hh
        exact hno ⟨hv, j, hj, hoj⟩
      refine ev_bnd hne (ev_yes (by first | rfl | trivial) (ev_bnd (ev_lift hV) (ev_yes (by first | rfl | trivial) (ev_yes (by show ((solA d net l).length : Int) ≤ _; omega) (ev_bnd (ev_lift rfl) (ev_no (by show ¬ e = 0; omega) (ev_tt ?_)))))))
      rw [hf]; rfl
  · exact ev_bnd hs (ev_no (by show ¬ e = 0; omega) (ev_yes (by first | rfl | trivial) (ev_ret _)))
end Go.Proofs.Yteapeglolkfimaa.Pure
end
