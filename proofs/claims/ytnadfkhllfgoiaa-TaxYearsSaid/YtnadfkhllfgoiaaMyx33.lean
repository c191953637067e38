-- Written by a program of this session (wip/myprint.py), which drives the kit's print over hand-written fragments. Not trusted: Lean checks it.
import Derived.Test.YtnadfkhllfgoiaaMyx0
import Derived.Test.YtnadfkhllfgoiaaMyx31
import Derived.Test.YtnadfkhllfgoiaaMyx51
import Derived.Test.YtnadfkhllfgoiaaMyx52
namespace Go.Proofs.Ytnadfkhllfgoiaa.My
open Go.Proofs.Ytnadfkhllfgoiaa.Aid Go.Proofs.Ytnadfkhllfgoiaa.KdX
open Go.RowKit Go.Proofs.YtnadfkhllfgoiaaW.PrintWords Go.Proofs.YtnadfkhllfgoiaaW.PrintLast Go.Proofs.YtnadfkhllfgoiaaW.PrintMore
attribute [local go_sem] max2_int min2_int max_two min_two max_three min_three max_four min_four   -- for this text's walks alone
set_option linter.unusedVariables false
set_option linter.unusedSimpArgs false

/-! ### tax_Month: function 33 -/
def tax_Month.j0 : Nat → Int → Int → Int → Bool → Int → Int → List (S75) → Option (Int × Int)
  | 0, _, _, _, _, _, _, _ => none
  | k + 1, x1, x2, x3, x12, x421000, x421001, x421002 => if x12 = true then (some (0, 1)) else ((tax_in.f (([wrap64 (x1 + x3)] : List Int))).bind fun t429 => (if t429 = true then ((tax_Year.f k x421000 x421001 x421002 (wrap64 (x1 + x3))).bind fun bt430 => (if bt430.2 = 0 then ((tax_in.f (([wrap64 (bt430.1 - x2)] : List Int))).bind fun t435 => (if t435 = true then (some (wrap64 (bt430.1 - x2), 0)) else (some (0, 3)))) else (some (0, bt430.2)))) else (some (0, 3))))
def tax_Month.f (k : Nat) (a0_0 : Int) (a0_1 : Int) (l0_2 : List (S75)) (a1 : Int) (a2 : Int) (a3 : Int) : Option (Int × Int) := (piecewise_Valid.f k a0_1 l0_2).bind fun t421 => (if t421 = true then ((tax_in.f (([a1, a2, a3] : List Int))).bind fun t425 => (tax_Month.j0 k a1 a2 a3 (!t425) a0_0 a0_1 l0_2)) else (tax_Month.j0 k a1 a2 a3 true a0_0 a0_1 l0_2))
theorem tax_Month.mono_l : ∀ k, (∀ y0 y1 y2 y3 y4 y5 y6, LeO (tax_Month.j0 k y0 y1 y2 y3 y4 y5 y6) (tax_Month.j0 (k + 1) y0 y1 y2 y3 y4 y5 y6))
  | 0 => fun _ _ _ _ _ _ _ r h => by simp [tax_Month.j0] at h
  | k + 1 => by
    have ih0 := tax_Month.mono_l k
    · intro y0 y1 y2 y3 y4 y5 y6
      unfold tax_Month.j0
      repeat' first
      | (with_reducible exact ih0 _ _ _ _ _ _ _)
      | (with_reducible exact piecewise_Valid.mono _ _ _)
      | (with_reducible exact tax_Year.mono _ _ _ _ _)
      | (with_reducible exact LeO.refl _)
      | (with_reducible exact LeO.none _)
      | (with_reducible refine LeO.ite ?_ ?_)
      | (with_reducible refine LeO.bind ?_ (fun _ => ?_))
      | exact ih0 _ _ _ _ _ _ _
      | exact piecewise_Valid.mono _ _ _
      | exact tax_Year.mono _ _ _ _ _
      | exact LeO.none _
      | refine LeO.ite ?_ ?_
      | refine LeO.bind ?_ (fun _ => ?_)
theorem tax_Month.mono : ∀ a0 a1 a2 a3 a4 a5 k, LeO (tax_Month.f k a0 a1 a2 a3 a4 a5) (tax_Month.f (k + 1) a0 a1 a2 a3 a4 a5) := by
  intro a0 a1 a2 a3 a4 a5 k
  have ih0 := tax_Month.mono_l k
  unfold tax_Month.f
  repeat' first
      | (with_reducible exact ih0 _ _ _ _ _ _ _)
      | (with_reducible exact piecewise_Valid.mono _ _ _)
      | (with_reducible exact tax_Year.mono _ _ _ _ _)
      | (with_reducible exact LeO.refl _)
      | (with_reducible exact LeO.none _)
      | (with_reducible refine LeO.ite ?_ ?_)
      | (with_reducible refine LeO.bind ?_ (fun _ => ?_))
      | exact ih0 _ _ _ _ _ _ _
      | exact piecewise_Valid.mono _ _ _
      | exact tax_Year.mono _ _ _ _ _
      | exact LeO.none _
      | refine LeO.ite ?_ ?_
      | refine LeO.bind ?_ (fun _ => ?_)
set_option maxHeartbeats 8000000 in
set_option maxRecDepth 100000 in
theorem tax_Month.calls (k : Nat) (a0_0 : Int) (a0_1 : Int) (A0_2 : Option Addr) (c0_2 : Nat) (l0_2 : List (S75)) (a1 : Int) (a2 : Int) (a3 : Int) (r1 : Int) (r2 : Int) (w : World) (hr0_2 : Kd.C k75 w A0_2 l0_2.length l0_2) (hc0_2 : l0_2.length ≤ c0_2) (h : tax_Month.f k a0_0 a0_1 l0_2 a1 a2 a3 = some (r1, r2)) :
    Calls Try.prog 33 #[.agg #[.int .i64 a0_0, .int .i64 a0_1, .slice A0_2 l0_2.length c0_2], .int .i64 a1, .int .i64 a2, .int .i64 a3] w fun e w' => e = .returned (.tuple #[.int .i64 r1, .int .i64 r2]) ∧ Below w.heap.size w w' := by
  have hu44 := Try.underlying44
  have hu42 := Try.underlying42
  have HR0_2 := Aside0.mk hr0_2
  have HC0_2 := Aside0.mk hc0_2
  clear hr0_2 hc0_2
  have HB := Aside0.mk (Below.refl w.heap.size w)
  have H : ((piecewise_Valid.f k a0_1 l0_2).bind fun t421 => (if t421 = true then ((tax_in.f (([a1, a2, a3] : List Int))).bind fun t425 => (tax_Month.j0 k a1 a2 a3 (!t425) a0_0 a0_1 l0_2)) else (tax_Month.j0 k a1 a2 a3 true a0_0 a0_1 l0_2))) = some (r1, r2) := h
  clear h
  have HC5 := Aside0.mk H
  clear H
  go_enter Try.func33, Try.ntmps33
  go_upto_region 1 with (first | ((with_reducible refine gate_dst (N := 4) rfl ?_); (try (refine gate_guard (by rfl) ?_; dsimp only)); refine box_event ?hg (N := 4) ?hd (cs := #[.int .i64 a0_0, .int .i64 a0_1, .slice A0_2 l0_2.length c0_2]) (t := 44) ?hr ?_; (case hd => rfl); (case hg => rfl); (case hr => first | (go_simp; done) | (go_simp; rfl)); intro gb420 hg w6 hbox hb; have n0_ := Aside0.mk (below_step (by repeat (first | (with_reducible first | exact HB.out | apply below_alloc | apply pw_below_drewN | apply below_drew1) | exact HB.out)) hb); have n1_ := Aside0.mk (hbox); have n2_ := Aside0.mk ((by rw [hg]; exact (below_size (by repeat (first | (with_reducible first | exact HB.out | apply below_alloc | apply pw_below_drewN | apply below_drew1) | exact HB.out))) : w.heap.size ≤ gb420)); have n3_ := Aside0.mk ((by rw [hg]; exact (below_size (by repeat (first | (with_reducible first | exact HB.out | apply below_alloc | apply pw_below_drewN | apply below_drew1) | exact HB.out))) : w.heap.size ≤ gb420)); clear HB; have HB := n0_; have BK420 := n1_; have GW420 := n2_; have GE420 := n3_; clear n0_ n1_ n2_ n3_; clear hb hbox hg))
  (try simp only [Act.put, List.setIfInBounds_toArray, List.set_cons_zero, List.set_cons_succ])
  go_cut [12] (fun v12 wc => ∃ (kq : Nat) (x12_4 : Bool), v12 = .bool x12_4 ∧ Aside0 (tax_Month.j0 kq a1 a2 a3 x12_4 a0_0 a0_1 l0_2 = some (r1, r2)) ∧ Aside0 (kq ≤ k) ∧ Aside0 (wc.heap[gb420]? = some (.cells #[.int .i64 a0_0, .int .i64 a0_1, (.slice A0_2 l0_2.length c0_2)] 44 (0, 0))) ∧ Aside0 (Below w.heap.size w wc))
  case first =>
    have H := HC5.out
    clear HC5
    replace H := Option.bind_eq_some_iff.mp H
    obtain ⟨t421, A70, H⟩ := H
    replace H : (if t421 = true then ((tax_in.f (([a1, a2, a3] : List Int))).bind fun t425 => (tax_Month.j0 k a1 a2 a3 (!t425) a0_0 a0_1 l0_2)) else (tax_Month.j0 k a1 a2 a3 true a0_0 a0_1 l0_2)) = some (r1, r2) := H
    have A7 := Aside0.mk A70
    clear A70
    by_cases c8 : t421 = true
    · subst c8
      have H1 : ((tax_in.f (([a1, a2, a3] : List Int))).bind fun t425 => (tax_Month.j0 k a1 a2 a3 (!t425) a0_0 a0_1 l0_2)) = some (r1, r2) := by rw [if_pos rfl] at H; exact H
      clear H
      have H := H1
      clear H1
      obtain ⟨y422, hy422⟩ : ∃ y_ : List Int, y_ = (([a1, a2, a3] : List Int)) := ⟨_, rfl⟩
      replace H : ((tax_in.f y422).bind fun t425 => (tax_Month.j0 k a1 a2 a3 (!t425) a0_0 a0_1 l0_2)) = some (r1, r2) := by first | (rw [hy422]; with_reducible exact H) | (have H2_ := (Option.bind_some _ _).symm.trans H; rw [hy422]; with_reducible exact H2_) | (have H2_ := (Option.bind_some _ _).symm.trans H; with_reducible exact H2_) | with_reducible exact H | (rw [hy422]; exact H) | exact H
      have Ny422 := Aside0.mk hy422
      clear hy422
      replace H := Option.bind_eq_some_iff.mp H
      obtain ⟨t425, A90, H⟩ := H
      replace H : (tax_Month.j0 k a1 a2 a3 (!t425) a0_0 a0_1 l0_2) = some (r1, r2) := H
      have A9 := Aside0.mk A90
      clear A90
      have H' := Aside0.mk H
      clear H
      have hcz10_0 : w6.cell? ⟨gb420, 0, none⟩ = some (.int .i64 a0_0) := (blk_cell BK420.out 0).trans rfl
      have hcz10_1 : w6.cell? ⟨gb420, 1, none⟩ = some (.int .i64 a0_1) := (blk_cell BK420.out 1).trans rfl
      have hcz10_2 : w6.cell? ⟨gb420, 2, none⟩ = some (.slice A0_2 l0_2.length c0_2) := (blk_cell BK420.out 2).trans rfl
      have hfz10_0 := blk_frozen BK420.out 0
      have hfz10_1 := blk_frozen BK420.out 1
      have hfz10_2 := blk_frozen BK420.out 2
      go_wp2_with (first | ((with_reducible refine gate_callee (f := 51) rfl ?_); refine goesL_ (some 15) rfl rfl Try.func51 (by kernel_rfl) rfl #[.agg #[.int .i64 a0_1, .slice A0_2 l0_2.length c0_2]] rfl (by (try simp only [List.map_toArray, List.map_cons, List.map_nil]); first | done | rfl | (simp only [List.length_drop, List.length_take]; rfl)) ?_; (with_reducible refine (piecewise_Valid.calls k a0_1 _ _ l0_2 true _ ?side1 ?side2 A7.out).mono ?_); (case side1 => repeat (first | exact (Kd.C_below HR0_2.out HB.out) | (with_reducible refine Kd.C_alloc ?_ _) | (with_reducible refine Kd.C_drewN ?_ _) | (with_reducible refine Kd.C_drew ?_))); (case side2 => exact HC0_2.out); rintro e w11 ⟨rfl, hb⟩; refine ⟨_, rfl, ?_⟩; have n0_ := Aside0.mk (blk_below (g := gb420) (o := .cells #[.int .i64 a0_0, .int .i64 a0_1, .slice A0_2 l0_2.length c0_2] 44 (0, 0)) (by (with_reducible repeat (first | refine blk_drewN ?_ _ | refine blk_drew ?_ | refine blk_alloc ?_ _)); exact BK420.out) hb); have n1_ := Aside0.mk (below_step (by repeat (first | (with_reducible first | exact HB.out | apply below_alloc | apply pw_below_drewN | apply below_drew1 | refine below_set ?_ GE420.out) | exact HB.out)) hb); clear BK420; clear HB; have BK420 := n0_; have HB := n1_; clear n0_ n1_; (try clear hb); (try clear hb2); (try clear hk); (try clear hi)) | ((with_reducible refine gate_dst (N := 21) rfl ?_); (try (refine gate_guard (by rfl) ?_; dsimp only)); refine Kd.R_lit (Kd.int .i64) _ 3 ?hg (N := 21) ?hd (xs := ([a1, a2, a3] : List Int)) (inner := [.int .i64 a1, .int .i64 a2, .int .i64 a3]) (ok := fun _ => True) (okp := fun _ => True) ?hr ?hp (fun _ hk => hk) trivial (Below.refl _ _) (Nat.le_refl _) (by simp) ?_; (case hd => rfl); (case hg => rfl); (case hr => first | (go_simp; done) | (go_simp; rfl)); (case hp => exact (Reps.one (show Kd.M (Kd.int .i64) _ _ _ a1 [.int .i64 a1] from rfl) (Reps.one (show Kd.M (Kd.int .i64) _ _ _ a2 [.int .i64 a2] from rfl) (Reps.one (show Kd.M (Kd.int .i64) _ _ _ a3 [.int .i64 a3] from rfl) (Reps.none _ _))))); intro v423 w12 ho13 hb hg_ hnew_; clear hg_ hnew_; (first | rw [← Ny422.out] at ho13 | (simp only [Int.reduceToNat] at ho13; rw [← Ny422.out] at ho13)); have n0_ := Aside0.mk (Kd.R_lower ho13 (below_size (by repeat (first | (with_reducible first | exact HB.out | apply below_alloc | apply pw_below_drewN | apply below_drew1 | refine below_set ?_ GE420.out) | exact HB.out)))); have n1_ := Aside0.mk (blk_below (g := gb420) (o := .cells #[.int .i64 a0_0, .int .i64 a0_1, .slice A0_2 l0_2.length c0_2] 44 (0, 0)) (by (with_reducible repeat (first | refine blk_drewN ?_ _ | refine blk_drew ?_ | refine blk_alloc ?_ _)); exact BK420.out) hb); have n2_ := Aside0.mk (below_step (by repeat (first | (with_reducible first | exact HB.out | apply below_alloc | apply pw_below_drewN | apply below_drew1 | refine below_set ?_ GE420.out) | exact HB.out)) hb); clear BK420; clear HB; have HO424 := n0_; have BK420 := n1_; have HB := n2_; clear n0_ n1_ n2_; clear hb ho13; obtain ⟨Ao14, co14, eo14⟩ := Kd.R_slice HO424.out; subst eo14) | (go_at_call 52; (with_reducible refine (tax_in.calls _ _ y422 t425 _ ?side1 ?side2 A9.out).mono ?_); (case side1 => repeat (first | exact (Kd.R_reads' HO424.out).2.2 | (with_reducible refine Kd.C_alloc ?_ _) | (with_reducible refine Kd.C_drewN ?_ _) | (with_reducible refine Kd.C_drew ?_))); (case side2 => exact (Kd.R_reads' HO424.out).2.1); rintro e w' ⟨rfl, ⟨nd, rfl⟩⟩))
      go_meet
      case rel => exact ⟨_, (!t425), (by first | rfl | (simp; done) | (simp [*]; done)), H', ⟨by first | omega | exact Nat.le_refl _⟩, ⟨by (with_reducible repeat (first | refine blk_drewN ?_ _ | refine blk_drew ?_ | refine blk_alloc ?_ _)); exact BK420.out⟩, ⟨by repeat (first | (with_reducible first | exact HB.out | apply below_alloc | apply pw_below_drewN | apply below_drew1 | refine below_set ?_ GE420.out) | exact HB.out)⟩⟩
    · replace c8 := Bool.eq_false_iff.mpr c8
      subst c8
      have H1 : (tax_Month.j0 k a1 a2 a3 true a0_0 a0_1 l0_2) = some (r1, r2) := by rw [if_neg (show ¬ (false = true) by decide)] at H; exact H
      clear H
      have H := H1
      clear H1
      have H' := Aside0.mk H
      clear H
      have hcz15_0 : w6.cell? ⟨gb420, 0, none⟩ = some (.int .i64 a0_0) := (blk_cell BK420.out 0).trans rfl
      have hcz15_1 : w6.cell? ⟨gb420, 1, none⟩ = some (.int .i64 a0_1) := (blk_cell BK420.out 1).trans rfl
      have hcz15_2 : w6.cell? ⟨gb420, 2, none⟩ = some (.slice A0_2 l0_2.length c0_2) := (blk_cell BK420.out 2).trans rfl
      have hfz15_0 := blk_frozen BK420.out 0
      have hfz15_1 := blk_frozen BK420.out 1
      have hfz15_2 := blk_frozen BK420.out 2
      go_wp2_with (first | ((with_reducible refine gate_callee (f := 51) rfl ?_); refine goesL_ (some 15) rfl rfl Try.func51 (by kernel_rfl) rfl #[.agg #[.int .i64 a0_1, .slice A0_2 l0_2.length c0_2]] rfl (by (try simp only [List.map_toArray, List.map_cons, List.map_nil]); first | done | rfl | (simp only [List.length_drop, List.length_take]; rfl)) ?_; (with_reducible refine (piecewise_Valid.calls k a0_1 _ _ l0_2 false _ ?side1 ?side2 A7.out).mono ?_); (case side1 => repeat (first | exact (Kd.C_below HR0_2.out HB.out) | (with_reducible refine Kd.C_alloc ?_ _) | (with_reducible refine Kd.C_drewN ?_ _) | (with_reducible refine Kd.C_drew ?_))); (case side2 => exact HC0_2.out); rintro e w16 ⟨rfl, hb⟩; refine ⟨_, rfl, ?_⟩; have n0_ := Aside0.mk (blk_below (g := gb420) (o := .cells #[.int .i64 a0_0, .int .i64 a0_1, .slice A0_2 l0_2.length c0_2] 44 (0, 0)) (by (with_reducible repeat (first | refine blk_drewN ?_ _ | refine blk_drew ?_ | refine blk_alloc ?_ _)); exact BK420.out) hb); have n1_ := Aside0.mk (below_step (by repeat (first | (with_reducible first | exact HB.out | apply below_alloc | apply pw_below_drewN | apply below_drew1 | refine below_set ?_ GE420.out) | exact HB.out)) hb); clear BK420; clear HB; have BK420 := n0_; have HB := n1_; clear n0_ n1_; (try clear hb); (try clear hb2); (try clear hk); (try clear hi)))
      go_meet
      case rel => exact ⟨_, (true), (by first | rfl | (simp; done) | (simp [*]; done)), H', ⟨by first | omega | exact Nat.le_refl _⟩, ⟨by (with_reducible repeat (first | refine blk_drewN ?_ _ | refine blk_drew ?_ | refine blk_alloc ?_ _)); exact BK420.out⟩, ⟨by repeat (first | (with_reducible first | exact HB.out | apply below_alloc | apply pw_below_drewN | apply below_drew1 | refine below_set ?_ GE420.out) | exact HB.out)⟩⟩
  case rest =>
    clear HC5
    try clear p2
    try clear c3
    try clear c5
    try clear c8
    try clear hcz10_0
    try clear hcz10_1
    try clear hcz10_2
    try clear hcz15_0
    try clear hcz15_1
    try clear hcz15_2
    try clear hfz10_0
    try clear hfz10_1
    try clear hfz10_2
    try clear hfz15_0
    try clear hfz15_1
    try clear hfz15_2
    obtain ⟨kq, x12_4, rfl, HA, HJ4, BK420, HB⟩ := hcut
    cases kq with
    | zero => exact absurd HA.out (by simp [tax_Month.j0])
    | succ kj4 =>
      have H := HA.out
      clear HA
      simp only [tax_Month.j0] at H
      by_cases c17 : x12_4 = true
      · subst c17
        have H1 : (some (0, 1)) = some (r1, r2) := by rw [if_pos rfl] at H; exact H
        clear H
        have H := H1
        clear H1
        simp only [Option.some.injEq, Prod.mk.injEq] at H
        obtain ⟨rfl, rfl⟩ := H
        go_wp2
        go_ret2
        exact ⟨by first | rfl | (simp [errW_none, errW_some] <;> rfl) | (simp [*, errW_none, errW_some] <;> rfl), by repeat (first | (with_reducible first | exact HB.out | apply below_alloc | apply pw_below_drewN | apply below_drew1 | refine below_set ?_ GE420.out) | exact HB.out)⟩
      · replace c17 := Bool.eq_false_iff.mpr c17
        subst c17
        have H1 : ((tax_in.f (([wrap64 (a1 + a3)] : List Int))).bind fun t429 => (if t429 = true then ((tax_Year.f kj4 a0_0 a0_1 l0_2 (wrap64 (a1 + a3))).bind fun bt430 => (if bt430.2 = 0 then ((tax_in.f (([wrap64 (bt430.1 - a2)] : List Int))).bind fun t435 => (if t435 = true then (some (wrap64 (bt430.1 - a2), 0)) else (some (0, 3)))) else (some (0, bt430.2)))) else (some (0, 3)))) = some (r1, r2) := by rw [if_neg (show ¬ (false = true) by decide)] at H; exact H
        clear H
        have H := H1
        clear H1
        obtain ⟨y426, hy426⟩ : ∃ y_ : List Int, y_ = (([wrap64 (a1 + a3)] : List Int)) := ⟨_, rfl⟩
        replace H : ((tax_in.f y426).bind fun t429 => (if t429 = true then ((tax_Year.f kj4 a0_0 a0_1 l0_2 (wrap64 (a1 + a3))).bind fun bt430 => (if bt430.2 = 0 then ((tax_in.f (([wrap64 (bt430.1 - a2)] : List Int))).bind fun t435 => (if t435 = true then (some (wrap64 (bt430.1 - a2), 0)) else (some (0, 3)))) else (some (0, bt430.2)))) else (some (0, 3)))) = some (r1, r2) := by first | (rw [hy426]; with_reducible exact H) | (have H2_ := (Option.bind_some _ _).symm.trans H; rw [hy426]; with_reducible exact H2_) | (have H2_ := (Option.bind_some _ _).symm.trans H; with_reducible exact H2_) | with_reducible exact H | (rw [hy426]; exact H) | exact H
        have Ny426 := Aside0.mk hy426
        clear hy426
        replace H := Option.bind_eq_some_iff.mp H
        obtain ⟨t429, A180, H⟩ := H
        replace H : (if t429 = true then ((tax_Year.f kj4 a0_0 a0_1 l0_2 (wrap64 (a1 + a3))).bind fun bt430 => (if bt430.2 = 0 then ((tax_in.f (([wrap64 (bt430.1 - a2)] : List Int))).bind fun t435 => (if t435 = true then (some (wrap64 (bt430.1 - a2), 0)) else (some (0, 3)))) else (some (0, bt430.2)))) else (some (0, 3))) = some (r1, r2) := H
        have A18 := Aside0.mk A180
        clear A180
        by_cases c19 : t429 = true
        · subst c19
          have H1 : ((tax_Year.f kj4 a0_0 a0_1 l0_2 (wrap64 (a1 + a3))).bind fun bt430 => (if bt430.2 = 0 then ((tax_in.f (([wrap64 (bt430.1 - a2)] : List Int))).bind fun t435 => (if t435 = true then (some (wrap64 (bt430.1 - a2), 0)) else (some (0, 3)))) else (some (0, bt430.2)))) = some (r1, r2) := by rw [if_pos rfl] at H; exact H
          clear H
          have H := H1
          clear H1
          replace H := Option.bind_eq_some_iff.mp H
          obtain ⟨⟨t430, t431⟩, A200, H⟩ := H
          replace H : (if t431 = 0 then ((tax_in.f (([wrap64 (t430 - a2)] : List Int))).bind fun t435 => (if t435 = true then (some (wrap64 (t430 - a2), 0)) else (some (0, 3)))) else (some (0, t431))) = some (r1, r2) := H
          have A20 := Aside0.mk A200
          clear A200
          by_cases c21 : t431 = 0
          · rw [if_pos c21] at H
            have c21b0 : (t431 == 0) = true := beq_iff_eq.mpr c21
            have c21b1 : (t431 != 0) = false := bne_eq_false_iff_eq.mpr c21
            clear c21
            obtain ⟨y432, hy432⟩ : ∃ y_ : List Int, y_ = (([wrap64 (t430 - a2)] : List Int)) := ⟨_, rfl⟩
            replace H : ((tax_in.f y432).bind fun t435 => (if t435 = true then (some (wrap64 (t430 - a2), 0)) else (some (0, 3)))) = some (r1, r2) := by first | (rw [hy432]; with_reducible exact H) | (have H2_ := (Option.bind_some _ _).symm.trans H; rw [hy432]; with_reducible exact H2_) | (have H2_ := (Option.bind_some _ _).symm.trans H; with_reducible exact H2_) | with_reducible exact H | (rw [hy432]; exact H) | exact H
            have Ny432 := Aside0.mk hy432
            clear hy432
            replace H := Option.bind_eq_some_iff.mp H
            obtain ⟨t435, A220, H⟩ := H
            replace H : (if t435 = true then (some (wrap64 (t430 - a2), 0)) else (some (0, 3))) = some (r1, r2) := H
            have A22 := Aside0.mk A220
            clear A220
            by_cases c23 : t435 = true
            · subst c23
              have H1 : (some (wrap64 (t430 - a2), 0)) = some (r1, r2) := by rw [if_pos rfl] at H; exact H
              clear H
              have H := H1
              clear H1
              simp only [Option.some.injEq, Prod.mk.injEq] at H
              obtain ⟨rfl, rfl⟩ := H
              go_wp2_with (first | ((with_reducible refine gate_dst (N := 29) rfl ?_); (try (refine gate_guard (by rfl) ?_; dsimp only)); refine Kd.R_lit (Kd.int .i64) _ 3 ?hg (N := 29) ?hd (xs := ([wrap64 (a1 + a3)] : List Int)) (inner := [.int .i64 (wrap64 (a1 + a3))]) (ok := fun _ => True) (okp := fun _ => True) ?hr ?hp (fun _ hk => hk) trivial (Below.refl _ _) (Nat.le_refl _) (by simp) ?_; (case hd => rfl); (case hg => rfl); (case hr => first | (go_simp; done) | (go_simp; rfl)); (case hp => exact (Reps.one (show Kd.M (Kd.int .i64) _ _ _ (wrap64 (a1 + a3)) [.int .i64 (wrap64 (a1 + a3))] from rfl) (Reps.none _ _))); intro v427 w24 ho25 hb hg_ hnew_; clear hg_ hnew_; (first | rw [← Ny426.out] at ho25 | (simp only [Int.reduceToNat] at ho25; rw [← Ny426.out] at ho25)); have n0_ := Aside0.mk (Kd.R_lower ho25 (below_size (by repeat (first | (with_reducible first | exact HB.out | apply below_alloc | apply pw_below_drewN | apply below_drew1 | refine below_set ?_ GE420.out) | exact HB.out)))); have n1_ := Aside0.mk (blk_below (g := gb420) (o := .cells #[.int .i64 a0_0, .int .i64 a0_1, .slice A0_2 l0_2.length c0_2] 44 (0, 0)) (by (with_reducible repeat (first | refine blk_drewN ?_ _ | refine blk_drew ?_ | refine blk_alloc ?_ _)); exact BK420.out) hb); have n2_ := Aside0.mk (below_step (by repeat (first | (with_reducible first | exact HB.out | apply below_alloc | apply pw_below_drewN | apply below_drew1 | refine below_set ?_ GE420.out) | exact HB.out)) hb); clear BK420; clear HB; have HO428 := n0_; have BK420 := n1_; have HB := n2_; clear n0_ n1_ n2_; clear hb ho25; obtain ⟨Ao26, co26, eo26⟩ := Kd.R_slice HO428.out; subst eo26) | ((with_reducible refine gate_callee (f := 52) rfl ?_); refine goesL_ (some 30) rfl rfl Try.func52 (by kernel_rfl) rfl #[.slice Ao26 y426.length co26] rfl (by (try simp only [List.map_toArray, List.map_cons, List.map_nil]); first | done | rfl | (simp only [List.length_drop, List.length_take]; rfl)) ?_; (with_reducible refine (tax_in.calls _ _ y426 true _ ?side1 ?side2 A18.out).mono ?_); (case side1 => repeat (first | exact (Kd.R_reads' HO428.out).2.2 | (with_reducible refine Kd.C_alloc ?_ _) | (with_reducible refine Kd.C_drewN ?_ _) | (with_reducible refine Kd.C_drew ?_))); (case side2 => exact (Kd.R_reads' HO428.out).2.1); rintro e w' ⟨rfl, ⟨nd, rfl⟩⟩; refine ⟨_, rfl, ?_⟩; have hcz27_0 : w24.cell? ⟨gb420, 0, none⟩ = some (.int .i64 a0_0) := (blk_cell BK420.out 0).trans rfl; have hcz27_1 : w24.cell? ⟨gb420, 1, none⟩ = some (.int .i64 a0_1) := (blk_cell BK420.out 1).trans rfl; have hcz27_2 : w24.cell? ⟨gb420, 2, none⟩ = some (.slice A0_2 l0_2.length c0_2) := (blk_cell BK420.out 2).trans rfl; have hfz27_0 := blk_frozen BK420.out 0; have hfz27_1 := blk_frozen BK420.out 1; have hfz27_2 := blk_frozen BK420.out 2) | ((with_reducible refine gate_callee (f := 31) rfl ?_); refine goesL_ (some 37) rfl rfl Try.func31 (by kernel_rfl) rfl #[.agg #[.int .i64 a0_0, .int .i64 a0_1, .slice A0_2 l0_2.length c0_2], .int .i64 (wrap64 (a1 + a3))] rfl (by (try simp only [List.map_toArray, List.map_cons, List.map_nil]); first | done | rfl | (simp only [List.length_drop, List.length_take]; rfl)) ?_; (with_reducible refine (tax_Year.calls kj4 a0_0 a0_1 _ _ l0_2 (wrap64 (a1 + a3)) t430 t431 _ ?side1 ?side2 A20.out).mono ?_); (case side1 => repeat (first | exact (Kd.C_below HR0_2.out (by repeat (first | (with_reducible first | exact HB.out | apply below_alloc | apply pw_below_drewN | apply below_drew1 | refine below_set ?_ GE420.out) | exact HB.out))) | (with_reducible refine Kd.C_alloc ?_ _) | (with_reducible refine Kd.C_drewN ?_ _) | (with_reducible refine Kd.C_drew ?_))); (case side2 => exact HC0_2.out); rintro e w28 ⟨rfl, hb⟩; refine ⟨_, rfl, ?_⟩; have n0_ := Aside0.mk (Kd.R_below (by (with_reducible repeat (first | apply Kd.R_alloc | apply Kd.R_drewN | apply Kd.R_drew)); exact HO428.out) hb); have n1_ := Aside0.mk (blk_below (g := gb420) (o := .cells #[.int .i64 a0_0, .int .i64 a0_1, .slice A0_2 l0_2.length c0_2] 44 (0, 0)) (by (with_reducible repeat (first | refine blk_drewN ?_ _ | refine blk_drew ?_ | refine blk_alloc ?_ _)); exact BK420.out) hb); have n2_ := Aside0.mk (below_step (by repeat (first | (with_reducible first | exact HB.out | apply below_alloc | apply pw_below_drewN | apply below_drew1 | refine below_set ?_ GE420.out) | exact HB.out)) hb); clear HO428; clear BK420; clear HB; have HO428 := n0_; have BK420 := n1_; have HB := n2_; clear n0_ n1_ n2_; (try clear hb); (try clear hb2); (try clear hk); (try clear hi)) | ((with_reducible refine gate_dst (N := 48) rfl ?_); (try (refine gate_guard (by rfl) ?_; dsimp only)); refine Kd.R_lit (Kd.int .i64) _ 3 ?hg (N := 48) ?hd (xs := ([wrap64 (t430 - a2)] : List Int)) (inner := [.int .i64 (wrap64 (t430 - a2))]) (ok := fun _ => True) (okp := fun _ => True) ?hr ?hp (fun _ hk => hk) trivial (Below.refl _ _) (Nat.le_refl _) (by simp) ?_; (case hd => rfl); (case hg => rfl); (case hr => first | (go_simp; done) | (go_simp; rfl)); (case hp => exact (Reps.one (show Kd.M (Kd.int .i64) _ _ _ (wrap64 (t430 - a2)) [.int .i64 (wrap64 (t430 - a2))] from rfl) (Reps.none _ _))); intro v433 w29 ho30 hb hg_ hnew_; clear hg_ hnew_; (first | rw [← Ny432.out] at ho30 | (simp only [Int.reduceToNat] at ho30; rw [← Ny432.out] at ho30)); have n0_ := Aside0.mk (Kd.R_elder' (by (with_reducible repeat (first | apply Kd.R_alloc | apply Kd.R_drewN | apply Kd.R_drew)); exact HO428.out) (Kd.R_base ho30) hb); have n1_ := Aside0.mk (Kd.R_lower (Kd.R_new' ho30 (Kd.R_lt (by (with_reducible repeat (first | apply Kd.R_alloc | apply Kd.R_drewN | apply Kd.R_drew)); exact HO428.out))) (below_size (by repeat (first | (with_reducible first | exact HB.out | apply below_alloc | apply pw_below_drewN | apply below_drew1 | refine below_set ?_ GE420.out) | exact HB.out)))); have n2_ := Aside0.mk (blk_below (g := gb420) (o := .cells #[.int .i64 a0_0, .int .i64 a0_1, .slice A0_2 l0_2.length c0_2] 44 (0, 0)) (by (with_reducible repeat (first | refine blk_drewN ?_ _ | refine blk_drew ?_ | refine blk_alloc ?_ _)); exact BK420.out) hb); have n3_ := Aside0.mk (below_step (by repeat (first | (with_reducible first | exact HB.out | apply below_alloc | apply pw_below_drewN | apply below_drew1 | refine below_set ?_ GE420.out) | exact HB.out)) hb); clear HO428; clear BK420; clear HB; have HO428 := n0_; have HO434 := n1_; have BK420 := n2_; have HB := n3_; clear n0_ n1_ n2_ n3_; clear hb ho30; obtain ⟨Ao31, co31, eo31⟩ := Kd.R_slice HO434.out; subst eo31) | ((with_reducible refine gate_callee (f := 52) rfl ?_); refine goesL_ (some 49) rfl rfl Try.func52 (by kernel_rfl) rfl #[.slice Ao31 y432.length co31] rfl (by (try simp only [List.map_toArray, List.map_cons, List.map_nil]); first | done | rfl | (simp only [List.length_drop, List.length_take]; rfl)) ?_; (with_reducible refine (tax_in.calls _ _ y432 true _ ?side1 ?side2 A22.out).mono ?_); (case side1 => repeat (first | exact (Kd.R_reads' HO434.out).2.2 | (with_reducible refine Kd.C_alloc ?_ _) | (with_reducible refine Kd.C_drewN ?_ _) | (with_reducible refine Kd.C_drew ?_))); (case side2 => exact (Kd.R_reads' HO434.out).2.1); rintro e w' ⟨rfl, ⟨nd, rfl⟩⟩; refine ⟨_, rfl, ?_⟩))
              go_ret2
              exact ⟨by first | rfl | (simp [errW_none, errW_some] <;> rfl) | (simp [*, errW_none, errW_some] <;> rfl), by repeat (first | (with_reducible first | exact HB.out | apply below_alloc | apply pw_below_drewN | apply below_drew1 | refine below_set ?_ GE420.out) | exact HB.out)⟩
            · replace c23 := Bool.eq_false_iff.mpr c23
              subst c23
              have H1 : (some (0, 3)) = some (r1, r2) := by rw [if_neg (show ¬ (false = true) by decide)] at H; exact H
              clear H
              have H := H1
              clear H1
              simp only [Option.some.injEq, Prod.mk.injEq] at H
              obtain ⟨rfl, rfl⟩ := H
              go_wp2_with (first | ((with_reducible refine gate_dst (N := 29) rfl ?_); (try (refine gate_guard (by rfl) ?_; dsimp only)); refine Kd.R_lit (Kd.int .i64) _ 3 ?hg (N := 29) ?hd (xs := ([wrap64 (a1 + a3)] : List Int)) (inner := [.int .i64 (wrap64 (a1 + a3))]) (ok := fun _ => True) (okp := fun _ => True) ?hr ?hp (fun _ hk => hk) trivial (Below.refl _ _) (Nat.le_refl _) (by simp) ?_; (case hd => rfl); (case hg => rfl); (case hr => first | (go_simp; done) | (go_simp; rfl)); (case hp => exact (Reps.one (show Kd.M (Kd.int .i64) _ _ _ (wrap64 (a1 + a3)) [.int .i64 (wrap64 (a1 + a3))] from rfl) (Reps.none _ _))); intro v427 w32 ho33 hb hg_ hnew_; clear hg_ hnew_; (first | rw [← Ny426.out] at ho33 | (simp only [Int.reduceToNat] at ho33; rw [← Ny426.out] at ho33)); have n0_ := Aside0.mk (Kd.R_lower ho33 (below_size (by repeat (first | (with_reducible first | exact HB.out | apply below_alloc | apply pw_below_drewN | apply below_drew1 | refine below_set ?_ GE420.out) | exact HB.out)))); have n1_ := Aside0.mk (blk_below (g := gb420) (o := .cells #[.int .i64 a0_0, .int .i64 a0_1, .slice A0_2 l0_2.length c0_2] 44 (0, 0)) (by (with_reducible repeat (first | refine blk_drewN ?_ _ | refine blk_drew ?_ | refine blk_alloc ?_ _)); exact BK420.out) hb); have n2_ := Aside0.mk (below_step (by repeat (first | (with_reducible first | exact HB.out | apply below_alloc | apply pw_below_drewN | apply below_drew1 | refine below_set ?_ GE420.out) | exact HB.out)) hb); clear BK420; clear HB; have HO428 := n0_; have BK420 := n1_; have HB := n2_; clear n0_ n1_ n2_; clear hb ho33; obtain ⟨Ao34, co34, eo34⟩ := Kd.R_slice HO428.out; subst eo34) | ((with_reducible refine gate_callee (f := 52) rfl ?_); refine goesL_ (some 30) rfl rfl Try.func52 (by kernel_rfl) rfl #[.slice Ao34 y426.length co34] rfl (by (try simp only [List.map_toArray, List.map_cons, List.map_nil]); first | done | rfl | (simp only [List.length_drop, List.length_take]; rfl)) ?_; (with_reducible refine (tax_in.calls _ _ y426 true _ ?side1 ?side2 A18.out).mono ?_); (case side1 => repeat (first | exact (Kd.R_reads' HO428.out).2.2 | (with_reducible refine Kd.C_alloc ?_ _) | (with_reducible refine Kd.C_drewN ?_ _) | (with_reducible refine Kd.C_drew ?_))); (case side2 => exact (Kd.R_reads' HO428.out).2.1); rintro e w' ⟨rfl, ⟨nd, rfl⟩⟩; refine ⟨_, rfl, ?_⟩; have hcz35_0 : w32.cell? ⟨gb420, 0, none⟩ = some (.int .i64 a0_0) := (blk_cell BK420.out 0).trans rfl; have hcz35_1 : w32.cell? ⟨gb420, 1, none⟩ = some (.int .i64 a0_1) := (blk_cell BK420.out 1).trans rfl; have hcz35_2 : w32.cell? ⟨gb420, 2, none⟩ = some (.slice A0_2 l0_2.length c0_2) := (blk_cell BK420.out 2).trans rfl; have hfz35_0 := blk_frozen BK420.out 0; have hfz35_1 := blk_frozen BK420.out 1; have hfz35_2 := blk_frozen BK420.out 2) | ((with_reducible refine gate_callee (f := 31) rfl ?_); refine goesL_ (some 37) rfl rfl Try.func31 (by kernel_rfl) rfl #[.agg #[.int .i64 a0_0, .int .i64 a0_1, .slice A0_2 l0_2.length c0_2], .int .i64 (wrap64 (a1 + a3))] rfl (by (try simp only [List.map_toArray, List.map_cons, List.map_nil]); first | done | rfl | (simp only [List.length_drop, List.length_take]; rfl)) ?_; (with_reducible refine (tax_Year.calls kj4 a0_0 a0_1 _ _ l0_2 (wrap64 (a1 + a3)) t430 t431 _ ?side1 ?side2 A20.out).mono ?_); (case side1 => repeat (first | exact (Kd.C_below HR0_2.out (by repeat (first | (with_reducible first | exact HB.out | apply below_alloc | apply pw_below_drewN | apply below_drew1 | refine below_set ?_ GE420.out) | exact HB.out))) | (with_reducible refine Kd.C_alloc ?_ _) | (with_reducible refine Kd.C_drewN ?_ _) | (with_reducible refine Kd.C_drew ?_))); (case side2 => exact HC0_2.out); rintro e w36 ⟨rfl, hb⟩; refine ⟨_, rfl, ?_⟩; have n0_ := Aside0.mk (Kd.R_below (by (with_reducible repeat (first | apply Kd.R_alloc | apply Kd.R_drewN | apply Kd.R_drew)); exact HO428.out) hb); have n1_ := Aside0.mk (blk_below (g := gb420) (o := .cells #[.int .i64 a0_0, .int .i64 a0_1, .slice A0_2 l0_2.length c0_2] 44 (0, 0)) (by (with_reducible repeat (first | refine blk_drewN ?_ _ | refine blk_drew ?_ | refine blk_alloc ?_ _)); exact BK420.out) hb); have n2_ := Aside0.mk (below_step (by repeat (first | (with_reducible first | exact HB.out | apply below_alloc | apply pw_below_drewN | apply below_drew1 | refine below_set ?_ GE420.out) | exact HB.out)) hb); clear HO428; clear BK420; clear HB; have HO428 := n0_; have BK420 := n1_; have HB := n2_; clear n0_ n1_ n2_; (try clear hb); (try clear hb2); (try clear hk); (try clear hi)) | ((with_reducible refine gate_dst (N := 48) rfl ?_); (try (refine gate_guard (by rfl) ?_; dsimp only)); refine Kd.R_lit (Kd.int .i64) _ 3 ?hg (N := 48) ?hd (xs := ([wrap64 (t430 - a2)] : List Int)) (inner := [.int .i64 (wrap64 (t430 - a2))]) (ok := fun _ => True) (okp := fun _ => True) ?hr ?hp (fun _ hk => hk) trivial (Below.refl _ _) (Nat.le_refl _) (by simp) ?_; (case hd => rfl); (case hg => rfl); (case hr => first | (go_simp; done) | (go_simp; rfl)); (case hp => exact (Reps.one (show Kd.M (Kd.int .i64) _ _ _ (wrap64 (t430 - a2)) [.int .i64 (wrap64 (t430 - a2))] from rfl) (Reps.none _ _))); intro v433 w37 ho38 hb hg_ hnew_; clear hg_ hnew_; (first | rw [← Ny432.out] at ho38 | (simp only [Int.reduceToNat] at ho38; rw [← Ny432.out] at ho38)); have n0_ := Aside0.mk (Kd.R_elder' (by (with_reducible repeat (first | apply Kd.R_alloc | apply Kd.R_drewN | apply Kd.R_drew)); exact HO428.out) (Kd.R_base ho38) hb); have n1_ := Aside0.mk (Kd.R_lower (Kd.R_new' ho38 (Kd.R_lt (by (with_reducible repeat (first | apply Kd.R_alloc | apply Kd.R_drewN | apply Kd.R_drew)); exact HO428.out))) (below_size (by repeat (first | (with_reducible first | exact HB.out | apply below_alloc | apply pw_below_drewN | apply below_drew1 | refine below_set ?_ GE420.out) | exact HB.out)))); have n2_ := Aside0.mk (blk_below (g := gb420) (o := .cells #[.int .i64 a0_0, .int .i64 a0_1, .slice A0_2 l0_2.length c0_2] 44 (0, 0)) (by (with_reducible repeat (first | refine blk_drewN ?_ _ | refine blk_drew ?_ | refine blk_alloc ?_ _)); exact BK420.out) hb); have n3_ := Aside0.mk (below_step (by repeat (first | (with_reducible first | exact HB.out | apply below_alloc | apply pw_below_drewN | apply below_drew1 | refine below_set ?_ GE420.out) | exact HB.out)) hb); clear HO428; clear BK420; clear HB; have HO428 := n0_; have HO434 := n1_; have BK420 := n2_; have HB := n3_; clear n0_ n1_ n2_ n3_; clear hb ho38; obtain ⟨Ao39, co39, eo39⟩ := Kd.R_slice HO434.out; subst eo39) | ((with_reducible refine gate_callee (f := 52) rfl ?_); refine goesL_ (some 49) rfl rfl Try.func52 (by kernel_rfl) rfl #[.slice Ao39 y432.length co39] rfl (by (try simp only [List.map_toArray, List.map_cons, List.map_nil]); first | done | rfl | (simp only [List.length_drop, List.length_take]; rfl)) ?_; (with_reducible refine (tax_in.calls _ _ y432 false _ ?side1 ?side2 A22.out).mono ?_); (case side1 => repeat (first | exact (Kd.R_reads' HO434.out).2.2 | (with_reducible refine Kd.C_alloc ?_ _) | (with_reducible refine Kd.C_drewN ?_ _) | (with_reducible refine Kd.C_drew ?_))); (case side2 => exact (Kd.R_reads' HO434.out).2.1); rintro e w' ⟨rfl, ⟨nd, rfl⟩⟩; refine ⟨_, rfl, ?_⟩))
              go_ret2
              exact ⟨by first | rfl | (simp [errW_none, errW_some] <;> rfl) | (simp [*, errW_none, errW_some] <;> rfl), by repeat (first | (with_reducible first | exact HB.out | apply below_alloc | apply pw_below_drewN | apply below_drew1 | refine below_set ?_ GE420.out) | exact HB.out)⟩
          · rw [if_neg c21] at H
            have c21b0 : (t431 == 0) = false := beq_eq_false_iff_ne.mpr c21
            have c21b1 : (t431 != 0) = true := bne_iff_ne.mpr c21
            simp only [Option.some.injEq, Prod.mk.injEq] at H
            obtain ⟨rfl, rfl⟩ := H
            go_wp2_with (first | ((with_reducible refine gate_dst (N := 29) rfl ?_); (try (refine gate_guard (by rfl) ?_; dsimp only)); refine Kd.R_lit (Kd.int .i64) _ 3 ?hg (N := 29) ?hd (xs := ([wrap64 (a1 + a3)] : List Int)) (inner := [.int .i64 (wrap64 (a1 + a3))]) (ok := fun _ => True) (okp := fun _ => True) ?hr ?hp (fun _ hk => hk) trivial (Below.refl _ _) (Nat.le_refl _) (by simp) ?_; (case hd => rfl); (case hg => rfl); (case hr => first | (go_simp; done) | (go_simp; rfl)); (case hp => exact (Reps.one (show Kd.M (Kd.int .i64) _ _ _ (wrap64 (a1 + a3)) [.int .i64 (wrap64 (a1 + a3))] from rfl) (Reps.none _ _))); intro v427 w40 ho41 hb hg_ hnew_; clear hg_ hnew_; (first | rw [← Ny426.out] at ho41 | (simp only [Int.reduceToNat] at ho41; rw [← Ny426.out] at ho41)); have n0_ := Aside0.mk (Kd.R_lower ho41 (below_size (by repeat (first | (with_reducible first | exact HB.out | apply below_alloc | apply pw_below_drewN | apply below_drew1 | refine below_set ?_ GE420.out) | exact HB.out)))); have n1_ := Aside0.mk (blk_below (g := gb420) (o := .cells #[.int .i64 a0_0, .int .i64 a0_1, .slice A0_2 l0_2.length c0_2] 44 (0, 0)) (by (with_reducible repeat (first | refine blk_drewN ?_ _ | refine blk_drew ?_ | refine blk_alloc ?_ _)); exact BK420.out) hb); have n2_ := Aside0.mk (below_step (by repeat (first | (with_reducible first | exact HB.out | apply below_alloc | apply pw_below_drewN | apply below_drew1 | refine below_set ?_ GE420.out) | exact HB.out)) hb); clear BK420; clear HB; have HO428 := n0_; have BK420 := n1_; have HB := n2_; clear n0_ n1_ n2_; clear hb ho41; obtain ⟨Ao42, co42, eo42⟩ := Kd.R_slice HO428.out; subst eo42) | ((with_reducible refine gate_callee (f := 52) rfl ?_); refine goesL_ (some 30) rfl rfl Try.func52 (by kernel_rfl) rfl #[.slice Ao42 y426.length co42] rfl (by (try simp only [List.map_toArray, List.map_cons, List.map_nil]); first | done | rfl | (simp only [List.length_drop, List.length_take]; rfl)) ?_; (with_reducible refine (tax_in.calls _ _ y426 true _ ?side1 ?side2 A18.out).mono ?_); (case side1 => repeat (first | exact (Kd.R_reads' HO428.out).2.2 | (with_reducible refine Kd.C_alloc ?_ _) | (with_reducible refine Kd.C_drewN ?_ _) | (with_reducible refine Kd.C_drew ?_))); (case side2 => exact (Kd.R_reads' HO428.out).2.1); rintro e w' ⟨rfl, ⟨nd, rfl⟩⟩; refine ⟨_, rfl, ?_⟩; have hcz43_0 : w40.cell? ⟨gb420, 0, none⟩ = some (.int .i64 a0_0) := (blk_cell BK420.out 0).trans rfl; have hcz43_1 : w40.cell? ⟨gb420, 1, none⟩ = some (.int .i64 a0_1) := (blk_cell BK420.out 1).trans rfl; have hcz43_2 : w40.cell? ⟨gb420, 2, none⟩ = some (.slice A0_2 l0_2.length c0_2) := (blk_cell BK420.out 2).trans rfl; have hfz43_0 := blk_frozen BK420.out 0; have hfz43_1 := blk_frozen BK420.out 1; have hfz43_2 := blk_frozen BK420.out 2) | ((with_reducible refine gate_callee (f := 31) rfl ?_); refine goesL_ (some 37) rfl rfl Try.func31 (by kernel_rfl) rfl #[.agg #[.int .i64 a0_0, .int .i64 a0_1, .slice A0_2 l0_2.length c0_2], .int .i64 (wrap64 (a1 + a3))] rfl (by (try simp only [List.map_toArray, List.map_cons, List.map_nil]); first | done | rfl | (simp only [List.length_drop, List.length_take]; rfl)) ?_; (with_reducible refine (tax_Year.calls kj4 a0_0 a0_1 _ _ l0_2 (wrap64 (a1 + a3)) t430 t431 _ ?side1 ?side2 A20.out).mono ?_); (case side1 => repeat (first | exact (Kd.C_below HR0_2.out (by repeat (first | (with_reducible first | exact HB.out | apply below_alloc | apply pw_below_drewN | apply below_drew1 | refine below_set ?_ GE420.out) | exact HB.out))) | (with_reducible refine Kd.C_alloc ?_ _) | (with_reducible refine Kd.C_drewN ?_ _) | (with_reducible refine Kd.C_drew ?_))); (case side2 => exact HC0_2.out); rintro e w44 ⟨rfl, hb⟩; refine ⟨_, rfl, ?_⟩; have n0_ := Aside0.mk (Kd.R_below (by (with_reducible repeat (first | apply Kd.R_alloc | apply Kd.R_drewN | apply Kd.R_drew)); exact HO428.out) hb); have n1_ := Aside0.mk (blk_below (g := gb420) (o := .cells #[.int .i64 a0_0, .int .i64 a0_1, .slice A0_2 l0_2.length c0_2] 44 (0, 0)) (by (with_reducible repeat (first | refine blk_drewN ?_ _ | refine blk_drew ?_ | refine blk_alloc ?_ _)); exact BK420.out) hb); have n2_ := Aside0.mk (below_step (by repeat (first | (with_reducible first | exact HB.out | apply below_alloc | apply pw_below_drewN | apply below_drew1 | refine below_set ?_ GE420.out) | exact HB.out)) hb); clear HO428; clear BK420; clear HB; have HO428 := n0_; have BK420 := n1_; have HB := n2_; clear n0_ n1_ n2_; (try clear hb); (try clear hb2); (try clear hk); (try clear hi)))
            go_ret2
            exact ⟨by first | rfl | (simp [errW_none, errW_some] <;> rfl) | (simp [*, errW_none, errW_some] <;> rfl), by repeat (first | (with_reducible first | exact HB.out | apply below_alloc | apply pw_below_drewN | apply below_drew1 | refine below_set ?_ GE420.out) | exact HB.out)⟩
        · replace c19 := Bool.eq_false_iff.mpr c19
          subst c19
          have H1 : (some (0, 3)) = some (r1, r2) := by rw [if_neg (show ¬ (false = true) by decide)] at H; exact H
          clear H
          have H := H1
          clear H1
          simp only [Option.some.injEq, Prod.mk.injEq] at H
          obtain ⟨rfl, rfl⟩ := H
          go_wp2_with (first | ((with_reducible refine gate_dst (N := 29) rfl ?_); (try (refine gate_guard (by rfl) ?_; dsimp only)); refine Kd.R_lit (Kd.int .i64) _ 3 ?hg (N := 29) ?hd (xs := ([wrap64 (a1 + a3)] : List Int)) (inner := [.int .i64 (wrap64 (a1 + a3))]) (ok := fun _ => True) (okp := fun _ => True) ?hr ?hp (fun _ hk => hk) trivial (Below.refl _ _) (Nat.le_refl _) (by simp) ?_; (case hd => rfl); (case hg => rfl); (case hr => first | (go_simp; done) | (go_simp; rfl)); (case hp => exact (Reps.one (show Kd.M (Kd.int .i64) _ _ _ (wrap64 (a1 + a3)) [.int .i64 (wrap64 (a1 + a3))] from rfl) (Reps.none _ _))); intro v427 w45 ho46 hb hg_ hnew_; clear hg_ hnew_; (first | rw [← Ny426.out] at ho46 | (simp only [Int.reduceToNat] at ho46; rw [← Ny426.out] at ho46)); have n0_ := Aside0.mk (Kd.R_lower ho46 (below_size (by repeat (first | (with_reducible first | exact HB.out | apply below_alloc | apply pw_below_drewN | apply below_drew1 | refine below_set ?_ GE420.out) | exact HB.out)))); have n1_ := Aside0.mk (blk_below (g := gb420) (o := .cells #[.int .i64 a0_0, .int .i64 a0_1, .slice A0_2 l0_2.length c0_2] 44 (0, 0)) (by (with_reducible repeat (first | refine blk_drewN ?_ _ | refine blk_drew ?_ | refine blk_alloc ?_ _)); exact BK420.out) hb); have n2_ := Aside0.mk (below_step (by repeat (first | (with_reducible first | exact HB.out | apply below_alloc | apply pw_below_drewN | apply below_drew1 | refine below_set ?_ GE420.out) | exact HB.out)) hb); clear BK420; clear HB; have HO428 := n0_; have BK420 := n1_; have HB := n2_; clear n0_ n1_ n2_; clear hb ho46; obtain ⟨Ao47, co47, eo47⟩ := Kd.R_slice HO428.out; subst eo47) | ((with_reducible refine gate_callee (f := 52) rfl ?_); refine goesL_ (some 30) rfl rfl Try.func52 (by kernel_rfl) rfl #[.slice Ao47 y426.length co47] rfl (by (try simp only [List.map_toArray, List.map_cons, List.map_nil]); first | done | rfl | (simp only [List.length_drop, List.length_take]; rfl)) ?_; (with_reducible refine (tax_in.calls _ _ y426 false _ ?side1 ?side2 A18.out).mono ?_); (case side1 => repeat (first | exact (Kd.R_reads' HO428.out).2.2 | (with_reducible refine Kd.C_alloc ?_ _) | (with_reducible refine Kd.C_drewN ?_ _) | (with_reducible refine Kd.C_drew ?_))); (case side2 => exact (Kd.R_reads' HO428.out).2.1); rintro e w' ⟨rfl, ⟨nd, rfl⟩⟩; refine ⟨_, rfl, ?_⟩))
          go_ret2
          exact ⟨by first | rfl | (simp [errW_none, errW_some] <;> rfl) | (simp [*, errW_none, errW_some] <;> rfl), by repeat (first | (with_reducible first | exact HB.out | apply below_alloc | apply pw_below_drewN | apply below_drew1 | refine below_set ?_ GE420.out) | exact HB.out)⟩

end Go.Proofs.Ytnadfkhllfgoiaa.My
