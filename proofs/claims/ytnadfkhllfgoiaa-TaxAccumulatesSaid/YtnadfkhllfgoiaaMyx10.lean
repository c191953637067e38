-- Written by a program of this session (wip/myprint.py), which drives the kit's print over hand-written fragments. Not trusted: Lean checks it.
import Derived.Test.YtnadfkhllfgoiaaMyx0
import Derived.Test.YtnadfkhllfgoiaaMyx27
import Derived.Test.YtnadfkhllfgoiaaMyx28
import Derived.Test.YtnadfkhllfgoiaaMyx31
import Derived.Test.YtnadfkhllfgoiaaMyx36
namespace Go.Proofs.Ytnadfkhllfgoiaa.My
open Go.Proofs.Ytnadfkhllfgoiaa.Aid Go.Proofs.Ytnadfkhllfgoiaa.KdX
open Go.RowKit Go.Proofs.YtnadfkhllfgoiaaW.PrintWords Go.Proofs.YtnadfkhllfgoiaaW.PrintLast Go.Proofs.YtnadfkhllfgoiaaW.PrintMore
attribute [local go_sem] max2_int min2_int max_two min_two max_three min_three max_four min_four   -- for this text's walks alone
set_option linter.unusedVariables false
set_option linter.unusedSimpArgs false

/-! ### wageofficelaw28_TaxAccumulates: function 10 -/
mutual
def wageofficelaw28_TaxAccumulates.j0 : Nat → List Int → Bool → Bool → Int → Int → List (S75) → Option (Bool)
  | 0, _, _, _, _, _, _ => none
  | k + 1, x1, x5, x34, x573000, x573001, x573002 => if x34 = true then (some x5) else ((wageofficelaw28_withheld.f k x573000 x573001 x573002 0 0 x1).bind fun bt578 => (if bt578.2.2 = true then ((tax_Year.f k x573000 x573001 x573002 bt578.1).bind fun bt581 => (if bt581.2 = 0 then (wageofficelaw28_TaxAccumulates.j1 k x1 x5 bt578.1 bt581.1 (bt578.2.1 != bt581.1) x573000 x573001 x573002) else (wageofficelaw28_TaxAccumulates.j1 k x1 x5 bt578.1 bt581.1 true x573000 x573001 x573002))) else (some x5)))
def wageofficelaw28_TaxAccumulates.j1 : Nat → List Int → Bool → Int → Int → Bool → Int → Int → List (S75) → Option (Bool)
  | 0, _, _, _, _, _, _, _, _ => none
  | k + 1, x1, x5, x6, x9, x58, x573000, x573001, x573002 => if x58 = true then (some false) else (wageofficelaw28_TaxAccumulates.l0 k x1 x5 x6 x9 ([] : List Int) x1 (x1.length : Int) 0 x573000 x573001 x573002)
def wageofficelaw28_TaxAccumulates.l0 : Nat → List Int → Bool → Int → Int → List Int → List Int → Int → Int → Int → Int → List (S75) → Option (Bool)
  | 0, _, _, _, _, _, _, _, _, _, _, _ => none
  | k + 1, x1, x5, x6, x9, x11, x59, x60, x61, x573000, x573001, x573002 => if x61 < x60 then (if 0 ≤ x61 then (if x61 < (x59.length : Int) then ((some (([rd x59 x61] : List Int) : List Int)).bind fun y584 => (if y584.length + x11.length < 17592186044416 then (wageofficelaw28_TaxAccumulates.l0 k x1 x5 x6 x9 (y584 ++ x11) x59 x60 (wrap64 (x61 + 1)) x573000 x573001 x573002) else (none))) else (none)) else (none)) else ((wageofficelaw28_withheld.f k x573000 x573001 x573002 0 0 x11).bind fun bt590 => (if bt590.2.2 = true then (if bt590.1 = x6 then (wageofficelaw28_TaxAccumulates.j3 k x1 x5 x6 x9 (bt590.2.1 != x9) x573000 x573001 x573002) else (wageofficelaw28_TaxAccumulates.j3 k x1 x5 x6 x9 true x573000 x573001 x573002)) else (wageofficelaw28_TaxAccumulates.j3 k x1 x5 x6 x9 false x573000 x573001 x573002)))
def wageofficelaw28_TaxAccumulates.j3 : Nat → List Int → Bool → Int → Int → Bool → Int → Int → List (S75) → Option (Bool)
  | 0, _, _, _, _, _, _, _, _ => none
  | k + 1, x1, x5, x6, x9, x87, x573000, x573001, x573002 => if x87 = true then (some false) else (if (x1.length : Int) > 1 then (if 0 < (x1.length : Int) then (if 1 < (x1.length : Int) then ((some (([wrap64 ((rd x1 0) + (rd x1 1))] : List Int) : List Int)).bind fun y595 => (if 2 ≤ (x1.length : Int) then (if y595.length + (x1.drop 2).length < 17592186044416 then ((wageofficelaw28_withheld.f k x573000 x573001 x573002 0 0 (y595 ++ (x1.drop 2))).bind fun bt602 => (if bt602.2.2 = true then (if bt602.1 = x6 then (if bt602.2.1 = x9 then (some x5) else (some false)) else (some false)) else (some x5))) else (none)) else (none))) else (none)) else (none)) else (some x5))
end
def wageofficelaw28_TaxAccumulates.f (k : Nat) (a0_0 : Int) (a0_1 : Int) (l0_2 : List (S75)) (l1 : List Int) : Option (Bool) := (wageofficelaw28_head.f).bind fun t573 => ((wageofficelaw28_short.f k (([(⟨a0_0, (⟨a0_1, l0_2⟩ : S42)⟩ : S44)] : List (S44)))).bind fun t577 => (if t577 = true then (if (l1.length : Int) = 0 then (wageofficelaw28_TaxAccumulates.j0 k l1 t573 true a0_0 a0_1 l0_2) else (wageofficelaw28_TaxAccumulates.j0 k l1 t573 (decide ((l1.length : Int) > 24)) a0_0 a0_1 l0_2)) else (wageofficelaw28_TaxAccumulates.j0 k l1 t573 true a0_0 a0_1 l0_2)))
theorem wageofficelaw28_TaxAccumulates.mono_l : ∀ k, (∀ y0 y1 y2 y3 y4 y5, LeO (wageofficelaw28_TaxAccumulates.j0 k y0 y1 y2 y3 y4 y5) (wageofficelaw28_TaxAccumulates.j0 (k + 1) y0 y1 y2 y3 y4 y5)) ∧ (∀ y0 y1 y2 y3 y4 y5 y6 y7, LeO (wageofficelaw28_TaxAccumulates.j1 k y0 y1 y2 y3 y4 y5 y6 y7) (wageofficelaw28_TaxAccumulates.j1 (k + 1) y0 y1 y2 y3 y4 y5 y6 y7)) ∧ (∀ y0 y1 y2 y3 y4 y5 y6 y7 y8 y9 y10, LeO (wageofficelaw28_TaxAccumulates.l0 k y0 y1 y2 y3 y4 y5 y6 y7 y8 y9 y10) (wageofficelaw28_TaxAccumulates.l0 (k + 1) y0 y1 y2 y3 y4 y5 y6 y7 y8 y9 y10)) ∧ (∀ y0 y1 y2 y3 y4 y5 y6 y7, LeO (wageofficelaw28_TaxAccumulates.j3 k y0 y1 y2 y3 y4 y5 y6 y7) (wageofficelaw28_TaxAccumulates.j3 (k + 1) y0 y1 y2 y3 y4 y5 y6 y7))
  | 0 => ⟨fun _ _ _ _ _ _ r h => by simp [wageofficelaw28_TaxAccumulates.j0] at h, fun _ _ _ _ _ _ _ _ r h => by simp [wageofficelaw28_TaxAccumulates.j1] at h, fun _ _ _ _ _ _ _ _ _ _ _ r h => by simp [wageofficelaw28_TaxAccumulates.l0] at h, fun _ _ _ _ _ _ _ _ r h => by simp [wageofficelaw28_TaxAccumulates.j3] at h⟩
  | k + 1 => by
    obtain ⟨ih0, ih1, ih2, ih3⟩ := wageofficelaw28_TaxAccumulates.mono_l k
    refine ⟨?_, ?_, ?_, ?_⟩
    · intro y0 y1 y2 y3 y4 y5
      unfold wageofficelaw28_TaxAccumulates.j0
      repeat' first
      | (with_reducible exact ih0 _ _ _ _ _ _)
      | (with_reducible exact ih1 _ _ _ _ _ _ _ _)
      | (with_reducible exact ih2 _ _ _ _ _ _ _ _ _ _ _)
      | (with_reducible exact ih3 _ _ _ _ _ _ _ _)
      | (with_reducible exact tax_Year.mono _ _ _ _ _)
      | (with_reducible exact wageofficelaw28_short.mono _ _)
      | (with_reducible exact wageofficelaw28_withheld.mono _ _ _ _ _ _ _)
      | (with_reducible exact LeO.refl _)
      | (with_reducible exact LeO.none _)
      | (with_reducible refine LeO.ite ?_ ?_)
      | (with_reducible refine LeO.bind ?_ (fun _ => ?_))
      | exact ih0 _ _ _ _ _ _
      | exact ih1 _ _ _ _ _ _ _ _
      | exact ih2 _ _ _ _ _ _ _ _ _ _ _
      | exact ih3 _ _ _ _ _ _ _ _
      | exact tax_Year.mono _ _ _ _ _
      | exact wageofficelaw28_short.mono _ _
      | exact wageofficelaw28_withheld.mono _ _ _ _ _ _ _
      | exact LeO.none _
      | refine LeO.ite ?_ ?_
      | refine LeO.bind ?_ (fun _ => ?_)
    · intro y0 y1 y2 y3 y4 y5 y6 y7
      unfold wageofficelaw28_TaxAccumulates.j1
      repeat' first
      | (with_reducible exact ih0 _ _ _ _ _ _)
      | (with_reducible exact ih1 _ _ _ _ _ _ _ _)
      | (with_reducible exact ih2 _ _ _ _ _ _ _ _ _ _ _)
      | (with_reducible exact ih3 _ _ _ _ _ _ _ _)
      | (with_reducible exact tax_Year.mono _ _ _ _ _)
      | (with_reducible exact wageofficelaw28_short.mono _ _)
      | (with_reducible exact wageofficelaw28_withheld.mono _ _ _ _ _ _ _)
      | (with_reducible exact LeO.refl _)
      | (with_reducible exact LeO.none _)
      | (with_reducible refine LeO.ite ?_ ?_)
      | (with_reducible refine LeO.bind ?_ (fun _ => ?_))
      | exact ih0 _ _ _ _ _ _
      | exact ih1 _ _ _ _ _ _ _ _
      | exact ih2 _ _ _ _ _ _ _ _ _ _ _
      | exact ih3 _ _ _ _ _ _ _ _
      | exact tax_Year.mono _ _ _ _ _
      | exact wageofficelaw28_short.mono _ _
      | exact wageofficelaw28_withheld.mono _ _ _ _ _ _ _
      | exact LeO.none _
      | refine LeO.ite ?_ ?_
      | refine LeO.bind ?_ (fun _ => ?_)
    · intro y0 y1 y2 y3 y4 y5 y6 y7 y8 y9 y10
      unfold wageofficelaw28_TaxAccumulates.l0
      repeat' first
      | (with_reducible exact ih0 _ _ _ _ _ _)
      | (with_reducible exact ih1 _ _ _ _ _ _ _ _)
      | (with_reducible exact ih2 _ _ _ _ _ _ _ _ _ _ _)
      | (with_reducible exact ih3 _ _ _ _ _ _ _ _)
      | (with_reducible exact tax_Year.mono _ _ _ _ _)
      | (with_reducible exact wageofficelaw28_short.mono _ _)
      | (with_reducible exact wageofficelaw28_withheld.mono _ _ _ _ _ _ _)
      | (with_reducible exact LeO.refl _)
      | (with_reducible exact LeO.none _)
      | (with_reducible refine LeO.ite ?_ ?_)
      | (with_reducible refine LeO.bind ?_ (fun _ => ?_))
      | exact ih0 _ _ _ _ _ _
      | exact ih1 _ _ _ _ _ _ _ _
      | exact ih2 _ _ _ _ _ _ _ _ _ _ _
      | exact ih3 _ _ _ _ _ _ _ _
      | exact tax_Year.mono _ _ _ _ _
      | exact wageofficelaw28_short.mono _ _
      | exact wageofficelaw28_withheld.mono _ _ _ _ _ _ _
      | exact LeO.none _
      | refine LeO.ite ?_ ?_
      | refine LeO.bind ?_ (fun _ => ?_)
    · intro y0 y1 y2 y3 y4 y5 y6 y7
      unfold wageofficelaw28_TaxAccumulates.j3
      repeat' first
      | (with_reducible exact ih0 _ _ _ _ _ _)
      | (with_reducible exact ih1 _ _ _ _ _ _ _ _)
      | (with_reducible exact ih2 _ _ _ _ _ _ _ _ _ _ _)
      | (with_reducible exact ih3 _ _ _ _ _ _ _ _)
      | (with_reducible exact tax_Year.mono _ _ _ _ _)
      | (with_reducible exact wageofficelaw28_short.mono _ _)
      | (with_reducible exact wageofficelaw28_withheld.mono _ _ _ _ _ _ _)
      | (with_reducible exact LeO.refl _)
      | (with_reducible exact LeO.none _)
      | (with_reducible refine LeO.ite ?_ ?_)
      | (with_reducible refine LeO.bind ?_ (fun _ => ?_))
      | exact ih0 _ _ _ _ _ _
      | exact ih1 _ _ _ _ _ _ _ _
      | exact ih2 _ _ _ _ _ _ _ _ _ _ _
      | exact ih3 _ _ _ _ _ _ _ _
      | exact tax_Year.mono _ _ _ _ _
      | exact wageofficelaw28_short.mono _ _
      | exact wageofficelaw28_withheld.mono _ _ _ _ _ _ _
      | exact LeO.none _
      | refine LeO.ite ?_ ?_
      | refine LeO.bind ?_ (fun _ => ?_)
theorem wageofficelaw28_TaxAccumulates.mono : ∀ a0 a1 a2 a3 k, LeO (wageofficelaw28_TaxAccumulates.f k a0 a1 a2 a3) (wageofficelaw28_TaxAccumulates.f (k + 1) a0 a1 a2 a3) := by
  intro a0 a1 a2 a3 k
  obtain ⟨ih0, ih1, ih2, ih3⟩ := wageofficelaw28_TaxAccumulates.mono_l k
  unfold wageofficelaw28_TaxAccumulates.f
  repeat' first
      | (with_reducible exact ih0 _ _ _ _ _ _)
      | (with_reducible exact ih1 _ _ _ _ _ _ _ _)
      | (with_reducible exact ih2 _ _ _ _ _ _ _ _ _ _ _)
      | (with_reducible exact ih3 _ _ _ _ _ _ _ _)
      | (with_reducible exact tax_Year.mono _ _ _ _ _)
      | (with_reducible exact wageofficelaw28_short.mono _ _)
      | (with_reducible exact wageofficelaw28_withheld.mono _ _ _ _ _ _ _)
      | (with_reducible exact LeO.refl _)
      | (with_reducible exact LeO.none _)
      | (with_reducible refine LeO.ite ?_ ?_)
      | (with_reducible refine LeO.bind ?_ (fun _ => ?_))
      | exact ih0 _ _ _ _ _ _
      | exact ih1 _ _ _ _ _ _ _ _
      | exact ih2 _ _ _ _ _ _ _ _ _ _ _
      | exact ih3 _ _ _ _ _ _ _ _
      | exact tax_Year.mono _ _ _ _ _
      | exact wageofficelaw28_short.mono _ _
      | exact wageofficelaw28_withheld.mono _ _ _ _ _ _ _
      | exact LeO.none _
      | refine LeO.ite ?_ ?_
      | refine LeO.bind ?_ (fun _ => ?_)
def wageofficelaw28_TaxAccumulates.T20 : Bool × List (List Nat × List Nat) := (true, [([], []), ([], []), ([1], [1]), ([2], [2]), ([], []), ([4], [4]), ([5], [5]), ([3, 6], [3, 6]), ([7], [7]), ([], []), ([9], [9]), ([8, 10], [8, 10]), ([0, 11, 11], [0, 11]), ([12], [12]), ([13], [13]), ([13], [13]), ([13], [13]), ([14, 12, 0, 1, 2, 3, 4, 5, 6, 7, 8, 9, 10, 11, 12, 13, 14], [14]), ([15, 17, 0, 1, 2, 3, 4, 5, 6, 7, 8, 9, 10, 11, 12, 13, 14, 15, 17], [15]), ([16, 18, 0, 1, 2, 3, 4, 5, 6, 7, 8, 9, 10, 11, 12, 13, 14, 15, 16, 17, 18], [16])])
def wageofficelaw28_TaxAccumulates.B20 : List Nat := [0, 0, 2, 6, 0, 16, 48, 126, 254, 0, 512, 2046, 4095, 8191, 16383, 16383, 16383, 32767, 196607, 524287]
theorem wageofficelaw28_TaxAccumulates.tab20 : rtab .any (opsOf Try.f10 20) = wageofficelaw28_TaxAccumulates.T20 := by kernel_rfl
theorem wageofficelaw28_TaxAccumulates.bits20 : waitsOk wageofficelaw28_TaxAccumulates.T20.2 wageofficelaw28_TaxAccumulates.B20 = true := by kernel_rfl
set_option maxHeartbeats 8000000 in
set_option maxRecDepth 100000 in
theorem wageofficelaw28_TaxAccumulates.calls (k : Nat) (a0_0 : Int) (a0_1 : Int) (P0_2_ : Nat → Prop) (A0_2 : Option Addr) (c0_2 : Nat) (l0_2 : List (S75)) (A1 : Option Addr) (c1 : Nat) (l1 : List Int) (r : Bool) (w : World) (hs0_2 : Kd.V k75 75 w w.heap.size (fun k_ => P0_2_ k_) (.slice A0_2 l0_2.length c0_2) l0_2) (hr1 : Kd.C (Kd.int .i64) w A1 l1.length l1) (hc1 : l1.length ≤ c1) (h : wageofficelaw28_TaxAccumulates.f k a0_0 a0_1 l0_2 l1 = some r) :
    Calls Try.prog 10 #[.agg #[.int .i64 a0_0, .int .i64 a0_1, .slice A0_2 l0_2.length c0_2], .slice A1 l1.length c1] w fun e w' => e = .returned (.bool r) ∧ Below w.heap.size w w' := by
  have hu44 := Try.underlying44
  have HO0_2 := Aside0.mk (show Kd.V k75 75 w w.heap.size (fun k_ => (P0_2_ k_ ∨ w.heap.size ≤ k_)) (.slice A0_2 l0_2.length c0_2) l0_2 from Kd.V_mono hs0_2 (fun k_ hk => .inl hk))
  have HR1 := Aside0.mk hr1
  have HC1 := Aside0.mk hc1
  clear hr1 hc1
  have HB := Aside0.mk (Below.refl w.heap.size w)
  have H : ((wageofficelaw28_head.f).bind fun t573 => ((wageofficelaw28_short.f k (([(⟨a0_0, (⟨a0_1, l0_2⟩ : S42)⟩ : S44)] : List (S44)))).bind fun t577 => (if t577 = true then (if (l1.length : Int) = 0 then (wageofficelaw28_TaxAccumulates.j0 k l1 t573 true a0_0 a0_1 l0_2) else (wageofficelaw28_TaxAccumulates.j0 k l1 t573 (decide ((l1.length : Int) > 24)) a0_0 a0_1 l0_2)) else (wageofficelaw28_TaxAccumulates.j0 k l1 t573 true a0_0 a0_1 l0_2)))) = some r := h
  clear h
  replace H := Option.bind_eq_some_iff.mp H
  obtain ⟨t573, A30, H⟩ := H
  replace H : ((wageofficelaw28_short.f k (([(⟨a0_0, (⟨a0_1, l0_2⟩ : S42)⟩ : S44)] : List (S44)))).bind fun t577 => (if t577 = true then (if (l1.length : Int) = 0 then (wageofficelaw28_TaxAccumulates.j0 k l1 t573 true a0_0 a0_1 l0_2) else (wageofficelaw28_TaxAccumulates.j0 k l1 t573 (decide ((l1.length : Int) > 24)) a0_0 a0_1 l0_2)) else (wageofficelaw28_TaxAccumulates.j0 k l1 t573 true a0_0 a0_1 l0_2))) = some r := H
  have A3 := Aside0.mk A30
  clear A30
  have HC4 := Aside0.mk H
  clear H
  go_enter Try.func10, Try.ntmps10
  go_upto_region 2 with (first | ((with_reducible refine gate_dst (N := 2) rfl ?_); (try (refine gate_guard (by rfl) ?_; dsimp only)); refine box_event ?hg (N := 2) ?hd (cs := #[.int .i64 a0_0, .int .i64 a0_1, .slice A0_2 l0_2.length c0_2]) (t := 44) ?hr ?_; (case hd => rfl); (case hg => rfl); (case hr => first | (go_simp; done) | (go_simp; rfl)); intro gb572 hg w5 hbox hb; have n0_ := Aside0.mk (Kd.V_below (Kd.V_elderB (by (with_reducible repeat (first | apply Kd.V_alloc | apply Kd.V_drewN | apply Kd.V_drew)); exact HO0_2.out) gb572 (Nat.le_of_eq hg.symm)) hb); have n1_ := Aside0.mk (below_step (by repeat (first | (with_reducible first | exact HB.out | apply below_alloc | apply pw_below_drewN | apply below_drew1) | exact HB.out)) hb); have n2_ := Aside0.mk (hbox); have n3_ := Aside0.mk ((by rw [hg]; exact (below_size (by repeat (first | (with_reducible first | exact HB.out | apply below_alloc | apply pw_below_drewN | apply below_drew1) | exact HB.out))) : w.heap.size ≤ gb572)); have n4_ := Aside0.mk ((by rw [hg]; exact (below_size (by repeat (first | (with_reducible first | exact HB.out | apply below_alloc | apply pw_below_drewN | apply below_drew1) | exact HB.out))) : w.heap.size ≤ gb572)); clear HO0_2; clear HB; have HO0_2 := n0_; have HB := n1_; have BK572 := n2_; have GW572 := n3_; have GE572 := n4_; clear n0_ n1_ n2_ n3_ n4_; clear hb hbox hg) | ((with_reducible refine gate_callee (f := 27) rfl ?_); refine goesL_ (some 20) rfl rfl Try.func27 (by kernel_rfl) rfl #[] rfl (by (try simp only [List.map_toArray, List.map_cons, List.map_nil]); first | done | rfl | (simp only [List.length_drop, List.length_take]; rfl)) ?_; (with_reducible refine (wageofficelaw28_head.calls  t573 _ A3.out).mono ?_); rintro e w6 ⟨rfl, hb⟩; refine ⟨_, rfl, ?_⟩; have n0_ := Aside0.mk (Kd.V_below (by (with_reducible repeat (first | apply Kd.V_alloc | apply Kd.V_drewN | apply Kd.V_drew)); exact HO0_2.out) hb); have n1_ := Aside0.mk (blk_below (g := gb572) (o := .cells #[.int .i64 a0_0, .int .i64 a0_1, .slice A0_2 l0_2.length c0_2] 44 (0, 0)) (by (with_reducible repeat (first | refine blk_drewN ?_ _ | refine blk_drew ?_ | refine blk_alloc ?_ _)); exact BK572.out) hb); have n2_ := Aside0.mk (below_step (by repeat (first | (with_reducible first | exact HB.out | apply below_alloc | apply pw_below_drewN | apply below_drew1 | refine below_set ?_ GE572.out) | exact HB.out)) hb); clear HO0_2; clear BK572; clear HB; have HO0_2 := n0_; have BK572 := n1_; have HB := n2_; clear n0_ n1_ n2_; (try clear hb); (try clear hb2); (try clear hk); (try clear hi)))
  (try simp only [Act.put, List.setIfInBounds_toArray, List.set_cons_zero, List.set_cons_succ])
  go_cut [34] (fun v34 wc => ∃ (kq : Nat) (x34_3 : Bool), v34 = .bool x34_3 ∧ Aside0 (wageofficelaw28_TaxAccumulates.j0 kq l1 t573 x34_3 a0_0 a0_1 l0_2 = some r) ∧ Aside0 (kq ≤ k) ∧ Aside0 (Kd.V k75 75 wc w.heap.size (fun k_ => (P0_2_ k_ ∨ w.heap.size ≤ k_) ∧ k_ ≠ gb572) (.slice A0_2 l0_2.length c0_2) l0_2) ∧ Aside0 (wc.heap[gb572]? = some (.cells #[.int .i64 a0_0, .int .i64 a0_1, (.slice A0_2 l0_2.length c0_2)] 44 (0, 0))) ∧ Aside0 (Below w.heap.size w wc))
  case first =>
    have H := HC4.out
    clear HC4
    obtain ⟨y574, hy574⟩ : ∃ y_ : List (S44), y_ = (([(⟨a0_0, (⟨a0_1, l0_2⟩ : S42)⟩ : S44)] : List (S44))) := ⟨_, rfl⟩
    replace H : ((wageofficelaw28_short.f k y574).bind fun t577 => (if t577 = true then (if (l1.length : Int) = 0 then (wageofficelaw28_TaxAccumulates.j0 k l1 t573 true a0_0 a0_1 l0_2) else (wageofficelaw28_TaxAccumulates.j0 k l1 t573 (decide ((l1.length : Int) > 24)) a0_0 a0_1 l0_2)) else (wageofficelaw28_TaxAccumulates.j0 k l1 t573 true a0_0 a0_1 l0_2))) = some r := by first | (rw [hy574]; with_reducible exact H) | (have H2_ := (Option.bind_some _ _).symm.trans H; rw [hy574]; with_reducible exact H2_) | (have H2_ := (Option.bind_some _ _).symm.trans H; with_reducible exact H2_) | with_reducible exact H | (rw [hy574]; exact H) | exact H
    have Ny574 := Aside0.mk hy574
    clear hy574
    replace H := Option.bind_eq_some_iff.mp H
    obtain ⟨t577, A70, H⟩ := H
    replace H : (if t577 = true then (if (l1.length : Int) = 0 then (wageofficelaw28_TaxAccumulates.j0 k l1 t573 true a0_0 a0_1 l0_2) else (wageofficelaw28_TaxAccumulates.j0 k l1 t573 (decide ((l1.length : Int) > 24)) a0_0 a0_1 l0_2)) else (wageofficelaw28_TaxAccumulates.j0 k l1 t573 true a0_0 a0_1 l0_2)) = some r := H
    have A7 := Aside0.mk A70
    clear A70
    by_cases c8 : t577 = true
    · subst c8
      have H1 : (if (l1.length : Int) = 0 then (wageofficelaw28_TaxAccumulates.j0 k l1 t573 true a0_0 a0_1 l0_2) else (wageofficelaw28_TaxAccumulates.j0 k l1 t573 (decide ((l1.length : Int) > 24)) a0_0 a0_1 l0_2)) = some r := by rw [if_pos rfl] at H; exact H
      clear H
      have H := H1
      clear H1
      by_cases c9 : (l1.length : Int) = 0
      · rw [if_pos c9] at H
        have c9b0 : ((l1.length : Int) == 0) = true := beq_iff_eq.mpr c9
        have c9b1 : ((l1.length : Int) != 0) = false := bne_eq_false_iff_eq.mpr c9
        clear c9
        (first | rw [c9b0] | (simp only [i64_w, i32_w]; rw [c9b0]) | skip)
        have H' := Aside0.mk H
        clear H
        have hcz10_0 : w6.cell? ⟨gb572, 0, none⟩ = some (.int .i64 a0_0) := (blk_cell BK572.out 0).trans rfl
        have hcz10_1 : w6.cell? ⟨gb572, 1, none⟩ = some (.int .i64 a0_1) := (blk_cell BK572.out 1).trans rfl
        have hcz10_2 : w6.cell? ⟨gb572, 2, none⟩ = some (.slice A0_2 l0_2.length c0_2) := (blk_cell BK572.out 2).trans rfl
        have hfz10_0 := blk_frozen BK572.out 0
        have hfz10_1 := blk_frozen BK572.out 1
        have hfz10_2 := blk_frozen BK572.out 2
        go_wp2_with (first | ((with_reducible refine gate_dst (N := 22) rfl ?_); (try (refine gate_guard (by rfl) ?_; dsimp only)); refine Kd.N_lit k44 _ 44 ?hg (N' := 22) ?hd (xs := ([(⟨a0_0, (⟨a0_1, l0_2⟩ : S42)⟩ : S44)] : List (S44))) (inner := [.int .i64 a0_0, .int .i64 a0_1, .slice A0_2 l0_2.length c0_2]) (ok := (fun k_ => (P0_2_ k_ ∨ w.heap.size ≤ k_) ∧ k_ ≠ gb572)) (okp := (fun k_ => (P0_2_ k_ ∨ w.heap.size ≤ k_) ∧ k_ ≠ gb572)) ?hr ?hp (fun _ hk => hk) ((show ∀ k_, w6.heap.size ≤ k_ → (fun k_ => (P0_2_ k_ ∨ w.heap.size ≤ k_) ∧ k_ ≠ gb572) k_ from fun k_ hk => ⟨(.inr (Nat.le_trans (below_size (by repeat (first | (with_reducible first | exact HB.out | apply below_alloc | apply pw_below_drewN | apply below_drew1 | refine below_set ?_ GE572.out) | exact HB.out))) hk)), Kd.freshB (g := gb572) (o := .cells #[.int .i64 a0_0, .int .i64 a0_1, .slice A0_2 l0_2.length c0_2] 44 (0, 0)) (by (with_reducible repeat (first | refine blk_drewN ?_ _ | refine blk_drew ?_ | refine blk_alloc ?_ _)); exact BK572.out) k_ hk⟩) _ (Nat.le_refl _)) (Below.refl _ _) (Nat.le_refl _) (by simp) ?_; (case hd => rfl); (case hg => rfl); (case hr => first | (go_simp; done) | (go_simp; rfl)); (case hp => exact (Reps.c3 (show Kd.FK k44 _ _ (⟨a0_0, (⟨a0_1, l0_2⟩ : S42)⟩ : S44) [.int .i64 a0_0, .int .i64 a0_1, .slice A0_2 l0_2.length c0_2] from (k44_mkF _ _ (⟨a0_0, (⟨a0_1, l0_2⟩ : S42)⟩ : S44) (Kd.V_reads' (Kd.V_mono (ok' := (fun k_ => (P0_2_ k_ ∨ w.heap.size ≤ k_) ∧ k_ ≠ gb572)) (HO0_2.out) (fun k_ hk => ⟨hk.1, hk.2⟩))).2.1 (Kd.V_F (Kd.V_mono (ok' := (fun k_ => (P0_2_ k_ ∨ w.heap.size ≤ k_) ∧ k_ ≠ gb572)) (HO0_2.out) (fun k_ hk => ⟨hk.1, hk.2⟩))))) (Reps.none _ _))); intro v575 w11 ho12 hb hg_ hnew_; clear hg_ hnew_; (first | rw [← Ny574.out] at ho12 | (simp only [Int.reduceToNat] at ho12; rw [← Ny574.out] at ho12)); have n0_ := Aside0.mk (Kd.V_elder' (by (with_reducible repeat (first | apply Kd.V_alloc | apply Kd.V_drewN | apply Kd.V_drew)); exact HO0_2.out) (Kd.N_base ho12) hb); have n1_ := Aside0.mk (Kd.N_lower ho12 (below_size (by repeat (first | (with_reducible first | exact HB.out | apply below_alloc | apply pw_below_drewN | apply below_drew1 | refine below_set ?_ GE572.out) | exact HB.out)))); have n2_ := Aside0.mk (blk_below (g := gb572) (o := .cells #[.int .i64 a0_0, .int .i64 a0_1, .slice A0_2 l0_2.length c0_2] 44 (0, 0)) (by (with_reducible repeat (first | refine blk_drewN ?_ _ | refine blk_drew ?_ | refine blk_alloc ?_ _)); exact BK572.out) hb); have n3_ := Aside0.mk (below_step (by repeat (first | (with_reducible first | exact HB.out | apply below_alloc | apply pw_below_drewN | apply below_drew1 | refine below_set ?_ GE572.out) | exact HB.out)) hb); clear HO0_2; clear BK572; clear HB; have HO0_2 := n0_; have HO576 := n1_; have BK572 := n2_; have HB := n3_; clear n0_ n1_ n2_ n3_; clear hb ho12; obtain ⟨Ao13, co13, eo13⟩ := Kd.N_slice HO576.out; subst eo13) | ((with_reducible refine gate_callee (f := 28) rfl ?_); refine goesL_ (some 23) rfl rfl Try.func28 (by kernel_rfl) rfl #[.slice Ao13 y574.length co13] rfl (by (try simp only [List.map_toArray, List.map_cons, List.map_nil]); first | done | rfl | (simp only [List.length_drop, List.length_take]; rfl)) ?_; (with_reducible refine (wageofficelaw28_short.calls k _ _ y574 true _ ?side1 ?side2 A7.out).mono ?_); (case side1 => repeat (first | exact (Kd.N_reads' HO576.out).2.2 | (with_reducible refine Kd.C_alloc ?_ _) | (with_reducible refine Kd.C_drewN ?_ _) | (with_reducible refine Kd.C_drew ?_))); (case side2 => exact (Kd.N_reads' HO576.out).2.1); rintro e w14 ⟨rfl, hb⟩; refine ⟨_, rfl, ?_⟩; have n0_ := Aside0.mk (Kd.V_below (by (with_reducible repeat (first | apply Kd.V_alloc | apply Kd.V_drewN | apply Kd.V_drew)); exact HO0_2.out) hb); have n1_ := Aside0.mk (Kd.N_below (by (with_reducible repeat (first | apply Kd.N_alloc | apply Kd.N_drewN | apply Kd.N_drew)); exact HO576.out) hb); have n2_ := Aside0.mk (blk_below (g := gb572) (o := .cells #[.int .i64 a0_0, .int .i64 a0_1, .slice A0_2 l0_2.length c0_2] 44 (0, 0)) (by (with_reducible repeat (first | refine blk_drewN ?_ _ | refine blk_drew ?_ | refine blk_alloc ?_ _)); exact BK572.out) hb); have n3_ := Aside0.mk (below_step (by repeat (first | (with_reducible first | exact HB.out | apply below_alloc | apply pw_below_drewN | apply below_drew1 | refine below_set ?_ GE572.out) | exact HB.out)) hb); clear HO0_2; clear HO576; clear BK572; clear HB; have HO0_2 := n0_; have HO576 := n1_; have BK572 := n2_; have HB := n3_; clear n0_ n1_ n2_ n3_; (try clear hb); (try clear hb2); (try clear hk); (try clear hi)))
        go_meet
        case rel => exact ⟨_, (true), (by first | rfl | (simp; done) | (simp [*]; done)), H', ⟨by first | omega | exact Nat.le_refl _⟩, ⟨by (with_reducible repeat (first | apply Kd.V_alloc | apply Kd.V_drewN | apply Kd.V_drew)); exact Kd.V_mono HO0_2.out (fun _ hk => ⟨hk.1.1, hk.1.2⟩)⟩, ⟨by (with_reducible repeat (first | refine blk_drewN ?_ _ | refine blk_drew ?_ | refine blk_alloc ?_ _)); exact BK572.out⟩, ⟨by repeat (first | (with_reducible first | exact HB.out | apply below_alloc | apply pw_below_drewN | apply below_drew1 | refine below_set ?_ GE572.out) | exact HB.out)⟩⟩
      · rw [if_neg c9] at H
        have c9b0 : ((l1.length : Int) == 0) = false := beq_eq_false_iff_ne.mpr c9
        have c9b1 : ((l1.length : Int) != 0) = true := bne_iff_ne.mpr c9
        have c9b2 : ¬ (l1 = []) := fun h_ => c9 (by rw [h_]; rfl)
        (first | rw [c9b0] | (simp only [i64_w, i32_w]; rw [c9b0]) | skip)
        have H' := Aside0.mk H
        clear H
        have hcz15_0 : w6.cell? ⟨gb572, 0, none⟩ = some (.int .i64 a0_0) := (blk_cell BK572.out 0).trans rfl
        have hcz15_1 : w6.cell? ⟨gb572, 1, none⟩ = some (.int .i64 a0_1) := (blk_cell BK572.out 1).trans rfl
        have hcz15_2 : w6.cell? ⟨gb572, 2, none⟩ = some (.slice A0_2 l0_2.length c0_2) := (blk_cell BK572.out 2).trans rfl
        have hfz15_0 := blk_frozen BK572.out 0
        have hfz15_1 := blk_frozen BK572.out 1
        have hfz15_2 := blk_frozen BK572.out 2
        go_wp2_with (first | ((with_reducible refine gate_dst (N := 22) rfl ?_); (try (refine gate_guard (by rfl) ?_; dsimp only)); refine Kd.N_lit k44 _ 44 ?hg (N' := 22) ?hd (xs := ([(⟨a0_0, (⟨a0_1, l0_2⟩ : S42)⟩ : S44)] : List (S44))) (inner := [.int .i64 a0_0, .int .i64 a0_1, .slice A0_2 l0_2.length c0_2]) (ok := (fun k_ => (P0_2_ k_ ∨ w.heap.size ≤ k_) ∧ k_ ≠ gb572)) (okp := (fun k_ => (P0_2_ k_ ∨ w.heap.size ≤ k_) ∧ k_ ≠ gb572)) ?hr ?hp (fun _ hk => hk) ((show ∀ k_, w6.heap.size ≤ k_ → (fun k_ => (P0_2_ k_ ∨ w.heap.size ≤ k_) ∧ k_ ≠ gb572) k_ from fun k_ hk => ⟨(.inr (Nat.le_trans (below_size (by repeat (first | (with_reducible first | exact HB.out | apply below_alloc | apply pw_below_drewN | apply below_drew1 | refine below_set ?_ GE572.out) | exact HB.out))) hk)), Kd.freshB (g := gb572) (o := .cells #[.int .i64 a0_0, .int .i64 a0_1, .slice A0_2 l0_2.length c0_2] 44 (0, 0)) (by (with_reducible repeat (first | refine blk_drewN ?_ _ | refine blk_drew ?_ | refine blk_alloc ?_ _)); exact BK572.out) k_ hk⟩) _ (Nat.le_refl _)) (Below.refl _ _) (Nat.le_refl _) (by simp) ?_; (case hd => rfl); (case hg => rfl); (case hr => first | (go_simp; done) | (go_simp; rfl)); (case hp => exact (Reps.c3 (show Kd.FK k44 _ _ (⟨a0_0, (⟨a0_1, l0_2⟩ : S42)⟩ : S44) [.int .i64 a0_0, .int .i64 a0_1, .slice A0_2 l0_2.length c0_2] from (k44_mkF _ _ (⟨a0_0, (⟨a0_1, l0_2⟩ : S42)⟩ : S44) (Kd.V_reads' (Kd.V_mono (ok' := (fun k_ => (P0_2_ k_ ∨ w.heap.size ≤ k_) ∧ k_ ≠ gb572)) (HO0_2.out) (fun k_ hk => ⟨hk.1, hk.2⟩))).2.1 (Kd.V_F (Kd.V_mono (ok' := (fun k_ => (P0_2_ k_ ∨ w.heap.size ≤ k_) ∧ k_ ≠ gb572)) (HO0_2.out) (fun k_ hk => ⟨hk.1, hk.2⟩))))) (Reps.none _ _))); intro v575 w16 ho17 hb hg_ hnew_; clear hg_ hnew_; (first | rw [← Ny574.out] at ho17 | (simp only [Int.reduceToNat] at ho17; rw [← Ny574.out] at ho17)); have n0_ := Aside0.mk (Kd.V_elder' (by (with_reducible repeat (first | apply Kd.V_alloc | apply Kd.V_drewN | apply Kd.V_drew)); exact HO0_2.out) (Kd.N_base ho17) hb); have n1_ := Aside0.mk (Kd.N_lower ho17 (below_size (by repeat (first | (with_reducible first | exact HB.out | apply below_alloc | apply pw_below_drewN | apply below_drew1 | refine below_set ?_ GE572.out) | exact HB.out)))); have n2_ := Aside0.mk (blk_below (g := gb572) (o := .cells #[.int .i64 a0_0, .int .i64 a0_1, .slice A0_2 l0_2.length c0_2] 44 (0, 0)) (by (with_reducible repeat (first | refine blk_drewN ?_ _ | refine blk_drew ?_ | refine blk_alloc ?_ _)); exact BK572.out) hb); have n3_ := Aside0.mk (below_step (by repeat (first | (with_reducible first | exact HB.out | apply below_alloc | apply pw_below_drewN | apply below_drew1 | refine below_set ?_ GE572.out) | exact HB.out)) hb); clear HO0_2; clear BK572; clear HB; have HO0_2 := n0_; have HO576 := n1_; have BK572 := n2_; have HB := n3_; clear n0_ n1_ n2_ n3_; clear hb ho17; obtain ⟨Ao18, co18, eo18⟩ := Kd.N_slice HO576.out; subst eo18) | ((with_reducible refine gate_callee (f := 28) rfl ?_); refine goesL_ (some 23) rfl rfl Try.func28 (by kernel_rfl) rfl #[.slice Ao18 y574.length co18] rfl (by (try simp only [List.map_toArray, List.map_cons, List.map_nil]); first | done | rfl | (simp only [List.length_drop, List.length_take]; rfl)) ?_; (with_reducible refine (wageofficelaw28_short.calls k _ _ y574 true _ ?side1 ?side2 A7.out).mono ?_); (case side1 => repeat (first | exact (Kd.N_reads' HO576.out).2.2 | (with_reducible refine Kd.C_alloc ?_ _) | (with_reducible refine Kd.C_drewN ?_ _) | (with_reducible refine Kd.C_drew ?_))); (case side2 => exact (Kd.N_reads' HO576.out).2.1); rintro e w19 ⟨rfl, hb⟩; refine ⟨_, rfl, ?_⟩; have n0_ := Aside0.mk (Kd.V_below (by (with_reducible repeat (first | apply Kd.V_alloc | apply Kd.V_drewN | apply Kd.V_drew)); exact HO0_2.out) hb); have n1_ := Aside0.mk (Kd.N_below (by (with_reducible repeat (first | apply Kd.N_alloc | apply Kd.N_drewN | apply Kd.N_drew)); exact HO576.out) hb); have n2_ := Aside0.mk (blk_below (g := gb572) (o := .cells #[.int .i64 a0_0, .int .i64 a0_1, .slice A0_2 l0_2.length c0_2] 44 (0, 0)) (by (with_reducible repeat (first | refine blk_drewN ?_ _ | refine blk_drew ?_ | refine blk_alloc ?_ _)); exact BK572.out) hb); have n3_ := Aside0.mk (below_step (by repeat (first | (with_reducible first | exact HB.out | apply below_alloc | apply pw_below_drewN | apply below_drew1 | refine below_set ?_ GE572.out) | exact HB.out)) hb); clear HO0_2; clear HO576; clear BK572; clear HB; have HO0_2 := n0_; have HO576 := n1_; have BK572 := n2_; have HB := n3_; clear n0_ n1_ n2_ n3_; (try clear hb); (try clear hb2); (try clear hk); (try clear hi)))
        go_meet
        case rel => exact ⟨_, (decide ((l1.length : Int) > 24)), (by first | rfl | (simp; done) | (simp [*]; done)), H', ⟨by first | omega | exact Nat.le_refl _⟩, ⟨by (with_reducible repeat (first | apply Kd.V_alloc | apply Kd.V_drewN | apply Kd.V_drew)); exact Kd.V_mono HO0_2.out (fun _ hk => ⟨hk.1.1, hk.1.2⟩)⟩, ⟨by (with_reducible repeat (first | refine blk_drewN ?_ _ | refine blk_drew ?_ | refine blk_alloc ?_ _)); exact BK572.out⟩, ⟨by repeat (first | (with_reducible first | exact HB.out | apply below_alloc | apply pw_below_drewN | apply below_drew1 | refine below_set ?_ GE572.out) | exact HB.out)⟩⟩
    · replace c8 := Bool.eq_false_iff.mpr c8
      subst c8
      have H1 : (wageofficelaw28_TaxAccumulates.j0 k l1 t573 true a0_0 a0_1 l0_2) = some r := by rw [if_neg (show ¬ (false = true) by decide)] at H; exact H
      clear H
      have H := H1
      clear H1
      have H' := Aside0.mk H
      clear H
      have hcz20_0 : w6.cell? ⟨gb572, 0, none⟩ = some (.int .i64 a0_0) := (blk_cell BK572.out 0).trans rfl
      have hcz20_1 : w6.cell? ⟨gb572, 1, none⟩ = some (.int .i64 a0_1) := (blk_cell BK572.out 1).trans rfl
      have hcz20_2 : w6.cell? ⟨gb572, 2, none⟩ = some (.slice A0_2 l0_2.length c0_2) := (blk_cell BK572.out 2).trans rfl
      have hfz20_0 := blk_frozen BK572.out 0
      have hfz20_1 := blk_frozen BK572.out 1
      have hfz20_2 := blk_frozen BK572.out 2
      go_wp2_with (first | ((with_reducible refine gate_dst (N := 22) rfl ?_); (try (refine gate_guard (by rfl) ?_; dsimp only)); refine Kd.N_lit k44 _ 44 ?hg (N' := 22) ?hd (xs := ([(⟨a0_0, (⟨a0_1, l0_2⟩ : S42)⟩ : S44)] : List (S44))) (inner := [.int .i64 a0_0, .int .i64 a0_1, .slice A0_2 l0_2.length c0_2]) (ok := (fun k_ => (P0_2_ k_ ∨ w.heap.size ≤ k_) ∧ k_ ≠ gb572)) (okp := (fun k_ => (P0_2_ k_ ∨ w.heap.size ≤ k_) ∧ k_ ≠ gb572)) ?hr ?hp (fun _ hk => hk) ((show ∀ k_, w6.heap.size ≤ k_ → (fun k_ => (P0_2_ k_ ∨ w.heap.size ≤ k_) ∧ k_ ≠ gb572) k_ from fun k_ hk => ⟨(.inr (Nat.le_trans (below_size (by repeat (first | (with_reducible first | exact HB.out | apply below_alloc | apply pw_below_drewN | apply below_drew1 | refine below_set ?_ GE572.out) | exact HB.out))) hk)), Kd.freshB (g := gb572) (o := .cells #[.int .i64 a0_0, .int .i64 a0_1, .slice A0_2 l0_2.length c0_2] 44 (0, 0)) (by (with_reducible repeat (first | refine blk_drewN ?_ _ | refine blk_drew ?_ | refine blk_alloc ?_ _)); exact BK572.out) k_ hk⟩) _ (Nat.le_refl _)) (Below.refl _ _) (Nat.le_refl _) (by simp) ?_; (case hd => rfl); (case hg => rfl); (case hr => first | (go_simp; done) | (go_simp; rfl)); (case hp => exact (Reps.c3 (show Kd.FK k44 _ _ (⟨a0_0, (⟨a0_1, l0_2⟩ : S42)⟩ : S44) [.int .i64 a0_0, .int .i64 a0_1, .slice A0_2 l0_2.length c0_2] from (k44_mkF _ _ (⟨a0_0, (⟨a0_1, l0_2⟩ : S42)⟩ : S44) (Kd.V_reads' (Kd.V_mono (ok' := (fun k_ => (P0_2_ k_ ∨ w.heap.size ≤ k_) ∧ k_ ≠ gb572)) (HO0_2.out) (fun k_ hk => ⟨hk.1, hk.2⟩))).2.1 (Kd.V_F (Kd.V_mono (ok' := (fun k_ => (P0_2_ k_ ∨ w.heap.size ≤ k_) ∧ k_ ≠ gb572)) (HO0_2.out) (fun k_ hk => ⟨hk.1, hk.2⟩))))) (Reps.none _ _))); intro v575 w21 ho22 hb hg_ hnew_; clear hg_ hnew_; (first | rw [← Ny574.out] at ho22 | (simp only [Int.reduceToNat] at ho22; rw [← Ny574.out] at ho22)); have n0_ := Aside0.mk (Kd.V_elder' (by (with_reducible repeat (first | apply Kd.V_alloc | apply Kd.V_drewN | apply Kd.V_drew)); exact HO0_2.out) (Kd.N_base ho22) hb); have n1_ := Aside0.mk (Kd.N_lower ho22 (below_size (by repeat (first | (with_reducible first | exact HB.out | apply below_alloc | apply pw_below_drewN | apply below_drew1 | refine below_set ?_ GE572.out) | exact HB.out)))); have n2_ := Aside0.mk (blk_below (g := gb572) (o := .cells #[.int .i64 a0_0, .int .i64 a0_1, .slice A0_2 l0_2.length c0_2] 44 (0, 0)) (by (with_reducible repeat (first | refine blk_drewN ?_ _ | refine blk_drew ?_ | refine blk_alloc ?_ _)); exact BK572.out) hb); have n3_ := Aside0.mk (below_step (by repeat (first | (with_reducible first | exact HB.out | apply below_alloc | apply pw_below_drewN | apply below_drew1 | refine below_set ?_ GE572.out) | exact HB.out)) hb); clear HO0_2; clear BK572; clear HB; have HO0_2 := n0_; have HO576 := n1_; have BK572 := n2_; have HB := n3_; clear n0_ n1_ n2_ n3_; clear hb ho22; obtain ⟨Ao23, co23, eo23⟩ := Kd.N_slice HO576.out; subst eo23) | ((with_reducible refine gate_callee (f := 28) rfl ?_); refine goesL_ (some 23) rfl rfl Try.func28 (by kernel_rfl) rfl #[.slice Ao23 y574.length co23] rfl (by (try simp only [List.map_toArray, List.map_cons, List.map_nil]); first | done | rfl | (simp only [List.length_drop, List.length_take]; rfl)) ?_; (with_reducible refine (wageofficelaw28_short.calls k _ _ y574 false _ ?side1 ?side2 A7.out).mono ?_); (case side1 => repeat (first | exact (Kd.N_reads' HO576.out).2.2 | (with_reducible refine Kd.C_alloc ?_ _) | (with_reducible refine Kd.C_drewN ?_ _) | (with_reducible refine Kd.C_drew ?_))); (case side2 => exact (Kd.N_reads' HO576.out).2.1); rintro e w24 ⟨rfl, hb⟩; refine ⟨_, rfl, ?_⟩; have n0_ := Aside0.mk (Kd.V_below (by (with_reducible repeat (first | apply Kd.V_alloc | apply Kd.V_drewN | apply Kd.V_drew)); exact HO0_2.out) hb); have n1_ := Aside0.mk (Kd.N_below (by (with_reducible repeat (first | apply Kd.N_alloc | apply Kd.N_drewN | apply Kd.N_drew)); exact HO576.out) hb); have n2_ := Aside0.mk (blk_below (g := gb572) (o := .cells #[.int .i64 a0_0, .int .i64 a0_1, .slice A0_2 l0_2.length c0_2] 44 (0, 0)) (by (with_reducible repeat (first | refine blk_drewN ?_ _ | refine blk_drew ?_ | refine blk_alloc ?_ _)); exact BK572.out) hb); have n3_ := Aside0.mk (below_step (by repeat (first | (with_reducible first | exact HB.out | apply below_alloc | apply pw_below_drewN | apply below_drew1 | refine below_set ?_ GE572.out) | exact HB.out)) hb); clear HO0_2; clear HO576; clear BK572; clear HB; have HO0_2 := n0_; have HO576 := n1_; have BK572 := n2_; have HB := n3_; clear n0_ n1_ n2_ n3_; (try clear hb); (try clear hb2); (try clear hk); (try clear hi)))
      go_meet
      case rel => exact ⟨_, (true), (by first | rfl | (simp; done) | (simp [*]; done)), H', ⟨by first | omega | exact Nat.le_refl _⟩, ⟨by (with_reducible repeat (first | apply Kd.V_alloc | apply Kd.V_drewN | apply Kd.V_drew)); exact Kd.V_mono HO0_2.out (fun _ hk => ⟨hk.1.1, hk.1.2⟩)⟩, ⟨by (with_reducible repeat (first | refine blk_drewN ?_ _ | refine blk_drew ?_ | refine blk_alloc ?_ _)); exact BK572.out⟩, ⟨by repeat (first | (with_reducible first | exact HB.out | apply below_alloc | apply pw_below_drewN | apply below_drew1 | refine below_set ?_ GE572.out) | exact HB.out)⟩⟩
  case rest =>
    clear HC4
    try clear c1
    try clear c2
    try clear p2
    try clear c3
    try clear c8
    try clear c9
    try clear c9b0
    try clear c9b1
    try clear c9b2
    try clear c10
    try clear hcz10_0
    try clear hcz10_1
    try clear hcz10_2
    try clear hcz15_0
    try clear hcz15_1
    try clear hcz15_2
    try clear hcz20_0
    try clear hcz20_1
    try clear hcz20_2
    try clear hfz10_0
    try clear hfz10_1
    try clear hfz10_2
    try clear hfz15_0
    try clear hfz15_1
    try clear hfz15_2
    try clear hfz20_0
    try clear hfz20_1
    try clear hfz20_2
    obtain ⟨kq, x34_3, rfl, HA, HJ3, HO_573002, BK572, HB⟩ := hcut
    cases kq with
    | zero => exact absurd HA.out (by simp [wageofficelaw28_TaxAccumulates.j0])
    | succ kj3 =>
      have H := HA.out
      clear HA
      simp only [wageofficelaw28_TaxAccumulates.j0] at H
      by_cases c25 : x34_3 = true
      · subst c25
        have H1 : (some t573) = some r := by rw [if_pos rfl] at H; exact H
        clear H
        have H := H1
        clear H1
        obtain rfl := Option.some.inj H
        go_wp2
        go_ret
        exact ⟨by first | rfl | (simp [errW_none, errW_some] <;> rfl) | (simp [*, errW_none, errW_some] <;> rfl), by repeat (first | (with_reducible first | exact HB.out | apply below_alloc | apply pw_below_drewN | apply below_drew1 | refine below_set ?_ GE572.out) | exact HB.out)⟩
      · replace c25 := Bool.eq_false_iff.mpr c25
        subst c25
        have H1 : ((wageofficelaw28_withheld.f kj3 a0_0 a0_1 l0_2 0 0 l1).bind fun bt578 => (if bt578.2.2 = true then ((tax_Year.f kj3 a0_0 a0_1 l0_2 bt578.1).bind fun bt581 => (if bt581.2 = 0 then (wageofficelaw28_TaxAccumulates.j1 kj3 l1 t573 bt578.1 bt581.1 (bt578.2.1 != bt581.1) a0_0 a0_1 l0_2) else (wageofficelaw28_TaxAccumulates.j1 kj3 l1 t573 bt578.1 bt581.1 true a0_0 a0_1 l0_2))) else (some t573))) = some r := by rw [if_neg (show ¬ (false = true) by decide)] at H; exact H
        clear H
        have H := H1
        clear H1
        replace H := Option.bind_eq_some_iff.mp H
        obtain ⟨⟨t578, t579, t580⟩, A260, H⟩ := H
        replace H : (if t580 = true then ((tax_Year.f kj3 a0_0 a0_1 l0_2 t578).bind fun bt581 => (if bt581.2 = 0 then (wageofficelaw28_TaxAccumulates.j1 kj3 l1 t573 t578 bt581.1 (t579 != bt581.1) a0_0 a0_1 l0_2) else (wageofficelaw28_TaxAccumulates.j1 kj3 l1 t573 t578 bt581.1 true a0_0 a0_1 l0_2))) else (some t573)) = some r := H
        have A26 := Aside0.mk A260
        clear A260
        by_cases c27 : t580 = true
        · subst c27
          have H1 : ((tax_Year.f kj3 a0_0 a0_1 l0_2 t578).bind fun bt581 => (if bt581.2 = 0 then (wageofficelaw28_TaxAccumulates.j1 kj3 l1 t573 t578 bt581.1 (t579 != bt581.1) a0_0 a0_1 l0_2) else (wageofficelaw28_TaxAccumulates.j1 kj3 l1 t573 t578 bt581.1 true a0_0 a0_1 l0_2))) = some r := by rw [if_pos rfl] at H; exact H
          clear H
          have H := H1
          clear H1
          replace H := Option.bind_eq_some_iff.mp H
          obtain ⟨⟨t581, t582⟩, A280, H⟩ := H
          replace H : (if t582 = 0 then (wageofficelaw28_TaxAccumulates.j1 kj3 l1 t573 t578 t581 (t579 != t581) a0_0 a0_1 l0_2) else (wageofficelaw28_TaxAccumulates.j1 kj3 l1 t573 t578 t581 true a0_0 a0_1 l0_2)) = some r := H
          have A28 := Aside0.mk A280
          clear A280
          have HC29 := Aside0.mk H
          clear H
          have hcz30_0 : wc.cell? ⟨gb572, 0, none⟩ = some (.int .i64 a0_0) := (blk_cell BK572.out 0).trans rfl
          have hcz30_1 : wc.cell? ⟨gb572, 1, none⟩ = some (.int .i64 a0_1) := (blk_cell BK572.out 1).trans rfl
          have hcz30_2 : wc.cell? ⟨gb572, 2, none⟩ = some (.slice A0_2 l0_2.length c0_2) := (blk_cell BK572.out 2).trans rfl
          have hfz30_0 := blk_frozen BK572.out 0
          have hfz30_1 := blk_frozen BK572.out 1
          have hfz30_2 := blk_frozen BK572.out 2
          go_upto_region 8 with (first | ((with_reducible refine gate_callee (f := 36) rfl ?_); refine goesL_ (some 39) rfl rfl Try.func36 (by kernel_rfl) rfl #[.agg #[.int .i64 a0_0, .int .i64 a0_1, .slice A0_2 l0_2.length c0_2], .int .i64 0, .int .i64 0, .slice A1 l1.length c1] rfl (by (try simp only [List.map_toArray, List.map_cons, List.map_nil]); first | done | rfl | (simp only [List.length_drop, List.length_take]; rfl)) ?_; (with_reducible refine (wageofficelaw28_withheld.calls kj3 a0_0 a0_1 _ _ l0_2 0 0 _ _ l1 t578 t579 true _ ?side1 ?side2 ?side3 ?side4 A26.out).mono ?_); (case side1 => repeat (first | exact (Kd.V_reads' HO_573002.out).2.2 | (with_reducible refine Kd.C_alloc ?_ _) | (with_reducible refine Kd.C_drewN ?_ _) | (with_reducible refine Kd.C_drew ?_))); (case side2 => exact (Kd.V_reads' HO_573002.out).2.1); (case side3 => repeat (first | exact (Kd.C_below HR1.out HB.out) | (with_reducible refine Kd.C_alloc ?_ _) | (with_reducible refine Kd.C_drewN ?_ _) | (with_reducible refine Kd.C_drew ?_))); (case side4 => exact HC1.out); rintro e w31 ⟨rfl, hb⟩; refine ⟨_, rfl, ?_⟩; have n0_ := Aside0.mk (Kd.V_below (by (with_reducible repeat (first | apply Kd.V_alloc | apply Kd.V_drewN | apply Kd.V_drew)); exact HO_573002.out) hb); have n1_ := Aside0.mk (blk_below (g := gb572) (o := .cells #[.int .i64 a0_0, .int .i64 a0_1, .slice A0_2 l0_2.length c0_2] 44 (0, 0)) (by (with_reducible repeat (first | refine blk_drewN ?_ _ | refine blk_drew ?_ | refine blk_alloc ?_ _)); exact BK572.out) hb); have n2_ := Aside0.mk (below_step (by repeat (first | (with_reducible first | exact HB.out | apply below_alloc | apply pw_below_drewN | apply below_drew1 | refine below_set ?_ GE572.out) | exact HB.out)) hb); clear HO_573002; clear BK572; clear HB; have HO_573002 := n0_; have BK572 := n1_; have HB := n2_; clear n0_ n1_ n2_; (try clear hb); (try clear hb2); (try clear hk); (try clear hi); have hcz32_0 : w31.cell? ⟨gb572, 0, none⟩ = some (.int .i64 a0_0) := (blk_cell BK572.out 0).trans rfl; have hcz32_1 : w31.cell? ⟨gb572, 1, none⟩ = some (.int .i64 a0_1) := (blk_cell BK572.out 1).trans rfl; have hcz32_2 : w31.cell? ⟨gb572, 2, none⟩ = some (.slice A0_2 l0_2.length c0_2) := (blk_cell BK572.out 2).trans rfl; have hfz32_0 := blk_frozen BK572.out 0; have hfz32_1 := blk_frozen BK572.out 1; have hfz32_2 := blk_frozen BK572.out 2) | ((with_reducible refine gate_callee (f := 31) rfl ?_); refine goesL_ (some 49) rfl rfl Try.func31 (by kernel_rfl) rfl #[.agg #[.int .i64 a0_0, .int .i64 a0_1, .slice A0_2 l0_2.length c0_2], .int .i64 t578] rfl (by (try simp only [List.map_toArray, List.map_cons, List.map_nil]); first | done | rfl | (simp only [List.length_drop, List.length_take]; rfl)) ?_; (with_reducible refine (tax_Year.calls kj3 a0_0 a0_1 _ _ l0_2 t578 t581 t582 _ ?side1 ?side2 A28.out).mono ?_); (case side1 => repeat (first | exact (Kd.V_reads' HO_573002.out).2.2 | (with_reducible refine Kd.C_alloc ?_ _) | (with_reducible refine Kd.C_drewN ?_ _) | (with_reducible refine Kd.C_drew ?_))); (case side2 => exact (Kd.V_reads' HO_573002.out).2.1); rintro e w33 ⟨rfl, hb⟩; refine ⟨_, rfl, ?_⟩; have n0_ := Aside0.mk (Kd.V_below (by (with_reducible repeat (first | apply Kd.V_alloc | apply Kd.V_drewN | apply Kd.V_drew)); exact HO_573002.out) hb); have n1_ := Aside0.mk (blk_below (g := gb572) (o := .cells #[.int .i64 a0_0, .int .i64 a0_1, .slice A0_2 l0_2.length c0_2] 44 (0, 0)) (by (with_reducible repeat (first | refine blk_drewN ?_ _ | refine blk_drew ?_ | refine blk_alloc ?_ _)); exact BK572.out) hb); have n2_ := Aside0.mk (below_step (by repeat (first | (with_reducible first | exact HB.out | apply below_alloc | apply pw_below_drewN | apply below_drew1 | refine below_set ?_ GE572.out) | exact HB.out)) hb); clear HO_573002; clear BK572; clear HB; have HO_573002 := n0_; have BK572 := n1_; have HB := n2_; clear n0_ n1_ n2_; (try clear hb); (try clear hb2); (try clear hk); (try clear hi)))
          (try simp only [Act.put, List.setIfInBounds_toArray, List.set_cons_zero, List.set_cons_succ])
          go_cut [58] (fun v58 wc => ∃ (kq : Nat) (x58_28 : Bool), v58 = .bool x58_28 ∧ Aside0 (wageofficelaw28_TaxAccumulates.j1 kq l1 t573 t578 t581 x58_28 a0_0 a0_1 l0_2 = some r) ∧ Aside0 (kq ≤ kj3) ∧ Aside0 (Kd.V k75 75 wc w.heap.size (fun k_ => (P0_2_ k_ ∨ w.heap.size ≤ k_) ∧ k_ ≠ gb572) (.slice A0_2 l0_2.length c0_2) l0_2) ∧ Aside0 (wc.heap[gb572]? = some (.cells #[.int .i64 a0_0, .int .i64 a0_1, (.slice A0_2 l0_2.length c0_2)] 44 (0, 0))) ∧ Aside0 (Below w.heap.size w wc))
          case first =>
            have H := HC29.out
            clear HC29
            by_cases c34 : t582 = 0
            · rw [if_pos c34] at H
              have c34b0 : (t582 == 0) = true := beq_iff_eq.mpr c34
              have c34b1 : (t582 != 0) = false := bne_eq_false_iff_eq.mpr c34
              clear c34
              (first | rw [c34b0] | (simp only [i64_w, i32_w]; rw [c34b0]) | skip)
              have H' := Aside0.mk H
              clear H
              go_wp2
              go_meet
              case rel => exact ⟨_, ((t579 != t581)), (by first | rfl | (simp; done) | (simp [*]; done)), H', ⟨by have := HJ3.out; first | omega | exact Nat.le_refl _⟩, ⟨by (with_reducible repeat (first | apply Kd.V_alloc | apply Kd.V_drewN | apply Kd.V_drew)); exact HO_573002.out⟩, ⟨by (with_reducible repeat (first | refine blk_drewN ?_ _ | refine blk_drew ?_ | refine blk_alloc ?_ _)); exact BK572.out⟩, ⟨by repeat (first | (with_reducible first | exact HB.out | apply below_alloc | apply pw_below_drewN | apply below_drew1 | refine below_set ?_ GE572.out) | exact HB.out)⟩⟩
            · rw [if_neg c34] at H
              have c34b0 : (t582 == 0) = false := beq_eq_false_iff_ne.mpr c34
              have c34b1 : (t582 != 0) = true := bne_iff_ne.mpr c34
              (first | rw [c34b0] | (simp only [i64_w, i32_w]; rw [c34b0]) | skip)
              have H' := Aside0.mk H
              clear H
              go_wp2
              go_meet
              case rel => exact ⟨_, (true), (by first | rfl | (simp; done) | (simp [*]; done)), H', ⟨by have := HJ3.out; first | omega | exact Nat.le_refl _⟩, ⟨by (with_reducible repeat (first | apply Kd.V_alloc | apply Kd.V_drewN | apply Kd.V_drew)); exact HO_573002.out⟩, ⟨by (with_reducible repeat (first | refine blk_drewN ?_ _ | refine blk_drew ?_ | refine blk_alloc ?_ _)); exact BK572.out⟩, ⟨by repeat (first | (with_reducible first | exact HB.out | apply below_alloc | apply pw_below_drewN | apply below_drew1 | refine below_set ?_ GE572.out) | exact HB.out)⟩⟩
          case rest =>
            clear HC29
            try clear c1
            try clear c2
            try clear p2
            try clear c3
            try clear c8
            try clear c9
            try clear c9b0
            try clear c9b1
            try clear c9b2
            try clear c10
            try clear c25
            try clear c27
            try clear c28
            try clear c31
            try clear c34
            try clear c34b0
            try clear c34b1
            try clear hcz10_0
            try clear hcz10_1
            try clear hcz10_2
            try clear hcz15_0
            try clear hcz15_1
            try clear hcz15_2
            try clear hcz20_0
            try clear hcz20_1
            try clear hcz20_2
            try clear hcz30_0
            try clear hcz30_1
            try clear hcz30_2
            try clear hcz32_0
            try clear hcz32_1
            try clear hcz32_2
            try clear hfz10_0
            try clear hfz10_1
            try clear hfz10_2
            try clear hfz15_0
            try clear hfz15_1
            try clear hfz15_2
            try clear hfz20_0
            try clear hfz20_1
            try clear hfz20_2
            try clear hfz30_0
            try clear hfz30_1
            try clear hfz30_2
            try clear hfz32_0
            try clear hfz32_1
            try clear hfz32_2
            try clear p2
            obtain ⟨kq, x58_28, rfl, HA, HJ28, HO_573002, BK572, HB⟩ := hcut
            cases kq with
            | zero => exact absurd HA.out (by simp [wageofficelaw28_TaxAccumulates.j1])
            | succ kj28 =>
              have H := HA.out
              clear HA
              simp only [wageofficelaw28_TaxAccumulates.j1] at H
              by_cases c35 : x58_28 = true
              · subst c35
                have H1 : (some false) = some r := by rw [if_pos rfl] at H; exact H
                clear H
                have H := H1
                clear H1
                obtain rfl := Option.some.inj H
                go_wp2
                go_ret
                exact ⟨by first | rfl | (simp [errW_none, errW_some] <;> rfl) | (simp [*, errW_none, errW_some] <;> rfl), by repeat (first | (with_reducible first | exact HB.out | apply below_alloc | apply pw_below_drewN | apply below_drew1 | refine below_set ?_ GE572.out) | exact HB.out)⟩
              · replace c35 := Bool.eq_false_iff.mpr c35
                subst c35
                have H1 : (wageofficelaw28_TaxAccumulates.l0 kj28 l1 t573 t578 t581 ([] : List Int) l1 (l1.length : Int) 0 a0_0 a0_1 l0_2) = some r := by rw [if_neg (show ¬ (false = true) by decide)] at H; exact H
                clear H
                have H := H1
                clear H1
                have H' := Aside0.mk H
                clear H
                go_wp2
                go_loopg [11, 61] kj28 (fun kq v11 v61 w' => ∃ (x11_3 : List Int) (x61_3 : Int), v61 = .int .i64 x61_3 ∧ Aside0 (wageofficelaw28_TaxAccumulates.l0 kq l1 t573 t578 t581 x11_3 l1 (l1.length : Int) x61_3 a0_0 a0_1 l0_2 = some r) ∧ Aside0 (kq ≤ kj28) ∧ Aside0 (Kd.R (Kd.int .i64) 3 w' w.heap.size (fun k_ => (w.heap.size ≤ k_)) v11 x11_3) ∧ Aside0 (Kd.V k75 75 w' w.heap.size (fun k_ => (P0_2_ k_ ∨ w.heap.size ≤ k_) ∧ some k_ ≠ (v11 : Value).ownBlock ∧ k_ ≠ gb572) (.slice A0_2 l0_2.length c0_2) l0_2) ∧ Aside0 (w'.heap[gb572]? = some (.cells #[.int .i64 a0_0, .int .i64 a0_1, (.slice A0_2 l0_2.length c0_2)] 44 (0, 0))) ∧ Aside0 (Below w.heap.size w w'))
                case atStart => exact ⟨(([] : List Int)), (0), (by first | rfl | (simp; done) | (simp [*]; done)), H', ⟨Nat.le_refl _⟩, ⟨by first | exact Kd.R_nil _ _ _ _ _ | exact Kd.N_nil _ _ _ _ _ | exact Kd.V_nil _ _ _ _ _ | exact Kd.Q_nil _ _ _ _ _ | exact Kd.S_nil _ _ _ _ _⟩, ⟨by (with_reducible repeat (first | apply Kd.V_alloc | apply Kd.V_drewN | apply Kd.V_drew)); exact Kd.V_mono HO_573002.out (fun _ hk => ⟨hk.1, ⟨(by simp [Value.ownBlock]), hk.2⟩⟩)⟩, ⟨by (with_reducible repeat (first | refine blk_drewN ?_ _ | refine blk_drew ?_ | refine blk_alloc ?_ _)); exact BK572.out⟩, ⟨by repeat (first | (with_reducible first | exact HB.out | apply below_alloc | apply pw_below_drewN | apply below_drew1 | refine below_set ?_ GE572.out) | exact HB.out)⟩⟩
                case round =>
                  clear H'
                  try clear c1
                  try clear c2
                  try clear p2
                  try clear c3
                  try clear c8
                  try clear c9
                  try clear c9b0
                  try clear c9b1
                  try clear c9b2
                  try clear c10
                  try clear c25
                  try clear c27
                  try clear c28
                  try clear c31
                  try clear c34
                  try clear c34b0
                  try clear c34b1
                  try clear c35
                  try clear hcz10_0
                  try clear hcz10_1
                  try clear hcz10_2
                  try clear hcz15_0
                  try clear hcz15_1
                  try clear hcz15_2
                  try clear hcz20_0
                  try clear hcz20_1
                  try clear hcz20_2
                  try clear hcz30_0
                  try clear hcz30_1
                  try clear hcz30_2
                  try clear hcz32_0
                  try clear hcz32_1
                  try clear hcz32_2
                  try clear hfz10_0
                  try clear hfz10_1
                  try clear hfz10_2
                  try clear hfz15_0
                  try clear hfz15_1
                  try clear hfz15_2
                  try clear hfz20_0
                  try clear hfz20_1
                  try clear hfz20_2
                  try clear hfz30_0
                  try clear hfz30_1
                  try clear hfz30_2
                  try clear hfz32_0
                  try clear hfz32_1
                  try clear hfz32_2
                  try clear p2
                  obtain ⟨x11_3, x61_3, rfl, HA, HK3, HO_11, HO_573002, BK572, HB⟩ := hrel
                  cases gk with
                  | zero => exact absurd HA.out (by simp [wageofficelaw28_TaxAccumulates.l0])
                  | succ k3 =>
                    have H := HA.out
                    clear HA
                    simp only [wageofficelaw28_TaxAccumulates.l0] at H
                    by_cases c36 : x61_3 < (l1.length : Int)
                    · rw [if_pos c36] at H
                      have c36b0 : decide (x61_3 < (l1.length : Int)) = true := decide_eq_true c36
                      clear c36
                      by_cases c37 : 0 ≤ x61_3
                      · rw [if_pos c37] at H
                        have c37b0 : decide (0 ≤ x61_3) = true := decide_eq_true c37
                        clear c37
                        by_cases c38 : x61_3 < (l1.length : Int)
                        · rw [if_pos c38] at H
                          have c38b0 : decide (x61_3 < (l1.length : Int)) = true := decide_eq_true c38
                          clear c38
                          obtain ⟨y584, hy584⟩ : ∃ y_ : List Int, y_ = (([rd l1 x61_3] : List Int)) := ⟨_, rfl⟩
                          replace H : (if y584.length + x11_3.length < 17592186044416 then (wageofficelaw28_TaxAccumulates.l0 k3 l1 t573 t578 t581 (y584 ++ x11_3) l1 (l1.length : Int) (wrap64 (x61_3 + 1)) a0_0 a0_1 l0_2) else (none)) = some r := by first | (rw [hy584]; with_reducible exact H) | (have H2_ := (Option.bind_some _ _).symm.trans H; rw [hy584]; with_reducible exact H2_) | (have H2_ := (Option.bind_some _ _).symm.trans H; with_reducible exact H2_) | with_reducible exact H | (rw [hy584]; exact H) | exact H
                          have Ny584 := Aside0.mk hy584
                          clear hy584
                          by_cases c39 : y584.length + x11_3.length < 17592186044416
                          · rw [if_pos c39] at H
                            have LMc39 := Aside0.mk c39
                            clear c39
                            obtain ⟨y587, hy587⟩ : ∃ y_ : List Int, y_ = (y584 ++ x11_3) := ⟨_, rfl⟩
                            replace H : (wageofficelaw28_TaxAccumulates.l0 k3 l1 t573 t578 t581 y587 l1 (l1.length : Int) (wrap64 (x61_3 + 1)) a0_0 a0_1 l0_2) = some r := by first | (rw [hy587]; with_reducible exact H) | (have H2_ := (Option.bind_some _ _).symm.trans H; rw [hy587]; with_reducible exact H2_) | (have H2_ := (Option.bind_some _ _).symm.trans H; with_reducible exact H2_) | with_reducible exact H | (rw [hy587]; exact H) | exact H
                            have Ny587 := Aside0.mk hy587
                            clear hy587
                            have H' := Aside0.mk H
                            clear H
                            have p583 : 0 ≤ (x61_3 : Int) := of_decide_eq_true (by first | (with_reducible assumption) | assumption)
                            have q583 : x61_3 < (l1.length : Int) := of_decide_eq_true (by first | (with_reducible assumption) | assumption)
                            obtain ⟨ad583, e583, hx583_0⟩ := Kd.at_int HR1.out x61_3 p583 q583
                            cases e583
                            replace hx583_0 := (HB.out.cell (World.block_lt_of_cell? w _ hx583_0)).trans hx583_0
                            replace p583 := eq_true p583
                            replace q583 := eq_true q583
                            go_wp2_with (first | ((with_reducible refine gate_dst (N := 66) rfl ?_); (try (refine gate_guard (by rfl) ?_; dsimp only)); refine Kd.R_lit (Kd.int .i64) _ 3 ?hg (N := 66) ?hd (xs := ([rd l1 x61_3] : List Int)) (inner := [.int .i64 (rd l1 x61_3)]) (ok := fun _ => True) (okp := fun _ => True) ?hr ?hp (fun _ hk => hk) trivial (Below.refl _ _) (Nat.le_refl _) (by simp) ?_; (case hd => rfl); (case hg => rfl); (case hr => first | (go_simp; done) | (go_simp; rfl)); (case hp => exact (Reps.one (show Kd.M (Kd.int .i64) _ _ _ (rd l1 x61_3) [.int .i64 (rd l1 x61_3)] from rfl) (Reps.none _ _))); intro v585 w40 ho41 hb hg_ hnew_; clear hg_ hnew_; (first | rw [← Ny584.out] at ho41 | (simp only [Int.reduceToNat] at ho41; rw [← Ny584.out] at ho41)); have n0_ := Aside0.mk (Kd.R_elder' (by (with_reducible repeat (first | apply Kd.R_alloc | apply Kd.R_drewN | apply Kd.R_drew)); exact HO_11.out) (Kd.R_base ho41) hb); have n1_ := Aside0.mk (Kd.V_elder' (by (with_reducible repeat (first | apply Kd.V_alloc | apply Kd.V_drewN | apply Kd.V_drew)); exact HO_573002.out) (Kd.R_base ho41) hb); have n2_ := Aside0.mk (Kd.R_lower (Kd.R_new' (Kd.R_newM (M := fun k_ => (w.heap.size ≤ k_)) ho41 (below_size (by repeat (first | (with_reducible first | exact HB.out | apply below_alloc | apply pw_below_drewN | apply below_drew1 | refine below_set ?_ GE572.out) | exact HB.out))) (fun k_ h_ => h_)) (Kd.R_lt (by (with_reducible repeat (first | apply Kd.R_alloc | apply Kd.R_drewN | apply Kd.R_drew)); exact HO_11.out))) (below_size (by repeat (first | (with_reducible first | exact HB.out | apply below_alloc | apply pw_below_drewN | apply below_drew1 | refine below_set ?_ GE572.out) | exact HB.out)))); have n3_ := Aside0.mk (blk_below (g := gb572) (o := .cells #[.int .i64 a0_0, .int .i64 a0_1, .slice A0_2 l0_2.length c0_2] 44 (0, 0)) (by (with_reducible repeat (first | refine blk_drewN ?_ _ | refine blk_drew ?_ | refine blk_alloc ?_ _)); exact BK572.out) hb); have n4_ := Aside0.mk (below_step (by repeat (first | (with_reducible first | exact HB.out | apply below_alloc | apply pw_below_drewN | apply below_drew1 | refine below_set ?_ GE572.out) | exact HB.out)) hb); clear HO_11; clear HO_573002; clear BK572; clear HB; have HO_11 := n0_; have HO_573002 := n1_; have HO586 := n2_; have BK572 := n3_; have HB := n4_; clear n0_ n1_ n2_ n3_ n4_; clear hb ho41; obtain ⟨Ao43, co43, eo43⟩ := Kd.R_slice HO_11.out; subst eo43) | ((with_reducible refine gate_builtin (b := .append) (xs := #[.tmp 66, .tmp 67]) rfl ?_); (try (refine gate_guard (by rfl) ?_; dsimp only)); at_builtin; refine Kd.R_append_rows (Kd.int .i64) (w0 := w) w.heap.size rfl (.tmp 66) (.tmp 67) 22 3 (.int .i64 0) 8 rfl Try.underlying22 info3 rfl (by decide) (by omega) v585 y584 x11_3 _ _ _ (fun k_ => (w.heap.size ≤ k_) ∧ some k_ ≠ (.slice Ao43 x11_3.length co43 : Value).ownBlock) (fun _ => False) rfl rfl ?aO ?aR (fun _ _ h => h) (fun _ h => h.elim) ?aF ?aB ?aS ?aL ?_; (case aR => repeat (first | exact (Kd.R_reads' HO_11.out).2.2 | (with_reducible refine Kd.C_alloc ?_ _) | (with_reducible refine Kd.C_drewN ?_ _) | (with_reducible refine Kd.C_drew ?_))); (case aB => exact (by repeat (first | (with_reducible first | exact HB.out | apply below_alloc | apply pw_below_drewN | apply below_drew1 | refine below_set ?_ GE572.out) | exact HB.out))); (case aF => exact (fun k_ hk => ⟨(Nat.le_trans (below_size (by repeat (first | (with_reducible first | exact HB.out | apply below_alloc | apply pw_below_drewN | apply below_drew1 | refine below_set ?_ GE572.out) | exact HB.out))) hk), Kd.fresh' (Kd.R_lt (by (with_reducible repeat (first | apply Kd.R_alloc | apply Kd.R_drewN | apply Kd.R_drew)); exact HO_11.out)) k_ hk⟩)); (case aO => exact (by (with_reducible repeat (first | apply Kd.R_alloc | apply Kd.R_drewN | apply Kd.R_drew)); exact Kd.R_mono HO586.out (fun _ hk => ⟨hk.1.1, hk.2⟩))); (case aS => exact (below_size (by repeat (first | (with_reducible first | exact HB.out | apply below_alloc | apply pw_below_drewN | apply below_drew1 | refine below_set ?_ GE572.out) | exact HB.out)))); (case aL => have := LMc39.out; omega); intro v588 w42 ho hb hg hat; rw [← Ny587.out] at ho; have n0_ := Aside0.mk (Kd.R_after (ok := (fun k_ => (w.heap.size ≤ k_))) (by (with_reducible repeat (first | apply Kd.R_alloc | apply Kd.R_drewN | apply Kd.R_drew)); exact HO_11.out) hg hat); have n1_ := Aside0.mk (Kd.V_afterv (ok := (fun k_ => (P0_2_ k_ ∨ w.heap.size ≤ k_) ∧ some k_ ≠ (.slice Ao43 x11_3.length co43 : Value).ownBlock ∧ k_ ≠ gb572)) (by (with_reducible repeat (first | apply Kd.V_alloc | apply Kd.V_drewN | apply Kd.V_drew)); exact HO_573002.out) hg hat); have n2_ := Aside0.mk (blk_grown (g := gb572) (o := .cells #[.int .i64 a0_0, .int .i64 a0_1, .slice A0_2 l0_2.length c0_2] 44 (0, 0)) (by (with_reducible repeat (first | refine blk_drewN ?_ _ | refine blk_drew ?_ | refine blk_alloc ?_ _)); exact BK572.out) hg (Kd.R_ne HO586.out BK572.out (by decide))); have n3_ := Aside0.mk (hb); have n4_ := Aside0.mk (ho); clear HO_11; clear HO_573002; clear BK572; clear HB; clear HO586; have HO_11 := n0_; have HO_573002 := n1_; have BK572 := n2_; have HB := n3_; have HO589 := n4_; clear n0_ n1_ n2_ n3_ n4_; clear ho hb hg hat))
                            go_roundg k3
                            case measure => have := HJ3.out; have := HJ28.out; have := HK3.out; omega
                            case rel => exact ⟨(y587), (wrap64 (x61_3 + 1)), (by first | rfl | (simp; done) | (simp [*]; done)), H', ⟨by have := HJ3.out; have := HJ28.out; have := HK3.out; omega⟩, ⟨by (with_reducible repeat (first | apply Kd.R_alloc | apply Kd.R_drewN | apply Kd.R_drew)); exact Kd.R_mono HO589.out (fun _ hk => hk.1)⟩, ⟨by (with_reducible repeat (first | apply Kd.V_alloc | apply Kd.V_drewN | apply Kd.V_drew)); exact Kd.V_mono HO_573002.out (fun _ hk => ⟨hk.1.1, ⟨hk.2, hk.1.2.2⟩⟩)⟩, ⟨by (with_reducible repeat (first | refine blk_drewN ?_ _ | refine blk_drew ?_ | refine blk_alloc ?_ _)); exact BK572.out⟩, ⟨by repeat (first | (with_reducible first | exact HB.out | apply below_alloc | apply pw_below_drewN | apply below_drew1 | refine below_set ?_ GE572.out) | exact HB.out)⟩⟩
                          · rw [if_neg c39] at H
                            exact absurd H (by simp)
                        · rw [if_neg c38] at H
                          exact absurd H (by simp)
                      · rw [if_neg c37] at H
                        exact absurd H (by simp)
                    · rw [if_neg c36] at H
                      have c36b0 : decide (x61_3 < (l1.length : Int)) = false := decide_eq_false c36
                      clear c36
                      replace H := Option.bind_eq_some_iff.mp H
                      obtain ⟨⟨t590, t591, t592⟩, A440, H⟩ := H
                      replace H : (if t592 = true then (if t590 = t578 then (wageofficelaw28_TaxAccumulates.j3 k3 l1 t573 t578 t581 (t591 != t581) a0_0 a0_1 l0_2) else (wageofficelaw28_TaxAccumulates.j3 k3 l1 t573 t578 t581 true a0_0 a0_1 l0_2)) else (wageofficelaw28_TaxAccumulates.j3 k3 l1 t573 t578 t581 false a0_0 a0_1 l0_2)) = some r := H
                      have A44 := Aside0.mk A440
                      clear A440
                      have HC45 := Aside0.mk H
                      clear H
                      have hcz46_0 : wr.cell? ⟨gb572, 0, none⟩ = some (.int .i64 a0_0) := (blk_cell BK572.out 0).trans rfl
                      have hcz46_1 : wr.cell? ⟨gb572, 1, none⟩ = some (.int .i64 a0_1) := (blk_cell BK572.out 1).trans rfl
                      have hcz46_2 : wr.cell? ⟨gb572, 2, none⟩ = some (.slice A0_2 l0_2.length c0_2) := (blk_cell BK572.out 2).trans rfl
                      have hfz46_0 := blk_frozen BK572.out 0
                      have hfz46_1 := blk_frozen BK572.out 1
                      have hfz46_2 := blk_frozen BK572.out 2
                      obtain ⟨Ao47, co47, eo47⟩ := Kd.R_slice HO_11.out
                      subst eo47
                      go_upto_region 17 with (first | ((with_reducible refine gate_callee (f := 36) rfl ?_); refine goesL_ (some 73) rfl rfl Try.func36 (by kernel_rfl) rfl #[.agg #[.int .i64 a0_0, .int .i64 a0_1, .slice A0_2 l0_2.length c0_2], .int .i64 0, .int .i64 0, .slice Ao47 x11_3.length co47] rfl (by (try simp only [List.map_toArray, List.map_cons, List.map_nil]); first | done | rfl | (simp only [List.length_drop, List.length_take]; rfl)) ?_; (with_reducible refine (wageofficelaw28_withheld.calls k3 a0_0 a0_1 _ _ l0_2 0 0 _ _ x11_3 t590 t591 t592 _ ?side1 ?side2 ?side3 ?side4 A44.out).mono ?_); (case side1 => repeat (first | exact (Kd.V_reads' HO_573002.out).2.2 | (with_reducible refine Kd.C_alloc ?_ _) | (with_reducible refine Kd.C_drewN ?_ _) | (with_reducible refine Kd.C_drew ?_))); (case side2 => exact (Kd.V_reads' HO_573002.out).2.1); (case side3 => repeat (first | exact (Kd.R_reads' HO_11.out).2.2 | (with_reducible refine Kd.C_alloc ?_ _) | (with_reducible refine Kd.C_drewN ?_ _) | (with_reducible refine Kd.C_drew ?_))); (case side4 => exact (Kd.R_reads' HO_11.out).2.1); rintro e w48 ⟨rfl, hb⟩; refine ⟨_, rfl, ?_⟩; have n0_ := Aside0.mk (Kd.R_below (by (with_reducible repeat (first | apply Kd.R_alloc | apply Kd.R_drewN | apply Kd.R_drew)); exact HO_11.out) hb); have n1_ := Aside0.mk (Kd.V_below (by (with_reducible repeat (first | apply Kd.V_alloc | apply Kd.V_drewN | apply Kd.V_drew)); exact HO_573002.out) hb); have n2_ := Aside0.mk (blk_below (g := gb572) (o := .cells #[.int .i64 a0_0, .int .i64 a0_1, .slice A0_2 l0_2.length c0_2] 44 (0, 0)) (by (with_reducible repeat (first | refine blk_drewN ?_ _ | refine blk_drew ?_ | refine blk_alloc ?_ _)); exact BK572.out) hb); have n3_ := Aside0.mk (below_step (by repeat (first | (with_reducible first | exact HB.out | apply below_alloc | apply pw_below_drewN | apply below_drew1 | refine below_set ?_ GE572.out) | exact HB.out)) hb); clear HO_11; clear HO_573002; clear BK572; clear HB; have HO_11 := n0_; have HO_573002 := n1_; have BK572 := n2_; have HB := n3_; clear n0_ n1_ n2_ n3_; (try clear hb); (try clear hb2); (try clear hk); (try clear hi)))
                      (try simp only [Act.put, List.setIfInBounds_toArray, List.set_cons_zero, List.set_cons_succ])
                      go_cut [87] (fun v87 wc => ∃ (kq : Nat) (x87_44 : Bool), v87 = .bool x87_44 ∧ Aside0 (wageofficelaw28_TaxAccumulates.j3 kq l1 t573 t578 t581 x87_44 a0_0 a0_1 l0_2 = some r) ∧ Aside0 (kq ≤ k3) ∧ Aside0 (Kd.V k75 75 wc w.heap.size (fun k_ => (P0_2_ k_ ∨ w.heap.size ≤ k_) ∧ k_ ≠ gb572) (.slice A0_2 l0_2.length c0_2) l0_2) ∧ Aside0 (wc.heap[gb572]? = some (.cells #[.int .i64 a0_0, .int .i64 a0_1, (.slice A0_2 l0_2.length c0_2)] 44 (0, 0))) ∧ Aside0 (Below w.heap.size w wc))
                      case first =>
                        have H := HC45.out
                        clear HC45
                        by_cases c49 : t592 = true
                        · subst c49
                          have H1 : (if t590 = t578 then (wageofficelaw28_TaxAccumulates.j3 k3 l1 t573 t578 t581 (t591 != t581) a0_0 a0_1 l0_2) else (wageofficelaw28_TaxAccumulates.j3 k3 l1 t573 t578 t581 true a0_0 a0_1 l0_2)) = some r := by rw [if_pos rfl] at H; exact H
                          clear H
                          have H := H1
                          clear H1
                          by_cases c50 : t590 = t578
                          · rw [if_pos c50] at H
                            have c50b0 : (t590 == t578) = true := beq_iff_eq.mpr c50
                            have c50b1 : (t590 != t578) = false := bne_eq_false_iff_eq.mpr c50
                            clear c50
                            (first | rw [c50b0] | (simp only [i64_w, i32_w]; rw [c50b0]) | skip)
                            have H' := Aside0.mk H
                            clear H
                            go_wp2
                            go_meet
                            case rel => exact ⟨_, ((t591 != t581)), (by first | rfl | (simp; done) | (simp [*]; done)), H', ⟨by have := HJ3.out; have := HJ28.out; have := HK3.out; first | omega | exact Nat.le_refl _⟩, ⟨by (with_reducible repeat (first | apply Kd.V_alloc | apply Kd.V_drewN | apply Kd.V_drew)); exact Kd.V_mono HO_573002.out (fun _ hk => ⟨hk.1, hk.2.2⟩)⟩, ⟨by (with_reducible repeat (first | refine blk_drewN ?_ _ | refine blk_drew ?_ | refine blk_alloc ?_ _)); exact BK572.out⟩, ⟨by repeat (first | (with_reducible first | exact HB.out | apply below_alloc | apply pw_below_drewN | apply below_drew1 | refine below_set ?_ GE572.out) | exact HB.out)⟩⟩
                          · rw [if_neg c50] at H
                            have c50b0 : (t590 == t578) = false := beq_eq_false_iff_ne.mpr c50
                            have c50b1 : (t590 != t578) = true := bne_iff_ne.mpr c50
                            (first | rw [c50b0] | (simp only [i64_w, i32_w]; rw [c50b0]) | skip)
                            have H' := Aside0.mk H
                            clear H
                            go_wp2
                            go_meet
                            case rel => exact ⟨_, (true), (by first | rfl | (simp; done) | (simp [*]; done)), H', ⟨by have := HJ3.out; have := HJ28.out; have := HK3.out; first | omega | exact Nat.le_refl _⟩, ⟨by (with_reducible repeat (first | apply Kd.V_alloc | apply Kd.V_drewN | apply Kd.V_drew)); exact Kd.V_mono HO_573002.out (fun _ hk => ⟨hk.1, hk.2.2⟩)⟩, ⟨by (with_reducible repeat (first | refine blk_drewN ?_ _ | refine blk_drew ?_ | refine blk_alloc ?_ _)); exact BK572.out⟩, ⟨by repeat (first | (with_reducible first | exact HB.out | apply below_alloc | apply pw_below_drewN | apply below_drew1 | refine below_set ?_ GE572.out) | exact HB.out)⟩⟩
                        · replace c49 := Bool.eq_false_iff.mpr c49
                          subst c49
                          have H1 : (wageofficelaw28_TaxAccumulates.j3 k3 l1 t573 t578 t581 false a0_0 a0_1 l0_2) = some r := by rw [if_neg (show ¬ (false = true) by decide)] at H; exact H
                          clear H
                          have H := H1
                          clear H1
                          have H' := Aside0.mk H
                          clear H
                          go_wp2
                          go_meet
                          case rel => exact ⟨_, (false), (by first | rfl | (simp; done) | (simp [*]; done)), H', ⟨by have := HJ3.out; have := HJ28.out; have := HK3.out; first | omega | exact Nat.le_refl _⟩, ⟨by (with_reducible repeat (first | apply Kd.V_alloc | apply Kd.V_drewN | apply Kd.V_drew)); exact Kd.V_mono HO_573002.out (fun _ hk => ⟨hk.1, hk.2.2⟩)⟩, ⟨by (with_reducible repeat (first | refine blk_drewN ?_ _ | refine blk_drew ?_ | refine blk_alloc ?_ _)); exact BK572.out⟩, ⟨by repeat (first | (with_reducible first | exact HB.out | apply below_alloc | apply pw_below_drewN | apply below_drew1 | refine below_set ?_ GE572.out) | exact HB.out)⟩⟩
                      case rest =>
                        clear HC45
                        try clear c1
                        try clear c2
                        try clear p2
                        try clear c3
                        try clear c4
                        try clear c5
                        try clear p5
                        try clear q5
                        try clear hx5
                        try clear p6
                        try clear c8
                        try clear c9
                        try clear c9b0
                        try clear c9b1
                        try clear c9b2
                        try clear c10
                        try clear c25
                        try clear c27
                        try clear c28
                        try clear c31
                        try clear c34
                        try clear c34b0
                        try clear c34b1
                        try clear c35
                        try clear c36
                        try clear c36b0
                        try clear c37
                        try clear c37b0
                        try clear c38
                        try clear c38b0
                        try clear c39
                        try clear c49
                        try clear c50
                        try clear c50b0
                        try clear c50b1
                        try clear hcz10_0
                        try clear hcz10_1
                        try clear hcz10_2
                        try clear hcz15_0
                        try clear hcz15_1
                        try clear hcz15_2
                        try clear hcz20_0
                        try clear hcz20_1
                        try clear hcz20_2
                        try clear hcz30_0
                        try clear hcz30_1
                        try clear hcz30_2
                        try clear hcz32_0
                        try clear hcz32_1
                        try clear hcz32_2
                        try clear hcz46_0
                        try clear hcz46_1
                        try clear hcz46_2
                        try clear hfz10_0
                        try clear hfz10_1
                        try clear hfz10_2
                        try clear hfz15_0
                        try clear hfz15_1
                        try clear hfz15_2
                        try clear hfz20_0
                        try clear hfz20_1
                        try clear hfz20_2
                        try clear hfz30_0
                        try clear hfz30_1
                        try clear hfz30_2
                        try clear hfz32_0
                        try clear hfz32_1
                        try clear hfz32_2
                        try clear hfz46_0
                        try clear hfz46_1
                        try clear hfz46_2
                        try clear hx583_0
                        try clear p2
                        try clear p583
                        try clear q583
                        obtain ⟨kq, x87_44, rfl, HA, HJ44, HO_573002, BK572, HB⟩ := hcut
                        cases kq with
                        | zero => exact absurd HA.out (by simp [wageofficelaw28_TaxAccumulates.j3])
                        | succ kj44 =>
                          have H := HA.out
                          clear HA
                          simp only [wageofficelaw28_TaxAccumulates.j3] at H
                          by_cases c51 : x87_44 = true
                          · subst c51
                            have H1 : (some false) = some r := by rw [if_pos rfl] at H; exact H
                            clear H
                            have H := H1
                            clear H1
                            obtain rfl := Option.some.inj H
                            go_wp2
                            go_ret
                            exact ⟨by first | rfl | (simp [errW_none, errW_some] <;> rfl) | (simp [*, errW_none, errW_some] <;> rfl), by repeat (first | (with_reducible first | exact HB.out | apply below_alloc | apply pw_below_drewN | apply below_drew1 | refine below_set ?_ GE572.out) | exact HB.out)⟩
                          · replace c51 := Bool.eq_false_iff.mpr c51
                            subst c51
                            have H1 : (if (l1.length : Int) > 1 then (if 0 < (l1.length : Int) then (if 1 < (l1.length : Int) then ((some (([wrap64 ((rd l1 0) + (rd l1 1))] : List Int) : List Int)).bind fun y595 => (if 2 ≤ (l1.length : Int) then (if y595.length + (l1.drop 2).length < 17592186044416 then ((wageofficelaw28_withheld.f kj44 a0_0 a0_1 l0_2 0 0 (y595 ++ (l1.drop 2))).bind fun bt602 => (if bt602.2.2 = true then (if bt602.1 = t578 then (if bt602.2.1 = t581 then (some t573) else (some false)) else (some false)) else (some t573))) else (none)) else (none))) else (none)) else (none)) else (some t573)) = some r := by rw [if_neg (show ¬ (false = true) by decide)] at H; exact H
                            clear H
                            have H := H1
                            clear H1
                            by_cases c52 : (l1.length : Int) > 1
                            · rw [if_pos c52] at H
                              have c52b0 : decide (1 < (l1.length : Int)) = true := decide_eq_true c52
                              have c52b1 : decide (1 < l1.length) = true := decide_eq_true (by omega)
                              clear c52
                              by_cases c53 : 0 < (l1.length : Int)
                              · rw [if_pos c53] at H
                                have c53b0 : decide (0 < (l1.length : Int)) = true := decide_eq_true c53
                                have c53b1 : decide (0 < l1.length) = true := decide_eq_true (by omega)
                                clear c53
                                by_cases c54 : 1 < (l1.length : Int)
                                · rw [if_pos c54] at H
                                  have c54b0 : decide (1 < (l1.length : Int)) = true := decide_eq_true c54
                                  have c54b1 : decide (1 < l1.length) = true := decide_eq_true (by omega)
                                  clear c54
                                  obtain ⟨y595, hy595⟩ : ∃ y_ : List Int, y_ = (([wrap64 ((rd l1 0) + (rd l1 1))] : List Int)) := ⟨_, rfl⟩
                                  replace H : (if 2 ≤ (l1.length : Int) then (if y595.length + (l1.drop 2).length < 17592186044416 then ((wageofficelaw28_withheld.f kj44 a0_0 a0_1 l0_2 0 0 (y595 ++ (l1.drop 2))).bind fun bt602 => (if bt602.2.2 = true then (if bt602.1 = t578 then (if bt602.2.1 = t581 then (some t573) else (some false)) else (some false)) else (some t573))) else (none)) else (none)) = some r := by first | (rw [hy595]; with_reducible exact H) | (have H2_ := (Option.bind_some _ _).symm.trans H; rw [hy595]; with_reducible exact H2_) | (have H2_ := (Option.bind_some _ _).symm.trans H; with_reducible exact H2_) | with_reducible exact H | (rw [hy595]; exact H) | exact H
                                  have Ny595 := Aside0.mk hy595
                                  clear hy595
                                  by_cases c55 : 2 ≤ (l1.length : Int)
                                  · rw [if_pos c55] at H
                                    have c55b0 := eq_true c55
                                    have c55b1 : decide (2 ≤ (l1.length : Int)) = true := decide_eq_true c55
                                    clear c55
                                    by_cases c56 : y595.length + (l1.drop 2).length < 17592186044416
                                    · rw [if_pos c56] at H
                                      have LMc56 := Aside0.mk c56
                                      clear c56
                                      obtain ⟨y599, hy599⟩ : ∃ y_ : List Int, y_ = (y595 ++ (l1.drop 2)) := ⟨_, rfl⟩
                                      replace H : ((wageofficelaw28_withheld.f kj44 a0_0 a0_1 l0_2 0 0 y599).bind fun bt602 => (if bt602.2.2 = true then (if bt602.1 = t578 then (if bt602.2.1 = t581 then (some t573) else (some false)) else (some false)) else (some t573))) = some r := by first | (rw [hy599]; with_reducible exact H) | (have H2_ := (Option.bind_some _ _).symm.trans H; rw [hy599]; with_reducible exact H2_) | (have H2_ := (Option.bind_some _ _).symm.trans H; with_reducible exact H2_) | with_reducible exact H | (rw [hy599]; exact H) | exact H
                                      have Ny599 := Aside0.mk hy599
                                      clear hy599
                                      replace H := Option.bind_eq_some_iff.mp H
                                      obtain ⟨⟨t602, t603, t604⟩, A570, H⟩ := H
                                      replace H : (if t604 = true then (if t602 = t578 then (if t603 = t581 then (some t573) else (some false)) else (some false)) else (some t573)) = some r := H
                                      have A57 := Aside0.mk A570
                                      clear A570
                                      by_cases c58 : t604 = true
                                      · subst c58
                                        have H1 : (if t602 = t578 then (if t603 = t581 then (some t573) else (some false)) else (some false)) = some r := by rw [if_pos rfl] at H; exact H
                                        clear H
                                        have H := H1
                                        clear H1
                                        by_cases c59 : t602 = t578
                                        · rw [if_pos c59] at H
                                          have c59b0 : (t602 == t578) = true := beq_iff_eq.mpr c59
                                          have c59b1 : (t602 != t578) = false := bne_eq_false_iff_eq.mpr c59
                                          clear c59
                                          by_cases c60 : t603 = t581
                                          · rw [if_pos c60] at H
                                            have c60b0 : (t603 == t581) = true := beq_iff_eq.mpr c60
                                            have c60b1 : (t603 != t581) = false := bne_eq_false_iff_eq.mpr c60
                                            clear c60
                                            obtain rfl := Option.some.inj H
                                            try go_wp2
                                            have n0_ := Aside0.mk (Kd.V_drew HO_573002.out)
                                            have n1_ := Aside0.mk (blk_drew BK572.out)
                                            have n2_ := Aside0.mk (below_drew1 HB.out)
                                            clear HO_573002
                                            clear BK572
                                            clear HB
                                            have HO_573002 := n0_
                                            have BK572 := n1_
                                            have HB := n2_
                                            clear n0_ n1_ n2_
                                            have p593 : 0 ≤ (0 : Int) := (by omega)
                                            have q593 : 0 < (l1.length : Int) := of_decide_eq_true (by first | (with_reducible assumption) | assumption)
                                            obtain ⟨ad593, e593, hx593_0⟩ := Kd.at_int HR1.out 0 p593 q593
                                            have hw593_0 := hx593_0
                                            (try rw [show ((0 : Int)).toNat = 0 from rfl] at hw593_0)
                                            (try rw [show 0 * 1 = 0 from rfl] at hw593_0)
                                            (try rw [Addr.add_zero'] at hw593_0)
                                            cases e593
                                            have qi593 : (0 < l1.length) = True := eq_true (by omega)
                                            (try rw [show ((0 : Int)).toNat = 0 from rfl] at hx593_0)
                                            (try rw [Addr.add_zero'] at hx593_0)
                                            replace hx593_0 := (HB.out.cell (World.block_lt_of_cell? w _ hx593_0)).trans hx593_0
                                            replace p593 := eq_true p593
                                            replace q593 := eq_true q593
                                            have p594 : 0 ≤ (1 : Int) := (by omega)
                                            have q594 : 1 < (l1.length : Int) := of_decide_eq_true (by first | (with_reducible assumption) | assumption)
                                            obtain ⟨ad594, e594, hx594_0⟩ := Kd.at_int HR1.out 1 p594 q594
                                            have hw594_0 := hx594_0
                                            (try rw [show ((1 : Int)).toNat = 1 from rfl] at hw594_0)
                                            (try rw [show 1 * 1 = 1 from rfl] at hw594_0)
                                            (try simp only [Nat.reduceMul, Nat.reduceEqDiff, Go.Addr.add, ↓reduceIte] at hw594_0)
                                            obtain rfl : ad593 = ad594 := (by injection e594)
                                            (try simp only [show (1 : Int).toNat = 1 from rfl, Nat.reduceMul, Nat.reduceEqDiff, Go.Addr.add, ↓reduceIte] at hx594_0)
                                            have qi594 : (1 < l1.length) = True := eq_true (by omega)
                                            (try rw [show ((1 : Int)).toNat = 1 from rfl] at hx594_0)
                                            replace hx594_0 := (HB.out.cell (World.block_lt_of_cell? w _ hx594_0)).trans hx594_0
                                            replace p594 := eq_true p594
                                            replace q594 := eq_true q594
                                            obtain ⟨i062, hi062, _, hsz62, _⟩ := info_parts info3
                                            obtain ⟨A62, hcut62, hA62, hC62⟩ := print_drop_of (P := Try.prog) (Value.int .i64) 0 22 3 .i64 Try.underlying22 hi062 hsz62 (some ad593) c1 l1 2 (by omega) (of_decide_eq_true (by first | (with_reducible assumption) | assumption)) HC1.out
                                            have HR598 := Aside0.mk (Kd.C_of_reads (h1 := fun _ => rfl) (hA62 _ (Kd.reads_of_C HR1.out)))
                                            have HC598 := Aside0.mk hC62
                                            clear hA62 hC62 hi062 hsz62
                                            refine start_ (n := 20) (S := fun w' => w'.cell? ⟨gb572, 0, none⟩ = some (.int .i64 a0_0) ∧ w'.cell? ⟨gb572, 1, none⟩ = some (.int .i64 a0_1) ∧ w'.cell? ⟨gb572, 2, none⟩ = some (.slice A0_2 l0_2.length c0_2) ∧ w'.cell? ad593 = some (.int .i64 (rd l1 0)) ∧ w'.cell? ⟨ad593.block, ad593.off + 1, none⟩ = some (.int .i64 (rd l1 1))) (ds := []) #[false, false, false, false, false, false, false, false, false, false, false, false, false, false, false, false, false, false, false, false] (by kernel_rfl) rfl rfl ⟨(blk_cell BK572.out 0).trans rfl, (blk_cell BK572.out 1).trans rfl, (blk_cell BK572.out 2).trans rfl, ((HB.out.cell (World.block_lt_of_cell? w _ hw593_0)).trans hw593_0), ((HB.out.cell (World.block_lt_of_cell? w _ hw594_0)).trans hw594_0)⟩ (fun hHeld => ?_); refine with_tabW wageofficelaw28_TaxAccumulates.tab20 wageofficelaw28_TaxAccumulates.bits20 (fun HT_ HW_ => ?_)
                                            generalize wc.drew = w61 at HO_573002 BK572 HB HR598 hx593_0 hx594_0 hHeld ⊢
                                            refine pure_ (i := 1) (N := some 93) (v := ?_) (a' := ?_) #[false, true, false, false, false, false, false, false, false, false, false, false, false, false, false, false, false, false, false, false] rfl rfl (any_of HT_.out (by kernel_rfl)) (fun _ _ _ h => h) (Or.inl ⟨by rfl, ?_⟩) ?_ ?_
                                            rotate_left
                                            · intro w'
                                              go_simp
                                              with_reducible rfl
                                            rotate_left
                                            · simp only [Act.put, List.setIfInBounds_toArray, List.set_cons_zero, List.set_cons_succ, i64_w, i32_w]
                                              rfl
                                            refine pure_ (i := 2) (N := some 94) (v := ?_) (a' := ?_) #[false, true, true, false, false, false, false, false, false, false, false, false, false, false, false, false, false, false, false, false] rfl rfl (any_of HT_.out (by kernel_rfl)) (fun _ _ _ h => h) (Or.inl ⟨by rfl, ?_⟩) ?_ ?_
                                            rotate_left
                                            · intro w'
                                              go_simp
                                              with_reducible rfl
                                            rotate_left
                                            · simp only [Act.put, List.setIfInBounds_toArray, List.set_cons_zero, List.set_cons_succ, i64_w, i32_w]
                                              rfl
                                            refine pure_ (i := 4) (N := some 96) (v := ?_) (a' := ?_) #[false, true, true, false, true, false, false, false, false, false, false, false, false, false, false, false, false, false, false, false] rfl rfl (any_of HT_.out (by kernel_rfl)) (fun _ _ _ h => h) (Or.inl ⟨by rfl, ?_⟩) ?_ ?_
                                            rotate_left
                                            · intro w'
                                              go_simp
                                              with_reducible rfl
                                            rotate_left
                                            · simp only [Act.put, List.setIfInBounds_toArray, List.set_cons_zero, List.set_cons_succ, i64_w, i32_w]
                                              rfl
                                            refine pure_ (i := 5) (N := some 97) (v := ?_) (a' := ?_) #[false, true, true, false, true, true, false, false, false, false, false, false, false, false, false, false, false, false, false, false] rfl rfl (any_of HT_.out (by kernel_rfl)) (fun _ _ _ h => h) (Or.inl ⟨by rfl, ?_⟩) ?_ ?_
                                            rotate_left
                                            · intro w'
                                              go_simp
                                              with_reducible rfl
                                            rotate_left
                                            · simp only [Act.put, List.setIfInBounds_toArray, List.set_cons_zero, List.set_cons_succ, i64_w, i32_w]
                                              rfl
                                            refine pure_ (i := 9) (N := some 101) (v := ?_) (a' := ?_) #[false, true, true, false, true, true, false, false, false, true, false, false, false, false, false, false, false, false, false, false] rfl rfl (any_of HT_.out (by kernel_rfl)) (fun _ _ _ h => h) (Or.inl ⟨by rfl, ?_⟩) ?_ ?_
                                            rotate_left
                                            · intro w'
                                              go_simp
                                              with_reducible rfl
                                            rotate_left
                                            · simp only [Act.put, List.setIfInBounds_toArray, List.set_cons_zero, List.set_cons_succ, i64_w, i32_w]
                                              rfl
                                            refine pure_ (i := 10) (N := some 102) (v := ?_) (a' := ?_) #[false, true, true, false, true, true, false, false, false, true, true, false, false, false, false, false, false, false, false, false] rfl rfl (any_of HT_.out (by kernel_rfl)) (fun _ _ _ h => h) (Or.inl ⟨by rfl, ?_⟩) ?_ ?_
                                            rotate_left
                                            · intro w'
                                              go_simp
                                              with_reducible rfl
                                            rotate_left
                                            · simp only [Act.put, List.setIfInBounds_toArray, List.set_cons_zero, List.set_cons_succ, i64_w, i32_w]
                                              rfl
                                            refine take_ (i := 0) (N := some 92) (v := ?_) (a' := ?_) #[true, true, true, false, true, true, false, false, false, true, true, false, false, false, false, false, false, false, false, false] rfl rfl (take_ofW HT_.out HW_.out (by kernel_rfl)) (fun _ _ _ h => h) (Or.inl ⟨by rfl, ?_⟩) hHeld ?_ ?_
                                            rotate_left
                                            · rintro w' ⟨s0, s1, s2, s3, s4⟩
                                              go_simp
                                              with_reducible rfl
                                            rotate_left
                                            · simp only [Act.put, List.setIfInBounds_toArray, List.set_cons_zero, List.set_cons_succ, i64_w, i32_w]
                                              rfl
                                            refine take_ (i := 3) (N := some 95) (v := ?_) (a' := ?_) #[true, true, true, true, true, true, false, false, false, true, true, false, false, false, false, false, false, false, false, false] rfl rfl (take_ofW HT_.out HW_.out (by kernel_rfl)) (fun _ _ _ h => h) (Or.inl ⟨by rfl, ?_⟩) hHeld ?_ ?_
                                            rotate_left
                                            · rintro w' ⟨s0, s1, s2, s3, s4⟩
                                              go_simp
                                              with_reducible rfl
                                            rotate_left
                                            · simp only [Act.put, List.setIfInBounds_toArray, List.set_cons_zero, List.set_cons_succ, i64_w, i32_w]
                                              rfl
                                            refine take_ (i := 6) (N := some 98) (v := ?_) (a' := ?_) #[true, true, true, true, true, true, true, false, false, true, true, false, false, false, false, false, false, false, false, false] rfl rfl (take_ofW HT_.out HW_.out (by kernel_rfl)) (fun _ _ _ h => h) (Or.inl ⟨by rfl, ?_⟩) hHeld ?_ ?_
                                            rotate_left
                                            · rintro w' ⟨s0, s1, s2, s3, s4⟩
                                              go_simp
                                              with_reducible rfl
                                            rotate_left
                                            · simp only [Act.put, List.setIfInBounds_toArray, List.set_cons_zero, List.set_cons_succ, i64_w, i32_w]
                                              rfl
                                            refine pure_ (i := 7) (N := some 99) (v := ?_) (a' := ?_) #[true, true, true, true, true, true, true, true, false, true, true, false, false, false, false, false, false, false, false, false] rfl rfl (any_of HT_.out (by kernel_rfl)) (fun _ _ _ h => h) (Or.inl ⟨by rfl, ?_⟩) ?_ ?_
                                            rotate_left
                                            · intro w'
                                              go_simp
                                              with_reducible rfl
                                            rotate_left
                                            · simp only [Act.put, List.setIfInBounds_toArray, List.set_cons_zero, List.set_cons_succ, i64_w, i32_w]
                                              rfl
                                            refine one_ (i := 8) (N := some 100) #[true, true, true, true, true, true, true, true, true, true, true, false, false, false, false, false, false, false, false, false] rfl rfl (one_of HT_.out (by kernel_rfl)) (by decide) (fun K hK => ?_)
                                            refine Kd.R_lit_step (Kd.int .i64) _ 3 ?hg (N := 100) ?hd (xs := ([wrap64 ((rd l1 0) + (rd l1 1))] : List Int)) (inner := [.int .i64 (wrap64 ((rd l1 0) + (rd l1 1)))]) (ok := fun _ => True) (okp := fun _ => True) ?hr ?hp (fun _ hk => hk) trivial (Below.refl _ _) (Nat.le_refl _) (by simp) ?_; (case hd => rfl); (case hg => rfl); (case hr => first | (go_simp; done) | (go_simp; rfl)); (case hp => exact (Reps.one (show Kd.M (Kd.int .i64) _ _ _ (wrap64 ((rd l1 0) + (rd l1 1))) [.int .i64 (wrap64 ((rd l1 0) + (rd l1 1)))] from rfl) (Reps.none _ _)))
                                            intro v596 w63 ho64 hb hg_ hnew_
                                            clear hg_ hnew_
                                            (first | rw [← Ny595.out] at ho64 | (simp only [Int.reduceToNat] at ho64; rw [← Ny595.out] at ho64))
                                            have n0_ := Aside0.mk (Kd.V_elder' (by (with_reducible repeat (first | apply Kd.V_alloc | apply Kd.V_drewN | apply Kd.V_drew)); exact HO_573002.out) (Kd.R_base ho64) hb)
                                            have n1_ := Aside0.mk (Kd.R_lower (Kd.R_newM (M := fun k_ => (w.heap.size ≤ k_)) ho64 (below_size (by repeat (first | (with_reducible first | exact HB.out | apply below_alloc | apply pw_below_drewN | apply below_drew1 | refine below_set ?_ GE572.out) | exact HB.out))) (fun k_ h_ => h_)) (below_size (by repeat (first | (with_reducible first | exact HB.out | apply below_alloc | apply pw_below_drewN | apply below_drew1 | refine below_set ?_ GE572.out) | exact HB.out))))
                                            have n2_ := Aside0.mk (blk_below (g := gb572) (o := .cells #[.int .i64 a0_0, .int .i64 a0_1, .slice A0_2 l0_2.length c0_2] 44 (0, 0)) (by (with_reducible repeat (first | refine blk_drewN ?_ _ | refine blk_drew ?_ | refine blk_alloc ?_ _)); exact BK572.out) hb)
                                            have n3_ := Aside0.mk (below_step (by repeat (first | (with_reducible first | exact HB.out | apply below_alloc | apply pw_below_drewN | apply below_drew1 | refine below_set ?_ GE572.out) | exact HB.out)) hb)
                                            clear HO_573002
                                            clear BK572
                                            clear HB
                                            have HO_573002 := n0_
                                            have HO597 := n1_
                                            have BK572 := n2_
                                            have HB := n3_
                                            clear n0_ n1_ n2_ n3_
                                            clear hb ho64
                                            refine hK.out _ _ ⟨(blk_cell BK572.out 0).trans rfl, (blk_cell BK572.out 1).trans rfl, (blk_cell BK572.out 2).trans rfl, ((HB.out.cell (World.block_lt_of_cell? w _ hw593_0)).trans hw593_0), ((HB.out.cell (World.block_lt_of_cell? w _ hw594_0)).trans hw594_0)⟩ (fun hHeld => ?_)
                                            clear hK K
                                            refine norm_ (a' := ?_) ?_ ?_
                                            rotate_left
                                            · show Act.put _ (some 100) _ = _
                                              simp only [Act.put, List.setIfInBounds_toArray, List.set_cons_zero, List.set_cons_succ, i64_w, i32_w]
                                              rfl
                                            refine one_ (i := 11) (N := some 103) #[true, true, true, true, true, true, true, true, true, true, true, true, false, false, false, false, false, false, false, false] rfl rfl (one_of HT_.out (by kernel_rfl)) (by decide) (fun K hK => ?_)
                                            refine Kd.R_append_rows_step (Kd.int .i64) (w0 := w) w.heap.size (by rfl) (.tmp 100) (.tmp 102) 22 3 (.int .i64 0) 8 rfl Try.underlying22 info3 rfl (by decide) (by omega) v596 y595 (l1.drop 2) _ _ _ (fun k_ => (w.heap.size ≤ k_)) (fun _ => False) rfl rfl ?aO ?aR (fun _ _ h => h) (fun _ h => h.elim) ?aF ?aB ?aS ?aL ?_
                                            (case aR => first | (refine Eq.mp (congrArg (fun n_ : Nat => ReadsRow _ _ _ _ n_ _) (show (l1.drop 2).length = (l1.length - 2) from List.length_drop)) ?_; repeat (first | exact (Kd.C_below HR598.out HB.out) | (with_reducible refine Kd.C_alloc ?_ _) | (with_reducible refine Kd.C_drewN ?_ _) | (with_reducible refine Kd.C_drew ?_))) | (repeat (first | exact (Kd.C_below HR598.out HB.out) | (with_reducible refine Kd.C_alloc ?_ _) | (with_reducible refine Kd.C_drewN ?_ _) | (with_reducible refine Kd.C_drew ?_))))
                                            (case aB => exact (by repeat (first | (with_reducible first | exact HB.out | apply below_alloc | apply pw_below_drewN | apply below_drew1 | refine below_set ?_ GE572.out) | exact HB.out)))
                                            (case aF => exact (fun k_ hk => (Nat.le_trans (below_size (by repeat (first | (with_reducible first | exact HB.out | apply below_alloc | apply pw_below_drewN | apply below_drew1 | refine below_set ?_ GE572.out) | exact HB.out))) hk)))
                                            (case aO => exact (by (with_reducible repeat (first | apply Kd.R_alloc | apply Kd.R_drewN | apply Kd.R_drew)); exact Kd.R_mono HO597.out (fun _ hk => hk.1)))
                                            (case aS => exact (below_size (by repeat (first | (with_reducible first | exact HB.out | apply below_alloc | apply pw_below_drewN | apply below_drew1 | refine below_set ?_ GE572.out) | exact HB.out))))
                                            (case aL => have := LMc56.out; have hlx_ := (show (l1.drop 2).length = (l1.length - 2) from List.length_drop); omega)
                                            intro v600 w65 ho hb hg hat
                                            rw [← Ny599.out] at ho
                                            have n0_ := Aside0.mk (Kd.V_afterv (ok := (fun k_ => (P0_2_ k_ ∨ w.heap.size ≤ k_) ∧ k_ ≠ gb572)) (by (with_reducible repeat (first | apply Kd.V_alloc | apply Kd.V_drewN | apply Kd.V_drew)); exact HO_573002.out) hg hat)
                                            have n1_ := Aside0.mk (blk_grown (g := gb572) (o := .cells #[.int .i64 a0_0, .int .i64 a0_1, .slice A0_2 l0_2.length c0_2] 44 (0, 0)) (by (with_reducible repeat (first | refine blk_drewN ?_ _ | refine blk_drew ?_ | refine blk_alloc ?_ _)); exact BK572.out) hg (Kd.R_ne HO597.out BK572.out (by decide)))
                                            have n2_ := Aside0.mk (hb)
                                            have n3_ := Aside0.mk (ho)
                                            clear HO_573002
                                            clear BK572
                                            clear HB
                                            clear HO597
                                            have HO_573002 := n0_
                                            have BK572 := n1_
                                            have HB := n2_
                                            have HO601 := n3_
                                            clear n0_ n1_ n2_ n3_
                                            clear ho hb hg hat
                                            obtain ⟨Ao66, co66, eo66⟩ := Kd.R_slice HO601.out
                                            (first | subst eo66 | (injection eo66 with f1_ f2_ f3_; have f4_ := f1_.symm; have f5_ := f3_.symm; clear f1_ f2_ f3_; subst f4_; subst f5_))
                                            refine hK.out _ _ ⟨(blk_cell BK572.out 0).trans rfl, (blk_cell BK572.out 1).trans rfl, (blk_cell BK572.out 2).trans rfl, ((HB.out.cell (World.block_lt_of_cell? w _ hw593_0)).trans hw593_0), ((HB.out.cell (World.block_lt_of_cell? w _ hw594_0)).trans hw594_0)⟩ (fun hHeld => ?_)
                                            clear hK K
                                            refine norm_ (a' := ?_) ?_ ?_
                                            rotate_left
                                            · show Act.put _ (some 103) _ = _
                                              simp only [Act.put, List.setIfInBounds_toArray, List.set_cons_zero, List.set_cons_succ, i64_w, i32_w]
                                              rfl
                                            refine one_ (i := 12) (N := some 104) #[true, true, true, true, true, true, true, true, true, true, true, true, true, false, false, false, false, false, false, false] rfl rfl (one_of HT_.out (by kernel_rfl)) (by decide) (fun K hK => ?_)
                                            refine goes_ Try.func36 (by kernel_rfl) rfl #[.agg #[.int .i64 a0_0, .int .i64 a0_1, .slice A0_2 l0_2.length c0_2], .int .i64 0, .int .i64 0, .slice Ao66 y599.length co66] (by rfl) rfl rfl (by (try simp only [List.map_toArray, List.map_cons, List.map_nil]); first | done | rfl | (simp only [List.length_drop, List.length_take]; rfl)) ?_
                                            with_reducible refine (wageofficelaw28_withheld.calls kj44 a0_0 a0_1 _ _ l0_2 0 0 _ _ y599 t602 t603 true _ ?side1 ?side2 ?side3 ?side4 A57.out).mono ?_
                                            (case side1 => repeat (first | exact (Kd.V_reads' HO_573002.out).2.2 | (with_reducible refine Kd.C_alloc ?_ _) | (with_reducible refine Kd.C_drewN ?_ _) | (with_reducible refine Kd.C_drew ?_)))
                                            (case side2 => exact (Kd.V_reads' HO_573002.out).2.1)
                                            (case side3 => repeat (first | exact (Kd.R_reads' HO601.out).2.2 | (with_reducible refine Kd.C_alloc ?_ _) | (with_reducible refine Kd.C_drewN ?_ _) | (with_reducible refine Kd.C_drew ?_)))
                                            (case side4 => exact (Kd.R_reads' HO601.out).2.1)
                                            rintro e w67 ⟨rfl, hb⟩
                                            refine ⟨_, rfl, ?_⟩
                                            have n0_ := Aside0.mk (Kd.V_below (by (with_reducible repeat (first | apply Kd.V_alloc | apply Kd.V_drewN | apply Kd.V_drew)); exact HO_573002.out) hb)
                                            have n1_ := Aside0.mk (Kd.R_below (by (with_reducible repeat (first | apply Kd.R_alloc | apply Kd.R_drewN | apply Kd.R_drew)); exact HO601.out) hb)
                                            have n2_ := Aside0.mk (blk_below (g := gb572) (o := .cells #[.int .i64 a0_0, .int .i64 a0_1, .slice A0_2 l0_2.length c0_2] 44 (0, 0)) (by (with_reducible repeat (first | refine blk_drewN ?_ _ | refine blk_drew ?_ | refine blk_alloc ?_ _)); exact BK572.out) hb)
                                            have n3_ := Aside0.mk (below_step (by repeat (first | (with_reducible first | exact HB.out | apply below_alloc | apply pw_below_drewN | apply below_drew1 | refine below_set ?_ GE572.out) | exact HB.out)) hb)
                                            clear HO_573002
                                            clear HO601
                                            clear BK572
                                            clear HB
                                            have HO_573002 := n0_
                                            have HO601 := n1_
                                            have BK572 := n2_
                                            have HB := n3_
                                            clear n0_ n1_ n2_ n3_
                                            (try clear hb)
                                            (try clear hb2)
                                            (try clear hk)
                                            (try clear hi)
                                            refine hK.out _ _ ⟨(blk_cell BK572.out 0).trans rfl, (blk_cell BK572.out 1).trans rfl, (blk_cell BK572.out 2).trans rfl, ((HB.out.cell (World.block_lt_of_cell? w _ hw593_0)).trans hw593_0), ((HB.out.cell (World.block_lt_of_cell? w _ hw594_0)).trans hw594_0)⟩ (fun hHeld => ?_)
                                            clear hK K
                                            refine norm_ (a' := ?_) ?_ ?_
                                            rotate_left
                                            · show Act.put _ (some 104) _ = _
                                              simp only [Act.put, List.setIfInBounds_toArray, List.set_cons_zero, List.set_cons_succ, i64_w, i32_w]
                                              rfl
                                            refine pure_ (i := 13) (N := some 91) (v := ?_) (a' := ?_) #[true, true, true, true, true, true, true, true, true, true, true, true, true, true, false, false, false, false, false, false] rfl rfl (any_of HT_.out (by kernel_rfl)) (fun _ _ _ h => h) (Or.inl ⟨by rfl, ?_⟩) ?_ ?_
                                            rotate_left
                                            · intro w'
                                              go_simp
                                              with_reducible rfl
                                            rotate_left
                                            · simp only [Act.put, List.setIfInBounds_toArray, List.set_cons_zero, List.set_cons_succ, i64_w, i32_w]
                                              rfl
                                            refine pure_ (i := 14) (N := some 105) (v := ?_) (a' := ?_) #[true, true, true, true, true, true, true, true, true, true, true, true, true, true, true, false, false, false, false, false] rfl rfl (any_of HT_.out (by kernel_rfl)) (fun _ _ _ h => h) (Or.inl ⟨by rfl, ?_⟩) ?_ ?_
                                            rotate_left
                                            · intro w'
                                              go_simp
                                              with_reducible rfl
                                            rotate_left
                                            · simp only [Act.put, List.setIfInBounds_toArray, List.set_cons_zero, List.set_cons_succ, i64_w, i32_w]
                                              rfl
                                            refine pure_ (i := 15) (N := some 106) (v := ?_) (a' := ?_) #[true, true, true, true, true, true, true, true, true, true, true, true, true, true, true, true, false, false, false, false] rfl rfl (any_of HT_.out (by kernel_rfl)) (fun _ _ _ h => h) (Or.inl ⟨by rfl, ?_⟩) ?_ ?_
                                            rotate_left
                                            · intro w'
                                              go_simp
                                              with_reducible rfl
                                            rotate_left
                                            · simp only [Act.put, List.setIfInBounds_toArray, List.set_cons_zero, List.set_cons_succ, i64_w, i32_w]
                                              rfl
                                            refine pure_ (i := 16) (N := some 107) (v := ?_) (a' := ?_) #[true, true, true, true, true, true, true, true, true, true, true, true, true, true, true, true, true, false, false, false] rfl rfl (any_of HT_.out (by kernel_rfl)) (fun _ _ _ h => h) (Or.inl ⟨by rfl, ?_⟩) ?_ ?_
                                            rotate_left
                                            · intro w'
                                              go_simp
                                              with_reducible rfl
                                            rotate_left
                                            · simp only [Act.put, List.setIfInBounds_toArray, List.set_cons_zero, List.set_cons_succ, i64_w, i32_w]
                                              rfl
                                            refine pure_ (i := 17) (N := some 17) (v := ?_) (a' := ?_) #[true, true, true, true, true, true, true, true, true, true, true, true, true, true, true, true, true, true, false, false] rfl rfl (any_of HT_.out (by kernel_rfl)) (fun _ _ _ h => h) (Or.inl ⟨by rfl, ?_⟩) ?_ ?_
                                            rotate_left
                                            · intro w'
                                              go_simp
                                              with_reducible rfl
                                            rotate_left
                                            · simp only [Act.put, List.setIfInBounds_toArray, List.set_cons_zero, List.set_cons_succ, i64_w, i32_w]
                                              rfl
                                            refine pure_ (i := 18) (N := some 18) (v := ?_) (a' := ?_) #[true, true, true, true, true, true, true, true, true, true, true, true, true, true, true, true, true, true, true, false] rfl rfl (any_of HT_.out (by kernel_rfl)) (fun _ _ _ h => h) (Or.inl ⟨by rfl, ?_⟩) ?_ ?_
                                            rotate_left
                                            · intro w'
                                              go_simp
                                              with_reducible rfl
                                            rotate_left
                                            · simp only [Act.put, List.setIfInBounds_toArray, List.set_cons_zero, List.set_cons_succ, i64_w, i32_w]
                                              rfl
                                            refine pure_ (i := 19) (N := some 19) (v := ?_) (a' := ?_) #[true, true, true, true, true, true, true, true, true, true, true, true, true, true, true, true, true, true, true, true] rfl rfl (any_of HT_.out (by kernel_rfl)) (fun _ _ _ h => h) (Or.inl ⟨by rfl, ?_⟩) ?_ ?_
                                            rotate_left
                                            · intro w'
                                              go_simp
                                              with_reducible rfl
                                            rotate_left
                                            · simp only [Act.put, List.setIfInBounds_toArray, List.set_cons_zero, List.set_cons_succ, i64_w, i32_w]
                                              rfl
                                            refine done_ (done_of HT_.out (by kernel_rfl)) ?_
                                            try go_wp2
                                            go_ret
                                            exact ⟨by first | rfl | (simp [errW_none, errW_some] <;> rfl) | (simp [*, errW_none, errW_some] <;> rfl), by repeat (first | (with_reducible first | exact HB.out | apply below_alloc | apply pw_below_drewN | apply below_drew1 | refine below_set ?_ GE572.out) | exact HB.out)⟩
                                          · rw [if_neg c60] at H
                                            have c60b0 : (t603 == t581) = false := beq_eq_false_iff_ne.mpr c60
                                            have c60b1 : (t603 != t581) = true := bne_iff_ne.mpr c60
                                            obtain rfl := Option.some.inj H
                                            try go_wp2
                                            have n0_ := Aside0.mk (Kd.V_drew HO_573002.out)
                                            have n1_ := Aside0.mk (blk_drew BK572.out)
                                            have n2_ := Aside0.mk (below_drew1 HB.out)
                                            clear HO_573002
                                            clear BK572
                                            clear HB
                                            have HO_573002 := n0_
                                            have BK572 := n1_
                                            have HB := n2_
                                            clear n0_ n1_ n2_
                                            have p593 : 0 ≤ (0 : Int) := (by omega)
                                            have q593 : 0 < (l1.length : Int) := of_decide_eq_true (by first | (with_reducible assumption) | assumption)
                                            obtain ⟨ad593, e593, hx593_0⟩ := Kd.at_int HR1.out 0 p593 q593
                                            have hw593_0 := hx593_0
                                            (try rw [show ((0 : Int)).toNat = 0 from rfl] at hw593_0)
                                            (try rw [show 0 * 1 = 0 from rfl] at hw593_0)
                                            (try rw [Addr.add_zero'] at hw593_0)
                                            cases e593
                                            have qi593 : (0 < l1.length) = True := eq_true (by omega)
                                            (try rw [show ((0 : Int)).toNat = 0 from rfl] at hx593_0)
                                            (try rw [Addr.add_zero'] at hx593_0)
                                            replace hx593_0 := (HB.out.cell (World.block_lt_of_cell? w _ hx593_0)).trans hx593_0
                                            replace p593 := eq_true p593
                                            replace q593 := eq_true q593
                                            have p594 : 0 ≤ (1 : Int) := (by omega)
                                            have q594 : 1 < (l1.length : Int) := of_decide_eq_true (by first | (with_reducible assumption) | assumption)
                                            obtain ⟨ad594, e594, hx594_0⟩ := Kd.at_int HR1.out 1 p594 q594
                                            have hw594_0 := hx594_0
                                            (try rw [show ((1 : Int)).toNat = 1 from rfl] at hw594_0)
                                            (try rw [show 1 * 1 = 1 from rfl] at hw594_0)
                                            (try simp only [Nat.reduceMul, Nat.reduceEqDiff, Go.Addr.add, ↓reduceIte] at hw594_0)
                                            obtain rfl : ad593 = ad594 := (by injection e594)
                                            (try simp only [show (1 : Int).toNat = 1 from rfl, Nat.reduceMul, Nat.reduceEqDiff, Go.Addr.add, ↓reduceIte] at hx594_0)
                                            have qi594 : (1 < l1.length) = True := eq_true (by omega)
                                            (try rw [show ((1 : Int)).toNat = 1 from rfl] at hx594_0)
                                            replace hx594_0 := (HB.out.cell (World.block_lt_of_cell? w _ hx594_0)).trans hx594_0
                                            replace p594 := eq_true p594
                                            replace q594 := eq_true q594
                                            obtain ⟨i069, hi069, _, hsz69, _⟩ := info_parts info3
                                            obtain ⟨A69, hcut69, hA69, hC69⟩ := print_drop_of (P := Try.prog) (Value.int .i64) 0 22 3 .i64 Try.underlying22 hi069 hsz69 (some ad593) c1 l1 2 (by omega) (of_decide_eq_true (by first | (with_reducible assumption) | assumption)) HC1.out
                                            have HR598 := Aside0.mk (Kd.C_of_reads (h1 := fun _ => rfl) (hA69 _ (Kd.reads_of_C HR1.out)))
                                            have HC598 := Aside0.mk hC69
                                            clear hA69 hC69 hi069 hsz69
                                            refine start_ (n := 20) (S := fun w' => w'.cell? ⟨gb572, 0, none⟩ = some (.int .i64 a0_0) ∧ w'.cell? ⟨gb572, 1, none⟩ = some (.int .i64 a0_1) ∧ w'.cell? ⟨gb572, 2, none⟩ = some (.slice A0_2 l0_2.length c0_2) ∧ w'.cell? ad593 = some (.int .i64 (rd l1 0)) ∧ w'.cell? ⟨ad593.block, ad593.off + 1, none⟩ = some (.int .i64 (rd l1 1))) (ds := []) #[false, false, false, false, false, false, false, false, false, false, false, false, false, false, false, false, false, false, false, false] (by kernel_rfl) rfl rfl ⟨(blk_cell BK572.out 0).trans rfl, (blk_cell BK572.out 1).trans rfl, (blk_cell BK572.out 2).trans rfl, ((HB.out.cell (World.block_lt_of_cell? w _ hw593_0)).trans hw593_0), ((HB.out.cell (World.block_lt_of_cell? w _ hw594_0)).trans hw594_0)⟩ (fun hHeld => ?_); refine with_tabW wageofficelaw28_TaxAccumulates.tab20 wageofficelaw28_TaxAccumulates.bits20 (fun HT_ HW_ => ?_)
                                            generalize wc.drew = w68 at HO_573002 BK572 HB HR598 hx593_0 hx594_0 hHeld ⊢
                                            refine pure_ (i := 1) (N := some 93) (v := ?_) (a' := ?_) #[false, true, false, false, false, false, false, false, false, false, false, false, false, false, false, false, false, false, false, false] rfl rfl (any_of HT_.out (by kernel_rfl)) (fun _ _ _ h => h) (Or.inl ⟨by rfl, ?_⟩) ?_ ?_
                                            rotate_left
                                            · intro w'
                                              go_simp
                                              with_reducible rfl
                                            rotate_left
                                            · simp only [Act.put, List.setIfInBounds_toArray, List.set_cons_zero, List.set_cons_succ, i64_w, i32_w]
                                              rfl
                                            refine pure_ (i := 2) (N := some 94) (v := ?_) (a' := ?_) #[false, true, true, false, false, false, false, false, false, false, false, false, false, false, false, false, false, false, false, false] rfl rfl (any_of HT_.out (by kernel_rfl)) (fun _ _ _ h => h) (Or.inl ⟨by rfl, ?_⟩) ?_ ?_
                                            rotate_left
                                            · intro w'
                                              go_simp
                                              with_reducible rfl
                                            rotate_left
                                            · simp only [Act.put, List.setIfInBounds_toArray, List.set_cons_zero, List.set_cons_succ, i64_w, i32_w]
                                              rfl
                                            refine pure_ (i := 4) (N := some 96) (v := ?_) (a' := ?_) #[false, true, true, false, true, false, false, false, false, false, false, false, false, false, false, false, false, false, false, false] rfl rfl (any_of HT_.out (by kernel_rfl)) (fun _ _ _ h => h) (Or.inl ⟨by rfl, ?_⟩) ?_ ?_
                                            rotate_left
                                            · intro w'
                                              go_simp
                                              with_reducible rfl
                                            rotate_left
                                            · simp only [Act.put, List.setIfInBounds_toArray, List.set_cons_zero, List.set_cons_succ, i64_w, i32_w]
                                              rfl
                                            refine pure_ (i := 5) (N := some 97) (v := ?_) (a' := ?_) #[false, true, true, false, true, true, false, false, false, false, false, false, false, false, false, false, false, false, false, false] rfl rfl (any_of HT_.out (by kernel_rfl)) (fun _ _ _ h => h) (Or.inl ⟨by rfl, ?_⟩) ?_ ?_
                                            rotate_left
                                            · intro w'
                                              go_simp
                                              with_reducible rfl
                                            rotate_left
                                            · simp only [Act.put, List.setIfInBounds_toArray, List.set_cons_zero, List.set_cons_succ, i64_w, i32_w]
                                              rfl
                                            refine pure_ (i := 9) (N := some 101) (v := ?_) (a' := ?_) #[false, true, true, false, true, true, false, false, false, true, false, false, false, false, false, false, false, false, false, false] rfl rfl (any_of HT_.out (by kernel_rfl)) (fun _ _ _ h => h) (Or.inl ⟨by rfl, ?_⟩) ?_ ?_
                                            rotate_left
                                            · intro w'
                                              go_simp
                                              with_reducible rfl
                                            rotate_left
                                            · simp only [Act.put, List.setIfInBounds_toArray, List.set_cons_zero, List.set_cons_succ, i64_w, i32_w]
                                              rfl
                                            refine pure_ (i := 10) (N := some 102) (v := ?_) (a' := ?_) #[false, true, true, false, true, true, false, false, false, true, true, false, false, false, false, false, false, false, false, false] rfl rfl (any_of HT_.out (by kernel_rfl)) (fun _ _ _ h => h) (Or.inl ⟨by rfl, ?_⟩) ?_ ?_
                                            rotate_left
                                            · intro w'
                                              go_simp
                                              with_reducible rfl
                                            rotate_left
                                            · simp only [Act.put, List.setIfInBounds_toArray, List.set_cons_zero, List.set_cons_succ, i64_w, i32_w]
                                              rfl
                                            refine take_ (i := 0) (N := some 92) (v := ?_) (a' := ?_) #[true, true, true, false, true, true, false, false, false, true, true, false, false, false, false, false, false, false, false, false] rfl rfl (take_ofW HT_.out HW_.out (by kernel_rfl)) (fun _ _ _ h => h) (Or.inl ⟨by rfl, ?_⟩) hHeld ?_ ?_
                                            rotate_left
                                            · rintro w' ⟨s0, s1, s2, s3, s4⟩
                                              go_simp
                                              with_reducible rfl
                                            rotate_left
                                            · simp only [Act.put, List.setIfInBounds_toArray, List.set_cons_zero, List.set_cons_succ, i64_w, i32_w]
                                              rfl
                                            refine take_ (i := 3) (N := some 95) (v := ?_) (a' := ?_) #[true, true, true, true, true, true, false, false, false, true, true, false, false, false, false, false, false, false, false, false] rfl rfl (take_ofW HT_.out HW_.out (by kernel_rfl)) (fun _ _ _ h => h) (Or.inl ⟨by rfl, ?_⟩) hHeld ?_ ?_
                                            rotate_left
                                            · rintro w' ⟨s0, s1, s2, s3, s4⟩
                                              go_simp
                                              with_reducible rfl
                                            rotate_left
                                            · simp only [Act.put, List.setIfInBounds_toArray, List.set_cons_zero, List.set_cons_succ, i64_w, i32_w]
                                              rfl
                                            refine take_ (i := 6) (N := some 98) (v := ?_) (a' := ?_) #[true, true, true, true, true, true, true, false, false, true, true, false, false, false, false, false, false, false, false, false] rfl rfl (take_ofW HT_.out HW_.out (by kernel_rfl)) (fun _ _ _ h => h) (Or.inl ⟨by rfl, ?_⟩) hHeld ?_ ?_
                                            rotate_left
                                            · rintro w' ⟨s0, s1, s2, s3, s4⟩
                                              go_simp
                                              with_reducible rfl
                                            rotate_left
                                            · simp only [Act.put, List.setIfInBounds_toArray, List.set_cons_zero, List.set_cons_succ, i64_w, i32_w]
                                              rfl
                                            refine pure_ (i := 7) (N := some 99) (v := ?_) (a' := ?_) #[true, true, true, true, true, true, true, true, false, true, true, false, false, false, false, false, false, false, false, false] rfl rfl (any_of HT_.out (by kernel_rfl)) (fun _ _ _ h => h) (Or.inl ⟨by rfl, ?_⟩) ?_ ?_
                                            rotate_left
                                            · intro w'
                                              go_simp
                                              with_reducible rfl
                                            rotate_left
                                            · simp only [Act.put, List.setIfInBounds_toArray, List.set_cons_zero, List.set_cons_succ, i64_w, i32_w]
                                              rfl
                                            refine one_ (i := 8) (N := some 100) #[true, true, true, true, true, true, true, true, true, true, true, false, false, false, false, false, false, false, false, false] rfl rfl (one_of HT_.out (by kernel_rfl)) (by decide) (fun K hK => ?_)
                                            refine Kd.R_lit_step (Kd.int .i64) _ 3 ?hg (N := 100) ?hd (xs := ([wrap64 ((rd l1 0) + (rd l1 1))] : List Int)) (inner := [.int .i64 (wrap64 ((rd l1 0) + (rd l1 1)))]) (ok := fun _ => True) (okp := fun _ => True) ?hr ?hp (fun _ hk => hk) trivial (Below.refl _ _) (Nat.le_refl _) (by simp) ?_; (case hd => rfl); (case hg => rfl); (case hr => first | (go_simp; done) | (go_simp; rfl)); (case hp => exact (Reps.one (show Kd.M (Kd.int .i64) _ _ _ (wrap64 ((rd l1 0) + (rd l1 1))) [.int .i64 (wrap64 ((rd l1 0) + (rd l1 1)))] from rfl) (Reps.none _ _)))
                                            intro v596 w70 ho71 hb hg_ hnew_
                                            clear hg_ hnew_
                                            (first | rw [← Ny595.out] at ho71 | (simp only [Int.reduceToNat] at ho71; rw [← Ny595.out] at ho71))
                                            have n0_ := Aside0.mk (Kd.V_elder' (by (with_reducible repeat (first | apply Kd.V_alloc | apply Kd.V_drewN | apply Kd.V_drew)); exact HO_573002.out) (Kd.R_base ho71) hb)
                                            have n1_ := Aside0.mk (Kd.R_lower (Kd.R_newM (M := fun k_ => (w.heap.size ≤ k_)) ho71 (below_size (by repeat (first | (with_reducible first | exact HB.out | apply below_alloc | apply pw_below_drewN | apply below_drew1 | refine below_set ?_ GE572.out) | exact HB.out))) (fun k_ h_ => h_)) (below_size (by repeat (first | (with_reducible first | exact HB.out | apply below_alloc | apply pw_below_drewN | apply below_drew1 | refine below_set ?_ GE572.out) | exact HB.out))))
                                            have n2_ := Aside0.mk (blk_below (g := gb572) (o := .cells #[.int .i64 a0_0, .int .i64 a0_1, .slice A0_2 l0_2.length c0_2] 44 (0, 0)) (by (with_reducible repeat (first | refine blk_drewN ?_ _ | refine blk_drew ?_ | refine blk_alloc ?_ _)); exact BK572.out) hb)
                                            have n3_ := Aside0.mk (below_step (by repeat (first | (with_reducible first | exact HB.out | apply below_alloc | apply pw_below_drewN | apply below_drew1 | refine below_set ?_ GE572.out) | exact HB.out)) hb)
                                            clear HO_573002
                                            clear BK572
                                            clear HB
                                            have HO_573002 := n0_
                                            have HO597 := n1_
                                            have BK572 := n2_
                                            have HB := n3_
                                            clear n0_ n1_ n2_ n3_
                                            clear hb ho71
                                            refine hK.out _ _ ⟨(blk_cell BK572.out 0).trans rfl, (blk_cell BK572.out 1).trans rfl, (blk_cell BK572.out 2).trans rfl, ((HB.out.cell (World.block_lt_of_cell? w _ hw593_0)).trans hw593_0), ((HB.out.cell (World.block_lt_of_cell? w _ hw594_0)).trans hw594_0)⟩ (fun hHeld => ?_)
                                            clear hK K
                                            refine norm_ (a' := ?_) ?_ ?_
                                            rotate_left
                                            · show Act.put _ (some 100) _ = _
                                              simp only [Act.put, List.setIfInBounds_toArray, List.set_cons_zero, List.set_cons_succ, i64_w, i32_w]
                                              rfl
                                            refine one_ (i := 11) (N := some 103) #[true, true, true, true, true, true, true, true, true, true, true, true, false, false, false, false, false, false, false, false] rfl rfl (one_of HT_.out (by kernel_rfl)) (by decide) (fun K hK => ?_)
                                            refine Kd.R_append_rows_step (Kd.int .i64) (w0 := w) w.heap.size (by rfl) (.tmp 100) (.tmp 102) 22 3 (.int .i64 0) 8 rfl Try.underlying22 info3 rfl (by decide) (by omega) v596 y595 (l1.drop 2) _ _ _ (fun k_ => (w.heap.size ≤ k_)) (fun _ => False) rfl rfl ?aO ?aR (fun _ _ h => h) (fun _ h => h.elim) ?aF ?aB ?aS ?aL ?_
                                            (case aR => first | (refine Eq.mp (congrArg (fun n_ : Nat => ReadsRow _ _ _ _ n_ _) (show (l1.drop 2).length = (l1.length - 2) from List.length_drop)) ?_; repeat (first | exact (Kd.C_below HR598.out HB.out) | (with_reducible refine Kd.C_alloc ?_ _) | (with_reducible refine Kd.C_drewN ?_ _) | (with_reducible refine Kd.C_drew ?_))) | (repeat (first | exact (Kd.C_below HR598.out HB.out) | (with_reducible refine Kd.C_alloc ?_ _) | (with_reducible refine Kd.C_drewN ?_ _) | (with_reducible refine Kd.C_drew ?_))))
                                            (case aB => exact (by repeat (first | (with_reducible first | exact HB.out | apply below_alloc | apply pw_below_drewN | apply below_drew1 | refine below_set ?_ GE572.out) | exact HB.out)))
                                            (case aF => exact (fun k_ hk => (Nat.le_trans (below_size (by repeat (first | (with_reducible first | exact HB.out | apply below_alloc | apply pw_below_drewN | apply below_drew1 | refine below_set ?_ GE572.out) | exact HB.out))) hk)))
                                            (case aO => exact (by (with_reducible repeat (first | apply Kd.R_alloc | apply Kd.R_drewN | apply Kd.R_drew)); exact Kd.R_mono HO597.out (fun _ hk => hk.1)))
                                            (case aS => exact (below_size (by repeat (first | (with_reducible first | exact HB.out | apply below_alloc | apply pw_below_drewN | apply below_drew1 | refine below_set ?_ GE572.out) | exact HB.out))))
                                            (case aL => have := LMc56.out; have hlx_ := (show (l1.drop 2).length = (l1.length - 2) from List.length_drop); omega)
                                            intro v600 w72 ho hb hg hat
                                            rw [← Ny599.out] at ho
                                            have n0_ := Aside0.mk (Kd.V_afterv (ok := (fun k_ => (P0_2_ k_ ∨ w.heap.size ≤ k_) ∧ k_ ≠ gb572)) (by (with_reducible repeat (first | apply Kd.V_alloc | apply Kd.V_drewN | apply Kd.V_drew)); exact HO_573002.out) hg hat)
                                            have n1_ := Aside0.mk (blk_grown (g := gb572) (o := .cells #[.int .i64 a0_0, .int .i64 a0_1, .slice A0_2 l0_2.length c0_2] 44 (0, 0)) (by (with_reducible repeat (first | refine blk_drewN ?_ _ | refine blk_drew ?_ | refine blk_alloc ?_ _)); exact BK572.out) hg (Kd.R_ne HO597.out BK572.out (by decide)))
                                            have n2_ := Aside0.mk (hb)
                                            have n3_ := Aside0.mk (ho)
                                            clear HO_573002
                                            clear BK572
                                            clear HB
                                            clear HO597
                                            have HO_573002 := n0_
                                            have BK572 := n1_
                                            have HB := n2_
                                            have HO601 := n3_
                                            clear n0_ n1_ n2_ n3_
                                            clear ho hb hg hat
                                            obtain ⟨Ao73, co73, eo73⟩ := Kd.R_slice HO601.out
                                            (first | subst eo73 | (injection eo73 with f1_ f2_ f3_; have f4_ := f1_.symm; have f5_ := f3_.symm; clear f1_ f2_ f3_; subst f4_; subst f5_))
                                            refine hK.out _ _ ⟨(blk_cell BK572.out 0).trans rfl, (blk_cell BK572.out 1).trans rfl, (blk_cell BK572.out 2).trans rfl, ((HB.out.cell (World.block_lt_of_cell? w _ hw593_0)).trans hw593_0), ((HB.out.cell (World.block_lt_of_cell? w _ hw594_0)).trans hw594_0)⟩ (fun hHeld => ?_)
                                            clear hK K
                                            refine norm_ (a' := ?_) ?_ ?_
                                            rotate_left
                                            · show Act.put _ (some 103) _ = _
                                              simp only [Act.put, List.setIfInBounds_toArray, List.set_cons_zero, List.set_cons_succ, i64_w, i32_w]
                                              rfl
                                            refine one_ (i := 12) (N := some 104) #[true, true, true, true, true, true, true, true, true, true, true, true, true, false, false, false, false, false, false, false] rfl rfl (one_of HT_.out (by kernel_rfl)) (by decide) (fun K hK => ?_)
                                            refine goes_ Try.func36 (by kernel_rfl) rfl #[.agg #[.int .i64 a0_0, .int .i64 a0_1, .slice A0_2 l0_2.length c0_2], .int .i64 0, .int .i64 0, .slice Ao73 y599.length co73] (by rfl) rfl rfl (by (try simp only [List.map_toArray, List.map_cons, List.map_nil]); first | done | rfl | (simp only [List.length_drop, List.length_take]; rfl)) ?_
                                            with_reducible refine (wageofficelaw28_withheld.calls kj44 a0_0 a0_1 _ _ l0_2 0 0 _ _ y599 t602 t603 true _ ?side1 ?side2 ?side3 ?side4 A57.out).mono ?_
                                            (case side1 => repeat (first | exact (Kd.V_reads' HO_573002.out).2.2 | (with_reducible refine Kd.C_alloc ?_ _) | (with_reducible refine Kd.C_drewN ?_ _) | (with_reducible refine Kd.C_drew ?_)))
                                            (case side2 => exact (Kd.V_reads' HO_573002.out).2.1)
                                            (case side3 => repeat (first | exact (Kd.R_reads' HO601.out).2.2 | (with_reducible refine Kd.C_alloc ?_ _) | (with_reducible refine Kd.C_drewN ?_ _) | (with_reducible refine Kd.C_drew ?_)))
                                            (case side4 => exact (Kd.R_reads' HO601.out).2.1)
                                            rintro e w74 ⟨rfl, hb⟩
                                            refine ⟨_, rfl, ?_⟩
                                            have n0_ := Aside0.mk (Kd.V_below (by (with_reducible repeat (first | apply Kd.V_alloc | apply Kd.V_drewN | apply Kd.V_drew)); exact HO_573002.out) hb)
                                            have n1_ := Aside0.mk (Kd.R_below (by (with_reducible repeat (first | apply Kd.R_alloc | apply Kd.R_drewN | apply Kd.R_drew)); exact HO601.out) hb)
                                            have n2_ := Aside0.mk (blk_below (g := gb572) (o := .cells #[.int .i64 a0_0, .int .i64 a0_1, .slice A0_2 l0_2.length c0_2] 44 (0, 0)) (by (with_reducible repeat (first | refine blk_drewN ?_ _ | refine blk_drew ?_ | refine blk_alloc ?_ _)); exact BK572.out) hb)
                                            have n3_ := Aside0.mk (below_step (by repeat (first | (with_reducible first | exact HB.out | apply below_alloc | apply pw_below_drewN | apply below_drew1 | refine below_set ?_ GE572.out) | exact HB.out)) hb)
                                            clear HO_573002
                                            clear HO601
                                            clear BK572
                                            clear HB
                                            have HO_573002 := n0_
                                            have HO601 := n1_
                                            have BK572 := n2_
                                            have HB := n3_
                                            clear n0_ n1_ n2_ n3_
                                            (try clear hb)
                                            (try clear hb2)
                                            (try clear hk)
                                            (try clear hi)
                                            refine hK.out _ _ ⟨(blk_cell BK572.out 0).trans rfl, (blk_cell BK572.out 1).trans rfl, (blk_cell BK572.out 2).trans rfl, ((HB.out.cell (World.block_lt_of_cell? w _ hw593_0)).trans hw593_0), ((HB.out.cell (World.block_lt_of_cell? w _ hw594_0)).trans hw594_0)⟩ (fun hHeld => ?_)
                                            clear hK K
                                            refine norm_ (a' := ?_) ?_ ?_
                                            rotate_left
                                            · show Act.put _ (some 104) _ = _
                                              simp only [Act.put, List.setIfInBounds_toArray, List.set_cons_zero, List.set_cons_succ, i64_w, i32_w]
                                              rfl
                                            refine pure_ (i := 13) (N := some 91) (v := ?_) (a' := ?_) #[true, true, true, true, true, true, true, true, true, true, true, true, true, true, false, false, false, false, false, false] rfl rfl (any_of HT_.out (by kernel_rfl)) (fun _ _ _ h => h) (Or.inl ⟨by rfl, ?_⟩) ?_ ?_
                                            rotate_left
                                            · intro w'
                                              go_simp
                                              with_reducible rfl
                                            rotate_left
                                            · simp only [Act.put, List.setIfInBounds_toArray, List.set_cons_zero, List.set_cons_succ, i64_w, i32_w]
                                              rfl
                                            refine pure_ (i := 14) (N := some 105) (v := ?_) (a' := ?_) #[true, true, true, true, true, true, true, true, true, true, true, true, true, true, true, false, false, false, false, false] rfl rfl (any_of HT_.out (by kernel_rfl)) (fun _ _ _ h => h) (Or.inl ⟨by rfl, ?_⟩) ?_ ?_
                                            rotate_left
                                            · intro w'
                                              go_simp
                                              with_reducible rfl
                                            rotate_left
                                            · simp only [Act.put, List.setIfInBounds_toArray, List.set_cons_zero, List.set_cons_succ, i64_w, i32_w]
                                              rfl
                                            refine pure_ (i := 15) (N := some 106) (v := ?_) (a' := ?_) #[true, true, true, true, true, true, true, true, true, true, true, true, true, true, true, true, false, false, false, false] rfl rfl (any_of HT_.out (by kernel_rfl)) (fun _ _ _ h => h) (Or.inl ⟨by rfl, ?_⟩) ?_ ?_
                                            rotate_left
                                            · intro w'
                                              go_simp
                                              with_reducible rfl
                                            rotate_left
                                            · simp only [Act.put, List.setIfInBounds_toArray, List.set_cons_zero, List.set_cons_succ, i64_w, i32_w]
                                              rfl
                                            refine pure_ (i := 16) (N := some 107) (v := ?_) (a' := ?_) #[true, true, true, true, true, true, true, true, true, true, true, true, true, true, true, true, true, false, false, false] rfl rfl (any_of HT_.out (by kernel_rfl)) (fun _ _ _ h => h) (Or.inl ⟨by rfl, ?_⟩) ?_ ?_
                                            rotate_left
                                            · intro w'
                                              go_simp
                                              with_reducible rfl
                                            rotate_left
                                            · simp only [Act.put, List.setIfInBounds_toArray, List.set_cons_zero, List.set_cons_succ, i64_w, i32_w]
                                              rfl
                                            refine pure_ (i := 17) (N := some 17) (v := ?_) (a' := ?_) #[true, true, true, true, true, true, true, true, true, true, true, true, true, true, true, true, true, true, false, false] rfl rfl (any_of HT_.out (by kernel_rfl)) (fun _ _ _ h => h) (Or.inl ⟨by rfl, ?_⟩) ?_ ?_
                                            rotate_left
                                            · intro w'
                                              go_simp
                                              with_reducible rfl
                                            rotate_left
                                            · simp only [Act.put, List.setIfInBounds_toArray, List.set_cons_zero, List.set_cons_succ, i64_w, i32_w]
                                              rfl
                                            refine pure_ (i := 18) (N := some 18) (v := ?_) (a' := ?_) #[true, true, true, true, true, true, true, true, true, true, true, true, true, true, true, true, true, true, true, false] rfl rfl (any_of HT_.out (by kernel_rfl)) (fun _ _ _ h => h) (Or.inl ⟨by rfl, ?_⟩) ?_ ?_
                                            rotate_left
                                            · intro w'
                                              go_simp
                                              with_reducible rfl
                                            rotate_left
                                            · simp only [Act.put, List.setIfInBounds_toArray, List.set_cons_zero, List.set_cons_succ, i64_w, i32_w]
                                              rfl
                                            refine pure_ (i := 19) (N := some 19) (v := ?_) (a' := ?_) #[true, true, true, true, true, true, true, true, true, true, true, true, true, true, true, true, true, true, true, true] rfl rfl (any_of HT_.out (by kernel_rfl)) (fun _ _ _ h => h) (Or.inl ⟨by rfl, ?_⟩) ?_ ?_
                                            rotate_left
                                            · intro w'
                                              go_simp
                                              with_reducible rfl
                                            rotate_left
                                            · simp only [Act.put, List.setIfInBounds_toArray, List.set_cons_zero, List.set_cons_succ, i64_w, i32_w]
                                              rfl
                                            refine done_ (done_of HT_.out (by kernel_rfl)) ?_
                                            try go_wp2
                                            go_ret
                                            exact ⟨by first | rfl | (simp [errW_none, errW_some] <;> rfl) | (simp [*, errW_none, errW_some] <;> rfl), by repeat (first | (with_reducible first | exact HB.out | apply below_alloc | apply pw_below_drewN | apply below_drew1 | refine below_set ?_ GE572.out) | exact HB.out)⟩
                                        · rw [if_neg c59] at H
                                          have c59b0 : (t602 == t578) = false := beq_eq_false_iff_ne.mpr c59
                                          have c59b1 : (t602 != t578) = true := bne_iff_ne.mpr c59
                                          obtain rfl := Option.some.inj H
                                          try go_wp2
                                          have n0_ := Aside0.mk (Kd.V_drew HO_573002.out)
                                          have n1_ := Aside0.mk (blk_drew BK572.out)
                                          have n2_ := Aside0.mk (below_drew1 HB.out)
                                          clear HO_573002
                                          clear BK572
                                          clear HB
                                          have HO_573002 := n0_
                                          have BK572 := n1_
                                          have HB := n2_
                                          clear n0_ n1_ n2_
                                          have p593 : 0 ≤ (0 : Int) := (by omega)
                                          have q593 : 0 < (l1.length : Int) := of_decide_eq_true (by first | (with_reducible assumption) | assumption)
                                          obtain ⟨ad593, e593, hx593_0⟩ := Kd.at_int HR1.out 0 p593 q593
                                          have hw593_0 := hx593_0
                                          (try rw [show ((0 : Int)).toNat = 0 from rfl] at hw593_0)
                                          (try rw [show 0 * 1 = 0 from rfl] at hw593_0)
                                          (try rw [Addr.add_zero'] at hw593_0)
                                          cases e593
                                          have qi593 : (0 < l1.length) = True := eq_true (by omega)
                                          (try rw [show ((0 : Int)).toNat = 0 from rfl] at hx593_0)
                                          (try rw [Addr.add_zero'] at hx593_0)
                                          replace hx593_0 := (HB.out.cell (World.block_lt_of_cell? w _ hx593_0)).trans hx593_0
                                          replace p593 := eq_true p593
                                          replace q593 := eq_true q593
                                          have p594 : 0 ≤ (1 : Int) := (by omega)
                                          have q594 : 1 < (l1.length : Int) := of_decide_eq_true (by first | (with_reducible assumption) | assumption)
                                          obtain ⟨ad594, e594, hx594_0⟩ := Kd.at_int HR1.out 1 p594 q594
                                          have hw594_0 := hx594_0
                                          (try rw [show ((1 : Int)).toNat = 1 from rfl] at hw594_0)
                                          (try rw [show 1 * 1 = 1 from rfl] at hw594_0)
                                          (try simp only [Nat.reduceMul, Nat.reduceEqDiff, Go.Addr.add, ↓reduceIte] at hw594_0)
                                          obtain rfl : ad593 = ad594 := (by injection e594)
                                          (try simp only [show (1 : Int).toNat = 1 from rfl, Nat.reduceMul, Nat.reduceEqDiff, Go.Addr.add, ↓reduceIte] at hx594_0)
                                          have qi594 : (1 < l1.length) = True := eq_true (by omega)
                                          (try rw [show ((1 : Int)).toNat = 1 from rfl] at hx594_0)
                                          replace hx594_0 := (HB.out.cell (World.block_lt_of_cell? w _ hx594_0)).trans hx594_0
                                          replace p594 := eq_true p594
                                          replace q594 := eq_true q594
                                          obtain ⟨i076, hi076, _, hsz76, _⟩ := info_parts info3
                                          obtain ⟨A76, hcut76, hA76, hC76⟩ := print_drop_of (P := Try.prog) (Value.int .i64) 0 22 3 .i64 Try.underlying22 hi076 hsz76 (some ad593) c1 l1 2 (by omega) (of_decide_eq_true (by first | (with_reducible assumption) | assumption)) HC1.out
                                          have HR598 := Aside0.mk (Kd.C_of_reads (h1 := fun _ => rfl) (hA76 _ (Kd.reads_of_C HR1.out)))
                                          have HC598 := Aside0.mk hC76
                                          clear hA76 hC76 hi076 hsz76
                                          refine start_ (n := 20) (S := fun w' => w'.cell? ⟨gb572, 0, none⟩ = some (.int .i64 a0_0) ∧ w'.cell? ⟨gb572, 1, none⟩ = some (.int .i64 a0_1) ∧ w'.cell? ⟨gb572, 2, none⟩ = some (.slice A0_2 l0_2.length c0_2) ∧ w'.cell? ad593 = some (.int .i64 (rd l1 0)) ∧ w'.cell? ⟨ad593.block, ad593.off + 1, none⟩ = some (.int .i64 (rd l1 1))) (ds := []) #[false, false, false, false, false, false, false, false, false, false, false, false, false, false, false, false, false, false, false, false] (by kernel_rfl) rfl rfl ⟨(blk_cell BK572.out 0).trans rfl, (blk_cell BK572.out 1).trans rfl, (blk_cell BK572.out 2).trans rfl, ((HB.out.cell (World.block_lt_of_cell? w _ hw593_0)).trans hw593_0), ((HB.out.cell (World.block_lt_of_cell? w _ hw594_0)).trans hw594_0)⟩ (fun hHeld => ?_); refine with_tabW wageofficelaw28_TaxAccumulates.tab20 wageofficelaw28_TaxAccumulates.bits20 (fun HT_ HW_ => ?_)
                                          generalize wc.drew = w75 at HO_573002 BK572 HB HR598 hx593_0 hx594_0 hHeld ⊢
                                          refine pure_ (i := 1) (N := some 93) (v := ?_) (a' := ?_) #[false, true, false, false, false, false, false, false, false, false, false, false, false, false, false, false, false, false, false, false] rfl rfl (any_of HT_.out (by kernel_rfl)) (fun _ _ _ h => h) (Or.inl ⟨by rfl, ?_⟩) ?_ ?_
                                          rotate_left
                                          · intro w'
                                            go_simp
                                            with_reducible rfl
                                          rotate_left
                                          · simp only [Act.put, List.setIfInBounds_toArray, List.set_cons_zero, List.set_cons_succ, i64_w, i32_w]
                                            rfl
                                          refine pure_ (i := 2) (N := some 94) (v := ?_) (a' := ?_) #[false, true, true, false, false, false, false, false, false, false, false, false, false, false, false, false, false, false, false, false] rfl rfl (any_of HT_.out (by kernel_rfl)) (fun _ _ _ h => h) (Or.inl ⟨by rfl, ?_⟩) ?_ ?_
                                          rotate_left
                                          · intro w'
                                            go_simp
                                            with_reducible rfl
                                          rotate_left
                                          · simp only [Act.put, List.setIfInBounds_toArray, List.set_cons_zero, List.set_cons_succ, i64_w, i32_w]
                                            rfl
                                          refine pure_ (i := 4) (N := some 96) (v := ?_) (a' := ?_) #[false, true, true, false, true, false, false, false, false, false, false, false, false, false, false, false, false, false, false, false] rfl rfl (any_of HT_.out (by kernel_rfl)) (fun _ _ _ h => h) (Or.inl ⟨by rfl, ?_⟩) ?_ ?_
                                          rotate_left
                                          · intro w'
                                            go_simp
                                            with_reducible rfl
                                          rotate_left
                                          · simp only [Act.put, List.setIfInBounds_toArray, List.set_cons_zero, List.set_cons_succ, i64_w, i32_w]
                                            rfl
                                          refine pure_ (i := 5) (N := some 97) (v := ?_) (a' := ?_) #[false, true, true, false, true, true, false, false, false, false, false, false, false, false, false, false, false, false, false, false] rfl rfl (any_of HT_.out (by kernel_rfl)) (fun _ _ _ h => h) (Or.inl ⟨by rfl, ?_⟩) ?_ ?_
                                          rotate_left
                                          · intro w'
                                            go_simp
                                            with_reducible rfl
                                          rotate_left
                                          · simp only [Act.put, List.setIfInBounds_toArray, List.set_cons_zero, List.set_cons_succ, i64_w, i32_w]
                                            rfl
                                          refine pure_ (i := 9) (N := some 101) (v := ?_) (a' := ?_) #[false, true, true, false, true, true, false, false, false, true, false, false, false, false, false, false, false, false, false, false] rfl rfl (any_of HT_.out (by kernel_rfl)) (fun _ _ _ h => h) (Or.inl ⟨by rfl, ?_⟩) ?_ ?_
                                          rotate_left
                                          · intro w'
                                            go_simp
                                            with_reducible rfl
                                          rotate_left
                                          · simp only [Act.put, List.setIfInBounds_toArray, List.set_cons_zero, List.set_cons_succ, i64_w, i32_w]
                                            rfl
                                          refine pure_ (i := 10) (N := some 102) (v := ?_) (a' := ?_) #[false, true, true, false, true, true, false, false, false, true, true, false, false, false, false, false, false, false, false, false] rfl rfl (any_of HT_.out (by kernel_rfl)) (fun _ _ _ h => h) (Or.inl ⟨by rfl, ?_⟩) ?_ ?_
                                          rotate_left
                                          · intro w'
                                            go_simp
                                            with_reducible rfl
                                          rotate_left
                                          · simp only [Act.put, List.setIfInBounds_toArray, List.set_cons_zero, List.set_cons_succ, i64_w, i32_w]
                                            rfl
                                          refine take_ (i := 0) (N := some 92) (v := ?_) (a' := ?_) #[true, true, true, false, true, true, false, false, false, true, true, false, false, false, false, false, false, false, false, false] rfl rfl (take_ofW HT_.out HW_.out (by kernel_rfl)) (fun _ _ _ h => h) (Or.inl ⟨by rfl, ?_⟩) hHeld ?_ ?_
                                          rotate_left
                                          · rintro w' ⟨s0, s1, s2, s3, s4⟩
                                            go_simp
                                            with_reducible rfl
                                          rotate_left
                                          · simp only [Act.put, List.setIfInBounds_toArray, List.set_cons_zero, List.set_cons_succ, i64_w, i32_w]
                                            rfl
                                          refine take_ (i := 3) (N := some 95) (v := ?_) (a' := ?_) #[true, true, true, true, true, true, false, false, false, true, true, false, false, false, false, false, false, false, false, false] rfl rfl (take_ofW HT_.out HW_.out (by kernel_rfl)) (fun _ _ _ h => h) (Or.inl ⟨by rfl, ?_⟩) hHeld ?_ ?_
                                          rotate_left
                                          · rintro w' ⟨s0, s1, s2, s3, s4⟩
                                            go_simp
                                            with_reducible rfl
                                          rotate_left
                                          · simp only [Act.put, List.setIfInBounds_toArray, List.set_cons_zero, List.set_cons_succ, i64_w, i32_w]
                                            rfl
                                          refine take_ (i := 6) (N := some 98) (v := ?_) (a' := ?_) #[true, true, true, true, true, true, true, false, false, true, true, false, false, false, false, false, false, false, false, false] rfl rfl (take_ofW HT_.out HW_.out (by kernel_rfl)) (fun _ _ _ h => h) (Or.inl ⟨by rfl, ?_⟩) hHeld ?_ ?_
                                          rotate_left
                                          · rintro w' ⟨s0, s1, s2, s3, s4⟩
                                            go_simp
                                            with_reducible rfl
                                          rotate_left
                                          · simp only [Act.put, List.setIfInBounds_toArray, List.set_cons_zero, List.set_cons_succ, i64_w, i32_w]
                                            rfl
                                          refine pure_ (i := 7) (N := some 99) (v := ?_) (a' := ?_) #[true, true, true, true, true, true, true, true, false, true, true, false, false, false, false, false, false, false, false, false] rfl rfl (any_of HT_.out (by kernel_rfl)) (fun _ _ _ h => h) (Or.inl ⟨by rfl, ?_⟩) ?_ ?_
                                          rotate_left
                                          · intro w'
                                            go_simp
                                            with_reducible rfl
                                          rotate_left
                                          · simp only [Act.put, List.setIfInBounds_toArray, List.set_cons_zero, List.set_cons_succ, i64_w, i32_w]
                                            rfl
                                          refine one_ (i := 8) (N := some 100) #[true, true, true, true, true, true, true, true, true, true, true, false, false, false, false, false, false, false, false, false] rfl rfl (one_of HT_.out (by kernel_rfl)) (by decide) (fun K hK => ?_)
                                          refine Kd.R_lit_step (Kd.int .i64) _ 3 ?hg (N := 100) ?hd (xs := ([wrap64 ((rd l1 0) + (rd l1 1))] : List Int)) (inner := [.int .i64 (wrap64 ((rd l1 0) + (rd l1 1)))]) (ok := fun _ => True) (okp := fun _ => True) ?hr ?hp (fun _ hk => hk) trivial (Below.refl _ _) (Nat.le_refl _) (by simp) ?_; (case hd => rfl); (case hg => rfl); (case hr => first | (go_simp; done) | (go_simp; rfl)); (case hp => exact (Reps.one (show Kd.M (Kd.int .i64) _ _ _ (wrap64 ((rd l1 0) + (rd l1 1))) [.int .i64 (wrap64 ((rd l1 0) + (rd l1 1)))] from rfl) (Reps.none _ _)))
                                          intro v596 w77 ho78 hb hg_ hnew_
                                          clear hg_ hnew_
                                          (first | rw [← Ny595.out] at ho78 | (simp only [Int.reduceToNat] at ho78; rw [← Ny595.out] at ho78))
                                          have n0_ := Aside0.mk (Kd.V_elder' (by (with_reducible repeat (first | apply Kd.V_alloc | apply Kd.V_drewN | apply Kd.V_drew)); exact HO_573002.out) (Kd.R_base ho78) hb)
                                          have n1_ := Aside0.mk (Kd.R_lower (Kd.R_newM (M := fun k_ => (w.heap.size ≤ k_)) ho78 (below_size (by repeat (first | (with_reducible first | exact HB.out | apply below_alloc | apply pw_below_drewN | apply below_drew1 | refine below_set ?_ GE572.out) | exact HB.out))) (fun k_ h_ => h_)) (below_size (by repeat (first | (with_reducible first | exact HB.out | apply below_alloc | apply pw_below_drewN | apply below_drew1 | refine below_set ?_ GE572.out) | exact HB.out))))
                                          have n2_ := Aside0.mk (blk_below (g := gb572) (o := .cells #[.int .i64 a0_0, .int .i64 a0_1, .slice A0_2 l0_2.length c0_2] 44 (0, 0)) (by (with_reducible repeat (first | refine blk_drewN ?_ _ | refine blk_drew ?_ | refine blk_alloc ?_ _)); exact BK572.out) hb)
                                          have n3_ := Aside0.mk (below_step (by repeat (first | (with_reducible first | exact HB.out | apply below_alloc | apply pw_below_drewN | apply below_drew1 | refine below_set ?_ GE572.out) | exact HB.out)) hb)
                                          clear HO_573002
                                          clear BK572
                                          clear HB
                                          have HO_573002 := n0_
                                          have HO597 := n1_
                                          have BK572 := n2_
                                          have HB := n3_
                                          clear n0_ n1_ n2_ n3_
                                          clear hb ho78
                                          refine hK.out _ _ ⟨(blk_cell BK572.out 0).trans rfl, (blk_cell BK572.out 1).trans rfl, (blk_cell BK572.out 2).trans rfl, ((HB.out.cell (World.block_lt_of_cell? w _ hw593_0)).trans hw593_0), ((HB.out.cell (World.block_lt_of_cell? w _ hw594_0)).trans hw594_0)⟩ (fun hHeld => ?_)
                                          clear hK K
                                          refine norm_ (a' := ?_) ?_ ?_
                                          rotate_left
                                          · show Act.put _ (some 100) _ = _
                                            simp only [Act.put, List.setIfInBounds_toArray, List.set_cons_zero, List.set_cons_succ, i64_w, i32_w]
                                            rfl
                                          refine one_ (i := 11) (N := some 103) #[true, true, true, true, true, true, true, true, true, true, true, true, false, false, false, false, false, false, false, false] rfl rfl (one_of HT_.out (by kernel_rfl)) (by decide) (fun K hK => ?_)
                                          refine Kd.R_append_rows_step (Kd.int .i64) (w0 := w) w.heap.size (by rfl) (.tmp 100) (.tmp 102) 22 3 (.int .i64 0) 8 rfl Try.underlying22 info3 rfl (by decide) (by omega) v596 y595 (l1.drop 2) _ _ _ (fun k_ => (w.heap.size ≤ k_)) (fun _ => False) rfl rfl ?aO ?aR (fun _ _ h => h) (fun _ h => h.elim) ?aF ?aB ?aS ?aL ?_
                                          (case aR => first | (refine Eq.mp (congrArg (fun n_ : Nat => ReadsRow _ _ _ _ n_ _) (show (l1.drop 2).length = (l1.length - 2) from List.length_drop)) ?_; repeat (first | exact (Kd.C_below HR598.out HB.out) | (with_reducible refine Kd.C_alloc ?_ _) | (with_reducible refine Kd.C_drewN ?_ _) | (with_reducible refine Kd.C_drew ?_))) | (repeat (first | exact (Kd.C_below HR598.out HB.out) | (with_reducible refine Kd.C_alloc ?_ _) | (with_reducible refine Kd.C_drewN ?_ _) | (with_reducible refine Kd.C_drew ?_))))
                                          (case aB => exact (by repeat (first | (with_reducible first | exact HB.out | apply below_alloc | apply pw_below_drewN | apply below_drew1 | refine below_set ?_ GE572.out) | exact HB.out)))
                                          (case aF => exact (fun k_ hk => (Nat.le_trans (below_size (by repeat (first | (with_reducible first | exact HB.out | apply below_alloc | apply pw_below_drewN | apply below_drew1 | refine below_set ?_ GE572.out) | exact HB.out))) hk)))
                                          (case aO => exact (by (with_reducible repeat (first | apply Kd.R_alloc | apply Kd.R_drewN | apply Kd.R_drew)); exact Kd.R_mono HO597.out (fun _ hk => hk.1)))
                                          (case aS => exact (below_size (by repeat (first | (with_reducible first | exact HB.out | apply below_alloc | apply pw_below_drewN | apply below_drew1 | refine below_set ?_ GE572.out) | exact HB.out))))
                                          (case aL => have := LMc56.out; have hlx_ := (show (l1.drop 2).length = (l1.length - 2) from List.length_drop); omega)
                                          intro v600 w79 ho hb hg hat
                                          rw [← Ny599.out] at ho
                                          have n0_ := Aside0.mk (Kd.V_afterv (ok := (fun k_ => (P0_2_ k_ ∨ w.heap.size ≤ k_) ∧ k_ ≠ gb572)) (by (with_reducible repeat (first | apply Kd.V_alloc | apply Kd.V_drewN | apply Kd.V_drew)); exact HO_573002.out) hg hat)
                                          have n1_ := Aside0.mk (blk_grown (g := gb572) (o := .cells #[.int .i64 a0_0, .int .i64 a0_1, .slice A0_2 l0_2.length c0_2] 44 (0, 0)) (by (with_reducible repeat (first | refine blk_drewN ?_ _ | refine blk_drew ?_ | refine blk_alloc ?_ _)); exact BK572.out) hg (Kd.R_ne HO597.out BK572.out (by decide)))
                                          have n2_ := Aside0.mk (hb)
                                          have n3_ := Aside0.mk (ho)
                                          clear HO_573002
                                          clear BK572
                                          clear HB
                                          clear HO597
                                          have HO_573002 := n0_
                                          have BK572 := n1_
                                          have HB := n2_
                                          have HO601 := n3_
                                          clear n0_ n1_ n2_ n3_
                                          clear ho hb hg hat
                                          obtain ⟨Ao80, co80, eo80⟩ := Kd.R_slice HO601.out
                                          (first | subst eo80 | (injection eo80 with f1_ f2_ f3_; have f4_ := f1_.symm; have f5_ := f3_.symm; clear f1_ f2_ f3_; subst f4_; subst f5_))
                                          refine hK.out _ _ ⟨(blk_cell BK572.out 0).trans rfl, (blk_cell BK572.out 1).trans rfl, (blk_cell BK572.out 2).trans rfl, ((HB.out.cell (World.block_lt_of_cell? w _ hw593_0)).trans hw593_0), ((HB.out.cell (World.block_lt_of_cell? w _ hw594_0)).trans hw594_0)⟩ (fun hHeld => ?_)
                                          clear hK K
                                          refine norm_ (a' := ?_) ?_ ?_
                                          rotate_left
                                          · show Act.put _ (some 103) _ = _
                                            simp only [Act.put, List.setIfInBounds_toArray, List.set_cons_zero, List.set_cons_succ, i64_w, i32_w]
                                            rfl
                                          refine one_ (i := 12) (N := some 104) #[true, true, true, true, true, true, true, true, true, true, true, true, true, false, false, false, false, false, false, false] rfl rfl (one_of HT_.out (by kernel_rfl)) (by decide) (fun K hK => ?_)
                                          refine goes_ Try.func36 (by kernel_rfl) rfl #[.agg #[.int .i64 a0_0, .int .i64 a0_1, .slice A0_2 l0_2.length c0_2], .int .i64 0, .int .i64 0, .slice Ao80 y599.length co80] (by rfl) rfl rfl (by (try simp only [List.map_toArray, List.map_cons, List.map_nil]); first | done | rfl | (simp only [List.length_drop, List.length_take]; rfl)) ?_
                                          with_reducible refine (wageofficelaw28_withheld.calls kj44 a0_0 a0_1 _ _ l0_2 0 0 _ _ y599 t602 t603 true _ ?side1 ?side2 ?side3 ?side4 A57.out).mono ?_
                                          (case side1 => repeat (first | exact (Kd.V_reads' HO_573002.out).2.2 | (with_reducible refine Kd.C_alloc ?_ _) | (with_reducible refine Kd.C_drewN ?_ _) | (with_reducible refine Kd.C_drew ?_)))
                                          (case side2 => exact (Kd.V_reads' HO_573002.out).2.1)
                                          (case side3 => repeat (first | exact (Kd.R_reads' HO601.out).2.2 | (with_reducible refine Kd.C_alloc ?_ _) | (with_reducible refine Kd.C_drewN ?_ _) | (with_reducible refine Kd.C_drew ?_)))
                                          (case side4 => exact (Kd.R_reads' HO601.out).2.1)
                                          rintro e w81 ⟨rfl, hb⟩
                                          refine ⟨_, rfl, ?_⟩
                                          have n0_ := Aside0.mk (Kd.V_below (by (with_reducible repeat (first | apply Kd.V_alloc | apply Kd.V_drewN | apply Kd.V_drew)); exact HO_573002.out) hb)
                                          have n1_ := Aside0.mk (Kd.R_below (by (with_reducible repeat (first | apply Kd.R_alloc | apply Kd.R_drewN | apply Kd.R_drew)); exact HO601.out) hb)
                                          have n2_ := Aside0.mk (blk_below (g := gb572) (o := .cells #[.int .i64 a0_0, .int .i64 a0_1, .slice A0_2 l0_2.length c0_2] 44 (0, 0)) (by (with_reducible repeat (first | refine blk_drewN ?_ _ | refine blk_drew ?_ | refine blk_alloc ?_ _)); exact BK572.out) hb)
                                          have n3_ := Aside0.mk (below_step (by repeat (first | (with_reducible first | exact HB.out | apply below_alloc | apply pw_below_drewN | apply below_drew1 | refine below_set ?_ GE572.out) | exact HB.out)) hb)
                                          clear HO_573002
                                          clear HO601
                                          clear BK572
                                          clear HB
                                          have HO_573002 := n0_
                                          have HO601 := n1_
                                          have BK572 := n2_
                                          have HB := n3_
                                          clear n0_ n1_ n2_ n3_
                                          (try clear hb)
                                          (try clear hb2)
                                          (try clear hk)
                                          (try clear hi)
                                          refine hK.out _ _ ⟨(blk_cell BK572.out 0).trans rfl, (blk_cell BK572.out 1).trans rfl, (blk_cell BK572.out 2).trans rfl, ((HB.out.cell (World.block_lt_of_cell? w _ hw593_0)).trans hw593_0), ((HB.out.cell (World.block_lt_of_cell? w _ hw594_0)).trans hw594_0)⟩ (fun hHeld => ?_)
                                          clear hK K
                                          refine norm_ (a' := ?_) ?_ ?_
                                          rotate_left
                                          · show Act.put _ (some 104) _ = _
                                            simp only [Act.put, List.setIfInBounds_toArray, List.set_cons_zero, List.set_cons_succ, i64_w, i32_w]
                                            rfl
                                          refine pure_ (i := 13) (N := some 91) (v := ?_) (a' := ?_) #[true, true, true, true, true, true, true, true, true, true, true, true, true, true, false, false, false, false, false, false] rfl rfl (any_of HT_.out (by kernel_rfl)) (fun _ _ _ h => h) (Or.inl ⟨by rfl, ?_⟩) ?_ ?_
                                          rotate_left
                                          · intro w'
                                            go_simp
                                            with_reducible rfl
                                          rotate_left
                                          · simp only [Act.put, List.setIfInBounds_toArray, List.set_cons_zero, List.set_cons_succ, i64_w, i32_w]
                                            rfl
                                          refine pure_ (i := 14) (N := some 105) (v := ?_) (a' := ?_) #[true, true, true, true, true, true, true, true, true, true, true, true, true, true, true, false, false, false, false, false] rfl rfl (any_of HT_.out (by kernel_rfl)) (fun _ _ _ h => h) (Or.inl ⟨by rfl, ?_⟩) ?_ ?_
                                          rotate_left
                                          · intro w'
                                            go_simp
                                            with_reducible rfl
                                          rotate_left
                                          · simp only [Act.put, List.setIfInBounds_toArray, List.set_cons_zero, List.set_cons_succ, i64_w, i32_w]
                                            rfl
                                          refine pure_ (i := 15) (N := some 106) (v := ?_) (a' := ?_) #[true, true, true, true, true, true, true, true, true, true, true, true, true, true, true, true, false, false, false, false] rfl rfl (any_of HT_.out (by kernel_rfl)) (fun _ _ _ h => h) (Or.inl ⟨by rfl, ?_⟩) ?_ ?_
                                          rotate_left
                                          · intro w'
                                            go_simp
                                            with_reducible rfl
                                          rotate_left
                                          · simp only [Act.put, List.setIfInBounds_toArray, List.set_cons_zero, List.set_cons_succ, i64_w, i32_w]
                                            rfl
                                          refine pure_ (i := 16) (N := some 107) (v := ?_) (a' := ?_) #[true, true, true, true, true, true, true, true, true, true, true, true, true, true, true, true, true, false, false, false] rfl rfl (any_of HT_.out (by kernel_rfl)) (fun _ _ _ h => h) (Or.inl ⟨by rfl, ?_⟩) ?_ ?_
                                          rotate_left
                                          · intro w'
                                            go_simp
                                            with_reducible rfl
                                          rotate_left
                                          · simp only [Act.put, List.setIfInBounds_toArray, List.set_cons_zero, List.set_cons_succ, i64_w, i32_w]
                                            rfl
                                          refine pure_ (i := 17) (N := some 17) (v := ?_) (a' := ?_) #[true, true, true, true, true, true, true, true, true, true, true, true, true, true, true, true, true, true, false, false] rfl rfl (any_of HT_.out (by kernel_rfl)) (fun _ _ _ h => h) (Or.inl ⟨by rfl, ?_⟩) ?_ ?_
                                          rotate_left
                                          · intro w'
                                            go_simp
                                            with_reducible rfl
                                          rotate_left
                                          · simp only [Act.put, List.setIfInBounds_toArray, List.set_cons_zero, List.set_cons_succ, i64_w, i32_w]
                                            rfl
                                          refine pure_ (i := 18) (N := some 18) (v := ?_) (a' := ?_) #[true, true, true, true, true, true, true, true, true, true, true, true, true, true, true, true, true, true, true, false] rfl rfl (any_of HT_.out (by kernel_rfl)) (fun _ _ _ h => h) (Or.inl ⟨by rfl, ?_⟩) ?_ ?_
                                          rotate_left
                                          · intro w'
                                            go_simp
                                            with_reducible rfl
                                          rotate_left
                                          · simp only [Act.put, List.setIfInBounds_toArray, List.set_cons_zero, List.set_cons_succ, i64_w, i32_w]
                                            rfl
                                          refine pure_ (i := 19) (N := some 19) (v := ?_) (a' := ?_) #[true, true, true, true, true, true, true, true, true, true, true, true, true, true, true, true, true, true, true, true] rfl rfl (any_of HT_.out (by kernel_rfl)) (fun _ _ _ h => h) (Or.inl ⟨by rfl, ?_⟩) ?_ ?_
                                          rotate_left
                                          · intro w'
                                            go_simp
                                            with_reducible rfl
                                          rotate_left
                                          · simp only [Act.put, List.setIfInBounds_toArray, List.set_cons_zero, List.set_cons_succ, i64_w, i32_w]
                                            rfl
                                          refine done_ (done_of HT_.out (by kernel_rfl)) ?_
                                          try go_wp2
                                          go_ret
                                          exact ⟨by first | rfl | (simp [errW_none, errW_some] <;> rfl) | (simp [*, errW_none, errW_some] <;> rfl), by repeat (first | (with_reducible first | exact HB.out | apply below_alloc | apply pw_below_drewN | apply below_drew1 | refine below_set ?_ GE572.out) | exact HB.out)⟩
                                      · replace c58 := Bool.eq_false_iff.mpr c58
                                        subst c58
                                        have H1 : (some t573) = some r := by rw [if_neg (show ¬ (false = true) by decide)] at H; exact H
                                        clear H
                                        have H := H1
                                        clear H1
                                        obtain rfl := Option.some.inj H
                                        try go_wp2
                                        have n0_ := Aside0.mk (Kd.V_drew HO_573002.out)
                                        have n1_ := Aside0.mk (blk_drew BK572.out)
                                        have n2_ := Aside0.mk (below_drew1 HB.out)
                                        clear HO_573002
                                        clear BK572
                                        clear HB
                                        have HO_573002 := n0_
                                        have BK572 := n1_
                                        have HB := n2_
                                        clear n0_ n1_ n2_
                                        have p593 : 0 ≤ (0 : Int) := (by omega)
                                        have q593 : 0 < (l1.length : Int) := of_decide_eq_true (by first | (with_reducible assumption) | assumption)
                                        obtain ⟨ad593, e593, hx593_0⟩ := Kd.at_int HR1.out 0 p593 q593
                                        have hw593_0 := hx593_0
                                        (try rw [show ((0 : Int)).toNat = 0 from rfl] at hw593_0)
                                        (try rw [show 0 * 1 = 0 from rfl] at hw593_0)
                                        (try rw [Addr.add_zero'] at hw593_0)
                                        cases e593
                                        have qi593 : (0 < l1.length) = True := eq_true (by omega)
                                        (try rw [show ((0 : Int)).toNat = 0 from rfl] at hx593_0)
                                        (try rw [Addr.add_zero'] at hx593_0)
                                        replace hx593_0 := (HB.out.cell (World.block_lt_of_cell? w _ hx593_0)).trans hx593_0
                                        replace p593 := eq_true p593
                                        replace q593 := eq_true q593
                                        have p594 : 0 ≤ (1 : Int) := (by omega)
                                        have q594 : 1 < (l1.length : Int) := of_decide_eq_true (by first | (with_reducible assumption) | assumption)
                                        obtain ⟨ad594, e594, hx594_0⟩ := Kd.at_int HR1.out 1 p594 q594
                                        have hw594_0 := hx594_0
                                        (try rw [show ((1 : Int)).toNat = 1 from rfl] at hw594_0)
                                        (try rw [show 1 * 1 = 1 from rfl] at hw594_0)
                                        (try simp only [Nat.reduceMul, Nat.reduceEqDiff, Go.Addr.add, ↓reduceIte] at hw594_0)
                                        obtain rfl : ad593 = ad594 := (by injection e594)
                                        (try simp only [show (1 : Int).toNat = 1 from rfl, Nat.reduceMul, Nat.reduceEqDiff, Go.Addr.add, ↓reduceIte] at hx594_0)
                                        have qi594 : (1 < l1.length) = True := eq_true (by omega)
                                        (try rw [show ((1 : Int)).toNat = 1 from rfl] at hx594_0)
                                        replace hx594_0 := (HB.out.cell (World.block_lt_of_cell? w _ hx594_0)).trans hx594_0
                                        replace p594 := eq_true p594
                                        replace q594 := eq_true q594
                                        obtain ⟨i083, hi083, _, hsz83, _⟩ := info_parts info3
                                        obtain ⟨A83, hcut83, hA83, hC83⟩ := print_drop_of (P := Try.prog) (Value.int .i64) 0 22 3 .i64 Try.underlying22 hi083 hsz83 (some ad593) c1 l1 2 (by omega) (of_decide_eq_true (by first | (with_reducible assumption) | assumption)) HC1.out
                                        have HR598 := Aside0.mk (Kd.C_of_reads (h1 := fun _ => rfl) (hA83 _ (Kd.reads_of_C HR1.out)))
                                        have HC598 := Aside0.mk hC83
                                        clear hA83 hC83 hi083 hsz83
                                        refine start_ (n := 20) (S := fun w' => w'.cell? ⟨gb572, 0, none⟩ = some (.int .i64 a0_0) ∧ w'.cell? ⟨gb572, 1, none⟩ = some (.int .i64 a0_1) ∧ w'.cell? ⟨gb572, 2, none⟩ = some (.slice A0_2 l0_2.length c0_2) ∧ w'.cell? ad593 = some (.int .i64 (rd l1 0)) ∧ w'.cell? ⟨ad593.block, ad593.off + 1, none⟩ = some (.int .i64 (rd l1 1))) (ds := []) #[false, false, false, false, false, false, false, false, false, false, false, false, false, false, false, false, false, false, false, false] (by kernel_rfl) rfl rfl ⟨(blk_cell BK572.out 0).trans rfl, (blk_cell BK572.out 1).trans rfl, (blk_cell BK572.out 2).trans rfl, ((HB.out.cell (World.block_lt_of_cell? w _ hw593_0)).trans hw593_0), ((HB.out.cell (World.block_lt_of_cell? w _ hw594_0)).trans hw594_0)⟩ (fun hHeld => ?_); refine with_tabW wageofficelaw28_TaxAccumulates.tab20 wageofficelaw28_TaxAccumulates.bits20 (fun HT_ HW_ => ?_)
                                        generalize wc.drew = w82 at HO_573002 BK572 HB HR598 hx593_0 hx594_0 hHeld ⊢
                                        refine pure_ (i := 1) (N := some 93) (v := ?_) (a' := ?_) #[false, true, false, false, false, false, false, false, false, false, false, false, false, false, false, false, false, false, false, false] rfl rfl (any_of HT_.out (by kernel_rfl)) (fun _ _ _ h => h) (Or.inl ⟨by rfl, ?_⟩) ?_ ?_
                                        rotate_left
                                        · intro w'
                                          go_simp
                                          with_reducible rfl
                                        rotate_left
                                        · simp only [Act.put, List.setIfInBounds_toArray, List.set_cons_zero, List.set_cons_succ, i64_w, i32_w]
                                          rfl
                                        refine pure_ (i := 2) (N := some 94) (v := ?_) (a' := ?_) #[false, true, true, false, false, false, false, false, false, false, false, false, false, false, false, false, false, false, false, false] rfl rfl (any_of HT_.out (by kernel_rfl)) (fun _ _ _ h => h) (Or.inl ⟨by rfl, ?_⟩) ?_ ?_
                                        rotate_left
                                        · intro w'
                                          go_simp
                                          with_reducible rfl
                                        rotate_left
                                        · simp only [Act.put, List.setIfInBounds_toArray, List.set_cons_zero, List.set_cons_succ, i64_w, i32_w]
                                          rfl
                                        refine pure_ (i := 4) (N := some 96) (v := ?_) (a' := ?_) #[false, true, true, false, true, false, false, false, false, false, false, false, false, false, false, false, false, false, false, false] rfl rfl (any_of HT_.out (by kernel_rfl)) (fun _ _ _ h => h) (Or.inl ⟨by rfl, ?_⟩) ?_ ?_
                                        rotate_left
                                        · intro w'
                                          go_simp
                                          with_reducible rfl
                                        rotate_left
                                        · simp only [Act.put, List.setIfInBounds_toArray, List.set_cons_zero, List.set_cons_succ, i64_w, i32_w]
                                          rfl
                                        refine pure_ (i := 5) (N := some 97) (v := ?_) (a' := ?_) #[false, true, true, false, true, true, false, false, false, false, false, false, false, false, false, false, false, false, false, false] rfl rfl (any_of HT_.out (by kernel_rfl)) (fun _ _ _ h => h) (Or.inl ⟨by rfl, ?_⟩) ?_ ?_
                                        rotate_left
                                        · intro w'
                                          go_simp
                                          with_reducible rfl
                                        rotate_left
                                        · simp only [Act.put, List.setIfInBounds_toArray, List.set_cons_zero, List.set_cons_succ, i64_w, i32_w]
                                          rfl
                                        refine pure_ (i := 9) (N := some 101) (v := ?_) (a' := ?_) #[false, true, true, false, true, true, false, false, false, true, false, false, false, false, false, false, false, false, false, false] rfl rfl (any_of HT_.out (by kernel_rfl)) (fun _ _ _ h => h) (Or.inl ⟨by rfl, ?_⟩) ?_ ?_
                                        rotate_left
                                        · intro w'
                                          go_simp
                                          with_reducible rfl
                                        rotate_left
                                        · simp only [Act.put, List.setIfInBounds_toArray, List.set_cons_zero, List.set_cons_succ, i64_w, i32_w]
                                          rfl
                                        refine pure_ (i := 10) (N := some 102) (v := ?_) (a' := ?_) #[false, true, true, false, true, true, false, false, false, true, true, false, false, false, false, false, false, false, false, false] rfl rfl (any_of HT_.out (by kernel_rfl)) (fun _ _ _ h => h) (Or.inl ⟨by rfl, ?_⟩) ?_ ?_
                                        rotate_left
                                        · intro w'
                                          go_simp
                                          with_reducible rfl
                                        rotate_left
                                        · simp only [Act.put, List.setIfInBounds_toArray, List.set_cons_zero, List.set_cons_succ, i64_w, i32_w]
                                          rfl
                                        refine take_ (i := 0) (N := some 92) (v := ?_) (a' := ?_) #[true, true, true, false, true, true, false, false, false, true, true, false, false, false, false, false, false, false, false, false] rfl rfl (take_ofW HT_.out HW_.out (by kernel_rfl)) (fun _ _ _ h => h) (Or.inl ⟨by rfl, ?_⟩) hHeld ?_ ?_
                                        rotate_left
                                        · rintro w' ⟨s0, s1, s2, s3, s4⟩
                                          go_simp
                                          with_reducible rfl
                                        rotate_left
                                        · simp only [Act.put, List.setIfInBounds_toArray, List.set_cons_zero, List.set_cons_succ, i64_w, i32_w]
                                          rfl
                                        refine take_ (i := 3) (N := some 95) (v := ?_) (a' := ?_) #[true, true, true, true, true, true, false, false, false, true, true, false, false, false, false, false, false, false, false, false] rfl rfl (take_ofW HT_.out HW_.out (by kernel_rfl)) (fun _ _ _ h => h) (Or.inl ⟨by rfl, ?_⟩) hHeld ?_ ?_
                                        rotate_left
                                        · rintro w' ⟨s0, s1, s2, s3, s4⟩
                                          go_simp
                                          with_reducible rfl
                                        rotate_left
                                        · simp only [Act.put, List.setIfInBounds_toArray, List.set_cons_zero, List.set_cons_succ, i64_w, i32_w]
                                          rfl
                                        refine take_ (i := 6) (N := some 98) (v := ?_) (a' := ?_) #[true, true, true, true, true, true, true, false, false, true, true, false, false, false, false, false, false, false, false, false] rfl rfl (take_ofW HT_.out HW_.out (by kernel_rfl)) (fun _ _ _ h => h) (Or.inl ⟨by rfl, ?_⟩) hHeld ?_ ?_
                                        rotate_left
                                        · rintro w' ⟨s0, s1, s2, s3, s4⟩
                                          go_simp
                                          with_reducible rfl
                                        rotate_left
                                        · simp only [Act.put, List.setIfInBounds_toArray, List.set_cons_zero, List.set_cons_succ, i64_w, i32_w]
                                          rfl
                                        refine pure_ (i := 7) (N := some 99) (v := ?_) (a' := ?_) #[true, true, true, true, true, true, true, true, false, true, true, false, false, false, false, false, false, false, false, false] rfl rfl (any_of HT_.out (by kernel_rfl)) (fun _ _ _ h => h) (Or.inl ⟨by rfl, ?_⟩) ?_ ?_
                                        rotate_left
                                        · intro w'
                                          go_simp
                                          with_reducible rfl
                                        rotate_left
                                        · simp only [Act.put, List.setIfInBounds_toArray, List.set_cons_zero, List.set_cons_succ, i64_w, i32_w]
                                          rfl
                                        refine one_ (i := 8) (N := some 100) #[true, true, true, true, true, true, true, true, true, true, true, false, false, false, false, false, false, false, false, false] rfl rfl (one_of HT_.out (by kernel_rfl)) (by decide) (fun K hK => ?_)
                                        refine Kd.R_lit_step (Kd.int .i64) _ 3 ?hg (N := 100) ?hd (xs := ([wrap64 ((rd l1 0) + (rd l1 1))] : List Int)) (inner := [.int .i64 (wrap64 ((rd l1 0) + (rd l1 1)))]) (ok := fun _ => True) (okp := fun _ => True) ?hr ?hp (fun _ hk => hk) trivial (Below.refl _ _) (Nat.le_refl _) (by simp) ?_; (case hd => rfl); (case hg => rfl); (case hr => first | (go_simp; done) | (go_simp; rfl)); (case hp => exact (Reps.one (show Kd.M (Kd.int .i64) _ _ _ (wrap64 ((rd l1 0) + (rd l1 1))) [.int .i64 (wrap64 ((rd l1 0) + (rd l1 1)))] from rfl) (Reps.none _ _)))
                                        intro v596 w84 ho85 hb hg_ hnew_
                                        clear hg_ hnew_
                                        (first | rw [← Ny595.out] at ho85 | (simp only [Int.reduceToNat] at ho85; rw [← Ny595.out] at ho85))
                                        have n0_ := Aside0.mk (Kd.V_elder' (by (with_reducible repeat (first | apply Kd.V_alloc | apply Kd.V_drewN | apply Kd.V_drew)); exact HO_573002.out) (Kd.R_base ho85) hb)
                                        have n1_ := Aside0.mk (Kd.R_lower (Kd.R_newM (M := fun k_ => (w.heap.size ≤ k_)) ho85 (below_size (by repeat (first | (with_reducible first | exact HB.out | apply below_alloc | apply pw_below_drewN | apply below_drew1 | refine below_set ?_ GE572.out) | exact HB.out))) (fun k_ h_ => h_)) (below_size (by repeat (first | (with_reducible first | exact HB.out | apply below_alloc | apply pw_below_drewN | apply below_drew1 | refine below_set ?_ GE572.out) | exact HB.out))))
                                        have n2_ := Aside0.mk (blk_below (g := gb572) (o := .cells #[.int .i64 a0_0, .int .i64 a0_1, .slice A0_2 l0_2.length c0_2] 44 (0, 0)) (by (with_reducible repeat (first | refine blk_drewN ?_ _ | refine blk_drew ?_ | refine blk_alloc ?_ _)); exact BK572.out) hb)
                                        have n3_ := Aside0.mk (below_step (by repeat (first | (with_reducible first | exact HB.out | apply below_alloc | apply pw_below_drewN | apply below_drew1 | refine below_set ?_ GE572.out) | exact HB.out)) hb)
                                        clear HO_573002
                                        clear BK572
                                        clear HB
                                        have HO_573002 := n0_
                                        have HO597 := n1_
                                        have BK572 := n2_
                                        have HB := n3_
                                        clear n0_ n1_ n2_ n3_
                                        clear hb ho85
                                        refine hK.out _ _ ⟨(blk_cell BK572.out 0).trans rfl, (blk_cell BK572.out 1).trans rfl, (blk_cell BK572.out 2).trans rfl, ((HB.out.cell (World.block_lt_of_cell? w _ hw593_0)).trans hw593_0), ((HB.out.cell (World.block_lt_of_cell? w _ hw594_0)).trans hw594_0)⟩ (fun hHeld => ?_)
                                        clear hK K
                                        refine norm_ (a' := ?_) ?_ ?_
                                        rotate_left
                                        · show Act.put _ (some 100) _ = _
                                          simp only [Act.put, List.setIfInBounds_toArray, List.set_cons_zero, List.set_cons_succ, i64_w, i32_w]
                                          rfl
                                        refine one_ (i := 11) (N := some 103) #[true, true, true, true, true, true, true, true, true, true, true, true, false, false, false, false, false, false, false, false] rfl rfl (one_of HT_.out (by kernel_rfl)) (by decide) (fun K hK => ?_)
                                        refine Kd.R_append_rows_step (Kd.int .i64) (w0 := w) w.heap.size (by rfl) (.tmp 100) (.tmp 102) 22 3 (.int .i64 0) 8 rfl Try.underlying22 info3 rfl (by decide) (by omega) v596 y595 (l1.drop 2) _ _ _ (fun k_ => (w.heap.size ≤ k_)) (fun _ => False) rfl rfl ?aO ?aR (fun _ _ h => h) (fun _ h => h.elim) ?aF ?aB ?aS ?aL ?_
                                        (case aR => first | (refine Eq.mp (congrArg (fun n_ : Nat => ReadsRow _ _ _ _ n_ _) (show (l1.drop 2).length = (l1.length - 2) from List.length_drop)) ?_; repeat (first | exact (Kd.C_below HR598.out HB.out) | (with_reducible refine Kd.C_alloc ?_ _) | (with_reducible refine Kd.C_drewN ?_ _) | (with_reducible refine Kd.C_drew ?_))) | (repeat (first | exact (Kd.C_below HR598.out HB.out) | (with_reducible refine Kd.C_alloc ?_ _) | (with_reducible refine Kd.C_drewN ?_ _) | (with_reducible refine Kd.C_drew ?_))))
                                        (case aB => exact (by repeat (first | (with_reducible first | exact HB.out | apply below_alloc | apply pw_below_drewN | apply below_drew1 | refine below_set ?_ GE572.out) | exact HB.out)))
                                        (case aF => exact (fun k_ hk => (Nat.le_trans (below_size (by repeat (first | (with_reducible first | exact HB.out | apply below_alloc | apply pw_below_drewN | apply below_drew1 | refine below_set ?_ GE572.out) | exact HB.out))) hk)))
                                        (case aO => exact (by (with_reducible repeat (first | apply Kd.R_alloc | apply Kd.R_drewN | apply Kd.R_drew)); exact Kd.R_mono HO597.out (fun _ hk => hk.1)))
                                        (case aS => exact (below_size (by repeat (first | (with_reducible first | exact HB.out | apply below_alloc | apply pw_below_drewN | apply below_drew1 | refine below_set ?_ GE572.out) | exact HB.out))))
                                        (case aL => have := LMc56.out; have hlx_ := (show (l1.drop 2).length = (l1.length - 2) from List.length_drop); omega)
                                        intro v600 w86 ho hb hg hat
                                        rw [← Ny599.out] at ho
                                        have n0_ := Aside0.mk (Kd.V_afterv (ok := (fun k_ => (P0_2_ k_ ∨ w.heap.size ≤ k_) ∧ k_ ≠ gb572)) (by (with_reducible repeat (first | apply Kd.V_alloc | apply Kd.V_drewN | apply Kd.V_drew)); exact HO_573002.out) hg hat)
                                        have n1_ := Aside0.mk (blk_grown (g := gb572) (o := .cells #[.int .i64 a0_0, .int .i64 a0_1, .slice A0_2 l0_2.length c0_2] 44 (0, 0)) (by (with_reducible repeat (first | refine blk_drewN ?_ _ | refine blk_drew ?_ | refine blk_alloc ?_ _)); exact BK572.out) hg (Kd.R_ne HO597.out BK572.out (by decide)))
                                        have n2_ := Aside0.mk (hb)
                                        have n3_ := Aside0.mk (ho)
                                        clear HO_573002
                                        clear BK572
                                        clear HB
                                        clear HO597
                                        have HO_573002 := n0_
                                        have BK572 := n1_
                                        have HB := n2_
                                        have HO601 := n3_
                                        clear n0_ n1_ n2_ n3_
                                        clear ho hb hg hat
                                        obtain ⟨Ao87, co87, eo87⟩ := Kd.R_slice HO601.out
                                        (first | subst eo87 | (injection eo87 with f1_ f2_ f3_; have f4_ := f1_.symm; have f5_ := f3_.symm; clear f1_ f2_ f3_; subst f4_; subst f5_))
                                        refine hK.out _ _ ⟨(blk_cell BK572.out 0).trans rfl, (blk_cell BK572.out 1).trans rfl, (blk_cell BK572.out 2).trans rfl, ((HB.out.cell (World.block_lt_of_cell? w _ hw593_0)).trans hw593_0), ((HB.out.cell (World.block_lt_of_cell? w _ hw594_0)).trans hw594_0)⟩ (fun hHeld => ?_)
                                        clear hK K
                                        refine norm_ (a' := ?_) ?_ ?_
                                        rotate_left
                                        · show Act.put _ (some 103) _ = _
                                          simp only [Act.put, List.setIfInBounds_toArray, List.set_cons_zero, List.set_cons_succ, i64_w, i32_w]
                                          rfl
                                        refine one_ (i := 12) (N := some 104) #[true, true, true, true, true, true, true, true, true, true, true, true, true, false, false, false, false, false, false, false] rfl rfl (one_of HT_.out (by kernel_rfl)) (by decide) (fun K hK => ?_)
                                        refine goes_ Try.func36 (by kernel_rfl) rfl #[.agg #[.int .i64 a0_0, .int .i64 a0_1, .slice A0_2 l0_2.length c0_2], .int .i64 0, .int .i64 0, .slice Ao87 y599.length co87] (by rfl) rfl rfl (by (try simp only [List.map_toArray, List.map_cons, List.map_nil]); first | done | rfl | (simp only [List.length_drop, List.length_take]; rfl)) ?_
                                        with_reducible refine (wageofficelaw28_withheld.calls kj44 a0_0 a0_1 _ _ l0_2 0 0 _ _ y599 t602 t603 false _ ?side1 ?side2 ?side3 ?side4 A57.out).mono ?_
                                        (case side1 => repeat (first | exact (Kd.V_reads' HO_573002.out).2.2 | (with_reducible refine Kd.C_alloc ?_ _) | (with_reducible refine Kd.C_drewN ?_ _) | (with_reducible refine Kd.C_drew ?_)))
                                        (case side2 => exact (Kd.V_reads' HO_573002.out).2.1)
                                        (case side3 => repeat (first | exact (Kd.R_reads' HO601.out).2.2 | (with_reducible refine Kd.C_alloc ?_ _) | (with_reducible refine Kd.C_drewN ?_ _) | (with_reducible refine Kd.C_drew ?_)))
                                        (case side4 => exact (Kd.R_reads' HO601.out).2.1)
                                        rintro e w88 ⟨rfl, hb⟩
                                        refine ⟨_, rfl, ?_⟩
                                        have n0_ := Aside0.mk (Kd.V_below (by (with_reducible repeat (first | apply Kd.V_alloc | apply Kd.V_drewN | apply Kd.V_drew)); exact HO_573002.out) hb)
                                        have n1_ := Aside0.mk (Kd.R_below (by (with_reducible repeat (first | apply Kd.R_alloc | apply Kd.R_drewN | apply Kd.R_drew)); exact HO601.out) hb)
                                        have n2_ := Aside0.mk (blk_below (g := gb572) (o := .cells #[.int .i64 a0_0, .int .i64 a0_1, .slice A0_2 l0_2.length c0_2] 44 (0, 0)) (by (with_reducible repeat (first | refine blk_drewN ?_ _ | refine blk_drew ?_ | refine blk_alloc ?_ _)); exact BK572.out) hb)
                                        have n3_ := Aside0.mk (below_step (by repeat (first | (with_reducible first | exact HB.out | apply below_alloc | apply pw_below_drewN | apply below_drew1 | refine below_set ?_ GE572.out) | exact HB.out)) hb)
                                        clear HO_573002
                                        clear HO601
                                        clear BK572
                                        clear HB
                                        have HO_573002 := n0_
                                        have HO601 := n1_
                                        have BK572 := n2_
                                        have HB := n3_
                                        clear n0_ n1_ n2_ n3_
                                        (try clear hb)
                                        (try clear hb2)
                                        (try clear hk)
                                        (try clear hi)
                                        refine hK.out _ _ ⟨(blk_cell BK572.out 0).trans rfl, (blk_cell BK572.out 1).trans rfl, (blk_cell BK572.out 2).trans rfl, ((HB.out.cell (World.block_lt_of_cell? w _ hw593_0)).trans hw593_0), ((HB.out.cell (World.block_lt_of_cell? w _ hw594_0)).trans hw594_0)⟩ (fun hHeld => ?_)
                                        clear hK K
                                        refine norm_ (a' := ?_) ?_ ?_
                                        rotate_left
                                        · show Act.put _ (some 104) _ = _
                                          simp only [Act.put, List.setIfInBounds_toArray, List.set_cons_zero, List.set_cons_succ, i64_w, i32_w]
                                          rfl
                                        refine pure_ (i := 13) (N := some 91) (v := ?_) (a' := ?_) #[true, true, true, true, true, true, true, true, true, true, true, true, true, true, false, false, false, false, false, false] rfl rfl (any_of HT_.out (by kernel_rfl)) (fun _ _ _ h => h) (Or.inl ⟨by rfl, ?_⟩) ?_ ?_
                                        rotate_left
                                        · intro w'
                                          go_simp
                                          with_reducible rfl
                                        rotate_left
                                        · simp only [Act.put, List.setIfInBounds_toArray, List.set_cons_zero, List.set_cons_succ, i64_w, i32_w]
                                          rfl
                                        refine pure_ (i := 14) (N := some 105) (v := ?_) (a' := ?_) #[true, true, true, true, true, true, true, true, true, true, true, true, true, true, true, false, false, false, false, false] rfl rfl (any_of HT_.out (by kernel_rfl)) (fun _ _ _ h => h) (Or.inl ⟨by rfl, ?_⟩) ?_ ?_
                                        rotate_left
                                        · intro w'
                                          go_simp
                                          with_reducible rfl
                                        rotate_left
                                        · simp only [Act.put, List.setIfInBounds_toArray, List.set_cons_zero, List.set_cons_succ, i64_w, i32_w]
                                          rfl
                                        refine pure_ (i := 15) (N := some 106) (v := ?_) (a' := ?_) #[true, true, true, true, true, true, true, true, true, true, true, true, true, true, true, true, false, false, false, false] rfl rfl (any_of HT_.out (by kernel_rfl)) (fun _ _ _ h => h) (Or.inl ⟨by rfl, ?_⟩) ?_ ?_
                                        rotate_left
                                        · intro w'
                                          go_simp
                                          with_reducible rfl
                                        rotate_left
                                        · simp only [Act.put, List.setIfInBounds_toArray, List.set_cons_zero, List.set_cons_succ, i64_w, i32_w]
                                          rfl
                                        refine pure_ (i := 16) (N := some 107) (v := ?_) (a' := ?_) #[true, true, true, true, true, true, true, true, true, true, true, true, true, true, true, true, true, false, false, false] rfl rfl (any_of HT_.out (by kernel_rfl)) (fun _ _ _ h => h) (Or.inl ⟨by rfl, ?_⟩) ?_ ?_
                                        rotate_left
                                        · intro w'
                                          go_simp
                                          with_reducible rfl
                                        rotate_left
                                        · simp only [Act.put, List.setIfInBounds_toArray, List.set_cons_zero, List.set_cons_succ, i64_w, i32_w]
                                          rfl
                                        refine pure_ (i := 17) (N := some 17) (v := ?_) (a' := ?_) #[true, true, true, true, true, true, true, true, true, true, true, true, true, true, true, true, true, true, false, false] rfl rfl (any_of HT_.out (by kernel_rfl)) (fun _ _ _ h => h) (Or.inl ⟨by rfl, ?_⟩) ?_ ?_
                                        rotate_left
                                        · intro w'
                                          go_simp
                                          with_reducible rfl
                                        rotate_left
                                        · simp only [Act.put, List.setIfInBounds_toArray, List.set_cons_zero, List.set_cons_succ, i64_w, i32_w]
                                          rfl
                                        refine pure_ (i := 18) (N := some 18) (v := ?_) (a' := ?_) #[true, true, true, true, true, true, true, true, true, true, true, true, true, true, true, true, true, true, true, false] rfl rfl (any_of HT_.out (by kernel_rfl)) (fun _ _ _ h => h) (Or.inl ⟨by rfl, ?_⟩) ?_ ?_
                                        rotate_left
                                        · intro w'
                                          go_simp
                                          with_reducible rfl
                                        rotate_left
                                        · simp only [Act.put, List.setIfInBounds_toArray, List.set_cons_zero, List.set_cons_succ, i64_w, i32_w]
                                          rfl
                                        refine pure_ (i := 19) (N := some 19) (v := ?_) (a' := ?_) #[true, true, true, true, true, true, true, true, true, true, true, true, true, true, true, true, true, true, true, true] rfl rfl (any_of HT_.out (by kernel_rfl)) (fun _ _ _ h => h) (Or.inl ⟨by rfl, ?_⟩) ?_ ?_
                                        rotate_left
                                        · intro w'
                                          go_simp
                                          with_reducible rfl
                                        rotate_left
                                        · simp only [Act.put, List.setIfInBounds_toArray, List.set_cons_zero, List.set_cons_succ, i64_w, i32_w]
                                          rfl
                                        refine done_ (done_of HT_.out (by kernel_rfl)) ?_
                                        try go_wp2
                                        go_ret
                                        exact ⟨by first | rfl | (simp [errW_none, errW_some] <;> rfl) | (simp [*, errW_none, errW_some] <;> rfl), by repeat (first | (with_reducible first | exact HB.out | apply below_alloc | apply pw_below_drewN | apply below_drew1 | refine below_set ?_ GE572.out) | exact HB.out)⟩
                                    · rw [if_neg c56] at H
                                      exact absurd H (by simp)
                                  · rw [if_neg c55] at H
                                    exact absurd H (by simp)
                                · rw [if_neg c54] at H
                                  exact absurd H (by simp)
                              · rw [if_neg c53] at H
                                exact absurd H (by simp)
                            · rw [if_neg c52] at H
                              have c52b0 : decide (1 < (l1.length : Int)) = false := decide_eq_false c52
                              have c52b1 : decide (1 < l1.length) = false := decide_eq_false (by omega)
                              clear c52
                              obtain rfl := Option.some.inj H
                              go_wp2
                              go_ret
                              exact ⟨by first | rfl | (simp [errW_none, errW_some] <;> rfl) | (simp [*, errW_none, errW_some] <;> rfl), by repeat (first | (with_reducible first | exact HB.out | apply below_alloc | apply pw_below_drewN | apply below_drew1 | refine below_set ?_ GE572.out) | exact HB.out)⟩
        · replace c27 := Bool.eq_false_iff.mpr c27
          subst c27
          have H1 : (some t573) = some r := by rw [if_neg (show ¬ (false = true) by decide)] at H; exact H
          clear H
          have H := H1
          clear H1
          obtain rfl := Option.some.inj H
          have hcz89_0 : wc.cell? ⟨gb572, 0, none⟩ = some (.int .i64 a0_0) := (blk_cell BK572.out 0).trans rfl
          have hcz89_1 : wc.cell? ⟨gb572, 1, none⟩ = some (.int .i64 a0_1) := (blk_cell BK572.out 1).trans rfl
          have hcz89_2 : wc.cell? ⟨gb572, 2, none⟩ = some (.slice A0_2 l0_2.length c0_2) := (blk_cell BK572.out 2).trans rfl
          have hfz89_0 := blk_frozen BK572.out 0
          have hfz89_1 := blk_frozen BK572.out 1
          have hfz89_2 := blk_frozen BK572.out 2
          go_wp2_with (first | ((with_reducible refine gate_callee (f := 36) rfl ?_); refine goesL_ (some 39) rfl rfl Try.func36 (by kernel_rfl) rfl #[.agg #[.int .i64 a0_0, .int .i64 a0_1, .slice A0_2 l0_2.length c0_2], .int .i64 0, .int .i64 0, .slice A1 l1.length c1] rfl (by (try simp only [List.map_toArray, List.map_cons, List.map_nil]); first | done | rfl | (simp only [List.length_drop, List.length_take]; rfl)) ?_; (with_reducible refine (wageofficelaw28_withheld.calls kj3 a0_0 a0_1 _ _ l0_2 0 0 _ _ l1 t578 t579 false _ ?side1 ?side2 ?side3 ?side4 A26.out).mono ?_); (case side1 => repeat (first | exact (Kd.V_reads' HO_573002.out).2.2 | (with_reducible refine Kd.C_alloc ?_ _) | (with_reducible refine Kd.C_drewN ?_ _) | (with_reducible refine Kd.C_drew ?_))); (case side2 => exact (Kd.V_reads' HO_573002.out).2.1); (case side3 => repeat (first | exact (Kd.C_below HR1.out HB.out) | (with_reducible refine Kd.C_alloc ?_ _) | (with_reducible refine Kd.C_drewN ?_ _) | (with_reducible refine Kd.C_drew ?_))); (case side4 => exact HC1.out); rintro e w90 ⟨rfl, hb⟩; refine ⟨_, rfl, ?_⟩; have n0_ := Aside0.mk (Kd.V_below (by (with_reducible repeat (first | apply Kd.V_alloc | apply Kd.V_drewN | apply Kd.V_drew)); exact HO_573002.out) hb); have n1_ := Aside0.mk (blk_below (g := gb572) (o := .cells #[.int .i64 a0_0, .int .i64 a0_1, .slice A0_2 l0_2.length c0_2] 44 (0, 0)) (by (with_reducible repeat (first | refine blk_drewN ?_ _ | refine blk_drew ?_ | refine blk_alloc ?_ _)); exact BK572.out) hb); have n2_ := Aside0.mk (below_step (by repeat (first | (with_reducible first | exact HB.out | apply below_alloc | apply pw_below_drewN | apply below_drew1 | refine below_set ?_ GE572.out) | exact HB.out)) hb); clear HO_573002; clear BK572; clear HB; have HO_573002 := n0_; have BK572 := n1_; have HB := n2_; clear n0_ n1_ n2_; (try clear hb); (try clear hb2); (try clear hk); (try clear hi)))
          go_ret
          exact ⟨by first | rfl | (simp [errW_none, errW_some] <;> rfl) | (simp [*, errW_none, errW_some] <;> rfl), by repeat (first | (with_reducible first | exact HB.out | apply below_alloc | apply pw_below_drewN | apply below_drew1 | refine below_set ?_ GE572.out) | exact HB.out)⟩

end Go.Proofs.Ytnadfkhllfgoiaa.My
