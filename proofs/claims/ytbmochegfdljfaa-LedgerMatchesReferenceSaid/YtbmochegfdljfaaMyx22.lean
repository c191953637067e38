-- Written by a program of this session (wip/myprint.py),which drives the kit's print over hand-written fragments. Not trusted: Lean checks it.
import Derived.Test.YtbmochegfdljfaaMyx0
import Derived.Test.YtbmochegfdljfaaMyx51
import Derived.Test.YtbmochegfdljfaaMyx52
namespace Go.Proofs.Ytbmochegfdljfaa.My
open Go.Proofs.Ytbmochegfdljfaa.Aid Go.Proofs.Ytbmochegfdljfaa.KdX
open Go.RowKit Go.Proofs.YtbmochegfdljfaaW.PrintWords Go.Proofs.YtbmochegfdljfaaW.PrintLast Go.Proofs.YtbmochegfdljfaaW.PrintMore
attribute [local go_sem] max2_int min2_int max_two min_two max_three min_three max_four min_four   -- for this text's walks alone
set_option linter.unusedVariables false
set_option linter.unusedSimpArgs false

/-! ### wageofficeref39_Valid: function 22 -/
def wageofficeref39_Valid.l0 : Nat → Int → List (S26) → Option (Bool)
  | 0,_,_ => none
  | k + 1,x3,x328000 => if x3 < (x328000.length : Int) then (if 0 ≤ x3 then ((wageofficeref39_Formed.f k ((rd_T26 x328000 x3).f0) ((rd_T26 x328000 x3).f1) ((rd_T26 x328000 x3).f2) ((rd_T26 x328000 x3).f3) ((rd_T26 x328000 x3).f4) ((rd_T26 x328000 x3).f5)).bind fun t330 => (if t330 = true then (if x3 ≤ (x328000.length : Int) then ((wageofficeref39_find.f k (x328000.take (x3 : Int).toNat) ((rd_T26 x328000 x3).f0)).bind fun t335 => (if t335 ≥ 0 then (some false) else (if x3 > 0 then (if 0 ≤ (wrap64 (x3 - 1)) then (if (wrap64 (x3 - 1)) < (x328000.length : Int) then (if ((rd_T26 x328000 x3).f5) < ((rd_T26 x328000 (wrap64 (x3 - 1))).f5) then (some false) else (wageofficeref39_Valid.l0 k (wrap64 (x3 + 1)) x328000)) else (none)) else (none)) else (wageofficeref39_Valid.l0 k (wrap64 (x3 + 1)) x328000)))) else (none)) else (some false))) else (none)) else (some true)
def wageofficeref39_Valid.f (k : Nat) (l0_0 : List (S26)) : Option (Bool) := if (l0_0.length : Int) > 2000 then (some false) else (wageofficeref39_Valid.l0 k 0 l0_0)
theorem wageofficeref39_Valid.mono_l : ∀ k,(∀ y0 y1,LeO (wageofficeref39_Valid.l0 k y0 y1) (wageofficeref39_Valid.l0 (k + 1) y0 y1))
  | 0 => fun _ _ r h => by simp [wageofficeref39_Valid.l0] at h
  | k + 1 => by
    have ih0 := wageofficeref39_Valid.mono_l k
    · intro y0 y1
      unfold wageofficeref39_Valid.l0
      repeat' first
      | (with_reducible exact ih0 _ _)
      | (with_reducible exact wageofficeref39_Formed.mono _ _ _ _ _ _ _)
      | (with_reducible exact wageofficeref39_find.mono _ _ _)
      | (with_reducible exact LeO.refl _)
      | (with_reducible exact LeO.none _)
      | (with_reducible refine LeO.ite ?_ ?_)
      | (with_reducible refine LeO.bind ?_ (fun _ => ?_))
      | exact ih0 _ _
      | exact wageofficeref39_Formed.mono _ _ _ _ _ _ _
      | exact wageofficeref39_find.mono _ _ _
      | exact LeO.none _
      | refine LeO.ite ?_ ?_
      | refine LeO.bind ?_ (fun _ => ?_)
theorem wageofficeref39_Valid.mono : ∀ a0 k,LeO (wageofficeref39_Valid.f k a0) (wageofficeref39_Valid.f (k + 1) a0) := by
  intro a0 k
  have ih0 := wageofficeref39_Valid.mono_l k
  unfold wageofficeref39_Valid.f
  repeat' first
      | (with_reducible exact ih0 _ _)
      | (with_reducible exact wageofficeref39_Formed.mono _ _ _ _ _ _ _)
      | (with_reducible exact wageofficeref39_find.mono _ _ _)
      | (with_reducible exact LeO.refl _)
      | (with_reducible exact LeO.none _)
      | (with_reducible refine LeO.ite ?_ ?_)
      | (with_reducible refine LeO.bind ?_ (fun _ => ?_))
      | exact ih0 _ _
      | exact wageofficeref39_Formed.mono _ _ _ _ _ _ _
      | exact wageofficeref39_find.mono _ _ _
      | exact LeO.none _
      | refine LeO.ite ?_ ?_
      | refine LeO.bind ?_ (fun _ => ?_)
def wageofficeref39_Valid.T7 : Bool × List (List Nat × List Nat) := (true,[([],[]),([0],[0]),([1],[1]),([2,1],[2]),([3],[3]),([4,3],[3,4]),([3],[3]),([5,6,3],[3,5,6]),([3],[3]),([8,3],[3,8]),([7,9,3,3],[3,7,9]),([10,3],[3,10]),([3,11],[3,11]),([12,10],[12]),([13],[13]),([14,13],[13,14]),([15,13,13],[13,15]),([16],[16]),([17,16],[16,17]),([16],[16]),([19,16],[16,19]),([16],[16]),([21,16],[16,21]),([20,22,16],[16,20,22]),([23,16],[16,23]),([24,16],[16,24]),([18,25,16],[16,18,25]),([16,26,13],[13,16,26]),([13,27],[13,27])])
def wageofficeref39_Valid.B7 : List Nat := [0,1,3,7,15,31,15,127,15,271,1023,2047,4095,8191,16383,32767,65535,131071,262143,131071,655359,131071,2228223,7995391,16383999,33161215,67108863,134217727,268435455]
theorem wageofficeref39_Valid.tab7 : rtab .any (opsOf Try.f22 7) = wageofficeref39_Valid.T7 := by kernel_rfl
theorem wageofficeref39_Valid.bits7 : waitsOk wageofficeref39_Valid.T7.2 wageofficeref39_Valid.B7 = true := by kernel_rfl
set_option maxHeartbeats 8000000 in
set_option maxRecDepth 100000 in
theorem wageofficeref39_Valid.calls (k : Nat) (A0_0 : Option Addr) (c0_0 : Nat) (l0_0 : List (S26)) (r : Bool) (w : World) (hr0_0 : Kd.C k26 w A0_0 l0_0.length l0_0) (hc0_0 : l0_0.length ≤ c0_0) (h : wageofficeref39_Valid.f k l0_0 = some r) :
    Calls Try.prog 22 #[.agg #[.slice A0_0 l0_0.length c0_0]] w fun e w' => e = .returned (.bool r) ∧ Below w.heap.size w w' := by
  have hu24 := Try.underlying24
  have hu26 := Try.underlying26
  have HR0_0 := Aside0.mk hr0_0
  have HC0_0 := Aside0.mk hc0_0
  clear hr0_0 hc0_0
  have HB := Aside0.mk (Below.refl w.heap.size w)
  have H : (if (l0_0.length : Int) > 2000 then (some false) else (wageofficeref39_Valid.l0 k 0 l0_0)) = some r := h
  clear h
  by_cases c2 : (l0_0.length : Int) > 2000
  · rw [if_pos c2] at H
    have c2b0 : decide (2000 < (l0_0.length : Int)) = true := decide_eq_true c2
    have c2b1 : decide (2000 < l0_0.length) = true := decide_eq_true (by omega)
    clear c2
    obtain rfl := Option.some.inj H
    go_enter Try.func22,Try.ntmps22
    go_wp2_with (first | ((with_reducible refine gate_dst (N := 1) rfl ?_);refine box_event ?hg (N := 1) ?hd (cs := #[.slice A0_0 l0_0.length c0_0]) (t := 24) ?hr ?_;(case hd => rfl);(case hg => rfl);(case hr => first | (go_simp;done) | (go_simp;rfl));intro gb327 hg w3 hbox hb;have n0_ := Aside0.mk (below_step (by repeat (first | (with_reducible first | exact HB.out | apply below_alloc | apply pw_below_drewN | apply below_drew1) | exact HB.out)) hb);have n1_ := Aside0.mk (hbox);have n2_ := Aside0.mk ((by rw [hg];exact (below_size (by repeat (first | (with_reducible first | exact HB.out | apply below_alloc | apply pw_below_drewN | apply below_drew1) | exact HB.out))) : w.heap.size ≤ gb327));have n3_ := Aside0.mk ((by rw [hg];exact (below_size (by repeat (first | (with_reducible first | exact HB.out | apply below_alloc | apply pw_below_drewN | apply below_drew1) | exact HB.out))) : w.heap.size ≤ gb327));clear HB;have HB := n0_;have BK327 := n1_;have GW327 := n2_;have GE327 := n3_;clear n0_ n1_ n2_ n3_;clear hb hbox hg;have hcz4_0 : w3.cell? ⟨gb327,0,none⟩ = some (.slice A0_0 l0_0.length c0_0) := (blk_cell BK327.out 0).trans rfl;have hfz4_0 := blk_frozen BK327.out 0))
    go_ret
    exact ⟨by first | rfl | (simp [errW_none,errW_some] <;> rfl) | (simp [*,errW_none,errW_some] <;> rfl),by repeat (first | (with_reducible first | exact HB.out | apply below_alloc | apply pw_below_drewN | apply below_drew1 | refine below_set ?_ GE327.out) | exact HB.out)⟩
  · rw [if_neg c2] at H
    have c2b0 : decide (2000 < (l0_0.length : Int)) = false := decide_eq_false c2
    have c2b1 : decide (2000 < l0_0.length) = false := decide_eq_false (by omega)
    clear c2
    have H' := Aside0.mk H
    clear H
    go_enter Try.func22,Try.ntmps22
    go_wp2_with (first | ((with_reducible refine gate_dst (N := 1) rfl ?_);refine box_event ?hg (N := 1) ?hd (cs := #[.slice A0_0 l0_0.length c0_0]) (t := 24) ?hr ?_;(case hd => rfl);(case hg => rfl);(case hr => first | (go_simp;done) | (go_simp;rfl));intro gb327 hg w5 hbox hb;have n0_ := Aside0.mk (below_step (by repeat (first | (with_reducible first | exact HB.out | apply below_alloc | apply pw_below_drewN | apply below_drew1) | exact HB.out)) hb);have n1_ := Aside0.mk (hbox);have n2_ := Aside0.mk ((by rw [hg];exact (below_size (by repeat (first | (with_reducible first | exact HB.out | apply below_alloc | apply pw_below_drewN | apply below_drew1) | exact HB.out))) : w.heap.size ≤ gb327));have n3_ := Aside0.mk ((by rw [hg];exact (below_size (by repeat (first | (with_reducible first | exact HB.out | apply below_alloc | apply pw_below_drewN | apply below_drew1) | exact HB.out))) : w.heap.size ≤ gb327));clear HB;have HB := n0_;have BK327 := n1_;have GW327 := n2_;have GE327 := n3_;clear n0_ n1_ n2_ n3_;clear hb hbox hg;have hcz6_0 : w5.cell? ⟨gb327,0,none⟩ = some (.slice A0_0 l0_0.length c0_0) := (blk_cell BK327.out 0).trans rfl;have hfz6_0 := blk_frozen BK327.out 0))
    go_loopg [3] k (fun kq v3 w' => ∃ (x3_1 : Int),v3 = .int .i64 x3_1 ∧ Aside0 (wageofficeref39_Valid.l0 kq x3_1 l0_0 = some r) ∧ Aside0 (kq ≤ k) ∧ Aside0 (w'.heap[gb327]? = some (.cells #[(.slice A0_0 l0_0.length c0_0)] 24 (0,0))) ∧ Aside0 (Below w.heap.size w w'))
    case atStart => exact ⟨(0),(by first | rfl | (simp;done) | (simp [*];done)),H',⟨Nat.le_refl _⟩,⟨by (with_reducible repeat (first | refine blk_drewN ?_ _ | refine blk_drew ?_ | refine blk_alloc ?_ _));exact BK327.out⟩,⟨by repeat (first | (with_reducible first | exact HB.out | apply below_alloc | apply pw_below_drewN | apply below_drew1 | refine below_set ?_ GE327.out) | exact HB.out)⟩⟩
    case round =>
      clear H';(try clear c2);(try clear c2b0);(try clear c2b1);(try clear p2);(try clear hcz4_0);(try clear hcz6_0);(try clear hfz4_0);(try clear hfz6_0)
      obtain ⟨x3_1,rfl,HA,HK1,BK327,HB⟩ := hrel
      cases gk with
      | zero => exact absurd HA.out (by simp [wageofficeref39_Valid.l0])
      | succ k1 =>
        have H := HA.out
        clear HA
        simp only [wageofficeref39_Valid.l0] at H
        by_cases c7 : x3_1 < (l0_0.length : Int)
        · rw [if_pos c7] at H
          have c7b0 : decide (x3_1 < (l0_0.length : Int)) = true := decide_eq_true c7
          clear c7
          by_cases c8 : 0 ≤ x3_1
          · rw [if_pos c8] at H
            have c8b0 : decide (0 ≤ x3_1) = true := decide_eq_true c8
            clear c8
            replace H := Option.bind_eq_some_iff.mp H
            obtain ⟨t330,A90,H⟩ := H
            replace H : (if t330 = true then (if x3_1 ≤ (l0_0.length : Int) then ((wageofficeref39_find.f k1 (l0_0.take (x3_1 : Int).toNat) ((rd_T26 l0_0 x3_1).f0)).bind fun t335 => (if t335 ≥ 0 then (some false) else (if x3_1 > 0 then (if 0 ≤ (wrap64 (x3_1 - 1)) then (if (wrap64 (x3_1 - 1)) < (l0_0.length : Int) then (if ((rd_T26 l0_0 x3_1).f5) < ((rd_T26 l0_0 (wrap64 (x3_1 - 1))).f5) then (some false) else (wageofficeref39_Valid.l0 k1 (wrap64 (x3_1 + 1)) l0_0)) else (none)) else (none)) else (wageofficeref39_Valid.l0 k1 (wrap64 (x3_1 + 1)) l0_0)))) else (none)) else (some false)) = some r := H
            have A9 := Aside0.mk A90
            clear A90
            by_cases c10 : t330 = true
            · subst c10
              have H1 : (if x3_1 ≤ (l0_0.length : Int) then ((wageofficeref39_find.f k1 (l0_0.take (x3_1 : Int).toNat) ((rd_T26 l0_0 x3_1).f0)).bind fun t335 => (if t335 ≥ 0 then (some false) else (if x3_1 > 0 then (if 0 ≤ (wrap64 (x3_1 - 1)) then (if (wrap64 (x3_1 - 1)) < (l0_0.length : Int) then (if ((rd_T26 l0_0 x3_1).f5) < ((rd_T26 l0_0 (wrap64 (x3_1 - 1))).f5) then (some false) else (wageofficeref39_Valid.l0 k1 (wrap64 (x3_1 + 1)) l0_0)) else (none)) else (none)) else (wageofficeref39_Valid.l0 k1 (wrap64 (x3_1 + 1)) l0_0)))) else (none)) = some r := by rw [if_pos rfl] at H;exact H
              clear H
              have H := H1
              clear H1
              have c11b0 := eq_true (of_decide_eq_true (by first | (with_reducible assumption) | assumption) : 0 ≤ x3_1)
              by_cases c12 : x3_1 ≤ (l0_0.length : Int)
              · rw [if_pos c12] at H
                have c12b0 := eq_true c12
                have c12b1 : decide (x3_1 ≤ (l0_0.length : Int)) = true := decide_eq_true c12
                clear c12
                obtain ⟨y331,hy331⟩ : ∃ y_ : List (S26),y_ = (l0_0.take (x3_1 : Int).toNat) := ⟨_,rfl⟩
                replace H : ((wageofficeref39_find.f k1 y331 ((rd_T26 l0_0 x3_1).f0)).bind fun t335 => (if t335 ≥ 0 then (some false) else (if x3_1 > 0 then (if 0 ≤ (wrap64 (x3_1 - 1)) then (if (wrap64 (x3_1 - 1)) < (l0_0.length : Int) then (if ((rd_T26 l0_0 x3_1).f5) < ((rd_T26 l0_0 (wrap64 (x3_1 - 1))).f5) then (some false) else (wageofficeref39_Valid.l0 k1 (wrap64 (x3_1 + 1)) l0_0)) else (none)) else (none)) else (wageofficeref39_Valid.l0 k1 (wrap64 (x3_1 + 1)) l0_0)))) = some r := by first | (rw [hy331];with_reducible exact H) | (have H2_ := (Option.bind_some _ _).symm.trans H;rw [hy331];with_reducible exact H2_) | (have H2_ := (Option.bind_some _ _).symm.trans H;with_reducible exact H2_) | with_reducible exact H | (rw [hy331];exact H) | exact H
                have Ny331 := Aside0.mk hy331
                clear hy331
                replace H := Option.bind_eq_some_iff.mp H
                obtain ⟨t335,A130,H⟩ := H
                replace H : (if t335 ≥ 0 then (some false) else (if x3_1 > 0 then (if 0 ≤ (wrap64 (x3_1 - 1)) then (if (wrap64 (x3_1 - 1)) < (l0_0.length : Int) then (if ((rd_T26 l0_0 x3_1).f5) < ((rd_T26 l0_0 (wrap64 (x3_1 - 1))).f5) then (some false) else (wageofficeref39_Valid.l0 k1 (wrap64 (x3_1 + 1)) l0_0)) else (none)) else (none)) else (wageofficeref39_Valid.l0 k1 (wrap64 (x3_1 + 1)) l0_0))) = some r := H
                have A13 := Aside0.mk A130
                clear A130
                by_cases c14 : t335 ≥ 0
                · rw [if_pos c14] at H
                  have c14b0 : decide (0 ≤ t335) = true := decide_eq_true c14
                  clear c14
                  obtain rfl := Option.some.inj H
                  have hcz15_0 : wr.cell? ⟨gb327,0,none⟩ = some (.slice A0_0 l0_0.length c0_0) := (blk_cell BK327.out 0).trans rfl;have hfz15_0 := blk_frozen BK327.out 0
                  have p328 : 0 ≤ (x3_1 : Int) := of_decide_eq_true (by first | (with_reducible assumption) | assumption)
                  have q328 : x3_1 < (l0_0.length : Int) := of_decide_eq_true (by first | (with_reducible assumption) | assumption)
                  obtain ⟨ad328,e328,hx328_0,hx328_1,hx328_2,hx328_3,hx328_4,hx328_5⟩ := at_T26 HR0_0.out x3_1 p328 q328
                  cases e328
                  replace hx328_0 := (HB.out.cell (World.block_lt_of_cell? w _ hx328_0)).trans hx328_0
                  replace hx328_1 := (HB.out.cell (World.block_lt_of_cell? w _ hx328_1)).trans hx328_1
                  replace hx328_2 := (HB.out.cell (World.block_lt_of_cell? w _ hx328_2)).trans hx328_2
                  replace hx328_3 := (HB.out.cell (World.block_lt_of_cell? w _ hx328_3)).trans hx328_3
                  replace hx328_4 := (HB.out.cell (World.block_lt_of_cell? w _ hx328_4)).trans hx328_4
                  replace hx328_5 := (HB.out.cell (World.block_lt_of_cell? w _ hx328_5)).trans hx328_5
                  replace p328 := eq_true p328
                  replace q328 := eq_true q328
                  try go_wp2_with (first | ((with_reducible refine gate_dst (N := 4) rfl ?_);refine box_event ?hg (N := 4) ?hd (cs := #[.int .i64 0,.string (⟨#[]⟩ : ByteArray),.string (⟨#[]⟩ : ByteArray),.int .i64 0,.int .i64 0,.int .i64 0]) (t := 26) ?hr ?_;(case hd => rfl);(case hg => rfl);(case hr => first | (go_simp;done) | (go_simp;rfl));intro gb329 hg w16 hbox hb;have n0_ := Aside0.mk (blk_below (g := gb327) (o := .cells #[.slice (some ad328) l0_0.length c0_0] 24 (0,0)) (by (with_reducible repeat (first | refine blk_drewN ?_ _ | refine blk_drew ?_ | refine blk_alloc ?_ _));exact BK327.out) hb);have n1_ := Aside0.mk (below_step (by repeat (first | (with_reducible first | exact HB.out | apply below_alloc | apply pw_below_drewN | apply below_drew1 | refine below_set ?_ GE327.out) | exact HB.out)) hb);have n2_ := Aside0.mk (hbox);have n3_ := Aside0.mk ((by rw [hg];exact (below_size (by repeat (first | (with_reducible first | exact HB.out | apply below_alloc | apply pw_below_drewN | apply below_drew1 | refine below_set ?_ GE327.out) | exact HB.out))) : w.heap.size ≤ gb329));have n4_ := Aside0.mk ((by rw [hg];exact (below_size (by repeat (first | (with_reducible first | exact HB.out | apply below_alloc | apply pw_below_drewN | apply below_drew1 | refine below_set ?_ GE327.out) | exact HB.out))) : w.heap.size ≤ gb329));have n5_ := Aside0.mk ((by rw [hg];exact Nat.ne_of_lt (blk_lt (g := gb327) (o := .cells #[.slice (some ad328) l0_0.length c0_0] 24 (0,0)) (by (with_reducible repeat (first | refine blk_drewN ?_ _ | refine blk_drew ?_ | refine blk_alloc ?_ _));exact BK327.out)) : gb327 ≠ gb329));have n6_ := Aside0.mk ((by rw [hg];exact Nat.ne_of_gt (blk_lt (g := gb327) (o := .cells #[.slice (some ad328) l0_0.length c0_0] 24 (0,0)) (by (with_reducible repeat (first | refine blk_drewN ?_ _ | refine blk_drew ?_ | refine blk_alloc ?_ _));exact BK327.out)) : gb329 ≠ gb327));clear BK327;clear HB;have BK327 := n0_;have HB := n1_;have BK329 := n2_;have GW329 := n3_;have GE329 := n4_;have NB327_329 := n5_;have NB329_327 := n6_;clear n0_ n1_ n2_ n3_ n4_ n5_ n6_;clear hb hbox hg;have hnb17 := NB329_327.out;have hnc17 := NB327_329.out;have hcz18_0 : w16.cell? ⟨gb329,0,none⟩ = some (.int .i64 0) := (blk_cell BK329.out 0).trans rfl;have hcz18_1 : w16.cell? ⟨gb329,1,none⟩ = some (.string (⟨#[]⟩ : ByteArray)) := (blk_cell BK329.out 1).trans rfl;have hcz18_2 : w16.cell? ⟨gb329,2,none⟩ = some (.string (⟨#[]⟩ : ByteArray)) := (blk_cell BK329.out 2).trans rfl;have hcz18_3 : w16.cell? ⟨gb329,3,none⟩ = some (.int .i64 0) := (blk_cell BK329.out 3).trans rfl;have hcz18_4 : w16.cell? ⟨gb329,4,none⟩ = some (.int .i64 0) := (blk_cell BK329.out 4).trans rfl;have hcz18_5 : w16.cell? ⟨gb329,5,none⟩ = some (.int .i64 0) := (blk_cell BK329.out 5).trans rfl;have hfz18_0 := blk_frozen BK329.out 0;have hfz18_1 := blk_frozen BK329.out 1;have hfz18_2 := blk_frozen BK329.out 2;have hfz18_3 := blk_frozen BK329.out 3;have hfz18_4 := blk_frozen BK329.out 4;have hfz18_5 := blk_frozen BK329.out 5))
                  have n0_ : Aside0 (((((((w16.setCell ⟨gb329,0,none⟩ (.int .i64 ((rd_T26 l0_0 x3_1).f0))).setCell ⟨gb329,1,none⟩ (.string ((rd_T26 l0_0 x3_1).f1))).setCell ⟨gb329,2,none⟩ (.string ((rd_T26 l0_0 x3_1).f2))).setCell ⟨gb329,3,none⟩ (.int .i64 ((rd_T26 l0_0 x3_1).f3))).setCell ⟨gb329,4,none⟩ (.int .i64 ((rd_T26 l0_0 x3_1).f4))).setCell ⟨gb329,5,none⟩ (.int .i64 ((rd_T26 l0_0 x3_1).f5))).heap[gb327]? = some (.cells #[.slice (some ad328) l0_0.length c0_0] 24 (0,0))) := ⟨by (with_reducible repeat (first | refine blk_drewN ?_ _ | refine blk_drew ?_ | refine blk_alloc ?_ _));refine blk_far ?_ NB327_329.out _;(with_reducible repeat (first | refine blk_drewN ?_ _ | refine blk_drew ?_ | refine blk_alloc ?_ _));refine blk_far ?_ NB327_329.out _;(with_reducible repeat (first | refine blk_drewN ?_ _ | refine blk_drew ?_ | refine blk_alloc ?_ _));refine blk_far ?_ NB327_329.out _;(with_reducible repeat (first | refine blk_drewN ?_ _ | refine blk_drew ?_ | refine blk_alloc ?_ _));refine blk_far ?_ NB327_329.out _;(with_reducible repeat (first | refine blk_drewN ?_ _ | refine blk_drew ?_ | refine blk_alloc ?_ _));refine blk_far ?_ NB327_329.out _;(with_reducible repeat (first | refine blk_drewN ?_ _ | refine blk_drew ?_ | refine blk_alloc ?_ _));refine blk_far ?_ NB327_329.out _;(with_reducible repeat (first | refine blk_drewN ?_ _ | refine blk_drew ?_ | refine blk_alloc ?_ _));exact BK327.out⟩
                  have n1_ : Aside0 (((((((w16.setCell ⟨gb329,0,none⟩ (.int .i64 ((rd_T26 l0_0 x3_1).f0))).setCell ⟨gb329,1,none⟩ (.string ((rd_T26 l0_0 x3_1).f1))).setCell ⟨gb329,2,none⟩ (.string ((rd_T26 l0_0 x3_1).f2))).setCell ⟨gb329,3,none⟩ (.int .i64 ((rd_T26 l0_0 x3_1).f3))).setCell ⟨gb329,4,none⟩ (.int .i64 ((rd_T26 l0_0 x3_1).f4))).setCell ⟨gb329,5,none⟩ (.int .i64 ((rd_T26 l0_0 x3_1).f5))).heap[gb329]? = some (.cells #[.int .i64 ((rd_T26 l0_0 x3_1).f0),.string ((rd_T26 l0_0 x3_1).f1),.string ((rd_T26 l0_0 x3_1).f2),.int .i64 ((rd_T26 l0_0 x3_1).f3),.int .i64 ((rd_T26 l0_0 x3_1).f4),.int .i64 ((rd_T26 l0_0 x3_1).f5)] 26 (0,0))) := ⟨by (with_reducible repeat (first | refine blk_drewN ?_ _ | refine blk_drew ?_ | refine blk_alloc ?_ _));refine blk_put (cs := #[.int .i64 ((rd_T26 l0_0 x3_1).f0),.string ((rd_T26 l0_0 x3_1).f1),.string ((rd_T26 l0_0 x3_1).f2),.int .i64 ((rd_T26 l0_0 x3_1).f3),.int .i64 ((rd_T26 l0_0 x3_1).f4),.int .i64 0]) ?_ 5 _ rfl;(with_reducible repeat (first | refine blk_drewN ?_ _ | refine blk_drew ?_ | refine blk_alloc ?_ _));refine blk_put (cs := #[.int .i64 ((rd_T26 l0_0 x3_1).f0),.string ((rd_T26 l0_0 x3_1).f1),.string ((rd_T26 l0_0 x3_1).f2),.int .i64 ((rd_T26 l0_0 x3_1).f3),.int .i64 0,.int .i64 0]) ?_ 4 _ rfl;(with_reducible repeat (first | refine blk_drewN ?_ _ | refine blk_drew ?_ | refine blk_alloc ?_ _));refine blk_put (cs := #[.int .i64 ((rd_T26 l0_0 x3_1).f0),.string ((rd_T26 l0_0 x3_1).f1),.string ((rd_T26 l0_0 x3_1).f2),.int .i64 0,.int .i64 0,.int .i64 0]) ?_ 3 _ rfl;(with_reducible repeat (first | refine blk_drewN ?_ _ | refine blk_drew ?_ | refine blk_alloc ?_ _));refine blk_put (cs := #[.int .i64 ((rd_T26 l0_0 x3_1).f0),.string ((rd_T26 l0_0 x3_1).f1),.string (⟨#[]⟩ : ByteArray),.int .i64 0,.int .i64 0,.int .i64 0]) ?_ 2 _ rfl;(with_reducible repeat (first | refine blk_drewN ?_ _ | refine blk_drew ?_ | refine blk_alloc ?_ _));refine blk_put (cs := #[.int .i64 ((rd_T26 l0_0 x3_1).f0),.string (⟨#[]⟩ : ByteArray),.string (⟨#[]⟩ : ByteArray),.int .i64 0,.int .i64 0,.int .i64 0]) ?_ 1 _ rfl;(with_reducible repeat (first | refine blk_drewN ?_ _ | refine blk_drew ?_ | refine blk_alloc ?_ _));refine blk_put (cs := #[.int .i64 0,.string (⟨#[]⟩ : ByteArray),.string (⟨#[]⟩ : ByteArray),.int .i64 0,.int .i64 0,.int .i64 0]) ?_ 0 _ rfl;(with_reducible repeat (first | refine blk_drewN ?_ _ | refine blk_drew ?_ | refine blk_alloc ?_ _));exact BK329.out⟩
                  have n2_ : Aside0 (Below w.heap.size w ((((((w16.setCell ⟨gb329,0,none⟩ (.int .i64 ((rd_T26 l0_0 x3_1).f0))).setCell ⟨gb329,1,none⟩ (.string ((rd_T26 l0_0 x3_1).f1))).setCell ⟨gb329,2,none⟩ (.string ((rd_T26 l0_0 x3_1).f2))).setCell ⟨gb329,3,none⟩ (.int .i64 ((rd_T26 l0_0 x3_1).f3))).setCell ⟨gb329,4,none⟩ (.int .i64 ((rd_T26 l0_0 x3_1).f4))).setCell ⟨gb329,5,none⟩ (.int .i64 ((rd_T26 l0_0 x3_1).f5)))) := ⟨by repeat (first | (with_reducible first | exact HB.out | apply below_alloc | apply pw_below_drewN | apply below_drew1 | refine below_set ?_ GE327.out | refine below_set ?_ GE329.out) | exact HB.out)⟩
                  (try clear BK327)
                  (try clear BK329)
                  (try clear HB)
                  generalize ((((((w16.setCell ⟨gb329,0,none⟩ (.int .i64 ((rd_T26 l0_0 x3_1).f0))).setCell ⟨gb329,1,none⟩ (.string ((rd_T26 l0_0 x3_1).f1))).setCell ⟨gb329,2,none⟩ (.string ((rd_T26 l0_0 x3_1).f2))).setCell ⟨gb329,3,none⟩ (.int .i64 ((rd_T26 l0_0 x3_1).f3))).setCell ⟨gb329,4,none⟩ (.int .i64 ((rd_T26 l0_0 x3_1).f4))).setCell ⟨gb329,5,none⟩ (.int .i64 ((rd_T26 l0_0 x3_1).f5))) = w19 at n0_ n1_ n2_ ⊢
                  have BK327 := n0_
                  have BK329 := n1_
                  have HB := n2_
                  clear n0_ n1_ n2_
                  have n0_ := Aside0.mk (blk_drew BK327.out)
                  have n1_ := Aside0.mk (blk_drew BK329.out)
                  have n2_ := Aside0.mk (below_drew1 HB.out)
                  clear BK327;clear BK329;clear HB
                  have BK327 := n0_
                  have BK329 := n1_
                  have HB := n2_
                  clear n0_ n1_ n2_
                  refine start_ (n := 29) (S := fun w' => w'.cell? ⟨gb329,0,none⟩ = some (.int .i64 ((rd_T26 l0_0 x3_1).f0)) ∧ w'.cell? ⟨gb329,1,none⟩ = some (.string ((rd_T26 l0_0 x3_1).f1)) ∧ w'.cell? ⟨gb329,2,none⟩ = some (.string ((rd_T26 l0_0 x3_1).f2)) ∧ w'.cell? ⟨gb329,3,none⟩ = some (.int .i64 ((rd_T26 l0_0 x3_1).f3)) ∧ w'.cell? ⟨gb329,4,none⟩ = some (.int .i64 ((rd_T26 l0_0 x3_1).f4)) ∧ w'.cell? ⟨gb329,5,none⟩ = some (.int .i64 ((rd_T26 l0_0 x3_1).f5)) ∧ w'.cell? ⟨gb327,0,none⟩ = some (.slice (some ad328) l0_0.length c0_0)) (ds := []) #[false,false,false,false,false,false,false,false,false,false,false,false,false,false,false,false,false,false,false,false,false,false,false,false,false,false,false,false,false] (by kernel_rfl) rfl rfl ⟨(blk_cell BK329.out 0).trans rfl,(blk_cell BK329.out 1).trans rfl,(blk_cell BK329.out 2).trans rfl,(blk_cell BK329.out 3).trans rfl,(blk_cell BK329.out 4).trans rfl,(blk_cell BK329.out 5).trans rfl,(blk_cell BK327.out 0).trans rfl⟩ (fun hHeld => ?_);refine with_tabW wageofficeref39_Valid.tab7 wageofficeref39_Valid.bits7 (fun HT_ HW_ => ?_)
                  generalize w19.drew = w20 at BK327 BK329 HB hHeld ⊢
                  refine take_ (i := 0) (N := some 21) (v := ?_) (a' := ?_) #[true,false,false,false,false,false,false,false,false,false,false,false,false,false,false,false,false,false,false,false,false,false,false,false,false,false,false,false,false] rfl rfl (take_ofW HT_.out HW_.out (by kernel_rfl)) (fun _ _ _ h => h) (Or.inl ⟨by rfl,?_⟩) hHeld ?_ ?_
                  rotate_left
                  · rintro w' ⟨s0,s1,s2,s3,s4,s5,s6⟩
                    go_simp
                    with_reducible rfl
                  rotate_left
                  · simp only [Act.put,List.setIfInBounds_toArray,List.set_cons_zero,List.set_cons_succ,i64_w,i32_w]
                    rfl
                  refine one_ (i := 1) (N := some 22) #[true,true,false,false,false,false,false,false,false,false,false,false,false,false,false,false,false,false,false,false,false,false,false,false,false,false,false,false,false] rfl rfl (one_of HT_.out (by kernel_rfl)) (by decide) (fun K hK => ?_)
                  refine goes_ Try.func51 (by kernel_rfl) rfl #[.agg #[.int .i64 ((rd_T26 l0_0 x3_1).f0),.string ((rd_T26 l0_0 x3_1).f1),.string ((rd_T26 l0_0 x3_1).f2),.int .i64 ((rd_T26 l0_0 x3_1).f3),.int .i64 ((rd_T26 l0_0 x3_1).f4),.int .i64 ((rd_T26 l0_0 x3_1).f5)]] (by rfl) rfl rfl (by (try simp only [List.map_toArray,List.map_cons,List.map_nil]);first | done | rfl | (simp only [List.length_drop,List.length_take];rfl)) ?_
                  with_reducible refine (wageofficeref39_Formed.calls k1 ((rd_T26 l0_0 x3_1).f0) ((rd_T26 l0_0 x3_1).f1) ((rd_T26 l0_0 x3_1).f2) ((rd_T26 l0_0 x3_1).f3) ((rd_T26 l0_0 x3_1).f4) ((rd_T26 l0_0 x3_1).f5) true _ A9.out).mono ?_
                  rintro e w21 ⟨rfl,hb⟩
                  refine ⟨_,rfl,?_⟩
                  have n0_ := Aside0.mk (blk_below (g := gb327) (o := .cells #[.slice (some ad328) l0_0.length c0_0] 24 (0,0)) (by (with_reducible repeat (first | refine blk_drewN ?_ _ | refine blk_drew ?_ | refine blk_alloc ?_ _));exact BK327.out) hb)
                  have n1_ := Aside0.mk (blk_below (g := gb329) (o := .cells #[.int .i64 ((rd_T26 l0_0 x3_1).f0),.string ((rd_T26 l0_0 x3_1).f1),.string ((rd_T26 l0_0 x3_1).f2),.int .i64 ((rd_T26 l0_0 x3_1).f3),.int .i64 ((rd_T26 l0_0 x3_1).f4),.int .i64 ((rd_T26 l0_0 x3_1).f5)] 26 (0,0)) (by (with_reducible repeat (first | refine blk_drewN ?_ _ | refine blk_drew ?_ | refine blk_alloc ?_ _));exact BK329.out) hb)
                  have n2_ := Aside0.mk (below_step (by repeat (first | (with_reducible first | exact HB.out | apply below_alloc | apply pw_below_drewN | apply below_drew1 | refine below_set ?_ GE327.out | refine below_set ?_ GE329.out) | exact HB.out)) hb)
                  clear BK327;clear BK329;clear HB
                  have BK327 := n0_
                  have BK329 := n1_
                  have HB := n2_
                  clear n0_ n1_ n2_
                  (try clear hb)
                  (try clear hb2)
                  (try clear hk)
                  (try clear hi)
                  have q22 : (x3_1 : Int) ≤ ((l0_0.length : Int) : Int) := of_decide_eq_true (by first | (with_reducible assumption) | assumption)
                  obtain ⟨i022,hi022,_,hsz22,_⟩ := info_parts info26
                  have hroom22 : l0_0.length ≤ c0_0 := HC0_0.out
                  have hC22 : Kd.C k26 _ (some ad328) l0_0.length l0_0 := HR0_0.out
                  have hcut22 := cut_to (P := Try.prog) 22 26 .i64 Try.underlying22 hi022 (some ad328) l0_0.length c0_0 x3_1 (of_decide_eq_true (by first | (with_reducible assumption) | assumption)) q22 hroom22
                  have hr22 := Kd.C_take (m := (x3_1 : Int).toNat) hC22 (by omega)
                  have hy22 : y331.length = (x3_1 : Int).toNat := (by rw [Ny331.out,List.length_take];omega)
                  rw [← Ny331.out] at hr22
                  rw [← hy22] at hcut22
                  have HR334 := Aside0.mk hr22
                  have HC334 := Aside0.mk (show y331.length ≤ c0_0 from by omega)
                  clear hr22 hC22 hroom22 hi022 hsz22
                  have KY22 := Aside0.mk hy22
                  clear hy22
                  replace q22 := eq_true q22
                  refine hK.out _ _ ⟨(blk_cell BK329.out 0).trans rfl,(blk_cell BK329.out 1).trans rfl,(blk_cell BK329.out 2).trans rfl,(blk_cell BK329.out 3).trans rfl,(blk_cell BK329.out 4).trans rfl,(blk_cell BK329.out 5).trans rfl,(blk_cell BK327.out 0).trans rfl⟩ (fun hHeld => ?_)
                  clear hK K
                  refine norm_ (a' := ?_) ?_ ?_
                  rotate_left
                  · show Act.put _ (some 22) _ = _
                    simp only [Act.put,List.setIfInBounds_toArray,List.set_cons_zero,List.set_cons_succ,i64_w,i32_w]
                    rfl
                  refine pure_ (i := 2) (N := some 23) (v := ?_) (a' := ?_) #[true,true,true,false,false,false,false,false,false,false,false,false,false,false,false,false,false,false,false,false,false,false,false,false,false,false,false,false,false] rfl rfl (any_of HT_.out (by kernel_rfl)) (fun _ _ _ h => h) (Or.inl ⟨by rfl,?_⟩) ?_ ?_
                  rotate_left
                  · intro w'
                    go_simp
                    with_reducible rfl
                  rotate_left
                  · simp only [Act.put,List.setIfInBounds_toArray,List.set_cons_zero,List.set_cons_succ,i64_w,i32_w]
                    rfl
                  refine pure_ (i := 3) (N := some 24) (v := ?_) (a' := ?_) #[true,true,true,true,false,false,false,false,false,false,false,false,false,false,false,false,false,false,false,false,false,false,false,false,false,false,false,false,false] rfl rfl (any_of HT_.out (by kernel_rfl)) (fun _ _ _ h => h) (Or.inl ⟨by rfl,?_⟩) ?_ ?_
                  rotate_left
                  · intro w'
                    go_simp
                    with_reducible rfl
                  rotate_left
                  · simp only [Act.put,List.setIfInBounds_toArray,List.set_cons_zero,List.set_cons_succ,i64_w,i32_w]
                    rfl
                  refine pure_ (i := 4) (N := some 25) (v := ?_) (a' := ?_) #[true,true,true,true,true,false,false,false,false,false,false,false,false,false,false,false,false,false,false,false,false,false,false,false,false,false,false,false,false] rfl rfl (any_of HT_.out (by kernel_rfl)) (fun _ _ _ h => h) (Or.inl ⟨by rfl,?_⟩) ?_ ?_
                  rotate_left
                  · intro w'
                    go_simp
                    with_reducible rfl
                  rotate_left
                  · simp only [Act.put,List.setIfInBounds_toArray,List.set_cons_zero,List.set_cons_succ,i64_w,i32_w]
                    rfl
                  refine pure_ (i := 6) (N := some 27) (v := ?_) (a' := ?_) #[true,true,true,true,true,false,true,false,false,false,false,false,false,false,false,false,false,false,false,false,false,false,false,false,false,false,false,false,false] rfl rfl (any_of HT_.out (by kernel_rfl)) (fun _ _ _ h => h) (Or.inl ⟨by rfl,?_⟩) ?_ ?_
                  rotate_left
                  · intro w'
                    go_simp
                    with_reducible rfl
                  rotate_left
                  · simp only [Act.put,List.setIfInBounds_toArray,List.set_cons_zero,List.set_cons_succ,i64_w,i32_w]
                    rfl
                  refine pure_ (i := 8) (N := some 29) (v := ?_) (a' := ?_) #[true,true,true,true,true,false,true,false,true,false,false,false,false,false,false,false,false,false,false,false,false,false,false,false,false,false,false,false,false] rfl rfl (any_of HT_.out (by kernel_rfl)) (fun _ _ _ h => h) (Or.inl ⟨by rfl,?_⟩) ?_ ?_
                  rotate_left
                  · intro w'
                    go_simp
                    with_reducible rfl
                  rotate_left
                  · simp only [Act.put,List.setIfInBounds_toArray,List.set_cons_zero,List.set_cons_succ,i64_w,i32_w]
                    rfl
                  refine take_ (i := 5) (N := some 26) (v := ?_) (a' := ?_) #[true,true,true,true,true,true,true,false,true,false,false,false,false,false,false,false,false,false,false,false,false,false,false,false,false,false,false,false,false] rfl rfl (take_ofW HT_.out HW_.out (by kernel_rfl)) (fun _ _ _ h => h) (Or.inl ⟨by rfl,?_⟩) hHeld ?_ ?_
                  rotate_left
                  · rintro w' ⟨s0,s1,s2,s3,s4,s5,s6⟩
                    go_simp
                    with_reducible rfl
                  rotate_left
                  · simp only [Act.put,List.setIfInBounds_toArray,List.set_cons_zero,List.set_cons_succ,i64_w,i32_w]
                    rfl
                  refine pure_ (i := 7) (N := some 28) (v := ?_) (a' := ?_) #[true,true,true,true,true,true,true,true,true,false,false,false,false,false,false,false,false,false,false,false,false,false,false,false,false,false,false,false,false] rfl rfl (any_of HT_.out (by kernel_rfl)) (fun _ _ _ h => h) (Or.inl ⟨by rfl,?_⟩) ?_ ?_
                  rotate_left
                  · intro w'
                    go_simp
                    with_reducible rfl
                  rotate_left
                  · simp only [Act.put,List.setIfInBounds_toArray,List.set_cons_zero,List.set_cons_succ,i64_w,i32_w]
                    rfl
                  refine take_ (i := 9) (N := some 30) (v := ?_) (a' := ?_) #[true,true,true,true,true,true,true,true,true,true,false,false,false,false,false,false,false,false,false,false,false,false,false,false,false,false,false,false,false] rfl rfl (take_ofW HT_.out HW_.out (by kernel_rfl)) (fun _ _ _ h => h) (Or.inl ⟨by rfl,?_⟩) hHeld ?_ ?_
                  rotate_left
                  · rintro w' ⟨s0,s1,s2,s3,s4,s5,s6⟩
                    go_simp
                    with_reducible rfl
                  rotate_left
                  · simp only [Act.put,List.setIfInBounds_toArray,List.set_cons_zero,List.set_cons_succ,i64_w,i32_w]
                    rfl
                  refine one_ (i := 10) (N := some 31) #[true,true,true,true,true,true,true,true,true,true,true,false,false,false,false,false,false,false,false,false,false,false,false,false,false,false,false,false,false] rfl rfl (one_of HT_.out (by kernel_rfl)) (by decide) (fun K hK => ?_)
                  refine goes_ Try.func52 (by kernel_rfl) rfl #[.slice (some ad328) y331.length c0_0,.int .i64 ((rd_T26 l0_0 x3_1).f0)] (by rfl) rfl rfl (by (try simp only [List.map_toArray,List.map_cons,List.map_nil]);first | done | rfl | (simp only [List.length_drop,List.length_take];rfl)) ?_
                  with_reducible refine (wageofficeref39_find.calls k1 _ _ y331 ((rd_T26 l0_0 x3_1).f0) t335 _ ?side1 ?side2 A13.out).mono ?_
                  (case side1 => repeat (first | exact (Kd.C_below HR334.out HB.out) | (with_reducible refine Kd.C_alloc ?_ _) | (with_reducible refine Kd.C_drewN ?_ _) | (with_reducible refine Kd.C_drew ?_)))
                  (case side2 => exact HC334.out)
                  rintro e w' ⟨rfl,⟨nd,rfl⟩⟩
                  refine ⟨_,rfl,?_⟩
                  refine hK.out _ _ ⟨(blk_cell BK329.out 0).trans rfl,(blk_cell BK329.out 1).trans rfl,(blk_cell BK329.out 2).trans rfl,(blk_cell BK329.out 3).trans rfl,(blk_cell BK329.out 4).trans rfl,(blk_cell BK329.out 5).trans rfl,(blk_cell BK327.out 0).trans rfl⟩ (fun hHeld => ?_)
                  clear hK K
                  refine norm_ (a' := ?_) ?_ ?_
                  rotate_left
                  · show Act.put _ (some 31) _ = _
                    simp only [Act.put,List.setIfInBounds_toArray,List.set_cons_zero,List.set_cons_succ,i64_w,i32_w]
                    rfl
                  refine pure_ (i := 11) (N := some 32) (v := ?_) (a' := ?_) #[true,true,true,true,true,true,true,true,true,true,true,true,false,false,false,false,false,false,false,false,false,false,false,false,false,false,false,false,false] rfl rfl (any_of HT_.out (by kernel_rfl)) (fun _ _ _ h => h) (Or.inl ⟨by rfl,?_⟩) ?_ ?_
                  rotate_left
                  · intro w'
                    go_simp
                    with_reducible rfl
                  rotate_left
                  · simp only [Act.put,List.setIfInBounds_toArray,List.set_cons_zero,List.set_cons_succ,i64_w,i32_w]
                    rfl
                  refine pure_ (i := 12) (N := some 33) (v := ?_) (a' := ?_) #[true,true,true,true,true,true,true,true,true,true,true,true,true,false,false,false,false,false,false,false,false,false,false,false,false,false,false,false,false] rfl rfl (any_of HT_.out (by kernel_rfl)) (fun _ _ _ h => h) (Or.inl ⟨by rfl,?_⟩) ?_ ?_
                  rotate_left
                  · intro w'
                    go_simp
                    with_reducible rfl
                  rotate_left
                  · simp only [Act.put,List.setIfInBounds_toArray,List.set_cons_zero,List.set_cons_succ,i64_w,i32_w]
                    rfl
                  refine pure_ (i := 13) (N := some 34) (v := ?_) (a' := ?_) #[true,true,true,true,true,true,true,true,true,true,true,true,true,true,false,false,false,false,false,false,false,false,false,false,false,false,false,false,false] rfl rfl (any_of HT_.out (by kernel_rfl)) (fun _ _ _ h => h) (Or.inl ⟨by rfl,?_⟩) ?_ ?_
                  rotate_left
                  · intro w'
                    go_simp
                    with_reducible rfl
                  rotate_left
                  · simp only [Act.put,List.setIfInBounds_toArray,List.set_cons_zero,List.set_cons_succ,i64_w,i32_w]
                    rfl
                  refine pure_ (i := 14) (N := some 35) (v := undef) (a' := ?_) #[true,true,true,true,true,true,true,true,true,true,true,true,true,true,true,false,false,false,false,false,false,false,false,false,false,false,false,false,false] rfl rfl (any_of HT_.out (by kernel_rfl)) (fun _ _ _ h => h) (Or.inr ⟨by rfl,rfl⟩) ?_ ?_
                  rotate_left
                  · simp only [Act.put,List.setIfInBounds_toArray,List.set_cons_zero,List.set_cons_succ,i64_w,i32_w]
                    rfl
                  refine pure_ (i := 15) (N := some 36) (v := undef) (a' := ?_) #[true,true,true,true,true,true,true,true,true,true,true,true,true,true,true,true,false,false,false,false,false,false,false,false,false,false,false,false,false] rfl rfl (any_of HT_.out (by kernel_rfl)) (fun _ _ _ h => h) (Or.inr ⟨by rfl,rfl⟩) ?_ ?_
                  rotate_left
                  · simp only [Act.put,List.setIfInBounds_toArray,List.set_cons_zero,List.set_cons_succ,i64_w,i32_w]
                    rfl
                  refine pure_ (i := 16) (N := some 37) (v := undef) (a' := ?_) #[true,true,true,true,true,true,true,true,true,true,true,true,true,true,true,true,true,false,false,false,false,false,false,false,false,false,false,false,false] rfl rfl (any_of HT_.out (by kernel_rfl)) (fun _ _ _ h => h) (Or.inr ⟨by rfl,rfl⟩) ?_ ?_
                  rotate_left
                  · simp only [Act.put,List.setIfInBounds_toArray,List.set_cons_zero,List.set_cons_succ,i64_w,i32_w]
                    rfl
                  refine pure_ (i := 17) (N := some 38) (v := undef) (a' := ?_) #[true,true,true,true,true,true,true,true,true,true,true,true,true,true,true,true,true,true,false,false,false,false,false,false,false,false,false,false,false] rfl rfl (any_of HT_.out (by kernel_rfl)) (fun _ _ _ h => h) (Or.inr ⟨by rfl,rfl⟩) ?_ ?_
                  rotate_left
                  · simp only [Act.put,List.setIfInBounds_toArray,List.set_cons_zero,List.set_cons_succ,i64_w,i32_w]
                    rfl
                  refine pure_ (i := 18) (N := some 39) (v := undef) (a' := ?_) #[true,true,true,true,true,true,true,true,true,true,true,true,true,true,true,true,true,true,true,false,false,false,false,false,false,false,false,false,false] rfl rfl (any_of HT_.out (by kernel_rfl)) (fun _ _ _ h => h) (Or.inr ⟨by rfl,rfl⟩) ?_ ?_
                  rotate_left
                  · simp only [Act.put,List.setIfInBounds_toArray,List.set_cons_zero,List.set_cons_succ,i64_w,i32_w]
                    rfl
                  refine pure_ (i := 19) (N := some 40) (v := undef) (a' := ?_) #[true,true,true,true,true,true,true,true,true,true,true,true,true,true,true,true,true,true,true,true,false,false,false,false,false,false,false,false,false] rfl rfl (any_of HT_.out (by kernel_rfl)) (fun _ _ _ h => h) (Or.inr ⟨by rfl,rfl⟩) ?_ ?_
                  rotate_left
                  · simp only [Act.put,List.setIfInBounds_toArray,List.set_cons_zero,List.set_cons_succ,i64_w,i32_w]
                    rfl
                  refine pure_ (i := 20) (N := some 41) (v := undef) (a' := ?_) #[true,true,true,true,true,true,true,true,true,true,true,true,true,true,true,true,true,true,true,true,true,false,false,false,false,false,false,false,false] rfl rfl (any_of HT_.out (by kernel_rfl)) (fun _ _ _ h => h) (Or.inr ⟨by rfl,rfl⟩) ?_ ?_
                  rotate_left
                  · simp only [Act.put,List.setIfInBounds_toArray,List.set_cons_zero,List.set_cons_succ,i64_w,i32_w]
                    rfl
                  refine pure_ (i := 21) (N := some 42) (v := undef) (a' := ?_) #[true,true,true,true,true,true,true,true,true,true,true,true,true,true,true,true,true,true,true,true,true,true,false,false,false,false,false,false,false] rfl rfl (any_of HT_.out (by kernel_rfl)) (fun _ _ _ h => h) (Or.inr ⟨by rfl,rfl⟩) ?_ ?_
                  rotate_left
                  · simp only [Act.put,List.setIfInBounds_toArray,List.set_cons_zero,List.set_cons_succ,i64_w,i32_w]
                    rfl
                  refine pure_ (i := 22) (N := some 43) (v := undef) (a' := ?_) #[true,true,true,true,true,true,true,true,true,true,true,true,true,true,true,true,true,true,true,true,true,true,true,false,false,false,false,false,false] rfl rfl (any_of HT_.out (by kernel_rfl)) (fun _ _ _ h => h) (Or.inr ⟨by rfl,rfl⟩) ?_ ?_
                  rotate_left
                  · simp only [Act.put,List.setIfInBounds_toArray,List.set_cons_zero,List.set_cons_succ,i64_w,i32_w]
                    rfl
                  refine pure_ (i := 23) (N := some 44) (v := undef) (a' := ?_) #[true,true,true,true,true,true,true,true,true,true,true,true,true,true,true,true,true,true,true,true,true,true,true,true,false,false,false,false,false] rfl rfl (any_of HT_.out (by kernel_rfl)) (fun _ _ _ h => h) (Or.inr ⟨by rfl,rfl⟩) ?_ ?_
                  rotate_left
                  · simp only [Act.put,List.setIfInBounds_toArray,List.set_cons_zero,List.set_cons_succ,i64_w,i32_w]
                    rfl
                  refine pure_ (i := 24) (N := some 45) (v := undef) (a' := ?_) #[true,true,true,true,true,true,true,true,true,true,true,true,true,true,true,true,true,true,true,true,true,true,true,true,true,false,false,false,false] rfl rfl (any_of HT_.out (by kernel_rfl)) (fun _ _ _ h => h) (Or.inr ⟨by rfl,rfl⟩) ?_ ?_
                  rotate_left
                  · simp only [Act.put,List.setIfInBounds_toArray,List.set_cons_zero,List.set_cons_succ,i64_w,i32_w]
                    rfl
                  refine pure_ (i := 25) (N := some 46) (v := undef) (a' := ?_) #[true,true,true,true,true,true,true,true,true,true,true,true,true,true,true,true,true,true,true,true,true,true,true,true,true,true,false,false,false] rfl rfl (any_of HT_.out (by kernel_rfl)) (fun _ _ _ h => h) (Or.inr ⟨by rfl,rfl⟩) ?_ ?_
                  rotate_left
                  · simp only [Act.put,List.setIfInBounds_toArray,List.set_cons_zero,List.set_cons_succ,i64_w,i32_w]
                    rfl
                  refine pure_ (i := 26) (N := some 47) (v := undef) (a' := ?_) #[true,true,true,true,true,true,true,true,true,true,true,true,true,true,true,true,true,true,true,true,true,true,true,true,true,true,true,false,false] rfl rfl (any_of HT_.out (by kernel_rfl)) (fun _ _ _ h => h) (Or.inr ⟨by rfl,rfl⟩) ?_ ?_
                  rotate_left
                  · simp only [Act.put,List.setIfInBounds_toArray,List.set_cons_zero,List.set_cons_succ,i64_w,i32_w]
                    rfl
                  refine pure_ (i := 27) (N := some 48) (v := undef) (a' := ?_) #[true,true,true,true,true,true,true,true,true,true,true,true,true,true,true,true,true,true,true,true,true,true,true,true,true,true,true,true,false] rfl rfl (any_of HT_.out (by kernel_rfl)) (fun _ _ _ h => h) (Or.inr ⟨by rfl,rfl⟩) ?_ ?_
                  rotate_left
                  · simp only [Act.put,List.setIfInBounds_toArray,List.set_cons_zero,List.set_cons_succ,i64_w,i32_w]
                    rfl
                  refine pure_ (i := 28) (N := some 49) (v := ?_) (a' := ?_) #[true,true,true,true,true,true,true,true,true,true,true,true,true,true,true,true,true,true,true,true,true,true,true,true,true,true,true,true,true] rfl rfl (any_of HT_.out (by kernel_rfl)) (fun _ _ _ h => h) (Or.inl ⟨by rfl,?_⟩) ?_ ?_
                  rotate_left
                  · intro w'
                    go_simp
                    with_reducible rfl
                  rotate_left
                  · simp only [Act.put,List.setIfInBounds_toArray,List.set_cons_zero,List.set_cons_succ,i64_w,i32_w]
                    rfl
                  refine done_ (done_of HT_.out (by kernel_rfl)) ?_
                  try go_wp2
                  go_ret
                  exact ⟨by first | rfl | (simp [errW_none,errW_some] <;> rfl) | (simp [*,errW_none,errW_some] <;> rfl),by repeat (first | (with_reducible first | exact HB.out | apply below_alloc | apply pw_below_drewN | apply below_drew1 | refine below_set ?_ GE327.out | refine below_set ?_ GE329.out) | exact HB.out)⟩
                · rw [if_neg c14] at H
                  have c14b0 : decide (0 ≤ t335) = false := decide_eq_false c14
                  clear c14
                  by_cases c23 : x3_1 > 0
                  · rw [if_pos c23] at H
                    have c23b0 : decide (0 < x3_1) = true := decide_eq_true c23
                    clear c23
                    obtain ⟨ji24,hji24⟩ : ∃ j_ : Int,(wrap64 (x3_1 - 1)) = j_ := ⟨_,rfl⟩
                    replace H : (if 0 ≤ (ji24) then (if (ji24) < (l0_0.length : Int) then (if ((rd_T26 l0_0 x3_1).f5) < ((rd_T26 l0_0 (ji24)).f5) then (some false) else (wageofficeref39_Valid.l0 k1 (wrap64 (x3_1 + 1)) l0_0)) else (none)) else (none)) = some r := by first | (rw [hji24] at H;exact H) | (simp only [hji24] at H ⊢;exact H)
                    (try rw [hji24] at A9)
                    (try rw [hji24] at A13)
                    have hji24w : (IntKind.i64.wrap (x3_1 - 1)) = ji24 := (i64_w _).trans hji24
                    by_cases c25 : 0 ≤ (ji24)
                    · rw [if_pos c25] at H
                      have c25b0 : decide (0 ≤ (ji24)) = true := decide_eq_true c25
                      clear c25
                      by_cases c26 : (ji24) < (l0_0.length : Int)
                      · rw [if_pos c26] at H
                        have c26b0 : decide ((ji24) < (l0_0.length : Int)) = true := decide_eq_true c26
                        clear c26
                        by_cases c27 : ((rd_T26 l0_0 x3_1).f5) < ((rd_T26 l0_0 (ji24)).f5)
                        · rw [if_pos c27] at H
                          have c27b0 : decide (((rd_T26 l0_0 x3_1).f5) < ((rd_T26 l0_0 (ji24)).f5)) = true := decide_eq_true c27
                          clear c27
                          obtain rfl := Option.some.inj H
                          have hcz28_0 : wr.cell? ⟨gb327,0,none⟩ = some (.slice A0_0 l0_0.length c0_0) := (blk_cell BK327.out 0).trans rfl;have hfz28_0 := blk_frozen BK327.out 0
                          have p328 : 0 ≤ (x3_1 : Int) := of_decide_eq_true (by first | (with_reducible assumption) | assumption)
                          have q328 : x3_1 < (l0_0.length : Int) := of_decide_eq_true (by first | (with_reducible assumption) | assumption)
                          obtain ⟨ad328,e328,hx328_0,hx328_1,hx328_2,hx328_3,hx328_4,hx328_5⟩ := at_T26 HR0_0.out x3_1 p328 q328
                          cases e328
                          replace hx328_0 := (HB.out.cell (World.block_lt_of_cell? w _ hx328_0)).trans hx328_0
                          replace hx328_1 := (HB.out.cell (World.block_lt_of_cell? w _ hx328_1)).trans hx328_1
                          replace hx328_2 := (HB.out.cell (World.block_lt_of_cell? w _ hx328_2)).trans hx328_2
                          replace hx328_3 := (HB.out.cell (World.block_lt_of_cell? w _ hx328_3)).trans hx328_3
                          replace hx328_4 := (HB.out.cell (World.block_lt_of_cell? w _ hx328_4)).trans hx328_4
                          replace hx328_5 := (HB.out.cell (World.block_lt_of_cell? w _ hx328_5)).trans hx328_5
                          replace p328 := eq_true p328
                          replace q328 := eq_true q328
                          try go_wp2_with (first | ((with_reducible refine gate_dst (N := 4) rfl ?_);refine box_event ?hg (N := 4) ?hd (cs := #[.int .i64 0,.string (⟨#[]⟩ : ByteArray),.string (⟨#[]⟩ : ByteArray),.int .i64 0,.int .i64 0,.int .i64 0]) (t := 26) ?hr ?_;(case hd => rfl);(case hg => rfl);(case hr => first | (go_simp;done) | (go_simp;rfl));intro gb329 hg w29 hbox hb;have n0_ := Aside0.mk (blk_below (g := gb327) (o := .cells #[.slice (some ad328) l0_0.length c0_0] 24 (0,0)) (by (with_reducible repeat (first | refine blk_drewN ?_ _ | refine blk_drew ?_ | refine blk_alloc ?_ _));exact BK327.out) hb);have n1_ := Aside0.mk (below_step (by repeat (first | (with_reducible first | exact HB.out | apply below_alloc | apply pw_below_drewN | apply below_drew1 | refine below_set ?_ GE327.out) | exact HB.out)) hb);have n2_ := Aside0.mk (hbox);have n3_ := Aside0.mk ((by rw [hg];exact (below_size (by repeat (first | (with_reducible first | exact HB.out | apply below_alloc | apply pw_below_drewN | apply below_drew1 | refine below_set ?_ GE327.out) | exact HB.out))) : w.heap.size ≤ gb329));have n4_ := Aside0.mk ((by rw [hg];exact (below_size (by repeat (first | (with_reducible first | exact HB.out | apply below_alloc | apply pw_below_drewN | apply below_drew1 | refine below_set ?_ GE327.out) | exact HB.out))) : w.heap.size ≤ gb329));have n5_ := Aside0.mk ((by rw [hg];exact Nat.ne_of_lt (blk_lt (g := gb327) (o := .cells #[.slice (some ad328) l0_0.length c0_0] 24 (0,0)) (by (with_reducible repeat (first | refine blk_drewN ?_ _ | refine blk_drew ?_ | refine blk_alloc ?_ _));exact BK327.out)) : gb327 ≠ gb329));have n6_ := Aside0.mk ((by rw [hg];exact Nat.ne_of_gt (blk_lt (g := gb327) (o := .cells #[.slice (some ad328) l0_0.length c0_0] 24 (0,0)) (by (with_reducible repeat (first | refine blk_drewN ?_ _ | refine blk_drew ?_ | refine blk_alloc ?_ _));exact BK327.out)) : gb329 ≠ gb327));clear BK327;clear HB;have BK327 := n0_;have HB := n1_;have BK329 := n2_;have GW329 := n3_;have GE329 := n4_;have NB327_329 := n5_;have NB329_327 := n6_;clear n0_ n1_ n2_ n3_ n4_ n5_ n6_;clear hb hbox hg;have hnb30 := NB329_327.out;have hnc30 := NB327_329.out;have hcz31_0 : w29.cell? ⟨gb329,0,none⟩ = some (.int .i64 0) := (blk_cell BK329.out 0).trans rfl;have hcz31_1 : w29.cell? ⟨gb329,1,none⟩ = some (.string (⟨#[]⟩ : ByteArray)) := (blk_cell BK329.out 1).trans rfl;have hcz31_2 : w29.cell? ⟨gb329,2,none⟩ = some (.string (⟨#[]⟩ : ByteArray)) := (blk_cell BK329.out 2).trans rfl;have hcz31_3 : w29.cell? ⟨gb329,3,none⟩ = some (.int .i64 0) := (blk_cell BK329.out 3).trans rfl;have hcz31_4 : w29.cell? ⟨gb329,4,none⟩ = some (.int .i64 0) := (blk_cell BK329.out 4).trans rfl;have hcz31_5 : w29.cell? ⟨gb329,5,none⟩ = some (.int .i64 0) := (blk_cell BK329.out 5).trans rfl;have hfz31_0 := blk_frozen BK329.out 0;have hfz31_1 := blk_frozen BK329.out 1;have hfz31_2 := blk_frozen BK329.out 2;have hfz31_3 := blk_frozen BK329.out 3;have hfz31_4 := blk_frozen BK329.out 4;have hfz31_5 := blk_frozen BK329.out 5))
                          have n0_ : Aside0 (((((((w29.setCell ⟨gb329,0,none⟩ (.int .i64 ((rd_T26 l0_0 x3_1).f0))).setCell ⟨gb329,1,none⟩ (.string ((rd_T26 l0_0 x3_1).f1))).setCell ⟨gb329,2,none⟩ (.string ((rd_T26 l0_0 x3_1).f2))).setCell ⟨gb329,3,none⟩ (.int .i64 ((rd_T26 l0_0 x3_1).f3))).setCell ⟨gb329,4,none⟩ (.int .i64 ((rd_T26 l0_0 x3_1).f4))).setCell ⟨gb329,5,none⟩ (.int .i64 ((rd_T26 l0_0 x3_1).f5))).heap[gb327]? = some (.cells #[.slice (some ad328) l0_0.length c0_0] 24 (0,0))) := ⟨by (with_reducible repeat (first | refine blk_drewN ?_ _ | refine blk_drew ?_ | refine blk_alloc ?_ _));refine blk_far ?_ NB327_329.out _;(with_reducible repeat (first | refine blk_drewN ?_ _ | refine blk_drew ?_ | refine blk_alloc ?_ _));refine blk_far ?_ NB327_329.out _;(with_reducible repeat (first | refine blk_drewN ?_ _ | refine blk_drew ?_ | refine blk_alloc ?_ _));refine blk_far ?_ NB327_329.out _;(with_reducible repeat (first | refine blk_drewN ?_ _ | refine blk_drew ?_ | refine blk_alloc ?_ _));refine blk_far ?_ NB327_329.out _;(with_reducible repeat (first | refine blk_drewN ?_ _ | refine blk_drew ?_ | refine blk_alloc ?_ _));refine blk_far ?_ NB327_329.out _;(with_reducible repeat (first | refine blk_drewN ?_ _ | refine blk_drew ?_ | refine blk_alloc ?_ _));refine blk_far ?_ NB327_329.out _;(with_reducible repeat (first | refine blk_drewN ?_ _ | refine blk_drew ?_ | refine blk_alloc ?_ _));exact BK327.out⟩
                          have n1_ : Aside0 (((((((w29.setCell ⟨gb329,0,none⟩ (.int .i64 ((rd_T26 l0_0 x3_1).f0))).setCell ⟨gb329,1,none⟩ (.string ((rd_T26 l0_0 x3_1).f1))).setCell ⟨gb329,2,none⟩ (.string ((rd_T26 l0_0 x3_1).f2))).setCell ⟨gb329,3,none⟩ (.int .i64 ((rd_T26 l0_0 x3_1).f3))).setCell ⟨gb329,4,none⟩ (.int .i64 ((rd_T26 l0_0 x3_1).f4))).setCell ⟨gb329,5,none⟩ (.int .i64 ((rd_T26 l0_0 x3_1).f5))).heap[gb329]? = some (.cells #[.int .i64 ((rd_T26 l0_0 x3_1).f0),.string ((rd_T26 l0_0 x3_1).f1),.string ((rd_T26 l0_0 x3_1).f2),.int .i64 ((rd_T26 l0_0 x3_1).f3),.int .i64 ((rd_T26 l0_0 x3_1).f4),.int .i64 ((rd_T26 l0_0 x3_1).f5)] 26 (0,0))) := ⟨by (with_reducible repeat (first | refine blk_drewN ?_ _ | refine blk_drew ?_ | refine blk_alloc ?_ _));refine blk_put (cs := #[.int .i64 ((rd_T26 l0_0 x3_1).f0),.string ((rd_T26 l0_0 x3_1).f1),.string ((rd_T26 l0_0 x3_1).f2),.int .i64 ((rd_T26 l0_0 x3_1).f3),.int .i64 ((rd_T26 l0_0 x3_1).f4),.int .i64 0]) ?_ 5 _ rfl;(with_reducible repeat (first | refine blk_drewN ?_ _ | refine blk_drew ?_ | refine blk_alloc ?_ _));refine blk_put (cs := #[.int .i64 ((rd_T26 l0_0 x3_1).f0),.string ((rd_T26 l0_0 x3_1).f1),.string ((rd_T26 l0_0 x3_1).f2),.int .i64 ((rd_T26 l0_0 x3_1).f3),.int .i64 0,.int .i64 0]) ?_ 4 _ rfl;(with_reducible repeat (first | refine blk_drewN ?_ _ | refine blk_drew ?_ | refine blk_alloc ?_ _));refine blk_put (cs := #[.int .i64 ((rd_T26 l0_0 x3_1).f0),.string ((rd_T26 l0_0 x3_1).f1),.string ((rd_T26 l0_0 x3_1).f2),.int .i64 0,.int .i64 0,.int .i64 0]) ?_ 3 _ rfl;(with_reducible repeat (first | refine blk_drewN ?_ _ | refine blk_drew ?_ | refine blk_alloc ?_ _));refine blk_put (cs := #[.int .i64 ((rd_T26 l0_0 x3_1).f0),.string ((rd_T26 l0_0 x3_1).f1),.string (⟨#[]⟩ : ByteArray),.int .i64 0,.int .i64 0,.int .i64 0]) ?_ 2 _ rfl;(with_reducible repeat (first | refine blk_drewN ?_ _ | refine blk_drew ?_ | refine blk_alloc ?_ _));refine blk_put (cs := #[.int .i64 ((rd_T26 l0_0 x3_1).f0),.string (⟨#[]⟩ : ByteArray),.string (⟨#[]⟩ : ByteArray),.int .i64 0,.int .i64 0,.int .i64 0]) ?_ 1 _ rfl;(with_reducible repeat (first | refine blk_drewN ?_ _ | refine blk_drew ?_ | refine blk_alloc ?_ _));refine blk_put (cs := #[.int .i64 0,.string (⟨#[]⟩ : ByteArray),.string (⟨#[]⟩ : ByteArray),.int .i64 0,.int .i64 0,.int .i64 0]) ?_ 0 _ rfl;(with_reducible repeat (first | refine blk_drewN ?_ _ | refine blk_drew ?_ | refine blk_alloc ?_ _));exact BK329.out⟩
                          have n2_ : Aside0 (Below w.heap.size w ((((((w29.setCell ⟨gb329,0,none⟩ (.int .i64 ((rd_T26 l0_0 x3_1).f0))).setCell ⟨gb329,1,none⟩ (.string ((rd_T26 l0_0 x3_1).f1))).setCell ⟨gb329,2,none⟩ (.string ((rd_T26 l0_0 x3_1).f2))).setCell ⟨gb329,3,none⟩ (.int .i64 ((rd_T26 l0_0 x3_1).f3))).setCell ⟨gb329,4,none⟩ (.int .i64 ((rd_T26 l0_0 x3_1).f4))).setCell ⟨gb329,5,none⟩ (.int .i64 ((rd_T26 l0_0 x3_1).f5)))) := ⟨by repeat (first | (with_reducible first | exact HB.out | apply below_alloc | apply pw_below_drewN | apply below_drew1 | refine below_set ?_ GE327.out | refine below_set ?_ GE329.out) | exact HB.out)⟩
                          (try clear BK327)
                          (try clear BK329)
                          (try clear HB)
                          generalize ((((((w29.setCell ⟨gb329,0,none⟩ (.int .i64 ((rd_T26 l0_0 x3_1).f0))).setCell ⟨gb329,1,none⟩ (.string ((rd_T26 l0_0 x3_1).f1))).setCell ⟨gb329,2,none⟩ (.string ((rd_T26 l0_0 x3_1).f2))).setCell ⟨gb329,3,none⟩ (.int .i64 ((rd_T26 l0_0 x3_1).f3))).setCell ⟨gb329,4,none⟩ (.int .i64 ((rd_T26 l0_0 x3_1).f4))).setCell ⟨gb329,5,none⟩ (.int .i64 ((rd_T26 l0_0 x3_1).f5))) = w32 at n0_ n1_ n2_ ⊢
                          have BK327 := n0_
                          have BK329 := n1_
                          have HB := n2_
                          clear n0_ n1_ n2_
                          have n0_ := Aside0.mk (blk_drew BK327.out)
                          have n1_ := Aside0.mk (blk_drew BK329.out)
                          have n2_ := Aside0.mk (below_drew1 HB.out)
                          clear BK327;clear BK329;clear HB
                          have BK327 := n0_
                          have BK329 := n1_
                          have HB := n2_
                          clear n0_ n1_ n2_
                          have p336 : 0 ≤ ((ji24) : Int) := of_decide_eq_true (by first | (with_reducible assumption) | assumption)
                          have q336 : (ji24) < (l0_0.length : Int) := of_decide_eq_true (by first | (with_reducible assumption) | assumption)
                          obtain ⟨ad336,e336,hx336_0,hx336_1,hx336_2,hx336_3,hx336_4,hx336_5⟩ := at_T26 HR0_0.out (ji24) p336 q336
                          have hw336_5 := hx336_5
                          have hw336_4 := hx336_4
                          have hw336_3 := hx336_3
                          have hw336_2 := hx336_2
                          have hw336_1 := hx336_1
                          have hw336_0 := hx336_0
                          obtain rfl : ad328 = ad336 := (by injection e336)
                          replace hx336_0 := (HB.out.cell (World.block_lt_of_cell? w _ hx336_0)).trans hx336_0
                          replace hx336_1 := (HB.out.cell (World.block_lt_of_cell? w _ hx336_1)).trans hx336_1
                          replace hx336_2 := (HB.out.cell (World.block_lt_of_cell? w _ hx336_2)).trans hx336_2
                          replace hx336_3 := (HB.out.cell (World.block_lt_of_cell? w _ hx336_3)).trans hx336_3
                          replace hx336_4 := (HB.out.cell (World.block_lt_of_cell? w _ hx336_4)).trans hx336_4
                          replace hx336_5 := (HB.out.cell (World.block_lt_of_cell? w _ hx336_5)).trans hx336_5
                          replace p336 := eq_true p336
                          replace q336 := eq_true q336
                          refine start_ (n := 29) (S := fun w' => w'.cell? ⟨gb329,0,none⟩ = some (.int .i64 ((rd_T26 l0_0 x3_1).f0)) ∧ w'.cell? ⟨gb329,1,none⟩ = some (.string ((rd_T26 l0_0 x3_1).f1)) ∧ w'.cell? ⟨gb329,2,none⟩ = some (.string ((rd_T26 l0_0 x3_1).f2)) ∧ w'.cell? ⟨gb329,3,none⟩ = some (.int .i64 ((rd_T26 l0_0 x3_1).f3)) ∧ w'.cell? ⟨gb329,4,none⟩ = some (.int .i64 ((rd_T26 l0_0 x3_1).f4)) ∧ w'.cell? ⟨gb329,5,none⟩ = some (.int .i64 ((rd_T26 l0_0 x3_1).f5)) ∧ w'.cell? ⟨gb327,0,none⟩ = some (.slice (some ad328) l0_0.length c0_0) ∧ w'.cell? (ad328.add (((ji24)).toNat * 6)) = some (.int .i64 ((rd_T26 l0_0 (ji24)).f0)) ∧ w'.cell? ⟨(ad328.add (((ji24)).toNat * 6)).block,(ad328.add (((ji24)).toNat * 6)).off + 1,none⟩ = some (.string ((rd_T26 l0_0 (ji24)).f1)) ∧ w'.cell? ⟨(ad328.add (((ji24)).toNat * 6)).block,(ad328.add (((ji24)).toNat * 6)).off + 2,none⟩ = some (.string ((rd_T26 l0_0 (ji24)).f2)) ∧ w'.cell? ⟨(ad328.add (((ji24)).toNat * 6)).block,(ad328.add (((ji24)).toNat * 6)).off + 3,none⟩ = some (.int .i64 ((rd_T26 l0_0 (ji24)).f3)) ∧ w'.cell? ⟨(ad328.add (((ji24)).toNat * 6)).block,(ad328.add (((ji24)).toNat * 6)).off + 4,none⟩ = some (.int .i64 ((rd_T26 l0_0 (ji24)).f4)) ∧ w'.cell? ⟨(ad328.add (((ji24)).toNat * 6)).block,(ad328.add (((ji24)).toNat * 6)).off + 5,none⟩ = some (.int .i64 ((rd_T26 l0_0 (ji24)).f5))) (ds := []) #[false,false,false,false,false,false,false,false,false,false,false,false,false,false,false,false,false,false,false,false,false,false,false,false,false,false,false,false,false] (by kernel_rfl) rfl rfl ⟨(blk_cell BK329.out 0).trans rfl,(blk_cell BK329.out 1).trans rfl,(blk_cell BK329.out 2).trans rfl,(blk_cell BK329.out 3).trans rfl,(blk_cell BK329.out 4).trans rfl,(blk_cell BK329.out 5).trans rfl,(blk_cell BK327.out 0).trans rfl,((HB.out.cell (World.block_lt_of_cell? w _ hw336_0)).trans hw336_0),((HB.out.cell (World.block_lt_of_cell? w _ hw336_1)).trans hw336_1),((HB.out.cell (World.block_lt_of_cell? w _ hw336_2)).trans hw336_2),((HB.out.cell (World.block_lt_of_cell? w _ hw336_3)).trans hw336_3),((HB.out.cell (World.block_lt_of_cell? w _ hw336_4)).trans hw336_4),((HB.out.cell (World.block_lt_of_cell? w _ hw336_5)).trans hw336_5)⟩ (fun hHeld => ?_);refine with_tabW wageofficeref39_Valid.tab7 wageofficeref39_Valid.bits7 (fun HT_ HW_ => ?_)
                          generalize w32.drew = w33 at BK327 BK329 HB hx336_0 hx336_1 hx336_2 hx336_3 hx336_4 hx336_5 hHeld ⊢
                          refine take_ (i := 0) (N := some 21) (v := ?_) (a' := ?_) #[true,false,false,false,false,false,false,false,false,false,false,false,false,false,false,false,false,false,false,false,false,false,false,false,false,false,false,false,false] rfl rfl (take_ofW HT_.out HW_.out (by kernel_rfl)) (fun _ _ _ h => h) (Or.inl ⟨by rfl,?_⟩) hHeld ?_ ?_
                          rotate_left
                          · rintro w' ⟨s0,s1,s2,s3,s4,s5,s6,s7,s8,s9,s10,s11,s12⟩
                            go_simp
                            with_reducible rfl
                          rotate_left
                          · simp only [Act.put,List.setIfInBounds_toArray,List.set_cons_zero,List.set_cons_succ,i64_w,i32_w]
                            rfl
                          refine one_ (i := 1) (N := some 22) #[true,true,false,false,false,false,false,false,false,false,false,false,false,false,false,false,false,false,false,false,false,false,false,false,false,false,false,false,false] rfl rfl (one_of HT_.out (by kernel_rfl)) (by decide) (fun K hK => ?_)
                          refine goes_ Try.func51 (by kernel_rfl) rfl #[.agg #[.int .i64 ((rd_T26 l0_0 x3_1).f0),.string ((rd_T26 l0_0 x3_1).f1),.string ((rd_T26 l0_0 x3_1).f2),.int .i64 ((rd_T26 l0_0 x3_1).f3),.int .i64 ((rd_T26 l0_0 x3_1).f4),.int .i64 ((rd_T26 l0_0 x3_1).f5)]] (by rfl) rfl rfl (by (try simp only [List.map_toArray,List.map_cons,List.map_nil]);first | done | rfl | (simp only [List.length_drop,List.length_take];rfl)) ?_
                          with_reducible refine (wageofficeref39_Formed.calls k1 ((rd_T26 l0_0 x3_1).f0) ((rd_T26 l0_0 x3_1).f1) ((rd_T26 l0_0 x3_1).f2) ((rd_T26 l0_0 x3_1).f3) ((rd_T26 l0_0 x3_1).f4) ((rd_T26 l0_0 x3_1).f5) true _ A9.out).mono ?_
                          rintro e w34 ⟨rfl,hb⟩
                          refine ⟨_,rfl,?_⟩
                          have n0_ := Aside0.mk (blk_below (g := gb327) (o := .cells #[.slice (some ad328) l0_0.length c0_0] 24 (0,0)) (by (with_reducible repeat (first | refine blk_drewN ?_ _ | refine blk_drew ?_ | refine blk_alloc ?_ _));exact BK327.out) hb)
                          have n1_ := Aside0.mk (blk_below (g := gb329) (o := .cells #[.int .i64 ((rd_T26 l0_0 x3_1).f0),.string ((rd_T26 l0_0 x3_1).f1),.string ((rd_T26 l0_0 x3_1).f2),.int .i64 ((rd_T26 l0_0 x3_1).f3),.int .i64 ((rd_T26 l0_0 x3_1).f4),.int .i64 ((rd_T26 l0_0 x3_1).f5)] 26 (0,0)) (by (with_reducible repeat (first | refine blk_drewN ?_ _ | refine blk_drew ?_ | refine blk_alloc ?_ _));exact BK329.out) hb)
                          have n2_ := Aside0.mk (below_step (by repeat (first | (with_reducible first | exact HB.out | apply below_alloc | apply pw_below_drewN | apply below_drew1 | refine below_set ?_ GE327.out | refine below_set ?_ GE329.out) | exact HB.out)) hb)
                          clear BK327;clear BK329;clear HB
                          have BK327 := n0_
                          have BK329 := n1_
                          have HB := n2_
                          clear n0_ n1_ n2_
                          (try clear hb)
                          (try clear hb2)
                          (try clear hk)
                          (try clear hi)
                          have q35 : (x3_1 : Int) ≤ ((l0_0.length : Int) : Int) := of_decide_eq_true (by first | (with_reducible assumption) | assumption)
                          obtain ⟨i035,hi035,_,hsz35,_⟩ := info_parts info26
                          have hroom35 : l0_0.length ≤ c0_0 := HC0_0.out
                          have hC35 : Kd.C k26 _ (some ad328) l0_0.length l0_0 := HR0_0.out
                          have hcut35 := cut_to (P := Try.prog) 22 26 .i64 Try.underlying22 hi035 (some ad328) l0_0.length c0_0 x3_1 (of_decide_eq_true (by first | (with_reducible assumption) | assumption)) q35 hroom35
                          have hr35 := Kd.C_take (m := (x3_1 : Int).toNat) hC35 (by omega)
                          have hy35 : y331.length = (x3_1 : Int).toNat := (by rw [Ny331.out,List.length_take];omega)
                          rw [← Ny331.out] at hr35
                          rw [← hy35] at hcut35
                          have HR334 := Aside0.mk hr35
                          have HC334 := Aside0.mk (show y331.length ≤ c0_0 from by omega)
                          clear hr35 hC35 hroom35 hi035 hsz35
                          have KY35 := Aside0.mk hy35
                          clear hy35
                          replace q35 := eq_true q35
                          refine hK.out _ _ ⟨(blk_cell BK329.out 0).trans rfl,(blk_cell BK329.out 1).trans rfl,(blk_cell BK329.out 2).trans rfl,(blk_cell BK329.out 3).trans rfl,(blk_cell BK329.out 4).trans rfl,(blk_cell BK329.out 5).trans rfl,(blk_cell BK327.out 0).trans rfl,((HB.out.cell (World.block_lt_of_cell? w _ hw336_0)).trans hw336_0),((HB.out.cell (World.block_lt_of_cell? w _ hw336_1)).trans hw336_1),((HB.out.cell (World.block_lt_of_cell? w _ hw336_2)).trans hw336_2),((HB.out.cell (World.block_lt_of_cell? w _ hw336_3)).trans hw336_3),((HB.out.cell (World.block_lt_of_cell? w _ hw336_4)).trans hw336_4),((HB.out.cell (World.block_lt_of_cell? w _ hw336_5)).trans hw336_5)⟩ (fun hHeld => ?_)
                          clear hK K
                          refine norm_ (a' := ?_) ?_ ?_
                          rotate_left
                          · show Act.put _ (some 22) _ = _
                            simp only [Act.put,List.setIfInBounds_toArray,List.set_cons_zero,List.set_cons_succ,i64_w,i32_w]
                            rfl
                          refine pure_ (i := 2) (N := some 23) (v := ?_) (a' := ?_) #[true,true,true,false,false,false,false,false,false,false,false,false,false,false,false,false,false,false,false,false,false,false,false,false,false,false,false,false,false] rfl rfl (any_of HT_.out (by kernel_rfl)) (fun _ _ _ h => h) (Or.inl ⟨by rfl,?_⟩) ?_ ?_
                          rotate_left
                          · intro w'
                            go_simp
                            with_reducible rfl
                          rotate_left
                          · simp only [Act.put,List.setIfInBounds_toArray,List.set_cons_zero,List.set_cons_succ,i64_w,i32_w]
                            rfl
                          refine pure_ (i := 3) (N := some 24) (v := ?_) (a' := ?_) #[true,true,true,true,false,false,false,false,false,false,false,false,false,false,false,false,false,false,false,false,false,false,false,false,false,false,false,false,false] rfl rfl (any_of HT_.out (by kernel_rfl)) (fun _ _ _ h => h) (Or.inl ⟨by rfl,?_⟩) ?_ ?_
                          rotate_left
                          · intro w'
                            go_simp
                            with_reducible rfl
                          rotate_left
                          · simp only [Act.put,List.setIfInBounds_toArray,List.set_cons_zero,List.set_cons_succ,i64_w,i32_w]
                            rfl
                          refine pure_ (i := 4) (N := some 25) (v := ?_) (a' := ?_) #[true,true,true,true,true,false,false,false,false,false,false,false,false,false,false,false,false,false,false,false,false,false,false,false,false,false,false,false,false] rfl rfl (any_of HT_.out (by kernel_rfl)) (fun _ _ _ h => h) (Or.inl ⟨by rfl,?_⟩) ?_ ?_
                          rotate_left
                          · intro w'
                            go_simp
                            with_reducible rfl
                          rotate_left
                          · simp only [Act.put,List.setIfInBounds_toArray,List.set_cons_zero,List.set_cons_succ,i64_w,i32_w]
                            rfl
                          refine pure_ (i := 6) (N := some 27) (v := ?_) (a' := ?_) #[true,true,true,true,true,false,true,false,false,false,false,false,false,false,false,false,false,false,false,false,false,false,false,false,false,false,false,false,false] rfl rfl (any_of HT_.out (by kernel_rfl)) (fun _ _ _ h => h) (Or.inl ⟨by rfl,?_⟩) ?_ ?_
                          rotate_left
                          · intro w'
                            go_simp
                            with_reducible rfl
                          rotate_left
                          · simp only [Act.put,List.setIfInBounds_toArray,List.set_cons_zero,List.set_cons_succ,i64_w,i32_w]
                            rfl
                          refine pure_ (i := 8) (N := some 29) (v := ?_) (a' := ?_) #[true,true,true,true,true,false,true,false,true,false,false,false,false,false,false,false,false,false,false,false,false,false,false,false,false,false,false,false,false] rfl rfl (any_of HT_.out (by kernel_rfl)) (fun _ _ _ h => h) (Or.inl ⟨by rfl,?_⟩) ?_ ?_
                          rotate_left
                          · intro w'
                            go_simp
                            with_reducible rfl
                          rotate_left
                          · simp only [Act.put,List.setIfInBounds_toArray,List.set_cons_zero,List.set_cons_succ,i64_w,i32_w]
                            rfl
                          refine take_ (i := 5) (N := some 26) (v := ?_) (a' := ?_) #[true,true,true,true,true,true,true,false,true,false,false,false,false,false,false,false,false,false,false,false,false,false,false,false,false,false,false,false,false] rfl rfl (take_ofW HT_.out HW_.out (by kernel_rfl)) (fun _ _ _ h => h) (Or.inl ⟨by rfl,?_⟩) hHeld ?_ ?_
                          rotate_left
                          · rintro w' ⟨s0,s1,s2,s3,s4,s5,s6,s7,s8,s9,s10,s11,s12⟩
                            go_simp
                            with_reducible rfl
                          rotate_left
                          · simp only [Act.put,List.setIfInBounds_toArray,List.set_cons_zero,List.set_cons_succ,i64_w,i32_w]
                            rfl
                          refine pure_ (i := 7) (N := some 28) (v := ?_) (a' := ?_) #[true,true,true,true,true,true,true,true,true,false,false,false,false,false,false,false,false,false,false,false,false,false,false,false,false,false,false,false,false] rfl rfl (any_of HT_.out (by kernel_rfl)) (fun _ _ _ h => h) (Or.inl ⟨by rfl,?_⟩) ?_ ?_
                          rotate_left
                          · intro w'
                            go_simp
                            with_reducible rfl
                          rotate_left
                          · simp only [Act.put,List.setIfInBounds_toArray,List.set_cons_zero,List.set_cons_succ,i64_w,i32_w]
                            rfl
                          refine take_ (i := 9) (N := some 30) (v := ?_) (a' := ?_) #[true,true,true,true,true,true,true,true,true,true,false,false,false,false,false,false,false,false,false,false,false,false,false,false,false,false,false,false,false] rfl rfl (take_ofW HT_.out HW_.out (by kernel_rfl)) (fun _ _ _ h => h) (Or.inl ⟨by rfl,?_⟩) hHeld ?_ ?_
                          rotate_left
                          · rintro w' ⟨s0,s1,s2,s3,s4,s5,s6,s7,s8,s9,s10,s11,s12⟩
                            go_simp
                            with_reducible rfl
                          rotate_left
                          · simp only [Act.put,List.setIfInBounds_toArray,List.set_cons_zero,List.set_cons_succ,i64_w,i32_w]
                            rfl
                          refine one_ (i := 10) (N := some 31) #[true,true,true,true,true,true,true,true,true,true,true,false,false,false,false,false,false,false,false,false,false,false,false,false,false,false,false,false,false] rfl rfl (one_of HT_.out (by kernel_rfl)) (by decide) (fun K hK => ?_)
                          refine goes_ Try.func52 (by kernel_rfl) rfl #[.slice (some ad328) y331.length c0_0,.int .i64 ((rd_T26 l0_0 x3_1).f0)] (by rfl) rfl rfl (by (try simp only [List.map_toArray,List.map_cons,List.map_nil]);first | done | rfl | (simp only [List.length_drop,List.length_take];rfl)) ?_
                          with_reducible refine (wageofficeref39_find.calls k1 _ _ y331 ((rd_T26 l0_0 x3_1).f0) t335 _ ?side1 ?side2 A13.out).mono ?_
                          (case side1 => repeat (first | exact (Kd.C_below HR334.out HB.out) | (with_reducible refine Kd.C_alloc ?_ _) | (with_reducible refine Kd.C_drewN ?_ _) | (with_reducible refine Kd.C_drew ?_)))
                          (case side2 => exact HC334.out)
                          rintro e w' ⟨rfl,⟨nd,rfl⟩⟩
                          refine ⟨_,rfl,?_⟩
                          refine hK.out _ _ ⟨(blk_cell BK329.out 0).trans rfl,(blk_cell BK329.out 1).trans rfl,(blk_cell BK329.out 2).trans rfl,(blk_cell BK329.out 3).trans rfl,(blk_cell BK329.out 4).trans rfl,(blk_cell BK329.out 5).trans rfl,(blk_cell BK327.out 0).trans rfl,((HB.out.cell (World.block_lt_of_cell? w _ hw336_0)).trans hw336_0),((HB.out.cell (World.block_lt_of_cell? w _ hw336_1)).trans hw336_1),((HB.out.cell (World.block_lt_of_cell? w _ hw336_2)).trans hw336_2),((HB.out.cell (World.block_lt_of_cell? w _ hw336_3)).trans hw336_3),((HB.out.cell (World.block_lt_of_cell? w _ hw336_4)).trans hw336_4),((HB.out.cell (World.block_lt_of_cell? w _ hw336_5)).trans hw336_5)⟩ (fun hHeld => ?_)
                          clear hK K
                          refine norm_ (a' := ?_) ?_ ?_
                          rotate_left
                          · show Act.put _ (some 31) _ = _
                            simp only [Act.put,List.setIfInBounds_toArray,List.set_cons_zero,List.set_cons_succ,i64_w,i32_w]
                            rfl
                          refine pure_ (i := 11) (N := some 32) (v := ?_) (a' := ?_) #[true,true,true,true,true,true,true,true,true,true,true,true,false,false,false,false,false,false,false,false,false,false,false,false,false,false,false,false,false] rfl rfl (any_of HT_.out (by kernel_rfl)) (fun _ _ _ h => h) (Or.inl ⟨by rfl,?_⟩) ?_ ?_
                          rotate_left
                          · intro w'
                            go_simp
                            with_reducible rfl
                          rotate_left
                          · simp only [Act.put,List.setIfInBounds_toArray,List.set_cons_zero,List.set_cons_succ,i64_w,i32_w]
                            rfl
                          refine pure_ (i := 12) (N := some 33) (v := ?_) (a' := ?_) #[true,true,true,true,true,true,true,true,true,true,true,true,true,false,false,false,false,false,false,false,false,false,false,false,false,false,false,false,false] rfl rfl (any_of HT_.out (by kernel_rfl)) (fun _ _ _ h => h) (Or.inl ⟨by rfl,?_⟩) ?_ ?_
                          rotate_left
                          · intro w'
                            go_simp
                            with_reducible rfl
                          rotate_left
                          · simp only [Act.put,List.setIfInBounds_toArray,List.set_cons_zero,List.set_cons_succ,i64_w,i32_w]
                            rfl
                          refine pure_ (i := 13) (N := some 34) (v := ?_) (a' := ?_) #[true,true,true,true,true,true,true,true,true,true,true,true,true,true,false,false,false,false,false,false,false,false,false,false,false,false,false,false,false] rfl rfl (any_of HT_.out (by kernel_rfl)) (fun _ _ _ h => h) (Or.inl ⟨by rfl,?_⟩) ?_ ?_
                          rotate_left
                          · intro w'
                            go_simp
                            with_reducible rfl
                          rotate_left
                          · simp only [Act.put,List.setIfInBounds_toArray,List.set_cons_zero,List.set_cons_succ,i64_w,i32_w]
                            rfl
                          refine pure_ (i := 14) (N := some 35) (v := ?_) (a' := ?_) #[true,true,true,true,true,true,true,true,true,true,true,true,true,true,true,false,false,false,false,false,false,false,false,false,false,false,false,false,false] rfl rfl (any_of HT_.out (by kernel_rfl)) (fun _ _ _ h => h) (Or.inl ⟨by rfl,?_⟩) ?_ ?_
                          rotate_left
                          · intro w'
                            go_simp
                            with_reducible rfl
                          rotate_left
                          · simp only [Act.put,List.setIfInBounds_toArray,List.set_cons_zero,List.set_cons_succ,i64_w,i32_w]
                            rfl
                          refine pure_ (i := 15) (N := some 36) (v := ?_) (a' := ?_) #[true,true,true,true,true,true,true,true,true,true,true,true,true,true,true,true,false,false,false,false,false,false,false,false,false,false,false,false,false] rfl rfl (any_of HT_.out (by kernel_rfl)) (fun _ _ _ h => h) (Or.inl ⟨by rfl,?_⟩) ?_ ?_
                          rotate_left
                          · intro w'
                            go_simp
                            with_reducible rfl
                          rotate_left
                          · simp only [Act.put,List.setIfInBounds_toArray,List.set_cons_zero,List.set_cons_succ,i64_w,i32_w]
                            rfl
                          refine pure_ (i := 16) (N := some 37) (v := ?_) (a' := ?_) #[true,true,true,true,true,true,true,true,true,true,true,true,true,true,true,true,true,false,false,false,false,false,false,false,false,false,false,false,false] rfl rfl (any_of HT_.out (by kernel_rfl)) (fun _ _ _ h => h) (Or.inl ⟨by rfl,?_⟩) ?_ ?_
                          rotate_left
                          · intro w'
                            go_simp
                            with_reducible rfl
                          rotate_left
                          · simp only [Act.put,List.setIfInBounds_toArray,List.set_cons_zero,List.set_cons_succ,i64_w,i32_w]
                            rfl
                          refine pure_ (i := 17) (N := some 38) (v := ?_) (a' := ?_) #[true,true,true,true,true,true,true,true,true,true,true,true,true,true,true,true,true,true,false,false,false,false,false,false,false,false,false,false,false] rfl rfl (any_of HT_.out (by kernel_rfl)) (fun _ _ _ h => h) (Or.inl ⟨by rfl,?_⟩) ?_ ?_
                          rotate_left
                          · intro w'
                            go_simp
                            with_reducible rfl
                          rotate_left
                          · simp only [Act.put,List.setIfInBounds_toArray,List.set_cons_zero,List.set_cons_succ,i64_w,i32_w]
                            rfl
                          refine pure_ (i := 19) (N := some 40) (v := ?_) (a' := ?_) #[true,true,true,true,true,true,true,true,true,true,true,true,true,true,true,true,true,true,false,true,false,false,false,false,false,false,false,false,false] rfl rfl (any_of HT_.out (by kernel_rfl)) (fun _ _ _ h => h) (Or.inl ⟨by rfl,?_⟩) ?_ ?_
                          rotate_left
                          · intro w'
                            go_simp
                            with_reducible rfl
                          rotate_left
                          · simp only [Act.put,List.setIfInBounds_toArray,List.set_cons_zero,List.set_cons_succ,i64_w,i32_w]
                            rfl
                          refine pure_ (i := 21) (N := some 42) (v := ?_) (a' := ?_) #[true,true,true,true,true,true,true,true,true,true,true,true,true,true,true,true,true,true,false,true,false,true,false,false,false,false,false,false,false] rfl rfl (any_of HT_.out (by kernel_rfl)) (fun _ _ _ h => h) (Or.inl ⟨by rfl,?_⟩) ?_ ?_
                          rotate_left
                          · intro w'
                            go_simp
                            with_reducible rfl
                          rotate_left
                          · simp only [Act.put,List.setIfInBounds_toArray,List.set_cons_zero,List.set_cons_succ,i64_w,i32_w]
                            rfl
                          refine pure_ (i := 22) (N := some 43) (v := ?_) (a' := ?_) #[true,true,true,true,true,true,true,true,true,true,true,true,true,true,true,true,true,true,false,true,false,true,true,false,false,false,false,false,false] rfl rfl (any_of HT_.out (by kernel_rfl)) (fun _ _ _ h => h) (Or.inl ⟨by rfl,?_⟩) ?_ ?_
                          rotate_left
                          · intro w'
                            go_simp
                            with_reducible rfl
                          rotate_left
                          · simp only [Act.put,List.setIfInBounds_toArray,List.set_cons_zero,List.set_cons_succ,i64_w,i32_w]
                            rfl
                          refine take_ (i := 18) (N := some 39) (v := ?_) (a' := ?_) #[true,true,true,true,true,true,true,true,true,true,true,true,true,true,true,true,true,true,true,true,false,true,true,false,false,false,false,false,false] rfl rfl (take_ofW HT_.out HW_.out (by kernel_rfl)) (fun _ _ _ h => h) (Or.inl ⟨by rfl,?_⟩) hHeld ?_ ?_
                          rotate_left
                          · rintro w' ⟨s0,s1,s2,s3,s4,s5,s6,s7,s8,s9,s10,s11,s12⟩
                            go_simp
                            with_reducible rfl
                          rotate_left
                          · simp only [Act.put,List.setIfInBounds_toArray,List.set_cons_zero,List.set_cons_succ,i64_w,i32_w]
                            rfl
                          refine take_ (i := 20) (N := some 41) (v := ?_) (a' := ?_) #[true,true,true,true,true,true,true,true,true,true,true,true,true,true,true,true,true,true,true,true,true,true,true,false,false,false,false,false,false] rfl rfl (take_ofW HT_.out HW_.out (by kernel_rfl)) (fun _ _ _ h => h) (Or.inl ⟨by rfl,?_⟩) hHeld ?_ ?_
                          rotate_left
                          · rintro w' ⟨s0,s1,s2,s3,s4,s5,s6,s7,s8,s9,s10,s11,s12⟩
                            go_simp
                            with_reducible rfl
                          rotate_left
                          · simp only [Act.put,List.setIfInBounds_toArray,List.set_cons_zero,List.set_cons_succ,i64_w,i32_w]
                            rfl
                          refine pure_ (i := 23) (N := some 44) (v := ?_) (a' := ?_) #[true,true,true,true,true,true,true,true,true,true,true,true,true,true,true,true,true,true,true,true,true,true,true,true,false,false,false,false,false] rfl rfl (any_of HT_.out (by kernel_rfl)) (fun _ _ _ h => h) (Or.inl ⟨by rfl,?_⟩) ?_ ?_
                          rotate_left
                          · intro w'
                            go_simp
                            with_reducible rfl
                          rotate_left
                          · simp only [Act.put,List.setIfInBounds_toArray,List.set_cons_zero,List.set_cons_succ,i64_w,i32_w]
                            rfl
                          refine pure_ (i := 24) (N := some 45) (v := ?_) (a' := ?_) #[true,true,true,true,true,true,true,true,true,true,true,true,true,true,true,true,true,true,true,true,true,true,true,true,true,false,false,false,false] rfl rfl (any_of HT_.out (by kernel_rfl)) (fun _ _ _ h => h) (Or.inl ⟨by rfl,?_⟩) ?_ ?_
                          rotate_left
                          · intro w'
                            go_simp
                            with_reducible rfl
                          rotate_left
                          · simp only [Act.put,List.setIfInBounds_toArray,List.set_cons_zero,List.set_cons_succ,i64_w,i32_w]
                            rfl
                          refine take_ (i := 25) (N := some 46) (v := ?_) (a' := ?_) #[true,true,true,true,true,true,true,true,true,true,true,true,true,true,true,true,true,true,true,true,true,true,true,true,true,true,false,false,false] rfl rfl (take_ofW HT_.out HW_.out (by kernel_rfl)) (fun _ _ _ h => h) (Or.inl ⟨by rfl,?_⟩) hHeld ?_ ?_
                          rotate_left
                          · rintro w' ⟨s0,s1,s2,s3,s4,s5,s6,s7,s8,s9,s10,s11,s12⟩
                            go_simp
                            with_reducible rfl
                          rotate_left
                          · simp only [Act.put,List.setIfInBounds_toArray,List.set_cons_zero,List.set_cons_succ,i64_w,i32_w]
                            rfl
                          refine pure_ (i := 26) (N := some 47) (v := ?_) (a' := ?_) #[true,true,true,true,true,true,true,true,true,true,true,true,true,true,true,true,true,true,true,true,true,true,true,true,true,true,true,false,false] rfl rfl (any_of HT_.out (by kernel_rfl)) (fun _ _ _ h => h) (Or.inl ⟨by rfl,?_⟩) ?_ ?_
                          rotate_left
                          · intro w'
                            go_simp
                            with_reducible rfl
                          rotate_left
                          · simp only [Act.put,List.setIfInBounds_toArray,List.set_cons_zero,List.set_cons_succ,i64_w,i32_w]
                            rfl
                          refine pure_ (i := 27) (N := some 48) (v := ?_) (a' := ?_) #[true,true,true,true,true,true,true,true,true,true,true,true,true,true,true,true,true,true,true,true,true,true,true,true,true,true,true,true,false] rfl rfl (any_of HT_.out (by kernel_rfl)) (fun _ _ _ h => h) (Or.inl ⟨by rfl,?_⟩) ?_ ?_
                          rotate_left
                          · intro w'
                            go_simp
                            with_reducible rfl
                          rotate_left
                          · simp only [Act.put,List.setIfInBounds_toArray,List.set_cons_zero,List.set_cons_succ,i64_w,i32_w]
                            rfl
                          refine pure_ (i := 28) (N := some 49) (v := ?_) (a' := ?_) #[true,true,true,true,true,true,true,true,true,true,true,true,true,true,true,true,true,true,true,true,true,true,true,true,true,true,true,true,true] rfl rfl (any_of HT_.out (by kernel_rfl)) (fun _ _ _ h => h) (Or.inl ⟨by rfl,?_⟩) ?_ ?_
                          rotate_left
                          · intro w'
                            go_simp
                            with_reducible rfl
                          rotate_left
                          · simp only [Act.put,List.setIfInBounds_toArray,List.set_cons_zero,List.set_cons_succ,i64_w,i32_w]
                            rfl
                          refine done_ (done_of HT_.out (by kernel_rfl)) ?_
                          try go_wp2
                          go_ret
                          exact ⟨by first | rfl | (simp [errW_none,errW_some] <;> rfl) | (simp only [← hji24];first | rfl | (simp [errW_none,errW_some] <;> rfl)) | (simp [*,errW_none,errW_some] <;> rfl),by repeat (first | (with_reducible first | exact HB.out | apply below_alloc | apply pw_below_drewN | apply below_drew1 | refine below_set ?_ GE327.out | refine below_set ?_ GE329.out) | exact HB.out)⟩
                        · rw [if_neg c27] at H
                          have c27b0 : decide (((rd_T26 l0_0 x3_1).f5) < ((rd_T26 l0_0 (ji24)).f5)) = false := decide_eq_false c27
                          clear c27
                          have H' := Aside0.mk H
                          clear H;have hcz36_0 : wr.cell? ⟨gb327,0,none⟩ = some (.slice A0_0 l0_0.length c0_0) := (blk_cell BK327.out 0).trans rfl;have hfz36_0 := blk_frozen BK327.out 0
                          have p328 : 0 ≤ (x3_1 : Int) := of_decide_eq_true (by first | (with_reducible assumption) | assumption)
                          have q328 : x3_1 < (l0_0.length : Int) := of_decide_eq_true (by first | (with_reducible assumption) | assumption)
                          obtain ⟨ad328,e328,hx328_0,hx328_1,hx328_2,hx328_3,hx328_4,hx328_5⟩ := at_T26 HR0_0.out x3_1 p328 q328
                          cases e328
                          replace hx328_0 := (HB.out.cell (World.block_lt_of_cell? w _ hx328_0)).trans hx328_0
                          replace hx328_1 := (HB.out.cell (World.block_lt_of_cell? w _ hx328_1)).trans hx328_1
                          replace hx328_2 := (HB.out.cell (World.block_lt_of_cell? w _ hx328_2)).trans hx328_2
                          replace hx328_3 := (HB.out.cell (World.block_lt_of_cell? w _ hx328_3)).trans hx328_3
                          replace hx328_4 := (HB.out.cell (World.block_lt_of_cell? w _ hx328_4)).trans hx328_4
                          replace hx328_5 := (HB.out.cell (World.block_lt_of_cell? w _ hx328_5)).trans hx328_5
                          replace p328 := eq_true p328
                          replace q328 := eq_true q328
                          try go_wp2_with (first | ((with_reducible refine gate_dst (N := 4) rfl ?_);refine box_event ?hg (N := 4) ?hd (cs := #[.int .i64 0,.string (⟨#[]⟩ : ByteArray),.string (⟨#[]⟩ : ByteArray),.int .i64 0,.int .i64 0,.int .i64 0]) (t := 26) ?hr ?_;(case hd => rfl);(case hg => rfl);(case hr => first | (go_simp;done) | (go_simp;rfl));intro gb329 hg w37 hbox hb;have n0_ := Aside0.mk (blk_below (g := gb327) (o := .cells #[.slice (some ad328) l0_0.length c0_0] 24 (0,0)) (by (with_reducible repeat (first | refine blk_drewN ?_ _ | refine blk_drew ?_ | refine blk_alloc ?_ _));exact BK327.out) hb);have n1_ := Aside0.mk (below_step (by repeat (first | (with_reducible first | exact HB.out | apply below_alloc | apply pw_below_drewN | apply below_drew1 | refine below_set ?_ GE327.out) | exact HB.out)) hb);have n2_ := Aside0.mk (hbox);have n3_ := Aside0.mk ((by rw [hg];exact (below_size (by repeat (first | (with_reducible first | exact HB.out | apply below_alloc | apply pw_below_drewN | apply below_drew1 | refine below_set ?_ GE327.out) | exact HB.out))) : w.heap.size ≤ gb329));have n4_ := Aside0.mk ((by rw [hg];exact (below_size (by repeat (first | (with_reducible first | exact HB.out | apply below_alloc | apply pw_below_drewN | apply below_drew1 | refine below_set ?_ GE327.out) | exact HB.out))) : w.heap.size ≤ gb329));have n5_ := Aside0.mk ((by rw [hg];exact Nat.ne_of_lt (blk_lt (g := gb327) (o := .cells #[.slice (some ad328) l0_0.length c0_0] 24 (0,0)) (by (with_reducible repeat (first | refine blk_drewN ?_ _ | refine blk_drew ?_ | refine blk_alloc ?_ _));exact BK327.out)) : gb327 ≠ gb329));have n6_ := Aside0.mk ((by rw [hg];exact Nat.ne_of_gt (blk_lt (g := gb327) (o := .cells #[.slice (some ad328) l0_0.length c0_0] 24 (0,0)) (by (with_reducible repeat (first | refine blk_drewN ?_ _ | refine blk_drew ?_ | refine blk_alloc ?_ _));exact BK327.out)) : gb329 ≠ gb327));clear BK327;clear HB;have BK327 := n0_;have HB := n1_;have BK329 := n2_;have GW329 := n3_;have GE329 := n4_;have NB327_329 := n5_;have NB329_327 := n6_;clear n0_ n1_ n2_ n3_ n4_ n5_ n6_;clear hb hbox hg;have hnb38 := NB329_327.out;have hnc38 := NB327_329.out;have hcz39_0 : w37.cell? ⟨gb329,0,none⟩ = some (.int .i64 0) := (blk_cell BK329.out 0).trans rfl;have hcz39_1 : w37.cell? ⟨gb329,1,none⟩ = some (.string (⟨#[]⟩ : ByteArray)) := (blk_cell BK329.out 1).trans rfl;have hcz39_2 : w37.cell? ⟨gb329,2,none⟩ = some (.string (⟨#[]⟩ : ByteArray)) := (blk_cell BK329.out 2).trans rfl;have hcz39_3 : w37.cell? ⟨gb329,3,none⟩ = some (.int .i64 0) := (blk_cell BK329.out 3).trans rfl;have hcz39_4 : w37.cell? ⟨gb329,4,none⟩ = some (.int .i64 0) := (blk_cell BK329.out 4).trans rfl;have hcz39_5 : w37.cell? ⟨gb329,5,none⟩ = some (.int .i64 0) := (blk_cell BK329.out 5).trans rfl;have hfz39_0 := blk_frozen BK329.out 0;have hfz39_1 := blk_frozen BK329.out 1;have hfz39_2 := blk_frozen BK329.out 2;have hfz39_3 := blk_frozen BK329.out 3;have hfz39_4 := blk_frozen BK329.out 4;have hfz39_5 := blk_frozen BK329.out 5))
                          have n0_ : Aside0 (((((((w37.setCell ⟨gb329,0,none⟩ (.int .i64 ((rd_T26 l0_0 x3_1).f0))).setCell ⟨gb329,1,none⟩ (.string ((rd_T26 l0_0 x3_1).f1))).setCell ⟨gb329,2,none⟩ (.string ((rd_T26 l0_0 x3_1).f2))).setCell ⟨gb329,3,none⟩ (.int .i64 ((rd_T26 l0_0 x3_1).f3))).setCell ⟨gb329,4,none⟩ (.int .i64 ((rd_T26 l0_0 x3_1).f4))).setCell ⟨gb329,5,none⟩ (.int .i64 ((rd_T26 l0_0 x3_1).f5))).heap[gb327]? = some (.cells #[.slice (some ad328) l0_0.length c0_0] 24 (0,0))) := ⟨by (with_reducible repeat (first | refine blk_drewN ?_ _ | refine blk_drew ?_ | refine blk_alloc ?_ _));refine blk_far ?_ NB327_329.out _;(with_reducible repeat (first | refine blk_drewN ?_ _ | refine blk_drew ?_ | refine blk_alloc ?_ _));refine blk_far ?_ NB327_329.out _;(with_reducible repeat (first | refine blk_drewN ?_ _ | refine blk_drew ?_ | refine blk_alloc ?_ _));refine blk_far ?_ NB327_329.out _;(with_reducible repeat (first | refine blk_drewN ?_ _ | refine blk_drew ?_ | refine blk_alloc ?_ _));refine blk_far ?_ NB327_329.out _;(with_reducible repeat (first | refine blk_drewN ?_ _ | refine blk_drew ?_ | refine blk_alloc ?_ _));refine blk_far ?_ NB327_329.out _;(with_reducible repeat (first | refine blk_drewN ?_ _ | refine blk_drew ?_ | refine blk_alloc ?_ _));refine blk_far ?_ NB327_329.out _;(with_reducible repeat (first | refine blk_drewN ?_ _ | refine blk_drew ?_ | refine blk_alloc ?_ _));exact BK327.out⟩
                          have n1_ : Aside0 (((((((w37.setCell ⟨gb329,0,none⟩ (.int .i64 ((rd_T26 l0_0 x3_1).f0))).setCell ⟨gb329,1,none⟩ (.string ((rd_T26 l0_0 x3_1).f1))).setCell ⟨gb329,2,none⟩ (.string ((rd_T26 l0_0 x3_1).f2))).setCell ⟨gb329,3,none⟩ (.int .i64 ((rd_T26 l0_0 x3_1).f3))).setCell ⟨gb329,4,none⟩ (.int .i64 ((rd_T26 l0_0 x3_1).f4))).setCell ⟨gb329,5,none⟩ (.int .i64 ((rd_T26 l0_0 x3_1).f5))).heap[gb329]? = some (.cells #[.int .i64 ((rd_T26 l0_0 x3_1).f0),.string ((rd_T26 l0_0 x3_1).f1),.string ((rd_T26 l0_0 x3_1).f2),.int .i64 ((rd_T26 l0_0 x3_1).f3),.int .i64 ((rd_T26 l0_0 x3_1).f4),.int .i64 ((rd_T26 l0_0 x3_1).f5)] 26 (0,0))) := ⟨by (with_reducible repeat (first | refine blk_drewN ?_ _ | refine blk_drew ?_ | refine blk_alloc ?_ _));refine blk_put (cs := #[.int .i64 ((rd_T26 l0_0 x3_1).f0),.string ((rd_T26 l0_0 x3_1).f1),.string ((rd_T26 l0_0 x3_1).f2),.int .i64 ((rd_T26 l0_0 x3_1).f3),.int .i64 ((rd_T26 l0_0 x3_1).f4),.int .i64 0]) ?_ 5 _ rfl;(with_reducible repeat (first | refine blk_drewN ?_ _ | refine blk_drew ?_ | refine blk_alloc ?_ _));refine blk_put (cs := #[.int .i64 ((rd_T26 l0_0 x3_1).f0),.string ((rd_T26 l0_0 x3_1).f1),.string ((rd_T26 l0_0 x3_1).f2),.int .i64 ((rd_T26 l0_0 x3_1).f3),.int .i64 0,.int .i64 0]) ?_ 4 _ rfl;(with_reducible repeat (first | refine blk_drewN ?_ _ | refine blk_drew ?_ | refine blk_alloc ?_ _));refine blk_put (cs := #[.int .i64 ((rd_T26 l0_0 x3_1).f0),.string ((rd_T26 l0_0 x3_1).f1),.string ((rd_T26 l0_0 x3_1).f2),.int .i64 0,.int .i64 0,.int .i64 0]) ?_ 3 _ rfl;(with_reducible repeat (first | refine blk_drewN ?_ _ | refine blk_drew ?_ | refine blk_alloc ?_ _));refine blk_put (cs := #[.int .i64 ((rd_T26 l0_0 x3_1).f0),.string ((rd_T26 l0_0 x3_1).f1),.string (⟨#[]⟩ : ByteArray),.int .i64 0,.int .i64 0,.int .i64 0]) ?_ 2 _ rfl;(with_reducible repeat (first | refine blk_drewN ?_ _ | refine blk_drew ?_ | refine blk_alloc ?_ _));refine blk_put (cs := #[.int .i64 ((rd_T26 l0_0 x3_1).f0),.string (⟨#[]⟩ : ByteArray),.string (⟨#[]⟩ : ByteArray),.int .i64 0,.int .i64 0,.int .i64 0]) ?_ 1 _ rfl;(with_reducible repeat (first | refine blk_drewN ?_ _ | refine blk_drew ?_ | refine blk_alloc ?_ _));refine blk_put (cs := #[.int .i64 0,.string (⟨#[]⟩ : ByteArray),.string (⟨#[]⟩ : ByteArray),.int .i64 0,.int .i64 0,.int .i64 0]) ?_ 0 _ rfl;(with_reducible repeat (first | refine blk_drewN ?_ _ | refine blk_drew ?_ | refine blk_alloc ?_ _));exact BK329.out⟩
                          have n2_ : Aside0 (Below w.heap.size w ((((((w37.setCell ⟨gb329,0,none⟩ (.int .i64 ((rd_T26 l0_0 x3_1).f0))).setCell ⟨gb329,1,none⟩ (.string ((rd_T26 l0_0 x3_1).f1))).setCell ⟨gb329,2,none⟩ (.string ((rd_T26 l0_0 x3_1).f2))).setCell ⟨gb329,3,none⟩ (.int .i64 ((rd_T26 l0_0 x3_1).f3))).setCell ⟨gb329,4,none⟩ (.int .i64 ((rd_T26 l0_0 x3_1).f4))).setCell ⟨gb329,5,none⟩ (.int .i64 ((rd_T26 l0_0 x3_1).f5)))) := ⟨by repeat (first | (with_reducible first | exact HB.out | apply below_alloc | apply pw_below_drewN | apply below_drew1 | refine below_set ?_ GE327.out | refine below_set ?_ GE329.out) | exact HB.out)⟩
                          (try clear BK327)
                          (try clear BK329)
                          (try clear HB)
                          generalize ((((((w37.setCell ⟨gb329,0,none⟩ (.int .i64 ((rd_T26 l0_0 x3_1).f0))).setCell ⟨gb329,1,none⟩ (.string ((rd_T26 l0_0 x3_1).f1))).setCell ⟨gb329,2,none⟩ (.string ((rd_T26 l0_0 x3_1).f2))).setCell ⟨gb329,3,none⟩ (.int .i64 ((rd_T26 l0_0 x3_1).f3))).setCell ⟨gb329,4,none⟩ (.int .i64 ((rd_T26 l0_0 x3_1).f4))).setCell ⟨gb329,5,none⟩ (.int .i64 ((rd_T26 l0_0 x3_1).f5))) = w40 at n0_ n1_ n2_ ⊢
                          have BK327 := n0_
                          have BK329 := n1_
                          have HB := n2_
                          clear n0_ n1_ n2_
                          have n0_ := Aside0.mk (blk_drew BK327.out)
                          have n1_ := Aside0.mk (blk_drew BK329.out)
                          have n2_ := Aside0.mk (below_drew1 HB.out)
                          clear BK327;clear BK329;clear HB
                          have BK327 := n0_
                          have BK329 := n1_
                          have HB := n2_
                          clear n0_ n1_ n2_
                          have p336 : 0 ≤ ((ji24) : Int) := of_decide_eq_true (by first | (with_reducible assumption) | assumption)
                          have q336 : (ji24) < (l0_0.length : Int) := of_decide_eq_true (by first | (with_reducible assumption) | assumption)
                          obtain ⟨ad336,e336,hx336_0,hx336_1,hx336_2,hx336_3,hx336_4,hx336_5⟩ := at_T26 HR0_0.out (ji24) p336 q336
                          have hw336_5 := hx336_5
                          have hw336_4 := hx336_4
                          have hw336_3 := hx336_3
                          have hw336_2 := hx336_2
                          have hw336_1 := hx336_1
                          have hw336_0 := hx336_0
                          obtain rfl : ad328 = ad336 := (by injection e336)
                          replace hx336_0 := (HB.out.cell (World.block_lt_of_cell? w _ hx336_0)).trans hx336_0
                          replace hx336_1 := (HB.out.cell (World.block_lt_of_cell? w _ hx336_1)).trans hx336_1
                          replace hx336_2 := (HB.out.cell (World.block_lt_of_cell? w _ hx336_2)).trans hx336_2
                          replace hx336_3 := (HB.out.cell (World.block_lt_of_cell? w _ hx336_3)).trans hx336_3
                          replace hx336_4 := (HB.out.cell (World.block_lt_of_cell? w _ hx336_4)).trans hx336_4
                          replace hx336_5 := (HB.out.cell (World.block_lt_of_cell? w _ hx336_5)).trans hx336_5
                          replace p336 := eq_true p336
                          replace q336 := eq_true q336
                          refine start_ (n := 29) (S := fun w' => w'.cell? ⟨gb329,0,none⟩ = some (.int .i64 ((rd_T26 l0_0 x3_1).f0)) ∧ w'.cell? ⟨gb329,1,none⟩ = some (.string ((rd_T26 l0_0 x3_1).f1)) ∧ w'.cell? ⟨gb329,2,none⟩ = some (.string ((rd_T26 l0_0 x3_1).f2)) ∧ w'.cell? ⟨gb329,3,none⟩ = some (.int .i64 ((rd_T26 l0_0 x3_1).f3)) ∧ w'.cell? ⟨gb329,4,none⟩ = some (.int .i64 ((rd_T26 l0_0 x3_1).f4)) ∧ w'.cell? ⟨gb329,5,none⟩ = some (.int .i64 ((rd_T26 l0_0 x3_1).f5)) ∧ w'.cell? ⟨gb327,0,none⟩ = some (.slice (some ad328) l0_0.length c0_0) ∧ w'.cell? (ad328.add (((ji24)).toNat * 6)) = some (.int .i64 ((rd_T26 l0_0 (ji24)).f0)) ∧ w'.cell? ⟨(ad328.add (((ji24)).toNat * 6)).block,(ad328.add (((ji24)).toNat * 6)).off + 1,none⟩ = some (.string ((rd_T26 l0_0 (ji24)).f1)) ∧ w'.cell? ⟨(ad328.add (((ji24)).toNat * 6)).block,(ad328.add (((ji24)).toNat * 6)).off + 2,none⟩ = some (.string ((rd_T26 l0_0 (ji24)).f2)) ∧ w'.cell? ⟨(ad328.add (((ji24)).toNat * 6)).block,(ad328.add (((ji24)).toNat * 6)).off + 3,none⟩ = some (.int .i64 ((rd_T26 l0_0 (ji24)).f3)) ∧ w'.cell? ⟨(ad328.add (((ji24)).toNat * 6)).block,(ad328.add (((ji24)).toNat * 6)).off + 4,none⟩ = some (.int .i64 ((rd_T26 l0_0 (ji24)).f4)) ∧ w'.cell? ⟨(ad328.add (((ji24)).toNat * 6)).block,(ad328.add (((ji24)).toNat * 6)).off + 5,none⟩ = some (.int .i64 ((rd_T26 l0_0 (ji24)).f5))) (ds := []) #[false,false,false,false,false,false,false,false,false,false,false,false,false,false,false,false,false,false,false,false,false,false,false,false,false,false,false,false,false] (by kernel_rfl) rfl rfl ⟨(blk_cell BK329.out 0).trans rfl,(blk_cell BK329.out 1).trans rfl,(blk_cell BK329.out 2).trans rfl,(blk_cell BK329.out 3).trans rfl,(blk_cell BK329.out 4).trans rfl,(blk_cell BK329.out 5).trans rfl,(blk_cell BK327.out 0).trans rfl,((HB.out.cell (World.block_lt_of_cell? w _ hw336_0)).trans hw336_0),((HB.out.cell (World.block_lt_of_cell? w _ hw336_1)).trans hw336_1),((HB.out.cell (World.block_lt_of_cell? w _ hw336_2)).trans hw336_2),((HB.out.cell (World.block_lt_of_cell? w _ hw336_3)).trans hw336_3),((HB.out.cell (World.block_lt_of_cell? w _ hw336_4)).trans hw336_4),((HB.out.cell (World.block_lt_of_cell? w _ hw336_5)).trans hw336_5)⟩ (fun hHeld => ?_);refine with_tabW wageofficeref39_Valid.tab7 wageofficeref39_Valid.bits7 (fun HT_ HW_ => ?_)
                          generalize w40.drew = w41 at BK327 BK329 HB hx336_0 hx336_1 hx336_2 hx336_3 hx336_4 hx336_5 hHeld ⊢
                          refine take_ (i := 0) (N := some 21) (v := ?_) (a' := ?_) #[true,false,false,false,false,false,false,false,false,false,false,false,false,false,false,false,false,false,false,false,false,false,false,false,false,false,false,false,false] rfl rfl (take_ofW HT_.out HW_.out (by kernel_rfl)) (fun _ _ _ h => h) (Or.inl ⟨by rfl,?_⟩) hHeld ?_ ?_
                          rotate_left
                          · rintro w' ⟨s0,s1,s2,s3,s4,s5,s6,s7,s8,s9,s10,s11,s12⟩
                            go_simp
                            with_reducible rfl
                          rotate_left
                          · simp only [Act.put,List.setIfInBounds_toArray,List.set_cons_zero,List.set_cons_succ,i64_w,i32_w]
                            rfl
                          refine one_ (i := 1) (N := some 22) #[true,true,false,false,false,false,false,false,false,false,false,false,false,false,false,false,false,false,false,false,false,false,false,false,false,false,false,false,false] rfl rfl (one_of HT_.out (by kernel_rfl)) (by decide) (fun K hK => ?_)
                          refine goes_ Try.func51 (by kernel_rfl) rfl #[.agg #[.int .i64 ((rd_T26 l0_0 x3_1).f0),.string ((rd_T26 l0_0 x3_1).f1),.string ((rd_T26 l0_0 x3_1).f2),.int .i64 ((rd_T26 l0_0 x3_1).f3),.int .i64 ((rd_T26 l0_0 x3_1).f4),.int .i64 ((rd_T26 l0_0 x3_1).f5)]] (by rfl) rfl rfl (by (try simp only [List.map_toArray,List.map_cons,List.map_nil]);first | done | rfl | (simp only [List.length_drop,List.length_take];rfl)) ?_
                          with_reducible refine (wageofficeref39_Formed.calls k1 ((rd_T26 l0_0 x3_1).f0) ((rd_T26 l0_0 x3_1).f1) ((rd_T26 l0_0 x3_1).f2) ((rd_T26 l0_0 x3_1).f3) ((rd_T26 l0_0 x3_1).f4) ((rd_T26 l0_0 x3_1).f5) true _ A9.out).mono ?_
                          rintro e w42 ⟨rfl,hb⟩
                          refine ⟨_,rfl,?_⟩
                          have n0_ := Aside0.mk (blk_below (g := gb327) (o := .cells #[.slice (some ad328) l0_0.length c0_0] 24 (0,0)) (by (with_reducible repeat (first | refine blk_drewN ?_ _ | refine blk_drew ?_ | refine blk_alloc ?_ _));exact BK327.out) hb)
                          have n1_ := Aside0.mk (blk_below (g := gb329) (o := .cells #[.int .i64 ((rd_T26 l0_0 x3_1).f0),.string ((rd_T26 l0_0 x3_1).f1),.string ((rd_T26 l0_0 x3_1).f2),.int .i64 ((rd_T26 l0_0 x3_1).f3),.int .i64 ((rd_T26 l0_0 x3_1).f4),.int .i64 ((rd_T26 l0_0 x3_1).f5)] 26 (0,0)) (by (with_reducible repeat (first | refine blk_drewN ?_ _ | refine blk_drew ?_ | refine blk_alloc ?_ _));exact BK329.out) hb)
                          have n2_ := Aside0.mk (below_step (by repeat (first | (with_reducible first | exact HB.out | apply below_alloc | apply pw_below_drewN | apply below_drew1 | refine below_set ?_ GE327.out | refine below_set ?_ GE329.out) | exact HB.out)) hb)
                          clear BK327;clear BK329;clear HB
                          have BK327 := n0_
                          have BK329 := n1_
                          have HB := n2_
                          clear n0_ n1_ n2_
                          (try clear hb)
                          (try clear hb2)
                          (try clear hk)
                          (try clear hi)
                          have q43 : (x3_1 : Int) ≤ ((l0_0.length : Int) : Int) := of_decide_eq_true (by first | (with_reducible assumption) | assumption)
                          obtain ⟨i043,hi043,_,hsz43,_⟩ := info_parts info26
                          have hroom43 : l0_0.length ≤ c0_0 := HC0_0.out
                          have hC43 : Kd.C k26 _ (some ad328) l0_0.length l0_0 := HR0_0.out
                          have hcut43 := cut_to (P := Try.prog) 22 26 .i64 Try.underlying22 hi043 (some ad328) l0_0.length c0_0 x3_1 (of_decide_eq_true (by first | (with_reducible assumption) | assumption)) q43 hroom43
                          have hr43 := Kd.C_take (m := (x3_1 : Int).toNat) hC43 (by omega)
                          have hy43 : y331.length = (x3_1 : Int).toNat := (by rw [Ny331.out,List.length_take];omega)
                          rw [← Ny331.out] at hr43
                          rw [← hy43] at hcut43
                          have HR334 := Aside0.mk hr43
                          have HC334 := Aside0.mk (show y331.length ≤ c0_0 from by omega)
                          clear hr43 hC43 hroom43 hi043 hsz43
                          have KY43 := Aside0.mk hy43
                          clear hy43
                          replace q43 := eq_true q43
                          refine hK.out _ _ ⟨(blk_cell BK329.out 0).trans rfl,(blk_cell BK329.out 1).trans rfl,(blk_cell BK329.out 2).trans rfl,(blk_cell BK329.out 3).trans rfl,(blk_cell BK329.out 4).trans rfl,(blk_cell BK329.out 5).trans rfl,(blk_cell BK327.out 0).trans rfl,((HB.out.cell (World.block_lt_of_cell? w _ hw336_0)).trans hw336_0),((HB.out.cell (World.block_lt_of_cell? w _ hw336_1)).trans hw336_1),((HB.out.cell (World.block_lt_of_cell? w _ hw336_2)).trans hw336_2),((HB.out.cell (World.block_lt_of_cell? w _ hw336_3)).trans hw336_3),((HB.out.cell (World.block_lt_of_cell? w _ hw336_4)).trans hw336_4),((HB.out.cell (World.block_lt_of_cell? w _ hw336_5)).trans hw336_5)⟩ (fun hHeld => ?_)
                          clear hK K
                          refine norm_ (a' := ?_) ?_ ?_
                          rotate_left
                          · show Act.put _ (some 22) _ = _
                            simp only [Act.put,List.setIfInBounds_toArray,List.set_cons_zero,List.set_cons_succ,i64_w,i32_w]
                            rfl
                          refine pure_ (i := 2) (N := some 23) (v := ?_) (a' := ?_) #[true,true,true,false,false,false,false,false,false,false,false,false,false,false,false,false,false,false,false,false,false,false,false,false,false,false,false,false,false] rfl rfl (any_of HT_.out (by kernel_rfl)) (fun _ _ _ h => h) (Or.inl ⟨by rfl,?_⟩) ?_ ?_
                          rotate_left
                          · intro w'
                            go_simp
                            with_reducible rfl
                          rotate_left
                          · simp only [Act.put,List.setIfInBounds_toArray,List.set_cons_zero,List.set_cons_succ,i64_w,i32_w]
                            rfl
                          refine pure_ (i := 3) (N := some 24) (v := ?_) (a' := ?_) #[true,true,true,true,false,false,false,false,false,false,false,false,false,false,false,false,false,false,false,false,false,false,false,false,false,false,false,false,false] rfl rfl (any_of HT_.out (by kernel_rfl)) (fun _ _ _ h => h) (Or.inl ⟨by rfl,?_⟩) ?_ ?_
                          rotate_left
                          · intro w'
                            go_simp
                            with_reducible rfl
                          rotate_left
                          · simp only [Act.put,List.setIfInBounds_toArray,List.set_cons_zero,List.set_cons_succ,i64_w,i32_w]
                            rfl
                          refine pure_ (i := 4) (N := some 25) (v := ?_) (a' := ?_) #[true,true,true,true,true,false,false,false,false,false,false,false,false,false,false,false,false,false,false,false,false,false,false,false,false,false,false,false,false] rfl rfl (any_of HT_.out (by kernel_rfl)) (fun _ _ _ h => h) (Or.inl ⟨by rfl,?_⟩) ?_ ?_
                          rotate_left
                          · intro w'
                            go_simp
                            with_reducible rfl
                          rotate_left
                          · simp only [Act.put,List.setIfInBounds_toArray,List.set_cons_zero,List.set_cons_succ,i64_w,i32_w]
                            rfl
                          refine pure_ (i := 6) (N := some 27) (v := ?_) (a' := ?_) #[true,true,true,true,true,false,true,false,false,false,false,false,false,false,false,false,false,false,false,false,false,false,false,false,false,false,false,false,false] rfl rfl (any_of HT_.out (by kernel_rfl)) (fun _ _ _ h => h) (Or.inl ⟨by rfl,?_⟩) ?_ ?_
                          rotate_left
                          · intro w'
                            go_simp
                            with_reducible rfl
                          rotate_left
                          · simp only [Act.put,List.setIfInBounds_toArray,List.set_cons_zero,List.set_cons_succ,i64_w,i32_w]
                            rfl
                          refine pure_ (i := 8) (N := some 29) (v := ?_) (a' := ?_) #[true,true,true,true,true,false,true,false,true,false,false,false,false,false,false,false,false,false,false,false,false,false,false,false,false,false,false,false,false] rfl rfl (any_of HT_.out (by kernel_rfl)) (fun _ _ _ h => h) (Or.inl ⟨by rfl,?_⟩) ?_ ?_
                          rotate_left
                          · intro w'
                            go_simp
                            with_reducible rfl
                          rotate_left
                          · simp only [Act.put,List.setIfInBounds_toArray,List.set_cons_zero,List.set_cons_succ,i64_w,i32_w]
                            rfl
                          refine take_ (i := 5) (N := some 26) (v := ?_) (a' := ?_) #[true,true,true,true,true,true,true,false,true,false,false,false,false,false,false,false,false,false,false,false,false,false,false,false,false,false,false,false,false] rfl rfl (take_ofW HT_.out HW_.out (by kernel_rfl)) (fun _ _ _ h => h) (Or.inl ⟨by rfl,?_⟩) hHeld ?_ ?_
                          rotate_left
                          · rintro w' ⟨s0,s1,s2,s3,s4,s5,s6,s7,s8,s9,s10,s11,s12⟩
                            go_simp
                            with_reducible rfl
                          rotate_left
                          · simp only [Act.put,List.setIfInBounds_toArray,List.set_cons_zero,List.set_cons_succ,i64_w,i32_w]
                            rfl
                          refine pure_ (i := 7) (N := some 28) (v := ?_) (a' := ?_) #[true,true,true,true,true,true,true,true,true,false,false,false,false,false,false,false,false,false,false,false,false,false,false,false,false,false,false,false,false] rfl rfl (any_of HT_.out (by kernel_rfl)) (fun _ _ _ h => h) (Or.inl ⟨by rfl,?_⟩) ?_ ?_
                          rotate_left
                          · intro w'
                            go_simp
                            with_reducible rfl
                          rotate_left
                          · simp only [Act.put,List.setIfInBounds_toArray,List.set_cons_zero,List.set_cons_succ,i64_w,i32_w]
                            rfl
                          refine take_ (i := 9) (N := some 30) (v := ?_) (a' := ?_) #[true,true,true,true,true,true,true,true,true,true,false,false,false,false,false,false,false,false,false,false,false,false,false,false,false,false,false,false,false] rfl rfl (take_ofW HT_.out HW_.out (by kernel_rfl)) (fun _ _ _ h => h) (Or.inl ⟨by rfl,?_⟩) hHeld ?_ ?_
                          rotate_left
                          · rintro w' ⟨s0,s1,s2,s3,s4,s5,s6,s7,s8,s9,s10,s11,s12⟩
                            go_simp
                            with_reducible rfl
                          rotate_left
                          · simp only [Act.put,List.setIfInBounds_toArray,List.set_cons_zero,List.set_cons_succ,i64_w,i32_w]
                            rfl
                          refine one_ (i := 10) (N := some 31) #[true,true,true,true,true,true,true,true,true,true,true,false,false,false,false,false,false,false,false,false,false,false,false,false,false,false,false,false,false] rfl rfl (one_of HT_.out (by kernel_rfl)) (by decide) (fun K hK => ?_)
                          refine goes_ Try.func52 (by kernel_rfl) rfl #[.slice (some ad328) y331.length c0_0,.int .i64 ((rd_T26 l0_0 x3_1).f0)] (by rfl) rfl rfl (by (try simp only [List.map_toArray,List.map_cons,List.map_nil]);first | done | rfl | (simp only [List.length_drop,List.length_take];rfl)) ?_
                          with_reducible refine (wageofficeref39_find.calls k1 _ _ y331 ((rd_T26 l0_0 x3_1).f0) t335 _ ?side1 ?side2 A13.out).mono ?_
                          (case side1 => repeat (first | exact (Kd.C_below HR334.out HB.out) | (with_reducible refine Kd.C_alloc ?_ _) | (with_reducible refine Kd.C_drewN ?_ _) | (with_reducible refine Kd.C_drew ?_)))
                          (case side2 => exact HC334.out)
                          rintro e w' ⟨rfl,⟨nd,rfl⟩⟩
                          refine ⟨_,rfl,?_⟩
                          refine hK.out _ _ ⟨(blk_cell BK329.out 0).trans rfl,(blk_cell BK329.out 1).trans rfl,(blk_cell BK329.out 2).trans rfl,(blk_cell BK329.out 3).trans rfl,(blk_cell BK329.out 4).trans rfl,(blk_cell BK329.out 5).trans rfl,(blk_cell BK327.out 0).trans rfl,((HB.out.cell (World.block_lt_of_cell? w _ hw336_0)).trans hw336_0),((HB.out.cell (World.block_lt_of_cell? w _ hw336_1)).trans hw336_1),((HB.out.cell (World.block_lt_of_cell? w _ hw336_2)).trans hw336_2),((HB.out.cell (World.block_lt_of_cell? w _ hw336_3)).trans hw336_3),((HB.out.cell (World.block_lt_of_cell? w _ hw336_4)).trans hw336_4),((HB.out.cell (World.block_lt_of_cell? w _ hw336_5)).trans hw336_5)⟩ (fun hHeld => ?_)
                          clear hK K
                          refine norm_ (a' := ?_) ?_ ?_
                          rotate_left
                          · show Act.put _ (some 31) _ = _
                            simp only [Act.put,List.setIfInBounds_toArray,List.set_cons_zero,List.set_cons_succ,i64_w,i32_w]
                            rfl
                          refine pure_ (i := 11) (N := some 32) (v := ?_) (a' := ?_) #[true,true,true,true,true,true,true,true,true,true,true,true,false,false,false,false,false,false,false,false,false,false,false,false,false,false,false,false,false] rfl rfl (any_of HT_.out (by kernel_rfl)) (fun _ _ _ h => h) (Or.inl ⟨by rfl,?_⟩) ?_ ?_
                          rotate_left
                          · intro w'
                            go_simp
                            with_reducible rfl
                          rotate_left
                          · simp only [Act.put,List.setIfInBounds_toArray,List.set_cons_zero,List.set_cons_succ,i64_w,i32_w]
                            rfl
                          refine pure_ (i := 12) (N := some 33) (v := ?_) (a' := ?_) #[true,true,true,true,true,true,true,true,true,true,true,true,true,false,false,false,false,false,false,false,false,false,false,false,false,false,false,false,false] rfl rfl (any_of HT_.out (by kernel_rfl)) (fun _ _ _ h => h) (Or.inl ⟨by rfl,?_⟩) ?_ ?_
                          rotate_left
                          · intro w'
                            go_simp
                            with_reducible rfl
                          rotate_left
                          · simp only [Act.put,List.setIfInBounds_toArray,List.set_cons_zero,List.set_cons_succ,i64_w,i32_w]
                            rfl
                          refine pure_ (i := 13) (N := some 34) (v := ?_) (a' := ?_) #[true,true,true,true,true,true,true,true,true,true,true,true,true,true,false,false,false,false,false,false,false,false,false,false,false,false,false,false,false] rfl rfl (any_of HT_.out (by kernel_rfl)) (fun _ _ _ h => h) (Or.inl ⟨by rfl,?_⟩) ?_ ?_
                          rotate_left
                          · intro w'
                            go_simp
                            with_reducible rfl
                          rotate_left
                          · simp only [Act.put,List.setIfInBounds_toArray,List.set_cons_zero,List.set_cons_succ,i64_w,i32_w]
                            rfl
                          refine pure_ (i := 14) (N := some 35) (v := ?_) (a' := ?_) #[true,true,true,true,true,true,true,true,true,true,true,true,true,true,true,false,false,false,false,false,false,false,false,false,false,false,false,false,false] rfl rfl (any_of HT_.out (by kernel_rfl)) (fun _ _ _ h => h) (Or.inl ⟨by rfl,?_⟩) ?_ ?_
                          rotate_left
                          · intro w'
                            go_simp
                            with_reducible rfl
                          rotate_left
                          · simp only [Act.put,List.setIfInBounds_toArray,List.set_cons_zero,List.set_cons_succ,i64_w,i32_w]
                            rfl
                          refine pure_ (i := 15) (N := some 36) (v := ?_) (a' := ?_) #[true,true,true,true,true,true,true,true,true,true,true,true,true,true,true,true,false,false,false,false,false,false,false,false,false,false,false,false,false] rfl rfl (any_of HT_.out (by kernel_rfl)) (fun _ _ _ h => h) (Or.inl ⟨by rfl,?_⟩) ?_ ?_
                          rotate_left
                          · intro w'
                            go_simp
                            with_reducible rfl
                          rotate_left
                          · simp only [Act.put,List.setIfInBounds_toArray,List.set_cons_zero,List.set_cons_succ,i64_w,i32_w]
                            rfl
                          refine pure_ (i := 16) (N := some 37) (v := ?_) (a' := ?_) #[true,true,true,true,true,true,true,true,true,true,true,true,true,true,true,true,true,false,false,false,false,false,false,false,false,false,false,false,false] rfl rfl (any_of HT_.out (by kernel_rfl)) (fun _ _ _ h => h) (Or.inl ⟨by rfl,?_⟩) ?_ ?_
                          rotate_left
                          · intro w'
                            go_simp
                            with_reducible rfl
                          rotate_left
                          · simp only [Act.put,List.setIfInBounds_toArray,List.set_cons_zero,List.set_cons_succ,i64_w,i32_w]
                            rfl
                          refine pure_ (i := 17) (N := some 38) (v := ?_) (a' := ?_) #[true,true,true,true,true,true,true,true,true,true,true,true,true,true,true,true,true,true,false,false,false,false,false,false,false,false,false,false,false] rfl rfl (any_of HT_.out (by kernel_rfl)) (fun _ _ _ h => h) (Or.inl ⟨by rfl,?_⟩) ?_ ?_
                          rotate_left
                          · intro w'
                            go_simp
                            with_reducible rfl
                          rotate_left
                          · simp only [Act.put,List.setIfInBounds_toArray,List.set_cons_zero,List.set_cons_succ,i64_w,i32_w]
                            rfl
                          refine pure_ (i := 19) (N := some 40) (v := ?_) (a' := ?_) #[true,true,true,true,true,true,true,true,true,true,true,true,true,true,true,true,true,true,false,true,false,false,false,false,false,false,false,false,false] rfl rfl (any_of HT_.out (by kernel_rfl)) (fun _ _ _ h => h) (Or.inl ⟨by rfl,?_⟩) ?_ ?_
                          rotate_left
                          · intro w'
                            go_simp
                            with_reducible rfl
                          rotate_left
                          · simp only [Act.put,List.setIfInBounds_toArray,List.set_cons_zero,List.set_cons_succ,i64_w,i32_w]
                            rfl
                          refine pure_ (i := 21) (N := some 42) (v := ?_) (a' := ?_) #[true,true,true,true,true,true,true,true,true,true,true,true,true,true,true,true,true,true,false,true,false,true,false,false,false,false,false,false,false] rfl rfl (any_of HT_.out (by kernel_rfl)) (fun _ _ _ h => h) (Or.inl ⟨by rfl,?_⟩) ?_ ?_
                          rotate_left
                          · intro w'
                            go_simp
                            with_reducible rfl
                          rotate_left
                          · simp only [Act.put,List.setIfInBounds_toArray,List.set_cons_zero,List.set_cons_succ,i64_w,i32_w]
                            rfl
                          refine pure_ (i := 22) (N := some 43) (v := ?_) (a' := ?_) #[true,true,true,true,true,true,true,true,true,true,true,true,true,true,true,true,true,true,false,true,false,true,true,false,false,false,false,false,false] rfl rfl (any_of HT_.out (by kernel_rfl)) (fun _ _ _ h => h) (Or.inl ⟨by rfl,?_⟩) ?_ ?_
                          rotate_left
                          · intro w'
                            go_simp
                            with_reducible rfl
                          rotate_left
                          · simp only [Act.put,List.setIfInBounds_toArray,List.set_cons_zero,List.set_cons_succ,i64_w,i32_w]
                            rfl
                          refine take_ (i := 18) (N := some 39) (v := ?_) (a' := ?_) #[true,true,true,true,true,true,true,true,true,true,true,true,true,true,true,true,true,true,true,true,false,true,true,false,false,false,false,false,false] rfl rfl (take_ofW HT_.out HW_.out (by kernel_rfl)) (fun _ _ _ h => h) (Or.inl ⟨by rfl,?_⟩) hHeld ?_ ?_
                          rotate_left
                          · rintro w' ⟨s0,s1,s2,s3,s4,s5,s6,s7,s8,s9,s10,s11,s12⟩
                            go_simp
                            with_reducible rfl
                          rotate_left
                          · simp only [Act.put,List.setIfInBounds_toArray,List.set_cons_zero,List.set_cons_succ,i64_w,i32_w]
                            rfl
                          refine take_ (i := 20) (N := some 41) (v := ?_) (a' := ?_) #[true,true,true,true,true,true,true,true,true,true,true,true,true,true,true,true,true,true,true,true,true,true,true,false,false,false,false,false,false] rfl rfl (take_ofW HT_.out HW_.out (by kernel_rfl)) (fun _ _ _ h => h) (Or.inl ⟨by rfl,?_⟩) hHeld ?_ ?_
                          rotate_left
                          · rintro w' ⟨s0,s1,s2,s3,s4,s5,s6,s7,s8,s9,s10,s11,s12⟩
                            go_simp
                            with_reducible rfl
                          rotate_left
                          · simp only [Act.put,List.setIfInBounds_toArray,List.set_cons_zero,List.set_cons_succ,i64_w,i32_w]
                            rfl
                          refine pure_ (i := 23) (N := some 44) (v := ?_) (a' := ?_) #[true,true,true,true,true,true,true,true,true,true,true,true,true,true,true,true,true,true,true,true,true,true,true,true,false,false,false,false,false] rfl rfl (any_of HT_.out (by kernel_rfl)) (fun _ _ _ h => h) (Or.inl ⟨by rfl,?_⟩) ?_ ?_
                          rotate_left
                          · intro w'
                            go_simp
                            with_reducible rfl
                          rotate_left
                          · simp only [Act.put,List.setIfInBounds_toArray,List.set_cons_zero,List.set_cons_succ,i64_w,i32_w]
                            rfl
                          refine pure_ (i := 24) (N := some 45) (v := ?_) (a' := ?_) #[true,true,true,true,true,true,true,true,true,true,true,true,true,true,true,true,true,true,true,true,true,true,true,true,true,false,false,false,false] rfl rfl (any_of HT_.out (by kernel_rfl)) (fun _ _ _ h => h) (Or.inl ⟨by rfl,?_⟩) ?_ ?_
                          rotate_left
                          · intro w'
                            go_simp
                            with_reducible rfl
                          rotate_left
                          · simp only [Act.put,List.setIfInBounds_toArray,List.set_cons_zero,List.set_cons_succ,i64_w,i32_w]
                            rfl
                          refine take_ (i := 25) (N := some 46) (v := ?_) (a' := ?_) #[true,true,true,true,true,true,true,true,true,true,true,true,true,true,true,true,true,true,true,true,true,true,true,true,true,true,false,false,false] rfl rfl (take_ofW HT_.out HW_.out (by kernel_rfl)) (fun _ _ _ h => h) (Or.inl ⟨by rfl,?_⟩) hHeld ?_ ?_
                          rotate_left
                          · rintro w' ⟨s0,s1,s2,s3,s4,s5,s6,s7,s8,s9,s10,s11,s12⟩
                            go_simp
                            with_reducible rfl
                          rotate_left
                          · simp only [Act.put,List.setIfInBounds_toArray,List.set_cons_zero,List.set_cons_succ,i64_w,i32_w]
                            rfl
                          refine pure_ (i := 26) (N := some 47) (v := ?_) (a' := ?_) #[true,true,true,true,true,true,true,true,true,true,true,true,true,true,true,true,true,true,true,true,true,true,true,true,true,true,true,false,false] rfl rfl (any_of HT_.out (by kernel_rfl)) (fun _ _ _ h => h) (Or.inl ⟨by rfl,?_⟩) ?_ ?_
                          rotate_left
                          · intro w'
                            go_simp
                            with_reducible rfl
                          rotate_left
                          · simp only [Act.put,List.setIfInBounds_toArray,List.set_cons_zero,List.set_cons_succ,i64_w,i32_w]
                            rfl
                          refine pure_ (i := 27) (N := some 48) (v := ?_) (a' := ?_) #[true,true,true,true,true,true,true,true,true,true,true,true,true,true,true,true,true,true,true,true,true,true,true,true,true,true,true,true,false] rfl rfl (any_of HT_.out (by kernel_rfl)) (fun _ _ _ h => h) (Or.inl ⟨by rfl,?_⟩) ?_ ?_
                          rotate_left
                          · intro w'
                            go_simp
                            with_reducible rfl
                          rotate_left
                          · simp only [Act.put,List.setIfInBounds_toArray,List.set_cons_zero,List.set_cons_succ,i64_w,i32_w]
                            rfl
                          refine pure_ (i := 28) (N := some 49) (v := ?_) (a' := ?_) #[true,true,true,true,true,true,true,true,true,true,true,true,true,true,true,true,true,true,true,true,true,true,true,true,true,true,true,true,true] rfl rfl (any_of HT_.out (by kernel_rfl)) (fun _ _ _ h => h) (Or.inl ⟨by rfl,?_⟩) ?_ ?_
                          rotate_left
                          · intro w'
                            go_simp
                            with_reducible rfl
                          rotate_left
                          · simp only [Act.put,List.setIfInBounds_toArray,List.set_cons_zero,List.set_cons_succ,i64_w,i32_w]
                            rfl
                          refine done_ (done_of HT_.out (by kernel_rfl)) ?_
                          try go_wp2
                          go_roundg k1
                          case measure => have := HK1.out;omega
                          case rel => exact ⟨(wrap64 (x3_1 + 1)),(by first | rfl | (simp;done) | (simp [*];done)),H',⟨by have := HK1.out;omega⟩,⟨by (with_reducible repeat (first | refine blk_drewN ?_ _ | refine blk_drew ?_ | refine blk_alloc ?_ _));exact BK327.out⟩,⟨by repeat (first | (with_reducible first | exact HB.out | apply below_alloc | apply pw_below_drewN | apply below_drew1 | refine below_set ?_ GE327.out | refine below_set ?_ GE329.out) | exact HB.out)⟩⟩
                      · rw [if_neg c26] at H
                        exact absurd H (by simp)
                    · rw [if_neg c25] at H
                      exact absurd H (by simp)
                  · rw [if_neg c23] at H
                    have c23b0 : decide (0 < x3_1) = false := decide_eq_false c23
                    clear c23
                    have H' := Aside0.mk H
                    clear H;have hcz44_0 : wr.cell? ⟨gb327,0,none⟩ = some (.slice A0_0 l0_0.length c0_0) := (blk_cell BK327.out 0).trans rfl;have hfz44_0 := blk_frozen BK327.out 0
                    have p328 : 0 ≤ (x3_1 : Int) := of_decide_eq_true (by first | (with_reducible assumption) | assumption)
                    have q328 : x3_1 < (l0_0.length : Int) := of_decide_eq_true (by first | (with_reducible assumption) | assumption)
                    obtain ⟨ad328,e328,hx328_0,hx328_1,hx328_2,hx328_3,hx328_4,hx328_5⟩ := at_T26 HR0_0.out x3_1 p328 q328
                    cases e328
                    replace hx328_0 := (HB.out.cell (World.block_lt_of_cell? w _ hx328_0)).trans hx328_0
                    replace hx328_1 := (HB.out.cell (World.block_lt_of_cell? w _ hx328_1)).trans hx328_1
                    replace hx328_2 := (HB.out.cell (World.block_lt_of_cell? w _ hx328_2)).trans hx328_2
                    replace hx328_3 := (HB.out.cell (World.block_lt_of_cell? w _ hx328_3)).trans hx328_3
                    replace hx328_4 := (HB.out.cell (World.block_lt_of_cell? w _ hx328_4)).trans hx328_4
                    replace hx328_5 := (HB.out.cell (World.block_lt_of_cell? w _ hx328_5)).trans hx328_5
                    replace p328 := eq_true p328
                    replace q328 := eq_true q328
                    try go_wp2_with (first | ((with_reducible refine gate_dst (N := 4) rfl ?_);refine box_event ?hg (N := 4) ?hd (cs := #[.int .i64 0,.string (⟨#[]⟩ : ByteArray),.string (⟨#[]⟩ : ByteArray),.int .i64 0,.int .i64 0,.int .i64 0]) (t := 26) ?hr ?_;(case hd => rfl);(case hg => rfl);(case hr => first | (go_simp;done) | (go_simp;rfl));intro gb329 hg w45 hbox hb;have n0_ := Aside0.mk (blk_below (g := gb327) (o := .cells #[.slice (some ad328) l0_0.length c0_0] 24 (0,0)) (by (with_reducible repeat (first | refine blk_drewN ?_ _ | refine blk_drew ?_ | refine blk_alloc ?_ _));exact BK327.out) hb);have n1_ := Aside0.mk (below_step (by repeat (first | (with_reducible first | exact HB.out | apply below_alloc | apply pw_below_drewN | apply below_drew1 | refine below_set ?_ GE327.out) | exact HB.out)) hb);have n2_ := Aside0.mk (hbox);have n3_ := Aside0.mk ((by rw [hg];exact (below_size (by repeat (first | (with_reducible first | exact HB.out | apply below_alloc | apply pw_below_drewN | apply below_drew1 | refine below_set ?_ GE327.out) | exact HB.out))) : w.heap.size ≤ gb329));have n4_ := Aside0.mk ((by rw [hg];exact (below_size (by repeat (first | (with_reducible first | exact HB.out | apply below_alloc | apply pw_below_drewN | apply below_drew1 | refine below_set ?_ GE327.out) | exact HB.out))) : w.heap.size ≤ gb329));have n5_ := Aside0.mk ((by rw [hg];exact Nat.ne_of_lt (blk_lt (g := gb327) (o := .cells #[.slice (some ad328) l0_0.length c0_0] 24 (0,0)) (by (with_reducible repeat (first | refine blk_drewN ?_ _ | refine blk_drew ?_ | refine blk_alloc ?_ _));exact BK327.out)) : gb327 ≠ gb329));have n6_ := Aside0.mk ((by rw [hg];exact Nat.ne_of_gt (blk_lt (g := gb327) (o := .cells #[.slice (some ad328) l0_0.length c0_0] 24 (0,0)) (by (with_reducible repeat (first | refine blk_drewN ?_ _ | refine blk_drew ?_ | refine blk_alloc ?_ _));exact BK327.out)) : gb329 ≠ gb327));clear BK327;clear HB;have BK327 := n0_;have HB := n1_;have BK329 := n2_;have GW329 := n3_;have GE329 := n4_;have NB327_329 := n5_;have NB329_327 := n6_;clear n0_ n1_ n2_ n3_ n4_ n5_ n6_;clear hb hbox hg;have hnb46 := NB329_327.out;have hnc46 := NB327_329.out;have hcz47_0 : w45.cell? ⟨gb329,0,none⟩ = some (.int .i64 0) := (blk_cell BK329.out 0).trans rfl;have hcz47_1 : w45.cell? ⟨gb329,1,none⟩ = some (.string (⟨#[]⟩ : ByteArray)) := (blk_cell BK329.out 1).trans rfl;have hcz47_2 : w45.cell? ⟨gb329,2,none⟩ = some (.string (⟨#[]⟩ : ByteArray)) := (blk_cell BK329.out 2).trans rfl;have hcz47_3 : w45.cell? ⟨gb329,3,none⟩ = some (.int .i64 0) := (blk_cell BK329.out 3).trans rfl;have hcz47_4 : w45.cell? ⟨gb329,4,none⟩ = some (.int .i64 0) := (blk_cell BK329.out 4).trans rfl;have hcz47_5 : w45.cell? ⟨gb329,5,none⟩ = some (.int .i64 0) := (blk_cell BK329.out 5).trans rfl;have hfz47_0 := blk_frozen BK329.out 0;have hfz47_1 := blk_frozen BK329.out 1;have hfz47_2 := blk_frozen BK329.out 2;have hfz47_3 := blk_frozen BK329.out 3;have hfz47_4 := blk_frozen BK329.out 4;have hfz47_5 := blk_frozen BK329.out 5))
                    have n0_ : Aside0 (((((((w45.setCell ⟨gb329,0,none⟩ (.int .i64 ((rd_T26 l0_0 x3_1).f0))).setCell ⟨gb329,1,none⟩ (.string ((rd_T26 l0_0 x3_1).f1))).setCell ⟨gb329,2,none⟩ (.string ((rd_T26 l0_0 x3_1).f2))).setCell ⟨gb329,3,none⟩ (.int .i64 ((rd_T26 l0_0 x3_1).f3))).setCell ⟨gb329,4,none⟩ (.int .i64 ((rd_T26 l0_0 x3_1).f4))).setCell ⟨gb329,5,none⟩ (.int .i64 ((rd_T26 l0_0 x3_1).f5))).heap[gb327]? = some (.cells #[.slice (some ad328) l0_0.length c0_0] 24 (0,0))) := ⟨by (with_reducible repeat (first | refine blk_drewN ?_ _ | refine blk_drew ?_ | refine blk_alloc ?_ _));refine blk_far ?_ NB327_329.out _;(with_reducible repeat (first | refine blk_drewN ?_ _ | refine blk_drew ?_ | refine blk_alloc ?_ _));refine blk_far ?_ NB327_329.out _;(with_reducible repeat (first | refine blk_drewN ?_ _ | refine blk_drew ?_ | refine blk_alloc ?_ _));refine blk_far ?_ NB327_329.out _;(with_reducible repeat (first | refine blk_drewN ?_ _ | refine blk_drew ?_ | refine blk_alloc ?_ _));refine blk_far ?_ NB327_329.out _;(with_reducible repeat (first | refine blk_drewN ?_ _ | refine blk_drew ?_ | refine blk_alloc ?_ _));refine blk_far ?_ NB327_329.out _;(with_reducible repeat (first | refine blk_drewN ?_ _ | refine blk_drew ?_ | refine blk_alloc ?_ _));refine blk_far ?_ NB327_329.out _;(with_reducible repeat (first | refine blk_drewN ?_ _ | refine blk_drew ?_ | refine blk_alloc ?_ _));exact BK327.out⟩
                    have n1_ : Aside0 (((((((w45.setCell ⟨gb329,0,none⟩ (.int .i64 ((rd_T26 l0_0 x3_1).f0))).setCell ⟨gb329,1,none⟩ (.string ((rd_T26 l0_0 x3_1).f1))).setCell ⟨gb329,2,none⟩ (.string ((rd_T26 l0_0 x3_1).f2))).setCell ⟨gb329,3,none⟩ (.int .i64 ((rd_T26 l0_0 x3_1).f3))).setCell ⟨gb329,4,none⟩ (.int .i64 ((rd_T26 l0_0 x3_1).f4))).setCell ⟨gb329,5,none⟩ (.int .i64 ((rd_T26 l0_0 x3_1).f5))).heap[gb329]? = some (.cells #[.int .i64 ((rd_T26 l0_0 x3_1).f0),.string ((rd_T26 l0_0 x3_1).f1),.string ((rd_T26 l0_0 x3_1).f2),.int .i64 ((rd_T26 l0_0 x3_1).f3),.int .i64 ((rd_T26 l0_0 x3_1).f4),.int .i64 ((rd_T26 l0_0 x3_1).f5)] 26 (0,0))) := ⟨by (with_reducible repeat (first | refine blk_drewN ?_ _ | refine blk_drew ?_ | refine blk_alloc ?_ _));refine blk_put (cs := #[.int .i64 ((rd_T26 l0_0 x3_1).f0),.string ((rd_T26 l0_0 x3_1).f1),.string ((rd_T26 l0_0 x3_1).f2),.int .i64 ((rd_T26 l0_0 x3_1).f3),.int .i64 ((rd_T26 l0_0 x3_1).f4),.int .i64 0]) ?_ 5 _ rfl;(with_reducible repeat (first | refine blk_drewN ?_ _ | refine blk_drew ?_ | refine blk_alloc ?_ _));refine blk_put (cs := #[.int .i64 ((rd_T26 l0_0 x3_1).f0),.string ((rd_T26 l0_0 x3_1).f1),.string ((rd_T26 l0_0 x3_1).f2),.int .i64 ((rd_T26 l0_0 x3_1).f3),.int .i64 0,.int .i64 0]) ?_ 4 _ rfl;(with_reducible repeat (first | refine blk_drewN ?_ _ | refine blk_drew ?_ | refine blk_alloc ?_ _));refine blk_put (cs := #[.int .i64 ((rd_T26 l0_0 x3_1).f0),.string ((rd_T26 l0_0 x3_1).f1),.string ((rd_T26 l0_0 x3_1).f2),.int .i64 0,.int .i64 0,.int .i64 0]) ?_ 3 _ rfl;(with_reducible repeat (first | refine blk_drewN ?_ _ | refine blk_drew ?_ | refine blk_alloc ?_ _));refine blk_put (cs := #[.int .i64 ((rd_T26 l0_0 x3_1).f0),.string ((rd_T26 l0_0 x3_1).f1),.string (⟨#[]⟩ : ByteArray),.int .i64 0,.int .i64 0,.int .i64 0]) ?_ 2 _ rfl;(with_reducible repeat (first | refine blk_drewN ?_ _ | refine blk_drew ?_ | refine blk_alloc ?_ _));refine blk_put (cs := #[.int .i64 ((rd_T26 l0_0 x3_1).f0),.string (⟨#[]⟩ : ByteArray),.string (⟨#[]⟩ : ByteArray),.int .i64 0,.int .i64 0,.int .i64 0]) ?_ 1 _ rfl;(with_reducible repeat (first | refine blk_drewN ?_ _ | refine blk_drew ?_ | refine blk_alloc ?_ _));refine blk_put (cs := #[.int .i64 0,.string (⟨#[]⟩ : ByteArray),.string (⟨#[]⟩ : ByteArray),.int .i64 0,.int .i64 0,.int .i64 0]) ?_ 0 _ rfl;(with_reducible repeat (first | refine blk_drewN ?_ _ | refine blk_drew ?_ | refine blk_alloc ?_ _));exact BK329.out⟩
                    have n2_ : Aside0 (Below w.heap.size w ((((((w45.setCell ⟨gb329,0,none⟩ (.int .i64 ((rd_T26 l0_0 x3_1).f0))).setCell ⟨gb329,1,none⟩ (.string ((rd_T26 l0_0 x3_1).f1))).setCell ⟨gb329,2,none⟩ (.string ((rd_T26 l0_0 x3_1).f2))).setCell ⟨gb329,3,none⟩ (.int .i64 ((rd_T26 l0_0 x3_1).f3))).setCell ⟨gb329,4,none⟩ (.int .i64 ((rd_T26 l0_0 x3_1).f4))).setCell ⟨gb329,5,none⟩ (.int .i64 ((rd_T26 l0_0 x3_1).f5)))) := ⟨by repeat (first | (with_reducible first | exact HB.out | apply below_alloc | apply pw_below_drewN | apply below_drew1 | refine below_set ?_ GE327.out | refine below_set ?_ GE329.out) | exact HB.out)⟩
                    (try clear BK327)
                    (try clear BK329)
                    (try clear HB)
                    generalize ((((((w45.setCell ⟨gb329,0,none⟩ (.int .i64 ((rd_T26 l0_0 x3_1).f0))).setCell ⟨gb329,1,none⟩ (.string ((rd_T26 l0_0 x3_1).f1))).setCell ⟨gb329,2,none⟩ (.string ((rd_T26 l0_0 x3_1).f2))).setCell ⟨gb329,3,none⟩ (.int .i64 ((rd_T26 l0_0 x3_1).f3))).setCell ⟨gb329,4,none⟩ (.int .i64 ((rd_T26 l0_0 x3_1).f4))).setCell ⟨gb329,5,none⟩ (.int .i64 ((rd_T26 l0_0 x3_1).f5))) = w48 at n0_ n1_ n2_ ⊢
                    have BK327 := n0_
                    have BK329 := n1_
                    have HB := n2_
                    clear n0_ n1_ n2_
                    have n0_ := Aside0.mk (blk_drew BK327.out)
                    have n1_ := Aside0.mk (blk_drew BK329.out)
                    have n2_ := Aside0.mk (below_drew1 HB.out)
                    clear BK327;clear BK329;clear HB
                    have BK327 := n0_
                    have BK329 := n1_
                    have HB := n2_
                    clear n0_ n1_ n2_
                    refine start_ (n := 29) (S := fun w' => w'.cell? ⟨gb329,0,none⟩ = some (.int .i64 ((rd_T26 l0_0 x3_1).f0)) ∧ w'.cell? ⟨gb329,1,none⟩ = some (.string ((rd_T26 l0_0 x3_1).f1)) ∧ w'.cell? ⟨gb329,2,none⟩ = some (.string ((rd_T26 l0_0 x3_1).f2)) ∧ w'.cell? ⟨gb329,3,none⟩ = some (.int .i64 ((rd_T26 l0_0 x3_1).f3)) ∧ w'.cell? ⟨gb329,4,none⟩ = some (.int .i64 ((rd_T26 l0_0 x3_1).f4)) ∧ w'.cell? ⟨gb329,5,none⟩ = some (.int .i64 ((rd_T26 l0_0 x3_1).f5)) ∧ w'.cell? ⟨gb327,0,none⟩ = some (.slice (some ad328) l0_0.length c0_0)) (ds := []) #[false,false,false,false,false,false,false,false,false,false,false,false,false,false,false,false,false,false,false,false,false,false,false,false,false,false,false,false,false] (by kernel_rfl) rfl rfl ⟨(blk_cell BK329.out 0).trans rfl,(blk_cell BK329.out 1).trans rfl,(blk_cell BK329.out 2).trans rfl,(blk_cell BK329.out 3).trans rfl,(blk_cell BK329.out 4).trans rfl,(blk_cell BK329.out 5).trans rfl,(blk_cell BK327.out 0).trans rfl⟩ (fun hHeld => ?_);refine with_tabW wageofficeref39_Valid.tab7 wageofficeref39_Valid.bits7 (fun HT_ HW_ => ?_)
                    generalize w48.drew = w49 at BK327 BK329 HB hHeld ⊢
                    refine take_ (i := 0) (N := some 21) (v := ?_) (a' := ?_) #[true,false,false,false,false,false,false,false,false,false,false,false,false,false,false,false,false,false,false,false,false,false,false,false,false,false,false,false,false] rfl rfl (take_ofW HT_.out HW_.out (by kernel_rfl)) (fun _ _ _ h => h) (Or.inl ⟨by rfl,?_⟩) hHeld ?_ ?_
                    rotate_left
                    · rintro w' ⟨s0,s1,s2,s3,s4,s5,s6⟩
                      go_simp
                      with_reducible rfl
                    rotate_left
                    · simp only [Act.put,List.setIfInBounds_toArray,List.set_cons_zero,List.set_cons_succ,i64_w,i32_w]
                      rfl
                    refine one_ (i := 1) (N := some 22) #[true,true,false,false,false,false,false,false,false,false,false,false,false,false,false,false,false,false,false,false,false,false,false,false,false,false,false,false,false] rfl rfl (one_of HT_.out (by kernel_rfl)) (by decide) (fun K hK => ?_)
                    refine goes_ Try.func51 (by kernel_rfl) rfl #[.agg #[.int .i64 ((rd_T26 l0_0 x3_1).f0),.string ((rd_T26 l0_0 x3_1).f1),.string ((rd_T26 l0_0 x3_1).f2),.int .i64 ((rd_T26 l0_0 x3_1).f3),.int .i64 ((rd_T26 l0_0 x3_1).f4),.int .i64 ((rd_T26 l0_0 x3_1).f5)]] (by rfl) rfl rfl (by (try simp only [List.map_toArray,List.map_cons,List.map_nil]);first | done | rfl | (simp only [List.length_drop,List.length_take];rfl)) ?_
                    with_reducible refine (wageofficeref39_Formed.calls k1 ((rd_T26 l0_0 x3_1).f0) ((rd_T26 l0_0 x3_1).f1) ((rd_T26 l0_0 x3_1).f2) ((rd_T26 l0_0 x3_1).f3) ((rd_T26 l0_0 x3_1).f4) ((rd_T26 l0_0 x3_1).f5) true _ A9.out).mono ?_
                    rintro e w50 ⟨rfl,hb⟩
                    refine ⟨_,rfl,?_⟩
                    have n0_ := Aside0.mk (blk_below (g := gb327) (o := .cells #[.slice (some ad328) l0_0.length c0_0] 24 (0,0)) (by (with_reducible repeat (first | refine blk_drewN ?_ _ | refine blk_drew ?_ | refine blk_alloc ?_ _));exact BK327.out) hb)
                    have n1_ := Aside0.mk (blk_below (g := gb329) (o := .cells #[.int .i64 ((rd_T26 l0_0 x3_1).f0),.string ((rd_T26 l0_0 x3_1).f1),.string ((rd_T26 l0_0 x3_1).f2),.int .i64 ((rd_T26 l0_0 x3_1).f3),.int .i64 ((rd_T26 l0_0 x3_1).f4),.int .i64 ((rd_T26 l0_0 x3_1).f5)] 26 (0,0)) (by (with_reducible repeat (first | refine blk_drewN ?_ _ | refine blk_drew ?_ | refine blk_alloc ?_ _));exact BK329.out) hb)
                    have n2_ := Aside0.mk (below_step (by repeat (first | (with_reducible first | exact HB.out | apply below_alloc | apply pw_below_drewN | apply below_drew1 | refine below_set ?_ GE327.out | refine below_set ?_ GE329.out) | exact HB.out)) hb)
                    clear BK327;clear BK329;clear HB
                    have BK327 := n0_
                    have BK329 := n1_
                    have HB := n2_
                    clear n0_ n1_ n2_
                    (try clear hb)
                    (try clear hb2)
                    (try clear hk)
                    (try clear hi)
                    have q51 : (x3_1 : Int) ≤ ((l0_0.length : Int) : Int) := of_decide_eq_true (by first | (with_reducible assumption) | assumption)
                    obtain ⟨i051,hi051,_,hsz51,_⟩ := info_parts info26
                    have hroom51 : l0_0.length ≤ c0_0 := HC0_0.out
                    have hC51 : Kd.C k26 _ (some ad328) l0_0.length l0_0 := HR0_0.out
                    have hcut51 := cut_to (P := Try.prog) 22 26 .i64 Try.underlying22 hi051 (some ad328) l0_0.length c0_0 x3_1 (of_decide_eq_true (by first | (with_reducible assumption) | assumption)) q51 hroom51
                    have hr51 := Kd.C_take (m := (x3_1 : Int).toNat) hC51 (by omega)
                    have hy51 : y331.length = (x3_1 : Int).toNat := (by rw [Ny331.out,List.length_take];omega)
                    rw [← Ny331.out] at hr51
                    rw [← hy51] at hcut51
                    have HR334 := Aside0.mk hr51
                    have HC334 := Aside0.mk (show y331.length ≤ c0_0 from by omega)
                    clear hr51 hC51 hroom51 hi051 hsz51
                    have KY51 := Aside0.mk hy51
                    clear hy51
                    replace q51 := eq_true q51
                    refine hK.out _ _ ⟨(blk_cell BK329.out 0).trans rfl,(blk_cell BK329.out 1).trans rfl,(blk_cell BK329.out 2).trans rfl,(blk_cell BK329.out 3).trans rfl,(blk_cell BK329.out 4).trans rfl,(blk_cell BK329.out 5).trans rfl,(blk_cell BK327.out 0).trans rfl⟩ (fun hHeld => ?_)
                    clear hK K
                    refine norm_ (a' := ?_) ?_ ?_
                    rotate_left
                    · show Act.put _ (some 22) _ = _
                      simp only [Act.put,List.setIfInBounds_toArray,List.set_cons_zero,List.set_cons_succ,i64_w,i32_w]
                      rfl
                    refine pure_ (i := 2) (N := some 23) (v := ?_) (a' := ?_) #[true,true,true,false,false,false,false,false,false,false,false,false,false,false,false,false,false,false,false,false,false,false,false,false,false,false,false,false,false] rfl rfl (any_of HT_.out (by kernel_rfl)) (fun _ _ _ h => h) (Or.inl ⟨by rfl,?_⟩) ?_ ?_
                    rotate_left
                    · intro w'
                      go_simp
                      with_reducible rfl
                    rotate_left
                    · simp only [Act.put,List.setIfInBounds_toArray,List.set_cons_zero,List.set_cons_succ,i64_w,i32_w]
                      rfl
                    refine pure_ (i := 3) (N := some 24) (v := ?_) (a' := ?_) #[true,true,true,true,false,false,false,false,false,false,false,false,false,false,false,false,false,false,false,false,false,false,false,false,false,false,false,false,false] rfl rfl (any_of HT_.out (by kernel_rfl)) (fun _ _ _ h => h) (Or.inl ⟨by rfl,?_⟩) ?_ ?_
                    rotate_left
                    · intro w'
                      go_simp
                      with_reducible rfl
                    rotate_left
                    · simp only [Act.put,List.setIfInBounds_toArray,List.set_cons_zero,List.set_cons_succ,i64_w,i32_w]
                      rfl
                    refine pure_ (i := 4) (N := some 25) (v := ?_) (a' := ?_) #[true,true,true,true,true,false,false,false,false,false,false,false,false,false,false,false,false,false,false,false,false,false,false,false,false,false,false,false,false] rfl rfl (any_of HT_.out (by kernel_rfl)) (fun _ _ _ h => h) (Or.inl ⟨by rfl,?_⟩) ?_ ?_
                    rotate_left
                    · intro w'
                      go_simp
                      with_reducible rfl
                    rotate_left
                    · simp only [Act.put,List.setIfInBounds_toArray,List.set_cons_zero,List.set_cons_succ,i64_w,i32_w]
                      rfl
                    refine pure_ (i := 6) (N := some 27) (v := ?_) (a' := ?_) #[true,true,true,true,true,false,true,false,false,false,false,false,false,false,false,false,false,false,false,false,false,false,false,false,false,false,false,false,false] rfl rfl (any_of HT_.out (by kernel_rfl)) (fun _ _ _ h => h) (Or.inl ⟨by rfl,?_⟩) ?_ ?_
                    rotate_left
                    · intro w'
                      go_simp
                      with_reducible rfl
                    rotate_left
                    · simp only [Act.put,List.setIfInBounds_toArray,List.set_cons_zero,List.set_cons_succ,i64_w,i32_w]
                      rfl
                    refine pure_ (i := 8) (N := some 29) (v := ?_) (a' := ?_) #[true,true,true,true,true,false,true,false,true,false,false,false,false,false,false,false,false,false,false,false,false,false,false,false,false,false,false,false,false] rfl rfl (any_of HT_.out (by kernel_rfl)) (fun _ _ _ h => h) (Or.inl ⟨by rfl,?_⟩) ?_ ?_
                    rotate_left
                    · intro w'
                      go_simp
                      with_reducible rfl
                    rotate_left
                    · simp only [Act.put,List.setIfInBounds_toArray,List.set_cons_zero,List.set_cons_succ,i64_w,i32_w]
                      rfl
                    refine take_ (i := 5) (N := some 26) (v := ?_) (a' := ?_) #[true,true,true,true,true,true,true,false,true,false,false,false,false,false,false,false,false,false,false,false,false,false,false,false,false,false,false,false,false] rfl rfl (take_ofW HT_.out HW_.out (by kernel_rfl)) (fun _ _ _ h => h) (Or.inl ⟨by rfl,?_⟩) hHeld ?_ ?_
                    rotate_left
                    · rintro w' ⟨s0,s1,s2,s3,s4,s5,s6⟩
                      go_simp
                      with_reducible rfl
                    rotate_left
                    · simp only [Act.put,List.setIfInBounds_toArray,List.set_cons_zero,List.set_cons_succ,i64_w,i32_w]
                      rfl
                    refine pure_ (i := 7) (N := some 28) (v := ?_) (a' := ?_) #[true,true,true,true,true,true,true,true,true,false,false,false,false,false,false,false,false,false,false,false,false,false,false,false,false,false,false,false,false] rfl rfl (any_of HT_.out (by kernel_rfl)) (fun _ _ _ h => h) (Or.inl ⟨by rfl,?_⟩) ?_ ?_
                    rotate_left
                    · intro w'
                      go_simp
                      with_reducible rfl
                    rotate_left
                    · simp only [Act.put,List.setIfInBounds_toArray,List.set_cons_zero,List.set_cons_succ,i64_w,i32_w]
                      rfl
                    refine take_ (i := 9) (N := some 30) (v := ?_) (a' := ?_) #[true,true,true,true,true,true,true,true,true,true,false,false,false,false,false,false,false,false,false,false,false,false,false,false,false,false,false,false,false] rfl rfl (take_ofW HT_.out HW_.out (by kernel_rfl)) (fun _ _ _ h => h) (Or.inl ⟨by rfl,?_⟩) hHeld ?_ ?_
                    rotate_left
                    · rintro w' ⟨s0,s1,s2,s3,s4,s5,s6⟩
                      go_simp
                      with_reducible rfl
                    rotate_left
                    · simp only [Act.put,List.setIfInBounds_toArray,List.set_cons_zero,List.set_cons_succ,i64_w,i32_w]
                      rfl
                    refine one_ (i := 10) (N := some 31) #[true,true,true,true,true,true,true,true,true,true,true,false,false,false,false,false,false,false,false,false,false,false,false,false,false,false,false,false,false] rfl rfl (one_of HT_.out (by kernel_rfl)) (by decide) (fun K hK => ?_)
                    refine goes_ Try.func52 (by kernel_rfl) rfl #[.slice (some ad328) y331.length c0_0,.int .i64 ((rd_T26 l0_0 x3_1).f0)] (by rfl) rfl rfl (by (try simp only [List.map_toArray,List.map_cons,List.map_nil]);first | done | rfl | (simp only [List.length_drop,List.length_take];rfl)) ?_
                    with_reducible refine (wageofficeref39_find.calls k1 _ _ y331 ((rd_T26 l0_0 x3_1).f0) t335 _ ?side1 ?side2 A13.out).mono ?_
                    (case side1 => repeat (first | exact (Kd.C_below HR334.out HB.out) | (with_reducible refine Kd.C_alloc ?_ _) | (with_reducible refine Kd.C_drewN ?_ _) | (with_reducible refine Kd.C_drew ?_)))
                    (case side2 => exact HC334.out)
                    rintro e w' ⟨rfl,⟨nd,rfl⟩⟩
                    refine ⟨_,rfl,?_⟩
                    refine hK.out _ _ ⟨(blk_cell BK329.out 0).trans rfl,(blk_cell BK329.out 1).trans rfl,(blk_cell BK329.out 2).trans rfl,(blk_cell BK329.out 3).trans rfl,(blk_cell BK329.out 4).trans rfl,(blk_cell BK329.out 5).trans rfl,(blk_cell BK327.out 0).trans rfl⟩ (fun hHeld => ?_)
                    clear hK K
                    refine norm_ (a' := ?_) ?_ ?_
                    rotate_left
                    · show Act.put _ (some 31) _ = _
                      simp only [Act.put,List.setIfInBounds_toArray,List.set_cons_zero,List.set_cons_succ,i64_w,i32_w]
                      rfl
                    refine pure_ (i := 11) (N := some 32) (v := ?_) (a' := ?_) #[true,true,true,true,true,true,true,true,true,true,true,true,false,false,false,false,false,false,false,false,false,false,false,false,false,false,false,false,false] rfl rfl (any_of HT_.out (by kernel_rfl)) (fun _ _ _ h => h) (Or.inl ⟨by rfl,?_⟩) ?_ ?_
                    rotate_left
                    · intro w'
                      go_simp
                      with_reducible rfl
                    rotate_left
                    · simp only [Act.put,List.setIfInBounds_toArray,List.set_cons_zero,List.set_cons_succ,i64_w,i32_w]
                      rfl
                    refine pure_ (i := 12) (N := some 33) (v := ?_) (a' := ?_) #[true,true,true,true,true,true,true,true,true,true,true,true,true,false,false,false,false,false,false,false,false,false,false,false,false,false,false,false,false] rfl rfl (any_of HT_.out (by kernel_rfl)) (fun _ _ _ h => h) (Or.inl ⟨by rfl,?_⟩) ?_ ?_
                    rotate_left
                    · intro w'
                      go_simp
                      with_reducible rfl
                    rotate_left
                    · simp only [Act.put,List.setIfInBounds_toArray,List.set_cons_zero,List.set_cons_succ,i64_w,i32_w]
                      rfl
                    refine pure_ (i := 13) (N := some 34) (v := ?_) (a' := ?_) #[true,true,true,true,true,true,true,true,true,true,true,true,true,true,false,false,false,false,false,false,false,false,false,false,false,false,false,false,false] rfl rfl (any_of HT_.out (by kernel_rfl)) (fun _ _ _ h => h) (Or.inl ⟨by rfl,?_⟩) ?_ ?_
                    rotate_left
                    · intro w'
                      go_simp
                      with_reducible rfl
                    rotate_left
                    · simp only [Act.put,List.setIfInBounds_toArray,List.set_cons_zero,List.set_cons_succ,i64_w,i32_w]
                      rfl
                    refine pure_ (i := 14) (N := some 35) (v := ?_) (a' := ?_) #[true,true,true,true,true,true,true,true,true,true,true,true,true,true,true,false,false,false,false,false,false,false,false,false,false,false,false,false,false] rfl rfl (any_of HT_.out (by kernel_rfl)) (fun _ _ _ h => h) (Or.inl ⟨by rfl,?_⟩) ?_ ?_
                    rotate_left
                    · intro w'
                      go_simp
                      with_reducible rfl
                    rotate_left
                    · simp only [Act.put,List.setIfInBounds_toArray,List.set_cons_zero,List.set_cons_succ,i64_w,i32_w]
                      rfl
                    refine pure_ (i := 15) (N := some 36) (v := ?_) (a' := ?_) #[true,true,true,true,true,true,true,true,true,true,true,true,true,true,true,true,false,false,false,false,false,false,false,false,false,false,false,false,false] rfl rfl (any_of HT_.out (by kernel_rfl)) (fun _ _ _ h => h) (Or.inl ⟨by rfl,?_⟩) ?_ ?_
                    rotate_left
                    · intro w'
                      go_simp
                      with_reducible rfl
                    rotate_left
                    · simp only [Act.put,List.setIfInBounds_toArray,List.set_cons_zero,List.set_cons_succ,i64_w,i32_w]
                      rfl
                    refine pure_ (i := 16) (N := some 37) (v := ?_) (a' := ?_) #[true,true,true,true,true,true,true,true,true,true,true,true,true,true,true,true,true,false,false,false,false,false,false,false,false,false,false,false,false] rfl rfl (any_of HT_.out (by kernel_rfl)) (fun _ _ _ h => h) (Or.inl ⟨by rfl,?_⟩) ?_ ?_
                    rotate_left
                    · intro w'
                      go_simp
                      with_reducible rfl
                    rotate_left
                    · simp only [Act.put,List.setIfInBounds_toArray,List.set_cons_zero,List.set_cons_succ,i64_w,i32_w]
                      rfl
                    refine pure_ (i := 17) (N := some 38) (v := undef) (a' := ?_) #[true,true,true,true,true,true,true,true,true,true,true,true,true,true,true,true,true,true,false,false,false,false,false,false,false,false,false,false,false] rfl rfl (any_of HT_.out (by kernel_rfl)) (fun _ _ _ h => h) (Or.inr ⟨by rfl,rfl⟩) ?_ ?_
                    rotate_left
                    · simp only [Act.put,List.setIfInBounds_toArray,List.set_cons_zero,List.set_cons_succ,i64_w,i32_w]
                      rfl
                    refine pure_ (i := 18) (N := some 39) (v := undef) (a' := ?_) #[true,true,true,true,true,true,true,true,true,true,true,true,true,true,true,true,true,true,true,false,false,false,false,false,false,false,false,false,false] rfl rfl (any_of HT_.out (by kernel_rfl)) (fun _ _ _ h => h) (Or.inr ⟨by rfl,rfl⟩) ?_ ?_
                    rotate_left
                    · simp only [Act.put,List.setIfInBounds_toArray,List.set_cons_zero,List.set_cons_succ,i64_w,i32_w]
                      rfl
                    refine pure_ (i := 19) (N := some 40) (v := undef) (a' := ?_) #[true,true,true,true,true,true,true,true,true,true,true,true,true,true,true,true,true,true,true,true,false,false,false,false,false,false,false,false,false] rfl rfl (any_of HT_.out (by kernel_rfl)) (fun _ _ _ h => h) (Or.inr ⟨by rfl,rfl⟩) ?_ ?_
                    rotate_left
                    · simp only [Act.put,List.setIfInBounds_toArray,List.set_cons_zero,List.set_cons_succ,i64_w,i32_w]
                      rfl
                    refine pure_ (i := 20) (N := some 41) (v := undef) (a' := ?_) #[true,true,true,true,true,true,true,true,true,true,true,true,true,true,true,true,true,true,true,true,true,false,false,false,false,false,false,false,false] rfl rfl (any_of HT_.out (by kernel_rfl)) (fun _ _ _ h => h) (Or.inr ⟨by rfl,rfl⟩) ?_ ?_
                    rotate_left
                    · simp only [Act.put,List.setIfInBounds_toArray,List.set_cons_zero,List.set_cons_succ,i64_w,i32_w]
                      rfl
                    refine pure_ (i := 21) (N := some 42) (v := undef) (a' := ?_) #[true,true,true,true,true,true,true,true,true,true,true,true,true,true,true,true,true,true,true,true,true,true,false,false,false,false,false,false,false] rfl rfl (any_of HT_.out (by kernel_rfl)) (fun _ _ _ h => h) (Or.inr ⟨by rfl,rfl⟩) ?_ ?_
                    rotate_left
                    · simp only [Act.put,List.setIfInBounds_toArray,List.set_cons_zero,List.set_cons_succ,i64_w,i32_w]
                      rfl
                    refine pure_ (i := 22) (N := some 43) (v := undef) (a' := ?_) #[true,true,true,true,true,true,true,true,true,true,true,true,true,true,true,true,true,true,true,true,true,true,true,false,false,false,false,false,false] rfl rfl (any_of HT_.out (by kernel_rfl)) (fun _ _ _ h => h) (Or.inr ⟨by rfl,rfl⟩) ?_ ?_
                    rotate_left
                    · simp only [Act.put,List.setIfInBounds_toArray,List.set_cons_zero,List.set_cons_succ,i64_w,i32_w]
                      rfl
                    refine pure_ (i := 23) (N := some 44) (v := undef) (a' := ?_) #[true,true,true,true,true,true,true,true,true,true,true,true,true,true,true,true,true,true,true,true,true,true,true,true,false,false,false,false,false] rfl rfl (any_of HT_.out (by kernel_rfl)) (fun _ _ _ h => h) (Or.inr ⟨by rfl,rfl⟩) ?_ ?_
                    rotate_left
                    · simp only [Act.put,List.setIfInBounds_toArray,List.set_cons_zero,List.set_cons_succ,i64_w,i32_w]
                      rfl
                    refine pure_ (i := 24) (N := some 45) (v := undef) (a' := ?_) #[true,true,true,true,true,true,true,true,true,true,true,true,true,true,true,true,true,true,true,true,true,true,true,true,true,false,false,false,false] rfl rfl (any_of HT_.out (by kernel_rfl)) (fun _ _ _ h => h) (Or.inr ⟨by rfl,rfl⟩) ?_ ?_
                    rotate_left
                    · simp only [Act.put,List.setIfInBounds_toArray,List.set_cons_zero,List.set_cons_succ,i64_w,i32_w]
                      rfl
                    refine pure_ (i := 25) (N := some 46) (v := undef) (a' := ?_) #[true,true,true,true,true,true,true,true,true,true,true,true,true,true,true,true,true,true,true,true,true,true,true,true,true,true,false,false,false] rfl rfl (any_of HT_.out (by kernel_rfl)) (fun _ _ _ h => h) (Or.inr ⟨by rfl,rfl⟩) ?_ ?_
                    rotate_left
                    · simp only [Act.put,List.setIfInBounds_toArray,List.set_cons_zero,List.set_cons_succ,i64_w,i32_w]
                      rfl
                    refine pure_ (i := 26) (N := some 47) (v := undef) (a' := ?_) #[true,true,true,true,true,true,true,true,true,true,true,true,true,true,true,true,true,true,true,true,true,true,true,true,true,true,true,false,false] rfl rfl (any_of HT_.out (by kernel_rfl)) (fun _ _ _ h => h) (Or.inr ⟨by rfl,rfl⟩) ?_ ?_
                    rotate_left
                    · simp only [Act.put,List.setIfInBounds_toArray,List.set_cons_zero,List.set_cons_succ,i64_w,i32_w]
                      rfl
                    refine pure_ (i := 27) (N := some 48) (v := ?_) (a' := ?_) #[true,true,true,true,true,true,true,true,true,true,true,true,true,true,true,true,true,true,true,true,true,true,true,true,true,true,true,true,false] rfl rfl (any_of HT_.out (by kernel_rfl)) (fun _ _ _ h => h) (Or.inl ⟨by rfl,?_⟩) ?_ ?_
                    rotate_left
                    · intro w'
                      go_simp
                      with_reducible rfl
                    rotate_left
                    · simp only [Act.put,List.setIfInBounds_toArray,List.set_cons_zero,List.set_cons_succ,i64_w,i32_w]
                      rfl
                    refine pure_ (i := 28) (N := some 49) (v := ?_) (a' := ?_) #[true,true,true,true,true,true,true,true,true,true,true,true,true,true,true,true,true,true,true,true,true,true,true,true,true,true,true,true,true] rfl rfl (any_of HT_.out (by kernel_rfl)) (fun _ _ _ h => h) (Or.inl ⟨by rfl,?_⟩) ?_ ?_
                    rotate_left
                    · intro w'
                      go_simp
                      with_reducible rfl
                    rotate_left
                    · simp only [Act.put,List.setIfInBounds_toArray,List.set_cons_zero,List.set_cons_succ,i64_w,i32_w]
                      rfl
                    refine done_ (done_of HT_.out (by kernel_rfl)) ?_
                    try go_wp2
                    go_roundg k1
                    case measure => have := HK1.out;omega
                    case rel => exact ⟨(wrap64 (x3_1 + 1)),(by first | rfl | (simp;done) | (simp [*];done)),H',⟨by have := HK1.out;omega⟩,⟨by (with_reducible repeat (first | refine blk_drewN ?_ _ | refine blk_drew ?_ | refine blk_alloc ?_ _));exact BK327.out⟩,⟨by repeat (first | (with_reducible first | exact HB.out | apply below_alloc | apply pw_below_drewN | apply below_drew1 | refine below_set ?_ GE327.out | refine below_set ?_ GE329.out) | exact HB.out)⟩⟩
              · rw [if_neg c12] at H
                exact absurd H (by simp)
            · replace c10 := Bool.eq_false_iff.mpr c10
              subst c10
              have H1 : (some false) = some r := by rw [if_neg (show ¬ (false = true) by decide)] at H;exact H
              clear H
              have H := H1
              clear H1
              obtain rfl := Option.some.inj H
              have hcz52_0 : wr.cell? ⟨gb327,0,none⟩ = some (.slice A0_0 l0_0.length c0_0) := (blk_cell BK327.out 0).trans rfl;have hfz52_0 := blk_frozen BK327.out 0
              have p328 : 0 ≤ (x3_1 : Int) := of_decide_eq_true (by first | (with_reducible assumption) | assumption)
              have q328 : x3_1 < (l0_0.length : Int) := of_decide_eq_true (by first | (with_reducible assumption) | assumption)
              obtain ⟨ad328,e328,hx328_0,hx328_1,hx328_2,hx328_3,hx328_4,hx328_5⟩ := at_T26 HR0_0.out x3_1 p328 q328
              cases e328
              replace hx328_0 := (HB.out.cell (World.block_lt_of_cell? w _ hx328_0)).trans hx328_0
              replace hx328_1 := (HB.out.cell (World.block_lt_of_cell? w _ hx328_1)).trans hx328_1
              replace hx328_2 := (HB.out.cell (World.block_lt_of_cell? w _ hx328_2)).trans hx328_2
              replace hx328_3 := (HB.out.cell (World.block_lt_of_cell? w _ hx328_3)).trans hx328_3
              replace hx328_4 := (HB.out.cell (World.block_lt_of_cell? w _ hx328_4)).trans hx328_4
              replace hx328_5 := (HB.out.cell (World.block_lt_of_cell? w _ hx328_5)).trans hx328_5
              replace p328 := eq_true p328
              replace q328 := eq_true q328
              try go_wp2_with (first | ((with_reducible refine gate_dst (N := 4) rfl ?_);refine box_event ?hg (N := 4) ?hd (cs := #[.int .i64 0,.string (⟨#[]⟩ : ByteArray),.string (⟨#[]⟩ : ByteArray),.int .i64 0,.int .i64 0,.int .i64 0]) (t := 26) ?hr ?_;(case hd => rfl);(case hg => rfl);(case hr => first | (go_simp;done) | (go_simp;rfl));intro gb329 hg w53 hbox hb;have n0_ := Aside0.mk (blk_below (g := gb327) (o := .cells #[.slice (some ad328) l0_0.length c0_0] 24 (0,0)) (by (with_reducible repeat (first | refine blk_drewN ?_ _ | refine blk_drew ?_ | refine blk_alloc ?_ _));exact BK327.out) hb);have n1_ := Aside0.mk (below_step (by repeat (first | (with_reducible first | exact HB.out | apply below_alloc | apply pw_below_drewN | apply below_drew1 | refine below_set ?_ GE327.out) | exact HB.out)) hb);have n2_ := Aside0.mk (hbox);have n3_ := Aside0.mk ((by rw [hg];exact (below_size (by repeat (first | (with_reducible first | exact HB.out | apply below_alloc | apply pw_below_drewN | apply below_drew1 | refine below_set ?_ GE327.out) | exact HB.out))) : w.heap.size ≤ gb329));have n4_ := Aside0.mk ((by rw [hg];exact (below_size (by repeat (first | (with_reducible first | exact HB.out | apply below_alloc | apply pw_below_drewN | apply below_drew1 | refine below_set ?_ GE327.out) | exact HB.out))) : w.heap.size ≤ gb329));have n5_ := Aside0.mk ((by rw [hg];exact Nat.ne_of_lt (blk_lt (g := gb327) (o := .cells #[.slice (some ad328) l0_0.length c0_0] 24 (0,0)) (by (with_reducible repeat (first | refine blk_drewN ?_ _ | refine blk_drew ?_ | refine blk_alloc ?_ _));exact BK327.out)) : gb327 ≠ gb329));have n6_ := Aside0.mk ((by rw [hg];exact Nat.ne_of_gt (blk_lt (g := gb327) (o := .cells #[.slice (some ad328) l0_0.length c0_0] 24 (0,0)) (by (with_reducible repeat (first | refine blk_drewN ?_ _ | refine blk_drew ?_ | refine blk_alloc ?_ _));exact BK327.out)) : gb329 ≠ gb327));clear BK327;clear HB;have BK327 := n0_;have HB := n1_;have BK329 := n2_;have GW329 := n3_;have GE329 := n4_;have NB327_329 := n5_;have NB329_327 := n6_;clear n0_ n1_ n2_ n3_ n4_ n5_ n6_;clear hb hbox hg;have hnb54 := NB329_327.out;have hnc54 := NB327_329.out;have hcz55_0 : w53.cell? ⟨gb329,0,none⟩ = some (.int .i64 0) := (blk_cell BK329.out 0).trans rfl;have hcz55_1 : w53.cell? ⟨gb329,1,none⟩ = some (.string (⟨#[]⟩ : ByteArray)) := (blk_cell BK329.out 1).trans rfl;have hcz55_2 : w53.cell? ⟨gb329,2,none⟩ = some (.string (⟨#[]⟩ : ByteArray)) := (blk_cell BK329.out 2).trans rfl;have hcz55_3 : w53.cell? ⟨gb329,3,none⟩ = some (.int .i64 0) := (blk_cell BK329.out 3).trans rfl;have hcz55_4 : w53.cell? ⟨gb329,4,none⟩ = some (.int .i64 0) := (blk_cell BK329.out 4).trans rfl;have hcz55_5 : w53.cell? ⟨gb329,5,none⟩ = some (.int .i64 0) := (blk_cell BK329.out 5).trans rfl;have hfz55_0 := blk_frozen BK329.out 0;have hfz55_1 := blk_frozen BK329.out 1;have hfz55_2 := blk_frozen BK329.out 2;have hfz55_3 := blk_frozen BK329.out 3;have hfz55_4 := blk_frozen BK329.out 4;have hfz55_5 := blk_frozen BK329.out 5))
              have n0_ : Aside0 (((((((w53.setCell ⟨gb329,0,none⟩ (.int .i64 ((rd_T26 l0_0 x3_1).f0))).setCell ⟨gb329,1,none⟩ (.string ((rd_T26 l0_0 x3_1).f1))).setCell ⟨gb329,2,none⟩ (.string ((rd_T26 l0_0 x3_1).f2))).setCell ⟨gb329,3,none⟩ (.int .i64 ((rd_T26 l0_0 x3_1).f3))).setCell ⟨gb329,4,none⟩ (.int .i64 ((rd_T26 l0_0 x3_1).f4))).setCell ⟨gb329,5,none⟩ (.int .i64 ((rd_T26 l0_0 x3_1).f5))).heap[gb327]? = some (.cells #[.slice (some ad328) l0_0.length c0_0] 24 (0,0))) := ⟨by (with_reducible repeat (first | refine blk_drewN ?_ _ | refine blk_drew ?_ | refine blk_alloc ?_ _));refine blk_far ?_ NB327_329.out _;(with_reducible repeat (first | refine blk_drewN ?_ _ | refine blk_drew ?_ | refine blk_alloc ?_ _));refine blk_far ?_ NB327_329.out _;(with_reducible repeat (first | refine blk_drewN ?_ _ | refine blk_drew ?_ | refine blk_alloc ?_ _));refine blk_far ?_ NB327_329.out _;(with_reducible repeat (first | refine blk_drewN ?_ _ | refine blk_drew ?_ | refine blk_alloc ?_ _));refine blk_far ?_ NB327_329.out _;(with_reducible repeat (first | refine blk_drewN ?_ _ | refine blk_drew ?_ | refine blk_alloc ?_ _));refine blk_far ?_ NB327_329.out _;(with_reducible repeat (first | refine blk_drewN ?_ _ | refine blk_drew ?_ | refine blk_alloc ?_ _));refine blk_far ?_ NB327_329.out _;(with_reducible repeat (first | refine blk_drewN ?_ _ | refine blk_drew ?_ | refine blk_alloc ?_ _));exact BK327.out⟩
              have n1_ : Aside0 (((((((w53.setCell ⟨gb329,0,none⟩ (.int .i64 ((rd_T26 l0_0 x3_1).f0))).setCell ⟨gb329,1,none⟩ (.string ((rd_T26 l0_0 x3_1).f1))).setCell ⟨gb329,2,none⟩ (.string ((rd_T26 l0_0 x3_1).f2))).setCell ⟨gb329,3,none⟩ (.int .i64 ((rd_T26 l0_0 x3_1).f3))).setCell ⟨gb329,4,none⟩ (.int .i64 ((rd_T26 l0_0 x3_1).f4))).setCell ⟨gb329,5,none⟩ (.int .i64 ((rd_T26 l0_0 x3_1).f5))).heap[gb329]? = some (.cells #[.int .i64 ((rd_T26 l0_0 x3_1).f0),.string ((rd_T26 l0_0 x3_1).f1),.string ((rd_T26 l0_0 x3_1).f2),.int .i64 ((rd_T26 l0_0 x3_1).f3),.int .i64 ((rd_T26 l0_0 x3_1).f4),.int .i64 ((rd_T26 l0_0 x3_1).f5)] 26 (0,0))) := ⟨by (with_reducible repeat (first | refine blk_drewN ?_ _ | refine blk_drew ?_ | refine blk_alloc ?_ _));refine blk_put (cs := #[.int .i64 ((rd_T26 l0_0 x3_1).f0),.string ((rd_T26 l0_0 x3_1).f1),.string ((rd_T26 l0_0 x3_1).f2),.int .i64 ((rd_T26 l0_0 x3_1).f3),.int .i64 ((rd_T26 l0_0 x3_1).f4),.int .i64 0]) ?_ 5 _ rfl;(with_reducible repeat (first | refine blk_drewN ?_ _ | refine blk_drew ?_ | refine blk_alloc ?_ _));refine blk_put (cs := #[.int .i64 ((rd_T26 l0_0 x3_1).f0),.string ((rd_T26 l0_0 x3_1).f1),.string ((rd_T26 l0_0 x3_1).f2),.int .i64 ((rd_T26 l0_0 x3_1).f3),.int .i64 0,.int .i64 0]) ?_ 4 _ rfl;(with_reducible repeat (first | refine blk_drewN ?_ _ | refine blk_drew ?_ | refine blk_alloc ?_ _));refine blk_put (cs := #[.int .i64 ((rd_T26 l0_0 x3_1).f0),.string ((rd_T26 l0_0 x3_1).f1),.string ((rd_T26 l0_0 x3_1).f2),.int .i64 0,.int .i64 0,.int .i64 0]) ?_ 3 _ rfl;(with_reducible repeat (first | refine blk_drewN ?_ _ | refine blk_drew ?_ | refine blk_alloc ?_ _));refine blk_put (cs := #[.int .i64 ((rd_T26 l0_0 x3_1).f0),.string ((rd_T26 l0_0 x3_1).f1),.string (⟨#[]⟩ : ByteArray),.int .i64 0,.int .i64 0,.int .i64 0]) ?_ 2 _ rfl;(with_reducible repeat (first | refine blk_drewN ?_ _ | refine blk_drew ?_ | refine blk_alloc ?_ _));refine blk_put (cs := #[.int .i64 ((rd_T26 l0_0 x3_1).f0),.string (⟨#[]⟩ : ByteArray),.string (⟨#[]⟩ : ByteArray),.int .i64 0,.int .i64 0,.int .i64 0]) ?_ 1 _ rfl;(with_reducible repeat (first | refine blk_drewN ?_ _ | refine blk_drew ?_ | refine blk_alloc ?_ _));refine blk_put (cs := #[.int .i64 0,.string (⟨#[]⟩ : ByteArray),.string (⟨#[]⟩ : ByteArray),.int .i64 0,.int .i64 0,.int .i64 0]) ?_ 0 _ rfl;(with_reducible repeat (first | refine blk_drewN ?_ _ | refine blk_drew ?_ | refine blk_alloc ?_ _));exact BK329.out⟩
              have n2_ : Aside0 (Below w.heap.size w ((((((w53.setCell ⟨gb329,0,none⟩ (.int .i64 ((rd_T26 l0_0 x3_1).f0))).setCell ⟨gb329,1,none⟩ (.string ((rd_T26 l0_0 x3_1).f1))).setCell ⟨gb329,2,none⟩ (.string ((rd_T26 l0_0 x3_1).f2))).setCell ⟨gb329,3,none⟩ (.int .i64 ((rd_T26 l0_0 x3_1).f3))).setCell ⟨gb329,4,none⟩ (.int .i64 ((rd_T26 l0_0 x3_1).f4))).setCell ⟨gb329,5,none⟩ (.int .i64 ((rd_T26 l0_0 x3_1).f5)))) := ⟨by repeat (first | (with_reducible first | exact HB.out | apply below_alloc | apply pw_below_drewN | apply below_drew1 | refine below_set ?_ GE327.out | refine below_set ?_ GE329.out) | exact HB.out)⟩
              (try clear BK327)
              (try clear BK329)
              (try clear HB)
              generalize ((((((w53.setCell ⟨gb329,0,none⟩ (.int .i64 ((rd_T26 l0_0 x3_1).f0))).setCell ⟨gb329,1,none⟩ (.string ((rd_T26 l0_0 x3_1).f1))).setCell ⟨gb329,2,none⟩ (.string ((rd_T26 l0_0 x3_1).f2))).setCell ⟨gb329,3,none⟩ (.int .i64 ((rd_T26 l0_0 x3_1).f3))).setCell ⟨gb329,4,none⟩ (.int .i64 ((rd_T26 l0_0 x3_1).f4))).setCell ⟨gb329,5,none⟩ (.int .i64 ((rd_T26 l0_0 x3_1).f5))) = w56 at n0_ n1_ n2_ ⊢
              have BK327 := n0_
              have BK329 := n1_
              have HB := n2_
              clear n0_ n1_ n2_
              have n0_ := Aside0.mk (blk_drew BK327.out)
              have n1_ := Aside0.mk (blk_drew BK329.out)
              have n2_ := Aside0.mk (below_drew1 HB.out)
              clear BK327;clear BK329;clear HB
              have BK327 := n0_
              have BK329 := n1_
              have HB := n2_
              clear n0_ n1_ n2_
              refine start_ (n := 29) (S := fun w' => w'.cell? ⟨gb329,0,none⟩ = some (.int .i64 ((rd_T26 l0_0 x3_1).f0)) ∧ w'.cell? ⟨gb329,1,none⟩ = some (.string ((rd_T26 l0_0 x3_1).f1)) ∧ w'.cell? ⟨gb329,2,none⟩ = some (.string ((rd_T26 l0_0 x3_1).f2)) ∧ w'.cell? ⟨gb329,3,none⟩ = some (.int .i64 ((rd_T26 l0_0 x3_1).f3)) ∧ w'.cell? ⟨gb329,4,none⟩ = some (.int .i64 ((rd_T26 l0_0 x3_1).f4)) ∧ w'.cell? ⟨gb329,5,none⟩ = some (.int .i64 ((rd_T26 l0_0 x3_1).f5))) (ds := []) #[false,false,false,false,false,false,false,false,false,false,false,false,false,false,false,false,false,false,false,false,false,false,false,false,false,false,false,false,false] (by kernel_rfl) rfl rfl ⟨(blk_cell BK329.out 0).trans rfl,(blk_cell BK329.out 1).trans rfl,(blk_cell BK329.out 2).trans rfl,(blk_cell BK329.out 3).trans rfl,(blk_cell BK329.out 4).trans rfl,(blk_cell BK329.out 5).trans rfl⟩ (fun hHeld => ?_);refine with_tabW wageofficeref39_Valid.tab7 wageofficeref39_Valid.bits7 (fun HT_ HW_ => ?_)
              generalize w56.drew = w57 at BK327 BK329 HB hHeld ⊢
              refine take_ (i := 0) (N := some 21) (v := ?_) (a' := ?_) #[true,false,false,false,false,false,false,false,false,false,false,false,false,false,false,false,false,false,false,false,false,false,false,false,false,false,false,false,false] rfl rfl (take_ofW HT_.out HW_.out (by kernel_rfl)) (fun _ _ _ h => h) (Or.inl ⟨by rfl,?_⟩) hHeld ?_ ?_
              rotate_left
              · rintro w' ⟨s0,s1,s2,s3,s4,s5⟩
                go_simp
                with_reducible rfl
              rotate_left
              · simp only [Act.put,List.setIfInBounds_toArray,List.set_cons_zero,List.set_cons_succ,i64_w,i32_w]
                rfl
              refine one_ (i := 1) (N := some 22) #[true,true,false,false,false,false,false,false,false,false,false,false,false,false,false,false,false,false,false,false,false,false,false,false,false,false,false,false,false] rfl rfl (one_of HT_.out (by kernel_rfl)) (by decide) (fun K hK => ?_)
              refine goes_ Try.func51 (by kernel_rfl) rfl #[.agg #[.int .i64 ((rd_T26 l0_0 x3_1).f0),.string ((rd_T26 l0_0 x3_1).f1),.string ((rd_T26 l0_0 x3_1).f2),.int .i64 ((rd_T26 l0_0 x3_1).f3),.int .i64 ((rd_T26 l0_0 x3_1).f4),.int .i64 ((rd_T26 l0_0 x3_1).f5)]] (by rfl) rfl rfl (by (try simp only [List.map_toArray,List.map_cons,List.map_nil]);first | done | rfl | (simp only [List.length_drop,List.length_take];rfl)) ?_
              with_reducible refine (wageofficeref39_Formed.calls k1 ((rd_T26 l0_0 x3_1).f0) ((rd_T26 l0_0 x3_1).f1) ((rd_T26 l0_0 x3_1).f2) ((rd_T26 l0_0 x3_1).f3) ((rd_T26 l0_0 x3_1).f4) ((rd_T26 l0_0 x3_1).f5) false _ A9.out).mono ?_
              rintro e w58 ⟨rfl,hb⟩
              refine ⟨_,rfl,?_⟩
              have n0_ := Aside0.mk (blk_below (g := gb327) (o := .cells #[.slice (some ad328) l0_0.length c0_0] 24 (0,0)) (by (with_reducible repeat (first | refine blk_drewN ?_ _ | refine blk_drew ?_ | refine blk_alloc ?_ _));exact BK327.out) hb)
              have n1_ := Aside0.mk (blk_below (g := gb329) (o := .cells #[.int .i64 ((rd_T26 l0_0 x3_1).f0),.string ((rd_T26 l0_0 x3_1).f1),.string ((rd_T26 l0_0 x3_1).f2),.int .i64 ((rd_T26 l0_0 x3_1).f3),.int .i64 ((rd_T26 l0_0 x3_1).f4),.int .i64 ((rd_T26 l0_0 x3_1).f5)] 26 (0,0)) (by (with_reducible repeat (first | refine blk_drewN ?_ _ | refine blk_drew ?_ | refine blk_alloc ?_ _));exact BK329.out) hb)
              have n2_ := Aside0.mk (below_step (by repeat (first | (with_reducible first | exact HB.out | apply below_alloc | apply pw_below_drewN | apply below_drew1 | refine below_set ?_ GE327.out | refine below_set ?_ GE329.out) | exact HB.out)) hb)
              clear BK327;clear BK329;clear HB
              have BK327 := n0_
              have BK329 := n1_
              have HB := n2_
              clear n0_ n1_ n2_
              (try clear hb)
              (try clear hb2)
              (try clear hk)
              (try clear hi)
              refine hK.out _ _ ⟨(blk_cell BK329.out 0).trans rfl,(blk_cell BK329.out 1).trans rfl,(blk_cell BK329.out 2).trans rfl,(blk_cell BK329.out 3).trans rfl,(blk_cell BK329.out 4).trans rfl,(blk_cell BK329.out 5).trans rfl⟩ (fun hHeld => ?_)
              clear hK K
              refine norm_ (a' := ?_) ?_ ?_
              rotate_left
              · show Act.put _ (some 22) _ = _
                simp only [Act.put,List.setIfInBounds_toArray,List.set_cons_zero,List.set_cons_succ,i64_w,i32_w]
                rfl
              refine pure_ (i := 2) (N := some 23) (v := ?_) (a' := ?_) #[true,true,true,false,false,false,false,false,false,false,false,false,false,false,false,false,false,false,false,false,false,false,false,false,false,false,false,false,false] rfl rfl (any_of HT_.out (by kernel_rfl)) (fun _ _ _ h => h) (Or.inl ⟨by rfl,?_⟩) ?_ ?_
              rotate_left
              · intro w'
                go_simp
                with_reducible rfl
              rotate_left
              · simp only [Act.put,List.setIfInBounds_toArray,List.set_cons_zero,List.set_cons_succ,i64_w,i32_w]
                rfl
              refine pure_ (i := 3) (N := some 24) (v := ?_) (a' := ?_) #[true,true,true,true,false,false,false,false,false,false,false,false,false,false,false,false,false,false,false,false,false,false,false,false,false,false,false,false,false] rfl rfl (any_of HT_.out (by kernel_rfl)) (fun _ _ _ h => h) (Or.inl ⟨by rfl,?_⟩) ?_ ?_
              rotate_left
              · intro w'
                go_simp
                with_reducible rfl
              rotate_left
              · simp only [Act.put,List.setIfInBounds_toArray,List.set_cons_zero,List.set_cons_succ,i64_w,i32_w]
                rfl
              refine pure_ (i := 4) (N := some 25) (v := undef) (a' := ?_) #[true,true,true,true,true,false,false,false,false,false,false,false,false,false,false,false,false,false,false,false,false,false,false,false,false,false,false,false,false] rfl rfl (any_of HT_.out (by kernel_rfl)) (fun _ _ _ h => h) (Or.inr ⟨by rfl,rfl⟩) ?_ ?_
              rotate_left
              · simp only [Act.put,List.setIfInBounds_toArray,List.set_cons_zero,List.set_cons_succ,i64_w,i32_w]
                rfl
              refine pure_ (i := 5) (N := some 26) (v := undef) (a' := ?_) #[true,true,true,true,true,true,false,false,false,false,false,false,false,false,false,false,false,false,false,false,false,false,false,false,false,false,false,false,false] rfl rfl (any_of HT_.out (by kernel_rfl)) (fun _ _ _ h => h) (Or.inr ⟨by rfl,rfl⟩) ?_ ?_
              rotate_left
              · simp only [Act.put,List.setIfInBounds_toArray,List.set_cons_zero,List.set_cons_succ,i64_w,i32_w]
                rfl
              refine pure_ (i := 6) (N := some 27) (v := undef) (a' := ?_) #[true,true,true,true,true,true,true,false,false,false,false,false,false,false,false,false,false,false,false,false,false,false,false,false,false,false,false,false,false] rfl rfl (any_of HT_.out (by kernel_rfl)) (fun _ _ _ h => h) (Or.inr ⟨by rfl,rfl⟩) ?_ ?_
              rotate_left
              · simp only [Act.put,List.setIfInBounds_toArray,List.set_cons_zero,List.set_cons_succ,i64_w,i32_w]
                rfl
              refine pure_ (i := 7) (N := some 28) (v := undef) (a' := ?_) #[true,true,true,true,true,true,true,true,false,false,false,false,false,false,false,false,false,false,false,false,false,false,false,false,false,false,false,false,false] rfl rfl (any_of HT_.out (by kernel_rfl)) (fun _ _ _ h => h) (Or.inr ⟨by rfl,rfl⟩) ?_ ?_
              rotate_left
              · simp only [Act.put,List.setIfInBounds_toArray,List.set_cons_zero,List.set_cons_succ,i64_w,i32_w]
                rfl
              refine pure_ (i := 8) (N := some 29) (v := undef) (a' := ?_) #[true,true,true,true,true,true,true,true,true,false,false,false,false,false,false,false,false,false,false,false,false,false,false,false,false,false,false,false,false] rfl rfl (any_of HT_.out (by kernel_rfl)) (fun _ _ _ h => h) (Or.inr ⟨by rfl,rfl⟩) ?_ ?_
              rotate_left
              · simp only [Act.put,List.setIfInBounds_toArray,List.set_cons_zero,List.set_cons_succ,i64_w,i32_w]
                rfl
              refine pure_ (i := 9) (N := some 30) (v := undef) (a' := ?_) #[true,true,true,true,true,true,true,true,true,true,false,false,false,false,false,false,false,false,false,false,false,false,false,false,false,false,false,false,false] rfl rfl (any_of HT_.out (by kernel_rfl)) (fun _ _ _ h => h) (Or.inr ⟨by rfl,rfl⟩) ?_ ?_
              rotate_left
              · simp only [Act.put,List.setIfInBounds_toArray,List.set_cons_zero,List.set_cons_succ,i64_w,i32_w]
                rfl
              refine pure_ (i := 10) (N := some 31) (v := undef) (a' := ?_) #[true,true,true,true,true,true,true,true,true,true,true,false,false,false,false,false,false,false,false,false,false,false,false,false,false,false,false,false,false] rfl rfl (any_of HT_.out (by kernel_rfl)) (fun _ _ _ h => h) (Or.inr ⟨by rfl,rfl⟩) ?_ ?_
              rotate_left
              · simp only [Act.put,List.setIfInBounds_toArray,List.set_cons_zero,List.set_cons_succ,i64_w,i32_w]
                rfl
              refine pure_ (i := 11) (N := some 32) (v := undef) (a' := ?_) #[true,true,true,true,true,true,true,true,true,true,true,true,false,false,false,false,false,false,false,false,false,false,false,false,false,false,false,false,false] rfl rfl (any_of HT_.out (by kernel_rfl)) (fun _ _ _ h => h) (Or.inr ⟨by rfl,rfl⟩) ?_ ?_
              rotate_left
              · simp only [Act.put,List.setIfInBounds_toArray,List.set_cons_zero,List.set_cons_succ,i64_w,i32_w]
                rfl
              refine pure_ (i := 12) (N := some 33) (v := ?_) (a' := ?_) #[true,true,true,true,true,true,true,true,true,true,true,true,true,false,false,false,false,false,false,false,false,false,false,false,false,false,false,false,false] rfl rfl (any_of HT_.out (by kernel_rfl)) (fun _ _ _ h => h) (Or.inl ⟨by rfl,?_⟩) ?_ ?_
              rotate_left
              · intro w'
                go_simp
                with_reducible rfl
              rotate_left
              · simp only [Act.put,List.setIfInBounds_toArray,List.set_cons_zero,List.set_cons_succ,i64_w,i32_w]
                rfl
              refine pure_ (i := 13) (N := some 34) (v := ?_) (a' := ?_) #[true,true,true,true,true,true,true,true,true,true,true,true,true,true,false,false,false,false,false,false,false,false,false,false,false,false,false,false,false] rfl rfl (any_of HT_.out (by kernel_rfl)) (fun _ _ _ h => h) (Or.inl ⟨by rfl,?_⟩) ?_ ?_
              rotate_left
              · intro w'
                go_simp
                with_reducible rfl
              rotate_left
              · simp only [Act.put,List.setIfInBounds_toArray,List.set_cons_zero,List.set_cons_succ,i64_w,i32_w]
                rfl
              refine pure_ (i := 14) (N := some 35) (v := undef) (a' := ?_) #[true,true,true,true,true,true,true,true,true,true,true,true,true,true,true,false,false,false,false,false,false,false,false,false,false,false,false,false,false] rfl rfl (any_of HT_.out (by kernel_rfl)) (fun _ _ _ h => h) (Or.inr ⟨by rfl,rfl⟩) ?_ ?_
              rotate_left
              · simp only [Act.put,List.setIfInBounds_toArray,List.set_cons_zero,List.set_cons_succ,i64_w,i32_w]
                rfl
              refine pure_ (i := 15) (N := some 36) (v := undef) (a' := ?_) #[true,true,true,true,true,true,true,true,true,true,true,true,true,true,true,true,false,false,false,false,false,false,false,false,false,false,false,false,false] rfl rfl (any_of HT_.out (by kernel_rfl)) (fun _ _ _ h => h) (Or.inr ⟨by rfl,rfl⟩) ?_ ?_
              rotate_left
              · simp only [Act.put,List.setIfInBounds_toArray,List.set_cons_zero,List.set_cons_succ,i64_w,i32_w]
                rfl
              refine pure_ (i := 16) (N := some 37) (v := undef) (a' := ?_) #[true,true,true,true,true,true,true,true,true,true,true,true,true,true,true,true,true,false,false,false,false,false,false,false,false,false,false,false,false] rfl rfl (any_of HT_.out (by kernel_rfl)) (fun _ _ _ h => h) (Or.inr ⟨by rfl,rfl⟩) ?_ ?_
              rotate_left
              · simp only [Act.put,List.setIfInBounds_toArray,List.set_cons_zero,List.set_cons_succ,i64_w,i32_w]
                rfl
              refine pure_ (i := 17) (N := some 38) (v := undef) (a' := ?_) #[true,true,true,true,true,true,true,true,true,true,true,true,true,true,true,true,true,true,false,false,false,false,false,false,false,false,false,false,false] rfl rfl (any_of HT_.out (by kernel_rfl)) (fun _ _ _ h => h) (Or.inr ⟨by rfl,rfl⟩) ?_ ?_
              rotate_left
              · simp only [Act.put,List.setIfInBounds_toArray,List.set_cons_zero,List.set_cons_succ,i64_w,i32_w]
                rfl
              refine pure_ (i := 18) (N := some 39) (v := undef) (a' := ?_) #[true,true,true,true,true,true,true,true,true,true,true,true,true,true,true,true,true,true,true,false,false,false,false,false,false,false,false,false,false] rfl rfl (any_of HT_.out (by kernel_rfl)) (fun _ _ _ h => h) (Or.inr ⟨by rfl,rfl⟩) ?_ ?_
              rotate_left
              · simp only [Act.put,List.setIfInBounds_toArray,List.set_cons_zero,List.set_cons_succ,i64_w,i32_w]
                rfl
              refine pure_ (i := 19) (N := some 40) (v := undef) (a' := ?_) #[true,true,true,true,true,true,true,true,true,true,true,true,true,true,true,true,true,true,true,true,false,false,false,false,false,false,false,false,false] rfl rfl (any_of HT_.out (by kernel_rfl)) (fun _ _ _ h => h) (Or.inr ⟨by rfl,rfl⟩) ?_ ?_
              rotate_left
              · simp only [Act.put,List.setIfInBounds_toArray,List.set_cons_zero,List.set_cons_succ,i64_w,i32_w]
                rfl
              refine pure_ (i := 20) (N := some 41) (v := undef) (a' := ?_) #[true,true,true,true,true,true,true,true,true,true,true,true,true,true,true,true,true,true,true,true,true,false,false,false,false,false,false,false,false] rfl rfl (any_of HT_.out (by kernel_rfl)) (fun _ _ _ h => h) (Or.inr ⟨by rfl,rfl⟩) ?_ ?_
              rotate_left
              · simp only [Act.put,List.setIfInBounds_toArray,List.set_cons_zero,List.set_cons_succ,i64_w,i32_w]
                rfl
              refine pure_ (i := 21) (N := some 42) (v := undef) (a' := ?_) #[true,true,true,true,true,true,true,true,true,true,true,true,true,true,true,true,true,true,true,true,true,true,false,false,false,false,false,false,false] rfl rfl (any_of HT_.out (by kernel_rfl)) (fun _ _ _ h => h) (Or.inr ⟨by rfl,rfl⟩) ?_ ?_
              rotate_left
              · simp only [Act.put,List.setIfInBounds_toArray,List.set_cons_zero,List.set_cons_succ,i64_w,i32_w]
                rfl
              refine pure_ (i := 22) (N := some 43) (v := undef) (a' := ?_) #[true,true,true,true,true,true,true,true,true,true,true,true,true,true,true,true,true,true,true,true,true,true,true,false,false,false,false,false,false] rfl rfl (any_of HT_.out (by kernel_rfl)) (fun _ _ _ h => h) (Or.inr ⟨by rfl,rfl⟩) ?_ ?_
              rotate_left
              · simp only [Act.put,List.setIfInBounds_toArray,List.set_cons_zero,List.set_cons_succ,i64_w,i32_w]
                rfl
              refine pure_ (i := 23) (N := some 44) (v := undef) (a' := ?_) #[true,true,true,true,true,true,true,true,true,true,true,true,true,true,true,true,true,true,true,true,true,true,true,true,false,false,false,false,false] rfl rfl (any_of HT_.out (by kernel_rfl)) (fun _ _ _ h => h) (Or.inr ⟨by rfl,rfl⟩) ?_ ?_
              rotate_left
              · simp only [Act.put,List.setIfInBounds_toArray,List.set_cons_zero,List.set_cons_succ,i64_w,i32_w]
                rfl
              refine pure_ (i := 24) (N := some 45) (v := undef) (a' := ?_) #[true,true,true,true,true,true,true,true,true,true,true,true,true,true,true,true,true,true,true,true,true,true,true,true,true,false,false,false,false] rfl rfl (any_of HT_.out (by kernel_rfl)) (fun _ _ _ h => h) (Or.inr ⟨by rfl,rfl⟩) ?_ ?_
              rotate_left
              · simp only [Act.put,List.setIfInBounds_toArray,List.set_cons_zero,List.set_cons_succ,i64_w,i32_w]
                rfl
              refine pure_ (i := 25) (N := some 46) (v := undef) (a' := ?_) #[true,true,true,true,true,true,true,true,true,true,true,true,true,true,true,true,true,true,true,true,true,true,true,true,true,true,false,false,false] rfl rfl (any_of HT_.out (by kernel_rfl)) (fun _ _ _ h => h) (Or.inr ⟨by rfl,rfl⟩) ?_ ?_
              rotate_left
              · simp only [Act.put,List.setIfInBounds_toArray,List.set_cons_zero,List.set_cons_succ,i64_w,i32_w]
                rfl
              refine pure_ (i := 26) (N := some 47) (v := undef) (a' := ?_) #[true,true,true,true,true,true,true,true,true,true,true,true,true,true,true,true,true,true,true,true,true,true,true,true,true,true,true,false,false] rfl rfl (any_of HT_.out (by kernel_rfl)) (fun _ _ _ h => h) (Or.inr ⟨by rfl,rfl⟩) ?_ ?_
              rotate_left
              · simp only [Act.put,List.setIfInBounds_toArray,List.set_cons_zero,List.set_cons_succ,i64_w,i32_w]
                rfl
              refine pure_ (i := 27) (N := some 48) (v := undef) (a' := ?_) #[true,true,true,true,true,true,true,true,true,true,true,true,true,true,true,true,true,true,true,true,true,true,true,true,true,true,true,true,false] rfl rfl (any_of HT_.out (by kernel_rfl)) (fun _ _ _ h => h) (Or.inr ⟨by rfl,rfl⟩) ?_ ?_
              rotate_left
              · simp only [Act.put,List.setIfInBounds_toArray,List.set_cons_zero,List.set_cons_succ,i64_w,i32_w]
                rfl
              refine pure_ (i := 28) (N := some 49) (v := ?_) (a' := ?_) #[true,true,true,true,true,true,true,true,true,true,true,true,true,true,true,true,true,true,true,true,true,true,true,true,true,true,true,true,true] rfl rfl (any_of HT_.out (by kernel_rfl)) (fun _ _ _ h => h) (Or.inl ⟨by rfl,?_⟩) ?_ ?_
              rotate_left
              · intro w'
                go_simp
                with_reducible rfl
              rotate_left
              · simp only [Act.put,List.setIfInBounds_toArray,List.set_cons_zero,List.set_cons_succ,i64_w,i32_w]
                rfl
              refine done_ (done_of HT_.out (by kernel_rfl)) ?_
              try go_wp2
              go_ret
              exact ⟨by first | rfl | (simp [errW_none,errW_some] <;> rfl) | (simp [*,errW_none,errW_some] <;> rfl),by repeat (first | (with_reducible first | exact HB.out | apply below_alloc | apply pw_below_drewN | apply below_drew1 | refine below_set ?_ GE327.out | refine below_set ?_ GE329.out) | exact HB.out)⟩
          · rw [if_neg c8] at H
            exact absurd H (by simp)
        · rw [if_neg c7] at H
          have c7b0 : decide (x3_1 < (l0_0.length : Int)) = false := decide_eq_false c7
          clear c7
          obtain rfl := Option.some.inj H
          have hcz59_0 : wr.cell? ⟨gb327,0,none⟩ = some (.slice A0_0 l0_0.length c0_0) := (blk_cell BK327.out 0).trans rfl;have hfz59_0 := blk_frozen BK327.out 0
          go_wp2
          go_ret
          exact ⟨by first | rfl | (simp [errW_none,errW_some] <;> rfl) | (simp [*,errW_none,errW_some] <;> rfl),by repeat (first | (with_reducible first | exact HB.out | apply below_alloc | apply pw_below_drewN | apply below_drew1 | refine below_set ?_ GE327.out) | exact HB.out)⟩

end Go.Proofs.Ytbmochegfdljfaa.My
