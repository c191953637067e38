-- Written by a program of this session (wip/myprint.py),which drives the kit's print over hand-written fragments. Not trusted: Lean checks it.
import Derived.Test.YtbmochegfdljfaaMyx0
import Derived.Test.YtbmochegfdljfaaMyx22
import Derived.Test.YtbmochegfdljfaaMyx51
import Derived.Test.YtbmochegfdljfaaMyx52
import Derived.Test.YtbmochegfdljfaaMyx53
namespace Go.Proofs.Ytbmochegfdljfaa.My
open Go.Proofs.Ytbmochegfdljfaa.Aid Go.Proofs.Ytbmochegfdljfaa.KdX
open Go.RowKit Go.Proofs.YtbmochegfdljfaaW.PrintWords Go.Proofs.YtbmochegfdljfaaW.PrintLast Go.Proofs.YtbmochegfdljfaaW.PrintMore
attribute [local go_sem] max2_int min2_int max_two min_two max_three min_three max_four min_four   -- for this text's walks alone
set_option linter.unusedVariables false
set_option linter.unusedSimpArgs false

/-! ### wageofficeref39_Post: function 20 -/
mutual
def wageofficeref39_Post.j0 : Nat → Bool → List (S26) → Int → ByteArray → ByteArray → Int → Int → Int → Option ((List (S26)) × Int)
  | 0,_,_,_,_,_,_,_,_ => none
  | k + 1,x16,x340000,x341000,x341001,x341002,x341003,x341004,x341005 => if x16 = true then (some (([] : List (S26)),1)) else ((wageofficeref39_find.f k x340000 x341000).bind fun t344 => (if t344 ≥ 0 then (if 0 ≤ t344 then (if t344 < (x340000.length : Int) then ((wageofficeref39_agree.f ((rd_T26 x340000 t344).f0) ((rd_T26 x340000 t344).f1) ((rd_T26 x340000 t344).f2) ((rd_T26 x340000 t344).f3) ((rd_T26 x340000 t344).f4) ((rd_T26 x340000 t344).f5) x341000 x341001 x341002 x341003 x341004 x341005).bind fun t346 => (wageofficeref39_Post.j1 k t344 (!t346) x340000 x341000 x341001 x341002 x341003 x341004 x341005)) else (none)) else (none)) else (wageofficeref39_Post.j1 k t344 false x340000 x341000 x341001 x341002 x341003 x341004 x341005)))
def wageofficeref39_Post.j1 : Nat → Int → Bool → List (S26) → Int → ByteArray → ByteArray → Int → Int → Int → Option ((List (S26)) × Int)
  | 0,_,_,_,_,_,_,_,_,_ => none
  | k + 1,x6,x34,x340000,x341000,x341001,x341002,x341003,x341004,x341005 => if x34 = true then (some (([] : List (S26)),5)) else ((some (([] : List (S26)) : List (S26))).bind fun y347 => (if y347.length + x340000.length < 2199023255552 then ((some (y347 ++ x340000 : List (S26))).bind fun y350 => (if x6 ≥ 0 then (some (y350,0)) else (if (x340000.length : Int) = 2000 then (some (([] : List (S26)),2)) else (if (x340000.length : Int) > 0 then (if 0 ≤ (wrap64 ((x340000.length : Int) - 1)) then (if (wrap64 ((x340000.length : Int) - 1)) < (x340000.length : Int) then (if x341005 < ((rd_T26 x340000 (wrap64 ((x340000.length : Int) - 1))).f5) then (some (([] : List (S26)),6)) else (if y350.length < 2199023255552 then (some ((y350 ++ [(⟨x341000,x341001,x341002,x341003,x341004,x341005⟩ : S26)]),0)) else (none))) else (none)) else (none)) else (if y350.length < 2199023255552 then (some ((y350 ++ [(⟨x341000,x341001,x341002,x341003,x341004,x341005⟩ : S26)]),0)) else (none)))))) else (none)))
end
def wageofficeref39_Post.f (k : Nat) (l0_0 : List (S26)) (a1_0 : Int) (a1_1 : ByteArray) (a1_2 : ByteArray) (a1_3 : Int) (a1_4 : Int) (a1_5 : Int) : Option ((List (S26)) × Int) := (wageofficeref39_Valid.f k l0_0).bind fun t342 => (if t342 = true then ((wageofficeref39_Formed.f k a1_0 a1_1 a1_2 a1_3 a1_4 a1_5).bind fun t343 => (wageofficeref39_Post.j0 k (!t343) l0_0 a1_0 a1_1 a1_2 a1_3 a1_4 a1_5)) else (wageofficeref39_Post.j0 k true l0_0 a1_0 a1_1 a1_2 a1_3 a1_4 a1_5))
theorem wageofficeref39_Post.mono_l : ∀ k,(∀ y0 y1 y2 y3 y4 y5 y6 y7,LeO (wageofficeref39_Post.j0 k y0 y1 y2 y3 y4 y5 y6 y7) (wageofficeref39_Post.j0 (k + 1) y0 y1 y2 y3 y4 y5 y6 y7)) ∧ (∀ y0 y1 y2 y3 y4 y5 y6 y7 y8,LeO (wageofficeref39_Post.j1 k y0 y1 y2 y3 y4 y5 y6 y7 y8) (wageofficeref39_Post.j1 (k + 1) y0 y1 y2 y3 y4 y5 y6 y7 y8))
  | 0 => ⟨fun _ _ _ _ _ _ _ _ r h => by simp [wageofficeref39_Post.j0] at h,fun _ _ _ _ _ _ _ _ _ r h => by simp [wageofficeref39_Post.j1] at h⟩
  | k + 1 => by
    obtain ⟨ih0,ih1⟩ := wageofficeref39_Post.mono_l k
    refine ⟨?_,?_⟩
    · intro y0 y1 y2 y3 y4 y5 y6 y7
      unfold wageofficeref39_Post.j0
      repeat' first
      | (with_reducible exact ih0 _ _ _ _ _ _ _ _)
      | (with_reducible exact ih1 _ _ _ _ _ _ _ _ _)
      | (with_reducible exact wageofficeref39_Formed.mono _ _ _ _ _ _ _)
      | (with_reducible exact wageofficeref39_Valid.mono _ _)
      | (with_reducible exact wageofficeref39_find.mono _ _ _)
      | (with_reducible exact LeO.refl _)
      | (with_reducible exact LeO.none _)
      | (with_reducible refine LeO.ite ?_ ?_)
      | (with_reducible refine LeO.bind ?_ (fun _ => ?_))
      | exact ih0 _ _ _ _ _ _ _ _
      | exact ih1 _ _ _ _ _ _ _ _ _
      | exact wageofficeref39_Formed.mono _ _ _ _ _ _ _
      | exact wageofficeref39_Valid.mono _ _
      | exact wageofficeref39_find.mono _ _ _
      | exact LeO.none _
      | refine LeO.ite ?_ ?_
      | refine LeO.bind ?_ (fun _ => ?_)
    · intro y0 y1 y2 y3 y4 y5 y6 y7 y8
      unfold wageofficeref39_Post.j1
      repeat' first
      | (with_reducible exact ih0 _ _ _ _ _ _ _ _)
      | (with_reducible exact ih1 _ _ _ _ _ _ _ _ _)
      | (with_reducible exact wageofficeref39_Formed.mono _ _ _ _ _ _ _)
      | (with_reducible exact wageofficeref39_Valid.mono _ _)
      | (with_reducible exact wageofficeref39_find.mono _ _ _)
      | (with_reducible exact LeO.refl _)
      | (with_reducible exact LeO.none _)
      | (with_reducible refine LeO.ite ?_ ?_)
      | (with_reducible refine LeO.bind ?_ (fun _ => ?_))
      | exact ih0 _ _ _ _ _ _ _ _
      | exact ih1 _ _ _ _ _ _ _ _ _
      | exact wageofficeref39_Formed.mono _ _ _ _ _ _ _
      | exact wageofficeref39_Valid.mono _ _
      | exact wageofficeref39_find.mono _ _ _
      | exact LeO.none _
      | refine LeO.ite ?_ ?_
      | refine LeO.bind ?_ (fun _ => ?_)
theorem wageofficeref39_Post.mono : ∀ a0 a1 a2 a3 a4 a5 a6 k,LeO (wageofficeref39_Post.f k a0 a1 a2 a3 a4 a5 a6) (wageofficeref39_Post.f (k + 1) a0 a1 a2 a3 a4 a5 a6) := by
  intro a0 a1 a2 a3 a4 a5 a6 k
  obtain ⟨ih0,ih1⟩ := wageofficeref39_Post.mono_l k
  unfold wageofficeref39_Post.f
  repeat' first
      | (with_reducible exact ih0 _ _ _ _ _ _ _ _)
      | (with_reducible exact ih1 _ _ _ _ _ _ _ _ _)
      | (with_reducible exact wageofficeref39_Formed.mono _ _ _ _ _ _ _)
      | (with_reducible exact wageofficeref39_Valid.mono _ _)
      | (with_reducible exact wageofficeref39_find.mono _ _ _)
      | (with_reducible exact LeO.refl _)
      | (with_reducible exact LeO.none _)
      | (with_reducible refine LeO.ite ?_ ?_)
      | (with_reducible refine LeO.bind ?_ (fun _ => ?_))
      | exact ih0 _ _ _ _ _ _ _ _
      | exact ih1 _ _ _ _ _ _ _ _ _
      | exact wageofficeref39_Formed.mono _ _ _ _ _ _ _
      | exact wageofficeref39_Valid.mono _ _
      | exact wageofficeref39_find.mono _ _ _
      | exact LeO.none _
      | refine LeO.ite ?_ ?_
      | refine LeO.bind ?_ (fun _ => ?_)
def wageofficeref39_Post.T4 : Bool × List (List Nat × List Nat) := (true,[([],[]),([0],[0]),([1],[1]),([2],[2]),([3,2],[2,3]),([2],[2]),([4,5,2],[2,4,5]),([6,2],[2,6]),([2],[2]),([7,8,2,2],[2,7,8]),([9,2],[2,9]),([2,10],[2,10])])
def wageofficeref39_Post.B4 : List Nat := [0,1,3,7,15,7,63,127,7,511,1023,2047]
theorem wageofficeref39_Post.tab4 : rtab .any (opsOf Try.f20 4) = wageofficeref39_Post.T4 := by kernel_rfl
theorem wageofficeref39_Post.bits4 : waitsOk wageofficeref39_Post.T4.2 wageofficeref39_Post.B4 = true := by kernel_rfl
def wageofficeref39_Post.T12 : Bool × List (List Nat × List Nat) := (true,[([],[]),([0],[0]),([1],[1]),([2],[2]),([3,2],[2,3]),([2],[2]),([5,2],[2,5]),([2],[2]),([7,2],[2,7]),([6,8,2],[2,6,8]),([9,2],[2,9]),([10,2],[2,10]),([4,11,2],[2,4,11]),([2,12],[2,12])])
def wageofficeref39_Post.B12 : List Nat := [0,1,3,7,15,7,39,7,135,487,999,2023,4095,8191]
theorem wageofficeref39_Post.tab12 : rtab .any (opsOf Try.f20 12) = wageofficeref39_Post.T12 := by kernel_rfl
theorem wageofficeref39_Post.bits12 : waitsOk wageofficeref39_Post.T12.2 wageofficeref39_Post.B12 = true := by kernel_rfl
set_option maxHeartbeats 8000000 in
set_option maxRecDepth 100000 in
theorem wageofficeref39_Post.calls (k : Nat) (A0_0 : Option Addr) (c0_0 : Nat) (l0_0 : List (S26)) (a1_0 : Int) (a1_1 : ByteArray) (a1_2 : ByteArray) (a1_3 : Int) (a1_4 : Int) (a1_5 : Int) (r1 : List (S26)) (r2 : Int) (w : World) (hr0_0 : Kd.C k26 w A0_0 l0_0.length l0_0) (hc0_0 : l0_0.length ≤ c0_0) (h : wageofficeref39_Post.f k l0_0 a1_0 a1_1 a1_2 a1_3 a1_4 a1_5 = some (r1,r2)) :
    Calls Try.prog 20 #[.agg #[.slice A0_0 l0_0.length c0_0],.agg #[.int .i64 a1_0,.string a1_1,.string a1_2,.int .i64 a1_3,.int .i64 a1_4,.int .i64 a1_5]] w fun e w' => ∃ v0_ : Value,e = .returned (.tuple #[.agg #[v0_],.int .i64 r2]) ∧ Kd.R k26 26 w' w.heap.size (fun _ => True) v0_ r1 ∧ Below w.heap.size w w' := by
  have hu24 := Try.underlying24
  have hu26 := Try.underlying26
  have HR0_0 := Aside0.mk hr0_0
  have HC0_0 := Aside0.mk hc0_0
  clear hr0_0 hc0_0
  have HB := Aside0.mk (Below.refl w.heap.size w)
  have H : ((wageofficeref39_Valid.f k l0_0).bind fun t342 => (if t342 = true then ((wageofficeref39_Formed.f k a1_0 a1_1 a1_2 a1_3 a1_4 a1_5).bind fun t343 => (wageofficeref39_Post.j0 k (!t343) l0_0 a1_0 a1_1 a1_2 a1_3 a1_4 a1_5)) else (wageofficeref39_Post.j0 k true l0_0 a1_0 a1_1 a1_2 a1_3 a1_4 a1_5))) = some (r1,r2) := h
  clear h
  have HC3 := Aside0.mk H
  clear H
  go_enter Try.func20,Try.ntmps20
  go_upto_region 1 with (first | ((with_reducible refine gate_dst (N := 2) rfl ?_);refine box_event ?hg (N := 2) ?hd (cs := #[.slice A0_0 l0_0.length c0_0]) (t := 24) ?hr ?_;(case hd => rfl);(case hg => rfl);(case hr => first | (go_simp;done) | (go_simp;rfl));intro gb339 hg w4 hbox hb;have n0_ := Aside0.mk (below_step (by repeat (first | (with_reducible first | exact HB.out | apply below_alloc | apply pw_below_drewN | apply below_drew1) | exact HB.out)) hb);have n1_ := Aside0.mk (hbox);have n2_ := Aside0.mk ((by rw [hg];exact (below_size (by repeat (first | (with_reducible first | exact HB.out | apply below_alloc | apply pw_below_drewN | apply below_drew1) | exact HB.out))) : w.heap.size ≤ gb339));have n3_ := Aside0.mk ((by rw [hg];exact (below_size (by repeat (first | (with_reducible first | exact HB.out | apply below_alloc | apply pw_below_drewN | apply below_drew1) | exact HB.out))) : w.heap.size ≤ gb339));clear HB;have HB := n0_;have BK339 := n1_;have GW339 := n2_;have GE339 := n3_;clear n0_ n1_ n2_ n3_;clear hb hbox hg) | ((with_reducible refine gate_dst (N := 3) rfl ?_);refine box_event ?hg (N := 3) ?hd (cs := #[.int .i64 a1_0,.string a1_1,.string a1_2,.int .i64 a1_3,.int .i64 a1_4,.int .i64 a1_5]) (t := 26) ?hr ?_;(case hd => rfl);(case hg => rfl);(case hr => first | (go_simp;done) | (go_simp;rfl));intro gb340 hg w5 hbox hb;have n0_ := Aside0.mk (blk_below (g := gb339) (o := .cells #[.slice A0_0 l0_0.length c0_0] 24 (0,0)) (by (with_reducible repeat (first | refine blk_drewN ?_ _ | refine blk_drew ?_ | refine blk_alloc ?_ _));exact BK339.out) hb);have n1_ := Aside0.mk (below_step (by repeat (first | (with_reducible first | exact HB.out | apply below_alloc | apply pw_below_drewN | apply below_drew1 | refine below_set ?_ GE339.out) | exact HB.out)) hb);have n2_ := Aside0.mk (hbox);have n3_ := Aside0.mk ((by rw [hg];exact (below_size (by repeat (first | (with_reducible first | exact HB.out | apply below_alloc | apply pw_below_drewN | apply below_drew1 | refine below_set ?_ GE339.out) | exact HB.out))) : w.heap.size ≤ gb340));have n4_ := Aside0.mk ((by rw [hg];exact (below_size (by repeat (first | (with_reducible first | exact HB.out | apply below_alloc | apply pw_below_drewN | apply below_drew1 | refine below_set ?_ GE339.out) | exact HB.out))) : w.heap.size ≤ gb340));have n5_ := Aside0.mk ((by rw [hg];exact Nat.ne_of_lt (blk_lt (g := gb339) (o := .cells #[.slice A0_0 l0_0.length c0_0] 24 (0,0)) (by (with_reducible repeat (first | refine blk_drewN ?_ _ | refine blk_drew ?_ | refine blk_alloc ?_ _));exact BK339.out)) : gb339 ≠ gb340));have n6_ := Aside0.mk ((by rw [hg];exact Nat.ne_of_gt (blk_lt (g := gb339) (o := .cells #[.slice A0_0 l0_0.length c0_0] 24 (0,0)) (by (with_reducible repeat (first | refine blk_drewN ?_ _ | refine blk_drew ?_ | refine blk_alloc ?_ _));exact BK339.out)) : gb340 ≠ gb339));clear BK339;clear HB;have BK339 := n0_;have HB := n1_;have BK340 := n2_;have GW340 := n3_;have GE340 := n4_;have NB339_340 := n5_;have NB340_339 := n6_;clear n0_ n1_ n2_ n3_ n4_ n5_ n6_;clear hb hbox hg) | ((with_reducible refine gate_dst (N := 4) rfl ?_);refine box_event ?hg (N := 4) ?hd (cs := #[.slice none 0 0]) (t := 24) ?hr ?_;(case hd => rfl);(case hg => rfl);(case hr => first | (go_simp;done) | (go_simp;rfl));intro gb341 hg w6 hbox hb;have n0_ := Aside0.mk (blk_below (g := gb339) (o := .cells #[.slice A0_0 l0_0.length c0_0] 24 (0,0)) (by (with_reducible repeat (first | refine blk_drewN ?_ _ | refine blk_drew ?_ | refine blk_alloc ?_ _));exact BK339.out) hb);have n1_ := Aside0.mk (blk_below (g := gb340) (o := .cells #[.int .i64 a1_0,.string a1_1,.string a1_2,.int .i64 a1_3,.int .i64 a1_4,.int .i64 a1_5] 26 (0,0)) (by (with_reducible repeat (first | refine blk_drewN ?_ _ | refine blk_drew ?_ | refine blk_alloc ?_ _));exact BK340.out) hb);have n2_ := Aside0.mk (below_step (by repeat (first | (with_reducible first | exact HB.out | apply below_alloc | apply pw_below_drewN | apply below_drew1 | refine below_set ?_ GE339.out | refine below_set ?_ GE340.out) | exact HB.out)) hb);have n3_ := Aside0.mk (hbox);have n4_ := Aside0.mk ((by rw [hg];exact (below_size (by repeat (first | (with_reducible first | exact HB.out | apply below_alloc | apply pw_below_drewN | apply below_drew1 | refine below_set ?_ GE339.out | refine below_set ?_ GE340.out) | exact HB.out))) : w.heap.size ≤ gb341));have n5_ := Aside0.mk ((by rw [hg];exact (below_size (by repeat (first | (with_reducible first | exact HB.out | apply below_alloc | apply pw_below_drewN | apply below_drew1 | refine below_set ?_ GE339.out | refine below_set ?_ GE340.out) | exact HB.out))) : w.heap.size ≤ gb341));have n6_ := Aside0.mk ((by rw [hg];exact Nat.ne_of_lt (blk_lt (g := gb339) (o := .cells #[.slice A0_0 l0_0.length c0_0] 24 (0,0)) (by (with_reducible repeat (first | refine blk_drewN ?_ _ | refine blk_drew ?_ | refine blk_alloc ?_ _));exact BK339.out)) : gb339 ≠ gb341));have n7_ := Aside0.mk ((by rw [hg];exact Nat.ne_of_gt (blk_lt (g := gb339) (o := .cells #[.slice A0_0 l0_0.length c0_0] 24 (0,0)) (by (with_reducible repeat (first | refine blk_drewN ?_ _ | refine blk_drew ?_ | refine blk_alloc ?_ _));exact BK339.out)) : gb341 ≠ gb339));have n8_ := Aside0.mk ((by rw [hg];exact Nat.ne_of_lt (blk_lt (g := gb340) (o := .cells #[.int .i64 a1_0,.string a1_1,.string a1_2,.int .i64 a1_3,.int .i64 a1_4,.int .i64 a1_5] 26 (0,0)) (by (with_reducible repeat (first | refine blk_drewN ?_ _ | refine blk_drew ?_ | refine blk_alloc ?_ _));exact BK340.out)) : gb340 ≠ gb341));have n9_ := Aside0.mk ((by rw [hg];exact Nat.ne_of_gt (blk_lt (g := gb340) (o := .cells #[.int .i64 a1_0,.string a1_1,.string a1_2,.int .i64 a1_3,.int .i64 a1_4,.int .i64 a1_5] 26 (0,0)) (by (with_reducible repeat (first | refine blk_drewN ?_ _ | refine blk_drew ?_ | refine blk_alloc ?_ _));exact BK340.out)) : gb341 ≠ gb340));clear BK339;clear BK340;clear HB;have BK339 := n0_;have BK340 := n1_;have HB := n2_;have BK341 := n3_;have GW341 := n4_;have GE341 := n5_;have NB339_341 := n6_;have NB341_339 := n7_;have NB340_341 := n8_;have NB341_340 := n9_;clear n0_ n1_ n2_ n3_ n4_ n5_ n6_ n7_ n8_ n9_;clear hb hbox hg))
  (try simp only [Act.put,List.setIfInBounds_toArray,List.set_cons_zero,List.set_cons_succ])
  go_cut [16] (fun v16 wc => ∃ (kq : Nat) (x16_2 : Bool),v16 = .bool x16_2 ∧ Aside0 (wageofficeref39_Post.j0 kq x16_2 l0_0 a1_0 a1_1 a1_2 a1_3 a1_4 a1_5 = some (r1,r2)) ∧ Aside0 (kq ≤ k) ∧ Aside0 (wc.heap[gb339]? = some (.cells #[(.slice A0_0 l0_0.length c0_0)] 24 (0,0))) ∧ Aside0 (wc.heap[gb340]? = some (.cells #[.int .i64 a1_0,.string a1_1,.string a1_2,.int .i64 a1_3,.int .i64 a1_4,.int .i64 a1_5] 26 (0,0))) ∧ Aside0 (wc.heap[gb341]? = some (.cells #[(.slice none 0 0)] 24 (0,0))) ∧ Aside0 (Below w.heap.size w wc))
  case first =>
    have H := HC3.out
    clear HC3
    replace H := Option.bind_eq_some_iff.mp H
    obtain ⟨t342,A70,H⟩ := H
    replace H : (if t342 = true then ((wageofficeref39_Formed.f k a1_0 a1_1 a1_2 a1_3 a1_4 a1_5).bind fun t343 => (wageofficeref39_Post.j0 k (!t343) l0_0 a1_0 a1_1 a1_2 a1_3 a1_4 a1_5)) else (wageofficeref39_Post.j0 k true l0_0 a1_0 a1_1 a1_2 a1_3 a1_4 a1_5)) = some (r1,r2) := H
    have A7 := Aside0.mk A70
    clear A70
    by_cases c8 : t342 = true
    · subst c8
      have H1 : ((wageofficeref39_Formed.f k a1_0 a1_1 a1_2 a1_3 a1_4 a1_5).bind fun t343 => (wageofficeref39_Post.j0 k (!t343) l0_0 a1_0 a1_1 a1_2 a1_3 a1_4 a1_5)) = some (r1,r2) := by rw [if_pos rfl] at H;exact H
      clear H
      have H := H1
      clear H1
      replace H := Option.bind_eq_some_iff.mp H
      obtain ⟨t343,A90,H⟩ := H
      replace H : (wageofficeref39_Post.j0 k (!t343) l0_0 a1_0 a1_1 a1_2 a1_3 a1_4 a1_5) = some (r1,r2) := H
      have A9 := Aside0.mk A90
      clear A90
      have H' := Aside0.mk H
      clear H;have hnb10 := NB339_340.out;have hnc10 := NB340_339.out;have hnb11 := NB339_341.out;have hnc11 := NB341_339.out;have hcz12_0 : w6.cell? ⟨gb339,0,none⟩ = some (.slice A0_0 l0_0.length c0_0) := (blk_cell BK339.out 0).trans rfl;have hfz12_0 := blk_frozen BK339.out 0
      go_wp2_with (first | ((with_reducible refine gate_callee (f := 22) rfl ?_);refine goesL_ (some 10) rfl rfl Try.func22 (by kernel_rfl) rfl #[.agg #[.slice A0_0 l0_0.length c0_0]] rfl (by (try simp only [List.map_toArray,List.map_cons,List.map_nil]);first | done | rfl | (simp only [List.length_drop,List.length_take];rfl)) ?_;(with_reducible refine (wageofficeref39_Valid.calls k _ _ l0_0 true _ ?side1 ?side2 A7.out).mono ?_);(case side1 => repeat (first | exact (Kd.C_below HR0_0.out HB.out) | (with_reducible refine Kd.C_alloc ?_ _) | (with_reducible refine Kd.C_drewN ?_ _) | (with_reducible refine Kd.C_drew ?_)));(case side2 => exact HC0_0.out);rintro e w13 ⟨rfl,hb⟩;refine ⟨_,rfl,?_⟩;have n0_ := Aside0.mk (blk_below (g := gb339) (o := .cells #[.slice A0_0 l0_0.length c0_0] 24 (0,0)) (by (with_reducible repeat (first | refine blk_drewN ?_ _ | refine blk_drew ?_ | refine blk_alloc ?_ _));exact BK339.out) hb);have n1_ := Aside0.mk (blk_below (g := gb340) (o := .cells #[.int .i64 a1_0,.string a1_1,.string a1_2,.int .i64 a1_3,.int .i64 a1_4,.int .i64 a1_5] 26 (0,0)) (by (with_reducible repeat (first | refine blk_drewN ?_ _ | refine blk_drew ?_ | refine blk_alloc ?_ _));exact BK340.out) hb);have n2_ := Aside0.mk (blk_below (g := gb341) (o := .cells #[.slice none 0 0] 24 (0,0)) (by (with_reducible repeat (first | refine blk_drewN ?_ _ | refine blk_drew ?_ | refine blk_alloc ?_ _));exact BK341.out) hb);have n3_ := Aside0.mk (below_step (by repeat (first | (with_reducible first | exact HB.out | apply below_alloc | apply pw_below_drewN | apply below_drew1 | refine below_set ?_ GE339.out | refine below_set ?_ GE340.out | refine below_set ?_ GE341.out) | exact HB.out)) hb);clear BK339;clear BK340;clear BK341;clear HB;have BK339 := n0_;have BK340 := n1_;have BK341 := n2_;have HB := n3_;clear n0_ n1_ n2_ n3_;(try clear hb);(try clear hb2);(try clear hk);(try clear hi);have hnb14 := NB340_341.out;have hnc14 := NB341_340.out;have hcz15_0 : w13.cell? ⟨gb340,0,none⟩ = some (.int .i64 a1_0) := (blk_cell BK340.out 0).trans rfl;have hcz15_1 : w13.cell? ⟨gb340,1,none⟩ = some (.string a1_1) := (blk_cell BK340.out 1).trans rfl;have hcz15_2 : w13.cell? ⟨gb340,2,none⟩ = some (.string a1_2) := (blk_cell BK340.out 2).trans rfl;have hcz15_3 : w13.cell? ⟨gb340,3,none⟩ = some (.int .i64 a1_3) := (blk_cell BK340.out 3).trans rfl;have hcz15_4 : w13.cell? ⟨gb340,4,none⟩ = some (.int .i64 a1_4) := (blk_cell BK340.out 4).trans rfl;have hcz15_5 : w13.cell? ⟨gb340,5,none⟩ = some (.int .i64 a1_5) := (blk_cell BK340.out 5).trans rfl;have hfz15_0 := blk_frozen BK340.out 0;have hfz15_1 := blk_frozen BK340.out 1;have hfz15_2 := blk_frozen BK340.out 2;have hfz15_3 := blk_frozen BK340.out 3;have hfz15_4 := blk_frozen BK340.out 4;have hfz15_5 := blk_frozen BK340.out 5) | (go_at_call 51;(with_reducible refine (wageofficeref39_Formed.calls k a1_0 a1_1 a1_2 a1_3 a1_4 a1_5 t343 _ A9.out).mono ?_);rintro e w16 ⟨rfl,hb⟩;have n0_ := Aside0.mk (blk_below (g := gb339) (o := .cells #[.slice A0_0 l0_0.length c0_0] 24 (0,0)) (by (with_reducible repeat (first | refine blk_drewN ?_ _ | refine blk_drew ?_ | refine blk_alloc ?_ _));exact BK339.out) hb);have n1_ := Aside0.mk (blk_below (g := gb340) (o := .cells #[.int .i64 a1_0,.string a1_1,.string a1_2,.int .i64 a1_3,.int .i64 a1_4,.int .i64 a1_5] 26 (0,0)) (by (with_reducible repeat (first | refine blk_drewN ?_ _ | refine blk_drew ?_ | refine blk_alloc ?_ _));exact BK340.out) hb);have n2_ := Aside0.mk (blk_below (g := gb341) (o := .cells #[.slice none 0 0] 24 (0,0)) (by (with_reducible repeat (first | refine blk_drewN ?_ _ | refine blk_drew ?_ | refine blk_alloc ?_ _));exact BK341.out) hb);have n3_ := Aside0.mk (below_step (by repeat (first | (with_reducible first | exact HB.out | apply below_alloc | apply pw_below_drewN | apply below_drew1 | refine below_set ?_ GE339.out | refine below_set ?_ GE340.out | refine below_set ?_ GE341.out) | exact HB.out)) hb);clear BK339;clear BK340;clear BK341;clear HB;have BK339 := n0_;have BK340 := n1_;have BK341 := n2_;have HB := n3_;clear n0_ n1_ n2_ n3_;(try clear hb);(try clear hb2);(try clear hk);(try clear hi)))
      go_meet
      case rel => exact ⟨_,(!t343),(by first | rfl | (simp;done) | (simp [*];done)),H',⟨by first | omega | exact Nat.le_refl _⟩,⟨by (with_reducible repeat (first | refine blk_drewN ?_ _ | refine blk_drew ?_ | refine blk_alloc ?_ _));exact BK339.out⟩,⟨by (with_reducible repeat (first | refine blk_drewN ?_ _ | refine blk_drew ?_ | refine blk_alloc ?_ _));exact BK340.out⟩,⟨by (with_reducible repeat (first | refine blk_drewN ?_ _ | refine blk_drew ?_ | refine blk_alloc ?_ _));exact BK341.out⟩,⟨by repeat (first | (with_reducible first | exact HB.out | apply below_alloc | apply pw_below_drewN | apply below_drew1 | refine below_set ?_ GE339.out | refine below_set ?_ GE340.out | refine below_set ?_ GE341.out) | exact HB.out)⟩⟩
    · replace c8 := Bool.eq_false_iff.mpr c8
      subst c8
      have H1 : (wageofficeref39_Post.j0 k true l0_0 a1_0 a1_1 a1_2 a1_3 a1_4 a1_5) = some (r1,r2) := by rw [if_neg (show ¬ (false = true) by decide)] at H;exact H
      clear H
      have H := H1
      clear H1
      have H' := Aside0.mk H
      clear H;have hnb17 := NB339_340.out;have hnc17 := NB340_339.out;have hnb18 := NB339_341.out;have hnc18 := NB341_339.out;have hcz19_0 : w6.cell? ⟨gb339,0,none⟩ = some (.slice A0_0 l0_0.length c0_0) := (blk_cell BK339.out 0).trans rfl;have hfz19_0 := blk_frozen BK339.out 0
      go_wp2_with (first | ((with_reducible refine gate_callee (f := 22) rfl ?_);refine goesL_ (some 10) rfl rfl Try.func22 (by kernel_rfl) rfl #[.agg #[.slice A0_0 l0_0.length c0_0]] rfl (by (try simp only [List.map_toArray,List.map_cons,List.map_nil]);first | done | rfl | (simp only [List.length_drop,List.length_take];rfl)) ?_;(with_reducible refine (wageofficeref39_Valid.calls k _ _ l0_0 false _ ?side1 ?side2 A7.out).mono ?_);(case side1 => repeat (first | exact (Kd.C_below HR0_0.out HB.out) | (with_reducible refine Kd.C_alloc ?_ _) | (with_reducible refine Kd.C_drewN ?_ _) | (with_reducible refine Kd.C_drew ?_)));(case side2 => exact HC0_0.out);rintro e w20 ⟨rfl,hb⟩;refine ⟨_,rfl,?_⟩;have n0_ := Aside0.mk (blk_below (g := gb339) (o := .cells #[.slice A0_0 l0_0.length c0_0] 24 (0,0)) (by (with_reducible repeat (first | refine blk_drewN ?_ _ | refine blk_drew ?_ | refine blk_alloc ?_ _));exact BK339.out) hb);have n1_ := Aside0.mk (blk_below (g := gb340) (o := .cells #[.int .i64 a1_0,.string a1_1,.string a1_2,.int .i64 a1_3,.int .i64 a1_4,.int .i64 a1_5] 26 (0,0)) (by (with_reducible repeat (first | refine blk_drewN ?_ _ | refine blk_drew ?_ | refine blk_alloc ?_ _));exact BK340.out) hb);have n2_ := Aside0.mk (blk_below (g := gb341) (o := .cells #[.slice none 0 0] 24 (0,0)) (by (with_reducible repeat (first | refine blk_drewN ?_ _ | refine blk_drew ?_ | refine blk_alloc ?_ _));exact BK341.out) hb);have n3_ := Aside0.mk (below_step (by repeat (first | (with_reducible first | exact HB.out | apply below_alloc | apply pw_below_drewN | apply below_drew1 | refine below_set ?_ GE339.out | refine below_set ?_ GE340.out | refine below_set ?_ GE341.out) | exact HB.out)) hb);clear BK339;clear BK340;clear BK341;clear HB;have BK339 := n0_;have BK340 := n1_;have BK341 := n2_;have HB := n3_;clear n0_ n1_ n2_ n3_;(try clear hb);(try clear hb2);(try clear hk);(try clear hi)))
      go_meet
      case rel => exact ⟨_,(true),(by first | rfl | (simp;done) | (simp [*];done)),H',⟨by first | omega | exact Nat.le_refl _⟩,⟨by (with_reducible repeat (first | refine blk_drewN ?_ _ | refine blk_drew ?_ | refine blk_alloc ?_ _));exact BK339.out⟩,⟨by (with_reducible repeat (first | refine blk_drewN ?_ _ | refine blk_drew ?_ | refine blk_alloc ?_ _));exact BK340.out⟩,⟨by (with_reducible repeat (first | refine blk_drewN ?_ _ | refine blk_drew ?_ | refine blk_alloc ?_ _));exact BK341.out⟩,⟨by repeat (first | (with_reducible first | exact HB.out | apply below_alloc | apply pw_below_drewN | apply below_drew1 | refine below_set ?_ GE339.out | refine below_set ?_ GE340.out | refine below_set ?_ GE341.out) | exact HB.out)⟩⟩
  case rest =>
    clear HC3;(try clear c1);(try clear c2);(try clear p2);(try clear c8);(try clear c10);(try clear c11);(try clear c14);(try clear c17);(try clear c18);(try clear c20);(try clear hcz12_0);(try clear hcz15_0);(try clear hcz15_1);(try clear hcz15_2);(try clear hcz15_3);(try clear hcz15_4);(try clear hcz15_5);(try clear hcz19_0);(try clear hfz12_0);(try clear hfz15_0);(try clear hfz15_1);(try clear hfz15_2);(try clear hfz15_3);(try clear hfz15_4);(try clear hfz15_5);(try clear hfz19_0)
    obtain ⟨kq,x16_2,rfl,HA,HJ2,BK339,BK340,BK341,HB⟩ := hcut
    cases kq with
    | zero => exact absurd HA.out (by simp [wageofficeref39_Post.j0])
    | succ kj2 =>
      have H := HA.out
      clear HA
      simp only [wageofficeref39_Post.j0] at H
      by_cases c21 : x16_2 = true
      · subst c21
        have H1 : (some (([] : List (S26)),1)) = some (r1,r2) := by rw [if_pos rfl] at H;exact H
        clear H
        have H := H1
        clear H1
        simp only [Option.some.injEq,Prod.mk.injEq] at H
        obtain ⟨rfl,rfl⟩ := H
        have hnb22 := NB341_339.out;have hnc22 := NB339_341.out;have hnb23 := NB341_340.out;have hnc23 := NB340_341.out;have hcz24_0 : wc.cell? ⟨gb341,0,none⟩ = some (.slice none 0 0) := (blk_cell BK341.out 0).trans rfl;have hfz24_0 := blk_frozen BK341.out 0
        go_wp2
        refine bodyPost_ret (results_ct rfl _ _ gb341 24 #[.slice none 0 0] (0,0) _ rfl (by (with_reducible repeat (first | refine blk_drewN ?_ _ | refine blk_drew ?_ | refine blk_alloc ?_ _));refine blk_put (cs := #[.slice none 0 0]) ?_ 0 _ rfl;(with_reducible repeat (first | refine blk_drewN ?_ _ | refine blk_drew ?_ | refine blk_alloc ?_ _));exact BK341.out) Try.underlying24 rfl (by kernel_rfl)) rfl ?_
        exact ⟨_,by first | rfl | (simp [errW_none,errW_some] <;> rfl) | (simp [*,errW_none,errW_some] <;> rfl),by first | exact Kd.R_nil _ _ _ _ _ | exact Kd.N_nil _ _ _ _ _ | exact Kd.V_nil _ _ _ _ _ | exact Kd.Q_nil _ _ _ _ _ | exact Kd.S_nil _ _ _ _ _,by repeat (first | (with_reducible first | exact HB.out | apply below_alloc | apply pw_below_drewN | apply below_drew1 | refine below_set ?_ GE339.out | refine below_set ?_ GE340.out | refine below_set ?_ GE341.out) | exact HB.out)⟩
      · replace c21 := Bool.eq_false_iff.mpr c21
        subst c21
        have H1 : ((wageofficeref39_find.f kj2 l0_0 a1_0).bind fun t344 => (if t344 ≥ 0 then (if 0 ≤ t344 then (if t344 < (l0_0.length : Int) then ((wageofficeref39_agree.f ((rd_T26 l0_0 t344).f0) ((rd_T26 l0_0 t344).f1) ((rd_T26 l0_0 t344).f2) ((rd_T26 l0_0 t344).f3) ((rd_T26 l0_0 t344).f4) ((rd_T26 l0_0 t344).f5) a1_0 a1_1 a1_2 a1_3 a1_4 a1_5).bind fun t346 => (wageofficeref39_Post.j1 kj2 t344 (!t346) l0_0 a1_0 a1_1 a1_2 a1_3 a1_4 a1_5)) else (none)) else (none)) else (wageofficeref39_Post.j1 kj2 t344 false l0_0 a1_0 a1_1 a1_2 a1_3 a1_4 a1_5))) = some (r1,r2) := by rw [if_neg (show ¬ (false = true) by decide)] at H;exact H
        clear H
        have H := H1
        clear H1
        replace H := Option.bind_eq_some_iff.mp H
        obtain ⟨t344,A250,H⟩ := H
        replace H : (if t344 ≥ 0 then (if 0 ≤ t344 then (if t344 < (l0_0.length : Int) then ((wageofficeref39_agree.f ((rd_T26 l0_0 t344).f0) ((rd_T26 l0_0 t344).f1) ((rd_T26 l0_0 t344).f2) ((rd_T26 l0_0 t344).f3) ((rd_T26 l0_0 t344).f4) ((rd_T26 l0_0 t344).f5) a1_0 a1_1 a1_2 a1_3 a1_4 a1_5).bind fun t346 => (wageofficeref39_Post.j1 kj2 t344 (!t346) l0_0 a1_0 a1_1 a1_2 a1_3 a1_4 a1_5)) else (none)) else (none)) else (wageofficeref39_Post.j1 kj2 t344 false l0_0 a1_0 a1_1 a1_2 a1_3 a1_4 a1_5)) = some (r1,r2) := H
        have A25 := Aside0.mk A250
        clear A250
        have HC26 := Aside0.mk H
        clear H;have hnb27 := NB339_340.out;have hnc27 := NB340_339.out;have hnb28 := NB339_341.out;have hnc28 := NB341_339.out;have hcz29_0 : wc.cell? ⟨gb339,0,none⟩ = some (.slice A0_0 l0_0.length c0_0) := (blk_cell BK339.out 0).trans rfl;have hfz29_0 := blk_frozen BK339.out 0;have hnb30 := NB340_341.out;have hnc30 := NB341_340.out;have hcz31_0 : wc.cell? ⟨gb340,0,none⟩ = some (.int .i64 a1_0) := (blk_cell BK340.out 0).trans rfl;have hcz31_1 : wc.cell? ⟨gb340,1,none⟩ = some (.string a1_1) := (blk_cell BK340.out 1).trans rfl;have hcz31_2 : wc.cell? ⟨gb340,2,none⟩ = some (.string a1_2) := (blk_cell BK340.out 2).trans rfl;have hcz31_3 : wc.cell? ⟨gb340,3,none⟩ = some (.int .i64 a1_3) := (blk_cell BK340.out 3).trans rfl;have hcz31_4 : wc.cell? ⟨gb340,4,none⟩ = some (.int .i64 a1_4) := (blk_cell BK340.out 4).trans rfl;have hcz31_5 : wc.cell? ⟨gb340,5,none⟩ = some (.int .i64 a1_5) := (blk_cell BK340.out 5).trans rfl;have hfz31_0 := blk_frozen BK340.out 0;have hfz31_1 := blk_frozen BK340.out 1;have hfz31_2 := blk_frozen BK340.out 2;have hfz31_3 := blk_frozen BK340.out 3;have hfz31_4 := blk_frozen BK340.out 4;have hfz31_5 := blk_frozen BK340.out 5
        go_upto_region 4 with (first | ((with_reducible refine gate_callee (f := 52) rfl ?_);refine goesL_ (some 22) rfl rfl Try.func52 (by kernel_rfl) rfl #[.slice A0_0 l0_0.length c0_0,.int .i64 a1_0] rfl (by (try simp only [List.map_toArray,List.map_cons,List.map_nil]);first | done | rfl | (simp only [List.length_drop,List.length_take];rfl)) ?_;(with_reducible refine (wageofficeref39_find.calls kj2 _ _ l0_0 a1_0 t344 _ ?side1 ?side2 A25.out).mono ?_);(case side1 => repeat (first | exact (Kd.C_below HR0_0.out HB.out) | (with_reducible refine Kd.C_alloc ?_ _) | (with_reducible refine Kd.C_drewN ?_ _) | (with_reducible refine Kd.C_drew ?_)));(case side2 => exact HC0_0.out);rintro e w' ⟨rfl,⟨nd,rfl⟩⟩;refine ⟨_,rfl,?_⟩))
        (try simp only [Act.put,List.setIfInBounds_toArray,List.set_cons_zero,List.set_cons_succ])
        go_cut [34] (fun v34 wc => ∃ (kq : Nat) (x34_25 : Bool),v34 = .bool x34_25 ∧ Aside0 (wageofficeref39_Post.j1 kq t344 x34_25 l0_0 a1_0 a1_1 a1_2 a1_3 a1_4 a1_5 = some (r1,r2)) ∧ Aside0 (kq ≤ kj2) ∧ Aside0 (wc.heap[gb339]? = some (.cells #[(.slice A0_0 l0_0.length c0_0)] 24 (0,0))) ∧ Aside0 (wc.heap[gb340]? = some (.cells #[.int .i64 a1_0,.string a1_1,.string a1_2,.int .i64 a1_3,.int .i64 a1_4,.int .i64 a1_5] 26 (0,0))) ∧ Aside0 (wc.heap[gb341]? = some (.cells #[(.slice none 0 0)] 24 (0,0))) ∧ Aside0 (Below w.heap.size w wc))
        case first =>
          have H := HC26.out
          clear HC26
          by_cases c32 : t344 ≥ 0
          · rw [if_pos c32] at H
            have c32b0 : decide (0 ≤ t344) = true := decide_eq_true c32
            clear c32
            (first | rw [c32b0] | (simp only [i64_w,i32_w];rw [c32b0]) | skip)
            by_cases c33 : 0 ≤ t344
            · rw [if_pos c33] at H
              have c33b0 : decide (0 ≤ t344) = true := decide_eq_true c33
              clear c33
              by_cases c34 : t344 < (l0_0.length : Int)
              · rw [if_pos c34] at H
                have c34b0 : decide (t344 < (l0_0.length : Int)) = true := decide_eq_true c34
                clear c34
                replace H := Option.bind_eq_some_iff.mp H
                obtain ⟨t346,A350,H⟩ := H
                replace H : (wageofficeref39_Post.j1 kj2 t344 (!t346) l0_0 a1_0 a1_1 a1_2 a1_3 a1_4 a1_5) = some (r1,r2) := H
                have A35 := Aside0.mk A350
                clear A350
                have H' := Aside0.mk H
                clear H
                try go_wp2
                have n0_ := Aside0.mk (blk_drew (blk_drewN BK339.out nd))
                have n1_ := Aside0.mk (blk_drew (blk_drewN BK340.out nd))
                have n2_ := Aside0.mk (blk_drew (blk_drewN BK341.out nd))
                have n3_ := Aside0.mk (below_drew1 (pw_below_drewN HB.out nd))
                clear BK339;clear BK340;clear BK341;clear HB
                have BK339 := n0_
                have BK340 := n1_
                have BK341 := n2_
                have HB := n3_
                clear n0_ n1_ n2_ n3_
                have p345 : 0 ≤ (t344 : Int) := of_decide_eq_true (by first | (with_reducible assumption) | assumption)
                have q345 : t344 < (l0_0.length : Int) := of_decide_eq_true (by first | (with_reducible assumption) | assumption)
                obtain ⟨ad345,e345,hx345_0,hx345_1,hx345_2,hx345_3,hx345_4,hx345_5⟩ := at_T26 HR0_0.out t344 p345 q345
                have hw345_5 := hx345_5
                have hw345_4 := hx345_4
                have hw345_3 := hx345_3
                have hw345_2 := hx345_2
                have hw345_1 := hx345_1
                have hw345_0 := hx345_0
                cases e345
                replace hx345_0 := (HB.out.cell (World.block_lt_of_cell? w _ hx345_0)).trans hx345_0
                replace hx345_1 := (HB.out.cell (World.block_lt_of_cell? w _ hx345_1)).trans hx345_1
                replace hx345_2 := (HB.out.cell (World.block_lt_of_cell? w _ hx345_2)).trans hx345_2
                replace hx345_3 := (HB.out.cell (World.block_lt_of_cell? w _ hx345_3)).trans hx345_3
                replace hx345_4 := (HB.out.cell (World.block_lt_of_cell? w _ hx345_4)).trans hx345_4
                replace hx345_5 := (HB.out.cell (World.block_lt_of_cell? w _ hx345_5)).trans hx345_5
                replace p345 := eq_true p345
                replace q345 := eq_true q345
                refine start_ (n := 12) (S := fun w' => w'.cell? ⟨gb339,0,none⟩ = some (.slice (some ad345) l0_0.length c0_0) ∧ w'.cell? ⟨gb340,0,none⟩ = some (.int .i64 a1_0) ∧ w'.cell? ⟨gb340,1,none⟩ = some (.string a1_1) ∧ w'.cell? ⟨gb340,2,none⟩ = some (.string a1_2) ∧ w'.cell? ⟨gb340,3,none⟩ = some (.int .i64 a1_3) ∧ w'.cell? ⟨gb340,4,none⟩ = some (.int .i64 a1_4) ∧ w'.cell? ⟨gb340,5,none⟩ = some (.int .i64 a1_5) ∧ w'.cell? (ad345.add ((t344).toNat * 6)) = some (.int .i64 ((rd_T26 l0_0 t344).f0)) ∧ w'.cell? ⟨(ad345.add ((t344).toNat * 6)).block,(ad345.add ((t344).toNat * 6)).off + 1,none⟩ = some (.string ((rd_T26 l0_0 t344).f1)) ∧ w'.cell? ⟨(ad345.add ((t344).toNat * 6)).block,(ad345.add ((t344).toNat * 6)).off + 2,none⟩ = some (.string ((rd_T26 l0_0 t344).f2)) ∧ w'.cell? ⟨(ad345.add ((t344).toNat * 6)).block,(ad345.add ((t344).toNat * 6)).off + 3,none⟩ = some (.int .i64 ((rd_T26 l0_0 t344).f3)) ∧ w'.cell? ⟨(ad345.add ((t344).toNat * 6)).block,(ad345.add ((t344).toNat * 6)).off + 4,none⟩ = some (.int .i64 ((rd_T26 l0_0 t344).f4)) ∧ w'.cell? ⟨(ad345.add ((t344).toNat * 6)).block,(ad345.add ((t344).toNat * 6)).off + 5,none⟩ = some (.int .i64 ((rd_T26 l0_0 t344).f5))) (ds := []) #[false,false,false,false,false,false,false,false,false,false,false,false] (by kernel_rfl) rfl rfl ⟨(blk_cell BK339.out 0).trans rfl,(blk_cell BK340.out 0).trans rfl,(blk_cell BK340.out 1).trans rfl,(blk_cell BK340.out 2).trans rfl,(blk_cell BK340.out 3).trans rfl,(blk_cell BK340.out 4).trans rfl,(blk_cell BK340.out 5).trans rfl,((HB.out.cell (World.block_lt_of_cell? w _ hw345_0)).trans hw345_0),((HB.out.cell (World.block_lt_of_cell? w _ hw345_1)).trans hw345_1),((HB.out.cell (World.block_lt_of_cell? w _ hw345_2)).trans hw345_2),((HB.out.cell (World.block_lt_of_cell? w _ hw345_3)).trans hw345_3),((HB.out.cell (World.block_lt_of_cell? w _ hw345_4)).trans hw345_4),((HB.out.cell (World.block_lt_of_cell? w _ hw345_5)).trans hw345_5)⟩ (fun hHeld => ?_);refine with_tabW wageofficeref39_Post.tab4 wageofficeref39_Post.bits4 (fun HT_ HW_ => ?_)
                generalize (wc.drewN nd).drew = w36 at BK339 BK340 BK341 HB hx345_0 hx345_1 hx345_2 hx345_3 hx345_4 hx345_5 hHeld ⊢
                refine pure_ (i := 0) (N := some 23) (v := ?_) (a' := ?_) #[true,false,false,false,false,false,false,false,false,false,false,false] rfl rfl (any_of HT_.out (by kernel_rfl)) (fun _ _ _ h => h) (Or.inl ⟨by rfl,?_⟩) ?_ ?_
                rotate_left
                · intro w'
                  go_simp
                  with_reducible rfl
                rotate_left
                · simp only [Act.put,List.setIfInBounds_toArray,List.set_cons_zero,List.set_cons_succ,i64_w,i32_w]
                  rfl
                refine pure_ (i := 1) (N := some 24) (v := ?_) (a' := ?_) #[true,true,false,false,false,false,false,false,false,false,false,false] rfl rfl (any_of HT_.out (by kernel_rfl)) (fun _ _ _ h => h) (Or.inl ⟨by rfl,?_⟩) ?_ ?_
                rotate_left
                · intro w'
                  go_simp
                  with_reducible rfl
                rotate_left
                · simp only [Act.put,List.setIfInBounds_toArray,List.set_cons_zero,List.set_cons_succ,i64_w,i32_w]
                  rfl
                refine pure_ (i := 2) (N := some 25) (v := ?_) (a' := ?_) #[true,true,true,false,false,false,false,false,false,false,false,false] rfl rfl (any_of HT_.out (by kernel_rfl)) (fun _ _ _ h => h) (Or.inl ⟨by rfl,?_⟩) ?_ ?_
                rotate_left
                · intro w'
                  go_simp
                  with_reducible rfl
                rotate_left
                · simp only [Act.put,List.setIfInBounds_toArray,List.set_cons_zero,List.set_cons_succ,i64_w,i32_w]
                  rfl
                refine pure_ (i := 3) (N := some 26) (v := ?_) (a' := ?_) #[true,true,true,true,false,false,false,false,false,false,false,false] rfl rfl (any_of HT_.out (by kernel_rfl)) (fun _ _ _ h => h) (Or.inl ⟨by rfl,?_⟩) ?_ ?_
                rotate_left
                · intro w'
                  go_simp
                  with_reducible rfl
                rotate_left
                · simp only [Act.put,List.setIfInBounds_toArray,List.set_cons_zero,List.set_cons_succ,i64_w,i32_w]
                  rfl
                refine pure_ (i := 5) (N := some 28) (v := ?_) (a' := ?_) #[true,true,true,true,false,true,false,false,false,false,false,false] rfl rfl (any_of HT_.out (by kernel_rfl)) (fun _ _ _ h => h) (Or.inl ⟨by rfl,?_⟩) ?_ ?_
                rotate_left
                · intro w'
                  go_simp
                  with_reducible rfl
                rotate_left
                · simp only [Act.put,List.setIfInBounds_toArray,List.set_cons_zero,List.set_cons_succ,i64_w,i32_w]
                  rfl
                refine take_ (i := 4) (N := some 27) (v := ?_) (a' := ?_) #[true,true,true,true,true,true,false,false,false,false,false,false] rfl rfl (take_ofW HT_.out HW_.out (by kernel_rfl)) (fun _ _ _ h => h) (Or.inl ⟨by rfl,?_⟩) hHeld ?_ ?_
                rotate_left
                · rintro w' ⟨s0,s1,s2,s3,s4,s5,s6,s7,s8,s9,s10,s11,s12⟩
                  go_simp
                  with_reducible rfl
                rotate_left
                · simp only [Act.put,List.setIfInBounds_toArray,List.set_cons_zero,List.set_cons_succ,i64_w,i32_w]
                  rfl
                refine pure_ (i := 6) (N := some 29) (v := ?_) (a' := ?_) #[true,true,true,true,true,true,true,false,false,false,false,false] rfl rfl (any_of HT_.out (by kernel_rfl)) (fun _ _ _ h => h) (Or.inl ⟨by rfl,?_⟩) ?_ ?_
                rotate_left
                · intro w'
                  go_simp
                  with_reducible rfl
                rotate_left
                · simp only [Act.put,List.setIfInBounds_toArray,List.set_cons_zero,List.set_cons_succ,i64_w,i32_w]
                  rfl
                refine take_ (i := 7) (N := some 30) (v := ?_) (a' := ?_) #[true,true,true,true,true,true,true,true,false,false,false,false] rfl rfl (take_ofW HT_.out HW_.out (by kernel_rfl)) (fun _ _ _ h => h) (Or.inl ⟨by rfl,?_⟩) hHeld ?_ ?_
                rotate_left
                · rintro w' ⟨s0,s1,s2,s3,s4,s5,s6,s7,s8,s9,s10,s11,s12⟩
                  go_simp
                  with_reducible rfl
                rotate_left
                · simp only [Act.put,List.setIfInBounds_toArray,List.set_cons_zero,List.set_cons_succ,i64_w,i32_w]
                  rfl
                refine take_ (i := 8) (N := some 31) (v := ?_) (a' := ?_) #[true,true,true,true,true,true,true,true,true,false,false,false] rfl rfl (take_ofW HT_.out HW_.out (by kernel_rfl)) (fun _ _ _ h => h) (Or.inl ⟨by rfl,?_⟩) hHeld ?_ ?_
                rotate_left
                · rintro w' ⟨s0,s1,s2,s3,s4,s5,s6,s7,s8,s9,s10,s11,s12⟩
                  go_simp
                  with_reducible rfl
                rotate_left
                · simp only [Act.put,List.setIfInBounds_toArray,List.set_cons_zero,List.set_cons_succ,i64_w,i32_w]
                  rfl
                refine one_ (i := 9) (N := some 32) #[true,true,true,true,true,true,true,true,true,true,false,false] rfl rfl (one_of HT_.out (by kernel_rfl)) (by decide) (fun K hK => ?_)
                refine goes_ Try.func53 (by kernel_rfl) rfl #[.agg #[.int .i64 ((rd_T26 l0_0 t344).f0),.string ((rd_T26 l0_0 t344).f1),.string ((rd_T26 l0_0 t344).f2),.int .i64 ((rd_T26 l0_0 t344).f3),.int .i64 ((rd_T26 l0_0 t344).f4),.int .i64 ((rd_T26 l0_0 t344).f5)],.agg #[.int .i64 a1_0,.string a1_1,.string a1_2,.int .i64 a1_3,.int .i64 a1_4,.int .i64 a1_5]] (by rfl) rfl rfl (by (try simp only [List.map_toArray,List.map_cons,List.map_nil]);first | done | rfl | (simp only [List.length_drop,List.length_take];rfl)) ?_
                with_reducible refine (wageofficeref39_agree.calls ((rd_T26 l0_0 t344).f0) ((rd_T26 l0_0 t344).f1) ((rd_T26 l0_0 t344).f2) ((rd_T26 l0_0 t344).f3) ((rd_T26 l0_0 t344).f4) ((rd_T26 l0_0 t344).f5) a1_0 a1_1 a1_2 a1_3 a1_4 a1_5 t346 _ A35.out).mono ?_
                rintro e w37 ⟨rfl,hb⟩
                refine ⟨_,rfl,?_⟩
                have n0_ := Aside0.mk (blk_below (g := gb339) (o := .cells #[.slice (some ad345) l0_0.length c0_0] 24 (0,0)) (by (with_reducible repeat (first | refine blk_drewN ?_ _ | refine blk_drew ?_ | refine blk_alloc ?_ _));exact BK339.out) hb)
                have n1_ := Aside0.mk (blk_below (g := gb340) (o := .cells #[.int .i64 a1_0,.string a1_1,.string a1_2,.int .i64 a1_3,.int .i64 a1_4,.int .i64 a1_5] 26 (0,0)) (by (with_reducible repeat (first | refine blk_drewN ?_ _ | refine blk_drew ?_ | refine blk_alloc ?_ _));exact BK340.out) hb)
                have n2_ := Aside0.mk (blk_below (g := gb341) (o := .cells #[.slice none 0 0] 24 (0,0)) (by (with_reducible repeat (first | refine blk_drewN ?_ _ | refine blk_drew ?_ | refine blk_alloc ?_ _));exact BK341.out) hb)
                have n3_ := Aside0.mk (below_step (by repeat (first | (with_reducible first | exact HB.out | apply below_alloc | apply pw_below_drewN | apply below_drew1 | refine below_set ?_ GE339.out | refine below_set ?_ GE340.out | refine below_set ?_ GE341.out) | exact HB.out)) hb)
                clear BK339;clear BK340;clear BK341;clear HB
                have BK339 := n0_
                have BK340 := n1_
                have BK341 := n2_
                have HB := n3_
                clear n0_ n1_ n2_ n3_
                (try clear hb)
                (try clear hb2)
                (try clear hk)
                (try clear hi)
                refine hK.out _ _ ⟨(blk_cell BK339.out 0).trans rfl,(blk_cell BK340.out 0).trans rfl,(blk_cell BK340.out 1).trans rfl,(blk_cell BK340.out 2).trans rfl,(blk_cell BK340.out 3).trans rfl,(blk_cell BK340.out 4).trans rfl,(blk_cell BK340.out 5).trans rfl,((HB.out.cell (World.block_lt_of_cell? w _ hw345_0)).trans hw345_0),((HB.out.cell (World.block_lt_of_cell? w _ hw345_1)).trans hw345_1),((HB.out.cell (World.block_lt_of_cell? w _ hw345_2)).trans hw345_2),((HB.out.cell (World.block_lt_of_cell? w _ hw345_3)).trans hw345_3),((HB.out.cell (World.block_lt_of_cell? w _ hw345_4)).trans hw345_4),((HB.out.cell (World.block_lt_of_cell? w _ hw345_5)).trans hw345_5)⟩ (fun hHeld => ?_)
                clear hK K
                refine norm_ (a' := ?_) ?_ ?_
                rotate_left
                · show Act.put _ (some 32) _ = _
                  simp only [Act.put,List.setIfInBounds_toArray,List.set_cons_zero,List.set_cons_succ,i64_w,i32_w]
                  rfl
                refine pure_ (i := 10) (N := some 33) (v := ?_) (a' := ?_) #[true,true,true,true,true,true,true,true,true,true,true,false] rfl rfl (any_of HT_.out (by kernel_rfl)) (fun _ _ _ h => h) (Or.inl ⟨by rfl,?_⟩) ?_ ?_
                rotate_left
                · intro w'
                  go_simp
                  with_reducible rfl
                rotate_left
                · simp only [Act.put,List.setIfInBounds_toArray,List.set_cons_zero,List.set_cons_succ,i64_w,i32_w]
                  rfl
                refine pure_ (i := 11) (N := some 34) (v := ?_) (a' := ?_) #[true,true,true,true,true,true,true,true,true,true,true,true] rfl rfl (any_of HT_.out (by kernel_rfl)) (fun _ _ _ h => h) (Or.inl ⟨by rfl,?_⟩) ?_ ?_
                rotate_left
                · intro w'
                  go_simp
                  with_reducible rfl
                rotate_left
                · simp only [Act.put,List.setIfInBounds_toArray,List.set_cons_zero,List.set_cons_succ,i64_w,i32_w]
                  rfl
                refine done_ (done_of HT_.out (by kernel_rfl)) ?_
                try go_wp2
                go_meet
                case rel => exact ⟨_,(!t346),(by first | rfl | (simp;done) | (simp [*];done)),H',⟨by have := HJ2.out;first | omega | exact Nat.le_refl _⟩,⟨by (with_reducible repeat (first | refine blk_drewN ?_ _ | refine blk_drew ?_ | refine blk_alloc ?_ _));exact BK339.out⟩,⟨by (with_reducible repeat (first | refine blk_drewN ?_ _ | refine blk_drew ?_ | refine blk_alloc ?_ _));exact BK340.out⟩,⟨by (with_reducible repeat (first | refine blk_drewN ?_ _ | refine blk_drew ?_ | refine blk_alloc ?_ _));exact BK341.out⟩,⟨by repeat (first | (with_reducible first | exact HB.out | apply below_alloc | apply pw_below_drewN | apply below_drew1 | refine below_set ?_ GE339.out | refine below_set ?_ GE340.out | refine below_set ?_ GE341.out) | exact HB.out)⟩⟩
              · rw [if_neg c34] at H
                exact absurd H (by simp)
            · rw [if_neg c33] at H
              exact absurd H (by simp)
          · rw [if_neg c32] at H
            have c32b0 : decide (0 ≤ t344) = false := decide_eq_false c32
            clear c32
            (first | rw [c32b0] | (simp only [i64_w,i32_w];rw [c32b0]) | skip)
            have H' := Aside0.mk H
            clear H
            try go_wp2
            have n0_ := Aside0.mk (blk_drew (blk_drewN BK339.out nd))
            have n1_ := Aside0.mk (blk_drew (blk_drewN BK340.out nd))
            have n2_ := Aside0.mk (blk_drew (blk_drewN BK341.out nd))
            have n3_ := Aside0.mk (below_drew1 (pw_below_drewN HB.out nd))
            clear BK339;clear BK340;clear BK341;clear HB
            have BK339 := n0_
            have BK340 := n1_
            have BK341 := n2_
            have HB := n3_
            clear n0_ n1_ n2_ n3_
            refine start_ (n := 12) (S := fun w' => True) (ds := []) #[false,false,false,false,false,false,false,false,false,false,false,false] (by kernel_rfl) rfl rfl trivial (fun hHeld => ?_);refine with_tabW wageofficeref39_Post.tab4 wageofficeref39_Post.bits4 (fun HT_ HW_ => ?_)
            generalize (wc.drewN nd).drew = w38 at BK339 BK340 BK341 HB hHeld ⊢
            refine pure_ (i := 0) (N := some 23) (v := ?_) (a' := ?_) #[true,false,false,false,false,false,false,false,false,false,false,false] rfl rfl (any_of HT_.out (by kernel_rfl)) (fun _ _ _ h => h) (Or.inl ⟨by rfl,?_⟩) ?_ ?_
            rotate_left
            · intro w'
              go_simp
              with_reducible rfl
            rotate_left
            · simp only [Act.put,List.setIfInBounds_toArray,List.set_cons_zero,List.set_cons_succ,i64_w,i32_w]
              rfl
            refine pure_ (i := 1) (N := some 24) (v := ?_) (a' := ?_) #[true,true,false,false,false,false,false,false,false,false,false,false] rfl rfl (any_of HT_.out (by kernel_rfl)) (fun _ _ _ h => h) (Or.inl ⟨by rfl,?_⟩) ?_ ?_
            rotate_left
            · intro w'
              go_simp
              with_reducible rfl
            rotate_left
            · simp only [Act.put,List.setIfInBounds_toArray,List.set_cons_zero,List.set_cons_succ,i64_w,i32_w]
              rfl
            refine pure_ (i := 2) (N := some 25) (v := ?_) (a' := ?_) #[true,true,true,false,false,false,false,false,false,false,false,false] rfl rfl (any_of HT_.out (by kernel_rfl)) (fun _ _ _ h => h) (Or.inl ⟨by rfl,?_⟩) ?_ ?_
            rotate_left
            · intro w'
              go_simp
              with_reducible rfl
            rotate_left
            · simp only [Act.put,List.setIfInBounds_toArray,List.set_cons_zero,List.set_cons_succ,i64_w,i32_w]
              rfl
            refine pure_ (i := 3) (N := some 26) (v := undef) (a' := ?_) #[true,true,true,true,false,false,false,false,false,false,false,false] rfl rfl (any_of HT_.out (by kernel_rfl)) (fun _ _ _ h => h) (Or.inr ⟨by rfl,rfl⟩) ?_ ?_
            rotate_left
            · simp only [Act.put,List.setIfInBounds_toArray,List.set_cons_zero,List.set_cons_succ,i64_w,i32_w]
              rfl
            refine pure_ (i := 4) (N := some 27) (v := undef) (a' := ?_) #[true,true,true,true,true,false,false,false,false,false,false,false] rfl rfl (any_of HT_.out (by kernel_rfl)) (fun _ _ _ h => h) (Or.inr ⟨by rfl,rfl⟩) ?_ ?_
            rotate_left
            · simp only [Act.put,List.setIfInBounds_toArray,List.set_cons_zero,List.set_cons_succ,i64_w,i32_w]
              rfl
            refine pure_ (i := 5) (N := some 28) (v := undef) (a' := ?_) #[true,true,true,true,true,true,false,false,false,false,false,false] rfl rfl (any_of HT_.out (by kernel_rfl)) (fun _ _ _ h => h) (Or.inr ⟨by rfl,rfl⟩) ?_ ?_
            rotate_left
            · simp only [Act.put,List.setIfInBounds_toArray,List.set_cons_zero,List.set_cons_succ,i64_w,i32_w]
              rfl
            refine pure_ (i := 6) (N := some 29) (v := undef) (a' := ?_) #[true,true,true,true,true,true,true,false,false,false,false,false] rfl rfl (any_of HT_.out (by kernel_rfl)) (fun _ _ _ h => h) (Or.inr ⟨by rfl,rfl⟩) ?_ ?_
            rotate_left
            · simp only [Act.put,List.setIfInBounds_toArray,List.set_cons_zero,List.set_cons_succ,i64_w,i32_w]
              rfl
            refine pure_ (i := 7) (N := some 30) (v := undef) (a' := ?_) #[true,true,true,true,true,true,true,true,false,false,false,false] rfl rfl (any_of HT_.out (by kernel_rfl)) (fun _ _ _ h => h) (Or.inr ⟨by rfl,rfl⟩) ?_ ?_
            rotate_left
            · simp only [Act.put,List.setIfInBounds_toArray,List.set_cons_zero,List.set_cons_succ,i64_w,i32_w]
              rfl
            refine pure_ (i := 8) (N := some 31) (v := undef) (a' := ?_) #[true,true,true,true,true,true,true,true,true,false,false,false] rfl rfl (any_of HT_.out (by kernel_rfl)) (fun _ _ _ h => h) (Or.inr ⟨by rfl,rfl⟩) ?_ ?_
            rotate_left
            · simp only [Act.put,List.setIfInBounds_toArray,List.set_cons_zero,List.set_cons_succ,i64_w,i32_w]
              rfl
            refine pure_ (i := 9) (N := some 32) (v := undef) (a' := ?_) #[true,true,true,true,true,true,true,true,true,true,false,false] rfl rfl (any_of HT_.out (by kernel_rfl)) (fun _ _ _ h => h) (Or.inr ⟨by rfl,rfl⟩) ?_ ?_
            rotate_left
            · simp only [Act.put,List.setIfInBounds_toArray,List.set_cons_zero,List.set_cons_succ,i64_w,i32_w]
              rfl
            refine pure_ (i := 10) (N := some 33) (v := undef) (a' := ?_) #[true,true,true,true,true,true,true,true,true,true,true,false] rfl rfl (any_of HT_.out (by kernel_rfl)) (fun _ _ _ h => h) (Or.inr ⟨by rfl,rfl⟩) ?_ ?_
            rotate_left
            · simp only [Act.put,List.setIfInBounds_toArray,List.set_cons_zero,List.set_cons_succ,i64_w,i32_w]
              rfl
            refine pure_ (i := 11) (N := some 34) (v := ?_) (a' := ?_) #[true,true,true,true,true,true,true,true,true,true,true,true] rfl rfl (any_of HT_.out (by kernel_rfl)) (fun _ _ _ h => h) (Or.inl ⟨by rfl,?_⟩) ?_ ?_
            rotate_left
            · intro w'
              go_simp
              with_reducible rfl
            rotate_left
            · simp only [Act.put,List.setIfInBounds_toArray,List.set_cons_zero,List.set_cons_succ,i64_w,i32_w]
              rfl
            refine done_ (done_of HT_.out (by kernel_rfl)) ?_
            try go_wp2
            go_meet
            case rel => exact ⟨_,(false),(by first | rfl | (simp;done) | (simp [*];done)),H',⟨by have := HJ2.out;first | omega | exact Nat.le_refl _⟩,⟨by (with_reducible repeat (first | refine blk_drewN ?_ _ | refine blk_drew ?_ | refine blk_alloc ?_ _));exact BK339.out⟩,⟨by (with_reducible repeat (first | refine blk_drewN ?_ _ | refine blk_drew ?_ | refine blk_alloc ?_ _));exact BK340.out⟩,⟨by (with_reducible repeat (first | refine blk_drewN ?_ _ | refine blk_drew ?_ | refine blk_alloc ?_ _));exact BK341.out⟩,⟨by repeat (first | (with_reducible first | exact HB.out | apply below_alloc | apply pw_below_drewN | apply below_drew1 | refine below_set ?_ GE339.out | refine below_set ?_ GE340.out | refine below_set ?_ GE341.out) | exact HB.out)⟩⟩
        case rest =>
          clear HC26;(try clear c1);(try clear c2);(try clear p2);(try clear c3);(try clear p3);(try clear q3);(try clear hx3);(try clear c5);(try clear c8);(try clear c10);(try clear c11);(try clear c14);(try clear c17);(try clear c18);(try clear c20);(try clear c21);(try clear c22);(try clear c23);(try clear c27);(try clear c28);(try clear c30);(try clear c32);(try clear c32b0);(try clear c33);(try clear c33b0);(try clear c34);(try clear c34b0);(try clear p34);(try clear q34);(try clear hx34);(try clear hcz12_0);(try clear hcz15_0);(try clear hcz15_1);(try clear hcz15_2);(try clear hcz15_3);(try clear hcz15_4);(try clear hcz15_5);(try clear hcz19_0);(try clear hcz24_0);(try clear hcz29_0);(try clear hcz31_0);(try clear hcz31_1);(try clear hcz31_2);(try clear hcz31_3);(try clear hcz31_4);(try clear hcz31_5);(try clear hfz12_0);(try clear hfz15_0);(try clear hfz15_1);(try clear hfz15_2);(try clear hfz15_3);(try clear hfz15_4);(try clear hfz15_5);(try clear hfz19_0);(try clear hfz24_0);(try clear hfz29_0);(try clear hfz31_0);(try clear hfz31_1);(try clear hfz31_2);(try clear hfz31_3);(try clear hfz31_4);(try clear hfz31_5);(try clear hx345_0);(try clear hx345_1);(try clear hx345_2);(try clear hx345_3);(try clear hx345_4);(try clear hx345_5);(try clear p2);(try clear p345);(try clear q345)
          obtain ⟨kq,x34_25,rfl,HA,HJ25,BK339,BK340,BK341,HB⟩ := hcut
          cases kq with
          | zero => exact absurd HA.out (by simp [wageofficeref39_Post.j1])
          | succ kj25 =>
            have H := HA.out
            clear HA
            simp only [wageofficeref39_Post.j1] at H
            by_cases c39 : x34_25 = true
            · subst c39
              have H1 : (some (([] : List (S26)),5)) = some (r1,r2) := by rw [if_pos rfl] at H;exact H
              clear H
              have H := H1
              clear H1
              simp only [Option.some.injEq,Prod.mk.injEq] at H
              obtain ⟨rfl,rfl⟩ := H
              have hnb40 := NB341_339.out;have hnc40 := NB339_341.out;have hnb41 := NB341_340.out;have hnc41 := NB340_341.out;have hcz42_0 : wc.cell? ⟨gb341,0,none⟩ = some (.slice none 0 0) := (blk_cell BK341.out 0).trans rfl;have hfz42_0 := blk_frozen BK341.out 0
              go_wp2
              refine bodyPost_ret (results_ct rfl _ _ gb341 24 #[.slice none 0 0] (0,0) _ rfl (by (with_reducible repeat (first | refine blk_drewN ?_ _ | refine blk_drew ?_ | refine blk_alloc ?_ _));refine blk_put (cs := #[.slice none 0 0]) ?_ 0 _ rfl;(with_reducible repeat (first | refine blk_drewN ?_ _ | refine blk_drew ?_ | refine blk_alloc ?_ _));exact BK341.out) Try.underlying24 rfl (by kernel_rfl)) rfl ?_
              exact ⟨_,by first | rfl | (simp [errW_none,errW_some] <;> rfl) | (simp [*,errW_none,errW_some] <;> rfl),by first | exact Kd.R_nil _ _ _ _ _ | exact Kd.N_nil _ _ _ _ _ | exact Kd.V_nil _ _ _ _ _ | exact Kd.Q_nil _ _ _ _ _ | exact Kd.S_nil _ _ _ _ _,by repeat (first | (with_reducible first | exact HB.out | apply below_alloc | apply pw_below_drewN | apply below_drew1 | refine below_set ?_ GE339.out | refine below_set ?_ GE340.out | refine below_set ?_ GE341.out) | exact HB.out)⟩
            · replace c39 := Bool.eq_false_iff.mpr c39
              subst c39
              have H1 : ((some (([] : List (S26)) : List (S26))).bind fun y347 => (if y347.length + l0_0.length < 2199023255552 then ((some (y347 ++ l0_0 : List (S26))).bind fun y350 => (if t344 ≥ 0 then (some (y350,0)) else (if (l0_0.length : Int) = 2000 then (some (([] : List (S26)),2)) else (if (l0_0.length : Int) > 0 then (if 0 ≤ (wrap64 ((l0_0.length : Int) - 1)) then (if (wrap64 ((l0_0.length : Int) - 1)) < (l0_0.length : Int) then (if a1_5 < ((rd_T26 l0_0 (wrap64 ((l0_0.length : Int) - 1))).f5) then (some (([] : List (S26)),6)) else (if y350.length < 2199023255552 then (some ((y350 ++ [(⟨a1_0,a1_1,a1_2,a1_3,a1_4,a1_5⟩ : S26)]),0)) else (none))) else (none)) else (none)) else (if y350.length < 2199023255552 then (some ((y350 ++ [(⟨a1_0,a1_1,a1_2,a1_3,a1_4,a1_5⟩ : S26)]),0)) else (none)))))) else (none))) = some (r1,r2) := by rw [if_neg (show ¬ (false = true) by decide)] at H;exact H
              clear H
              have H := H1
              clear H1
              obtain ⟨y347,hy347⟩ : ∃ y_ : List (S26),y_ = (([] : List (S26))) := ⟨_,rfl⟩
              replace H : (if y347.length + l0_0.length < 2199023255552 then ((some (y347 ++ l0_0 : List (S26))).bind fun y350 => (if t344 ≥ 0 then (some (y350,0)) else (if (l0_0.length : Int) = 2000 then (some (([] : List (S26)),2)) else (if (l0_0.length : Int) > 0 then (if 0 ≤ (wrap64 ((l0_0.length : Int) - 1)) then (if (wrap64 ((l0_0.length : Int) - 1)) < (l0_0.length : Int) then (if a1_5 < ((rd_T26 l0_0 (wrap64 ((l0_0.length : Int) - 1))).f5) then (some (([] : List (S26)),6)) else (if y350.length < 2199023255552 then (some ((y350 ++ [(⟨a1_0,a1_1,a1_2,a1_3,a1_4,a1_5⟩ : S26)]),0)) else (none))) else (none)) else (none)) else (if y350.length < 2199023255552 then (some ((y350 ++ [(⟨a1_0,a1_1,a1_2,a1_3,a1_4,a1_5⟩ : S26)]),0)) else (none)))))) else (none)) = some (r1,r2) := by first | (rw [hy347];with_reducible exact H) | (have H2_ := (Option.bind_some _ _).symm.trans H;rw [hy347];with_reducible exact H2_) | (have H2_ := (Option.bind_some _ _).symm.trans H;with_reducible exact H2_) | with_reducible exact H | (rw [hy347];exact H) | exact H
              have Ny347 := Aside0.mk hy347
              clear hy347
              by_cases c43 : y347.length + l0_0.length < 2199023255552
              · rw [if_pos c43] at H
                have LMc43 := Aside0.mk c43
                clear c43
                obtain ⟨y350,hy350⟩ : ∃ y_ : List (S26),y_ = (y347 ++ l0_0) := ⟨_,rfl⟩
                replace H : (if t344 ≥ 0 then (some (y350,0)) else (if (l0_0.length : Int) = 2000 then (some (([] : List (S26)),2)) else (if (l0_0.length : Int) > 0 then (if 0 ≤ (wrap64 ((l0_0.length : Int) - 1)) then (if (wrap64 ((l0_0.length : Int) - 1)) < (l0_0.length : Int) then (if a1_5 < ((rd_T26 l0_0 (wrap64 ((l0_0.length : Int) - 1))).f5) then (some (([] : List (S26)),6)) else (if y350.length < 2199023255552 then (some ((y350 ++ [(⟨a1_0,a1_1,a1_2,a1_3,a1_4,a1_5⟩ : S26)]),0)) else (none))) else (none)) else (none)) else (if y350.length < 2199023255552 then (some ((y350 ++ [(⟨a1_0,a1_1,a1_2,a1_3,a1_4,a1_5⟩ : S26)]),0)) else (none))))) = some (r1,r2) := by first | (rw [hy350];with_reducible exact H) | (have H2_ := (Option.bind_some _ _).symm.trans H;rw [hy350];with_reducible exact H2_) | (have H2_ := (Option.bind_some _ _).symm.trans H;with_reducible exact H2_) | with_reducible exact H | (rw [hy350];exact H) | exact H
                have Ny350 := Aside0.mk hy350
                clear hy350
                by_cases c44 : t344 ≥ 0
                · rw [if_pos c44] at H
                  have c44b0 : decide (0 ≤ t344) = true := decide_eq_true c44
                  clear c44
                  simp only [Option.some.injEq,Prod.mk.injEq] at H
                  obtain ⟨rfl,rfl⟩ := H
                  go_wp2_with (first | ((with_reducible refine gate_dst (N := 36) rfl ?_);refine Kd.R_lit k26 _ 26 ?hg (N := 36) ?hd (xs := ([] : List (S26))) (inner := []) (ok := fun _ => True) (okp := fun _ => True) ?hr ?hp (fun _ hk => hk) trivial (Below.refl _ _) (Nat.le_refl _) (by simp) ?_;(case hd => rfl);(case hg => rfl);(case hr => first | (go_simp;done) | (go_simp;rfl));(case hp => exact (Reps.none _ _));intro v348 w45 ho46 hb hg_ hnew_;clear hg_ hnew_;(first | rw [← Ny347.out] at ho46 | (simp only [Int.reduceToNat] at ho46;rw [← Ny347.out] at ho46));have n0_ := Aside0.mk (Kd.R_lower (Kd.R_newB ho46 (g := gb340) (o := .cells #[.int .i64 a1_0,.string a1_1,.string a1_2,.int .i64 a1_3,.int .i64 a1_4,.int .i64 a1_5] 26 (0,0)) (by (with_reducible repeat (first | refine blk_drewN ?_ _ | refine blk_drew ?_ | refine blk_alloc ?_ _));exact BK340.out)) (below_size (by repeat (first | (with_reducible first | exact HB.out | apply below_alloc | apply pw_below_drewN | apply below_drew1 | refine below_set ?_ GE339.out | refine below_set ?_ GE340.out | refine below_set ?_ GE341.out) | exact HB.out))));have n1_ := Aside0.mk (blk_below (g := gb339) (o := .cells #[.slice A0_0 l0_0.length c0_0] 24 (0,0)) (by (with_reducible repeat (first | refine blk_drewN ?_ _ | refine blk_drew ?_ | refine blk_alloc ?_ _));exact BK339.out) hb);have n2_ := Aside0.mk (blk_below (g := gb340) (o := .cells #[.int .i64 a1_0,.string a1_1,.string a1_2,.int .i64 a1_3,.int .i64 a1_4,.int .i64 a1_5] 26 (0,0)) (by (with_reducible repeat (first | refine blk_drewN ?_ _ | refine blk_drew ?_ | refine blk_alloc ?_ _));exact BK340.out) hb);have n3_ := Aside0.mk (blk_below (g := gb341) (o := .cells #[.slice none 0 0] 24 (0,0)) (by (with_reducible repeat (first | refine blk_drewN ?_ _ | refine blk_drew ?_ | refine blk_alloc ?_ _));exact BK341.out) hb);have n4_ := Aside0.mk (below_step (by repeat (first | (with_reducible first | exact HB.out | apply below_alloc | apply pw_below_drewN | apply below_drew1 | refine below_set ?_ GE339.out | refine below_set ?_ GE340.out | refine below_set ?_ GE341.out) | exact HB.out)) hb);clear BK339;clear BK340;clear BK341;clear HB;have HO349 := n0_;have BK339 := n1_;have BK340 := n2_;have BK341 := n3_;have HB := n4_;clear n0_ n1_ n2_ n3_ n4_;clear hb ho46;have hnb47 := NB339_340.out;have hnc47 := NB340_339.out;have hnb48 := NB339_341.out;have hnc48 := NB341_339.out;have hcz49_0 : w45.cell? ⟨gb339,0,none⟩ = some (.slice A0_0 l0_0.length c0_0) := (blk_cell BK339.out 0).trans rfl;have hfz49_0 := blk_frozen BK339.out 0) | ((with_reducible refine gate_builtin (b := .append) (xs := #[.tmp 36,.tmp 38]) rfl ?_);at_builtin;refine Kd.R_append_rows k26 (w0 := w) w.heap.size rfl (.tmp 36) (.tmp 38) 22 26 (.agg #[(.int .i64 0),(.string ⟨#[]⟩),(.string ⟨#[]⟩),(.int .i64 0),(.int .i64 0),(.int .i64 0)]) 64 rfl Try.underlying22 info26 rfl (by decide) (by omega) v348 y347 l0_0 _ _ _ (fun k_ => k_ ≠ gb340) (fun _ => False) rfl rfl ?aO ?aR (fun _ _ h => h) (fun _ h => h.elim) ?aF ?aB ?aS ?aL ?_;(case aR => repeat (first | exact (Kd.C_below HR0_0.out HB.out) | (with_reducible refine Kd.C_alloc ?_ _) | (with_reducible refine Kd.C_drewN ?_ _) | (with_reducible refine Kd.C_drew ?_)));(case aB => exact (by repeat (first | (with_reducible first | exact HB.out | apply below_alloc | apply pw_below_drewN | apply below_drew1 | refine below_set ?_ GE339.out | refine below_set ?_ GE340.out | refine below_set ?_ GE341.out) | exact HB.out)));(case aF => exact (fun k_ hk => Kd.freshB (g := gb340) (o := .cells #[.int .i64 a1_0,.string a1_1,.string a1_2,.int .i64 a1_3,.int .i64 a1_4,.int .i64 a1_5] 26 (0,0)) (by (with_reducible repeat (first | refine blk_drewN ?_ _ | refine blk_drew ?_ | refine blk_alloc ?_ _));exact BK340.out) k_ hk));(case aO => exact (by (with_reducible repeat (first | apply Kd.R_alloc | apply Kd.R_drewN | apply Kd.R_drew));exact Kd.R_mono HO349.out (fun _ hk => hk.2)));(case aS => exact (below_size (by repeat (first | (with_reducible first | exact HB.out | apply below_alloc | apply pw_below_drewN | apply below_drew1 | refine below_set ?_ GE339.out | refine below_set ?_ GE340.out | refine below_set ?_ GE341.out) | exact HB.out))));(case aL => have := LMc43.out;omega);intro v351 w50 ho hb hg hat;rw [← Ny350.out] at ho;have n0_ := Aside0.mk (blk_grown (g := gb339) (o := .cells #[.slice A0_0 l0_0.length c0_0] 24 (0,0)) (by (with_reducible repeat (first | refine blk_drewN ?_ _ | refine blk_drew ?_ | refine blk_alloc ?_ _));exact BK339.out) hg (Kd.R_ne HO349.out BK339.out (by decide)));have n1_ := Aside0.mk (blk_grown (g := gb340) (o := .cells #[.int .i64 a1_0,.string a1_1,.string a1_2,.int .i64 a1_3,.int .i64 a1_4,.int .i64 a1_5] 26 (0,0)) (by (with_reducible repeat (first | refine blk_drewN ?_ _ | refine blk_drew ?_ | refine blk_alloc ?_ _));exact BK340.out) hg (Kd.R_away HO349.out (fun _ hk => hk.2)));have n2_ := Aside0.mk (blk_grown (g := gb341) (o := .cells #[.slice none 0 0] 24 (0,0)) (by (with_reducible repeat (first | refine blk_drewN ?_ _ | refine blk_drew ?_ | refine blk_alloc ?_ _));exact BK341.out) hg (Kd.R_ne HO349.out BK341.out (by decide)));have n3_ := Aside0.mk (hb);have n4_ := Aside0.mk (ho);clear BK339;clear BK340;clear BK341;clear HB;clear HO349;have BK339 := n0_;have BK340 := n1_;have BK341 := n2_;have HB := n3_;have HO352 := n4_;clear n0_ n1_ n2_ n3_ n4_;clear ho hb hg hat;obtain ⟨Ao51,co51,eo51⟩ := Kd.R_slice HO352.out;subst eo51) | ((with_reducible refine gate_dst (N := 7) rfl ?_);refine box_event ?hg (N := 7) ?hd (cs := #[.slice none 0 0]) (t := 24) ?hr ?_;(case hd => rfl);(case hg => rfl);(case hr => first | (go_simp;done) | (go_simp;rfl));intro gb353 hg w52 hbox hb;have n0_ := Aside0.mk (Kd.R_below (by (with_reducible repeat (first | apply Kd.R_alloc | apply Kd.R_drewN | apply Kd.R_drew));exact HO352.out) hb);have n1_ := Aside0.mk (blk_below (g := gb339) (o := .cells #[.slice A0_0 l0_0.length c0_0] 24 (0,0)) (by (with_reducible repeat (first | refine blk_drewN ?_ _ | refine blk_drew ?_ | refine blk_alloc ?_ _));exact BK339.out) hb);have n2_ := Aside0.mk (blk_below (g := gb340) (o := .cells #[.int .i64 a1_0,.string a1_1,.string a1_2,.int .i64 a1_3,.int .i64 a1_4,.int .i64 a1_5] 26 (0,0)) (by (with_reducible repeat (first | refine blk_drewN ?_ _ | refine blk_drew ?_ | refine blk_alloc ?_ _));exact BK340.out) hb);have n3_ := Aside0.mk (blk_below (g := gb341) (o := .cells #[.slice none 0 0] 24 (0,0)) (by (with_reducible repeat (first | refine blk_drewN ?_ _ | refine blk_drew ?_ | refine blk_alloc ?_ _));exact BK341.out) hb);have n4_ := Aside0.mk (below_step (by repeat (first | (with_reducible first | exact HB.out | apply below_alloc | apply pw_below_drewN | apply below_drew1 | refine below_set ?_ GE339.out | refine below_set ?_ GE340.out | refine below_set ?_ GE341.out) | exact HB.out)) hb);have n5_ := Aside0.mk (hbox);have n6_ := Aside0.mk ((by rw [hg];exact (below_size (by repeat (first | (with_reducible first | exact HB.out | apply below_alloc | apply pw_below_drewN | apply below_drew1 | refine below_set ?_ GE339.out | refine below_set ?_ GE340.out | refine below_set ?_ GE341.out) | exact HB.out))) : w.heap.size ≤ gb353));have n7_ := Aside0.mk ((by rw [hg];exact (below_size (by repeat (first | (with_reducible first | exact HB.out | apply below_alloc | apply pw_below_drewN | apply below_drew1 | refine below_set ?_ GE339.out | refine below_set ?_ GE340.out | refine below_set ?_ GE341.out) | exact HB.out))) : w.heap.size ≤ gb353));have n8_ := Aside0.mk ((by rw [hg];exact Nat.ne_of_lt (blk_lt (g := gb339) (o := .cells #[.slice A0_0 l0_0.length c0_0] 24 (0,0)) (by (with_reducible repeat (first | refine blk_drewN ?_ _ | refine blk_drew ?_ | refine blk_alloc ?_ _));exact BK339.out)) : gb339 ≠ gb353));have n9_ := Aside0.mk ((by rw [hg];exact Nat.ne_of_gt (blk_lt (g := gb339) (o := .cells #[.slice A0_0 l0_0.length c0_0] 24 (0,0)) (by (with_reducible repeat (first | refine blk_drewN ?_ _ | refine blk_drew ?_ | refine blk_alloc ?_ _));exact BK339.out)) : gb353 ≠ gb339));have n10_ := Aside0.mk ((by rw [hg];exact Nat.ne_of_lt (blk_lt (g := gb340) (o := .cells #[.int .i64 a1_0,.string a1_1,.string a1_2,.int .i64 a1_3,.int .i64 a1_4,.int .i64 a1_5] 26 (0,0)) (by (with_reducible repeat (first | refine blk_drewN ?_ _ | refine blk_drew ?_ | refine blk_alloc ?_ _));exact BK340.out)) : gb340 ≠ gb353));have n11_ := Aside0.mk ((by rw [hg];exact Nat.ne_of_gt (blk_lt (g := gb340) (o := .cells #[.int .i64 a1_0,.string a1_1,.string a1_2,.int .i64 a1_3,.int .i64 a1_4,.int .i64 a1_5] 26 (0,0)) (by (with_reducible repeat (first | refine blk_drewN ?_ _ | refine blk_drew ?_ | refine blk_alloc ?_ _));exact BK340.out)) : gb353 ≠ gb340));have n12_ := Aside0.mk ((by rw [hg];exact Nat.ne_of_lt (blk_lt (g := gb341) (o := .cells #[.slice none 0 0] 24 (0,0)) (by (with_reducible repeat (first | refine blk_drewN ?_ _ | refine blk_drew ?_ | refine blk_alloc ?_ _));exact BK341.out)) : gb341 ≠ gb353));have n13_ := Aside0.mk ((by rw [hg];exact Nat.ne_of_gt (blk_lt (g := gb341) (o := .cells #[.slice none 0 0] 24 (0,0)) (by (with_reducible repeat (first | refine blk_drewN ?_ _ | refine blk_drew ?_ | refine blk_alloc ?_ _));exact BK341.out)) : gb353 ≠ gb341));clear HO352;clear BK339;clear BK340;clear BK341;clear HB;have HO352 := n0_;have BK339 := n1_;have BK340 := n2_;have BK341 := n3_;have HB := n4_;have BK353 := n5_;have GW353 := n6_;have GE353 := n7_;have NB339_353 := n8_;have NB353_339 := n9_;have NB340_353 := n10_;have NB353_340 := n11_;have NB341_353 := n12_;have NB353_341 := n13_;clear n0_ n1_ n2_ n3_ n4_ n5_ n6_ n7_ n8_ n9_ n10_ n11_ n12_ n13_;clear hb hbox hg;have hnb53 := NB353_339.out;have hnc53 := NB339_353.out;have hnb54 := NB353_340.out;have hnc54 := NB340_353.out;have hnb55 := NB353_341.out;have hnc55 := NB341_353.out;have hcz56_0 : w52.cell? ⟨gb353,0,none⟩ = some (.slice none 0 0) := (blk_cell BK353.out 0).trans rfl;have hfz56_0 := blk_frozen BK353.out 0;have hnb57 := NB341_340.out;have hnc57 := NB340_341.out;have hcz58_0 : w52.cell? ⟨gb341,0,none⟩ = some (.slice none 0 0) := (blk_cell BK341.out 0).trans rfl;have hfz58_0 := blk_frozen BK341.out 0))
                  refine bodyPost_ret (results_ct rfl _ _ gb341 24 #[.slice Ao51 y350.length co51] (0,0) _ rfl (by (with_reducible repeat (first | refine blk_drewN ?_ _ | refine blk_drew ?_ | refine blk_alloc ?_ _));refine blk_put (cs := #[.slice none 0 0]) ?_ 0 _ rfl;(with_reducible repeat (first | refine blk_drewN ?_ _ | refine blk_drew ?_ | refine blk_alloc ?_ _));refine blk_far ?_ NB341_353.out _;(with_reducible repeat (first | refine blk_drewN ?_ _ | refine blk_drew ?_ | refine blk_alloc ?_ _));exact BK341.out) Try.underlying24 rfl (by kernel_rfl)) rfl ?_
                  exact ⟨_,by first | rfl | (simp [errW_none,errW_some] <;> rfl) | (simp [*,errW_none,errW_some] <;> rfl),by (with_reducible repeat (first | apply Kd.R_alloc | apply Kd.R_drewN | apply Kd.R_drew));exact Kd.R_mono (Kd.R_far (p := ⟨gb341,0,none⟩) (Kd.R_far (p := ⟨gb353,0,none⟩) (Kd.R_types (Kd.R_types HO352.out BK353.out (by decide)) BK341.out (by decide)) (fun _ hk => hk.1.2) (.slice Ao51 y350.length co51)) (fun _ hk => hk.2) (.slice Ao51 y350.length co51)) (fun _ hk => trivial),by repeat (first | (with_reducible first | exact HB.out | apply below_alloc | apply pw_below_drewN | apply below_drew1 | refine below_set ?_ GE339.out | refine below_set ?_ GE340.out | refine below_set ?_ GE341.out | refine below_set ?_ GE353.out) | exact HB.out)⟩
                · rw [if_neg c44] at H
                  have c44b0 : decide (0 ≤ t344) = false := decide_eq_false c44
                  clear c44
                  by_cases c59 : (l0_0.length : Int) = 2000
                  · rw [if_pos c59] at H
                    have c59b0 : ((l0_0.length : Int) == 2000) = true := beq_iff_eq.mpr c59
                    have c59b1 : ((l0_0.length : Int) != 2000) = false := bne_eq_false_iff_eq.mpr c59
                    clear c59
                    simp only [Option.some.injEq,Prod.mk.injEq] at H
                    obtain ⟨rfl,rfl⟩ := H
                    go_wp2_with (first | ((with_reducible refine gate_dst (N := 36) rfl ?_);refine Kd.R_lit k26 _ 26 ?hg (N := 36) ?hd (xs := ([] : List (S26))) (inner := []) (ok := fun _ => True) (okp := fun _ => True) ?hr ?hp (fun _ hk => hk) trivial (Below.refl _ _) (Nat.le_refl _) (by simp) ?_;(case hd => rfl);(case hg => rfl);(case hr => first | (go_simp;done) | (go_simp;rfl));(case hp => exact (Reps.none _ _));intro v348 w60 ho61 hb hg_ hnew_;clear hg_ hnew_;(first | rw [← Ny347.out] at ho61 | (simp only [Int.reduceToNat] at ho61;rw [← Ny347.out] at ho61));have n0_ := Aside0.mk (Kd.R_lower (Kd.R_newB ho61 (g := gb340) (o := .cells #[.int .i64 a1_0,.string a1_1,.string a1_2,.int .i64 a1_3,.int .i64 a1_4,.int .i64 a1_5] 26 (0,0)) (by (with_reducible repeat (first | refine blk_drewN ?_ _ | refine blk_drew ?_ | refine blk_alloc ?_ _));exact BK340.out)) (below_size (by repeat (first | (with_reducible first | exact HB.out | apply below_alloc | apply pw_below_drewN | apply below_drew1 | refine below_set ?_ GE339.out | refine below_set ?_ GE340.out | refine below_set ?_ GE341.out) | exact HB.out))));have n1_ := Aside0.mk (blk_below (g := gb339) (o := .cells #[.slice A0_0 l0_0.length c0_0] 24 (0,0)) (by (with_reducible repeat (first | refine blk_drewN ?_ _ | refine blk_drew ?_ | refine blk_alloc ?_ _));exact BK339.out) hb);have n2_ := Aside0.mk (blk_below (g := gb340) (o := .cells #[.int .i64 a1_0,.string a1_1,.string a1_2,.int .i64 a1_3,.int .i64 a1_4,.int .i64 a1_5] 26 (0,0)) (by (with_reducible repeat (first | refine blk_drewN ?_ _ | refine blk_drew ?_ | refine blk_alloc ?_ _));exact BK340.out) hb);have n3_ := Aside0.mk (blk_below (g := gb341) (o := .cells #[.slice none 0 0] 24 (0,0)) (by (with_reducible repeat (first | refine blk_drewN ?_ _ | refine blk_drew ?_ | refine blk_alloc ?_ _));exact BK341.out) hb);have n4_ := Aside0.mk (below_step (by repeat (first | (with_reducible first | exact HB.out | apply below_alloc | apply pw_below_drewN | apply below_drew1 | refine below_set ?_ GE339.out | refine below_set ?_ GE340.out | refine below_set ?_ GE341.out) | exact HB.out)) hb);clear BK339;clear BK340;clear BK341;clear HB;have HO349 := n0_;have BK339 := n1_;have BK340 := n2_;have BK341 := n3_;have HB := n4_;clear n0_ n1_ n2_ n3_ n4_;clear hb ho61;have hnb62 := NB339_340.out;have hnc62 := NB340_339.out;have hnb63 := NB339_341.out;have hnc63 := NB341_339.out;have hcz64_0 : w60.cell? ⟨gb339,0,none⟩ = some (.slice A0_0 l0_0.length c0_0) := (blk_cell BK339.out 0).trans rfl;have hfz64_0 := blk_frozen BK339.out 0) | ((with_reducible refine gate_builtin (b := .append) (xs := #[.tmp 36,.tmp 38]) rfl ?_);at_builtin;refine Kd.R_append_rows k26 (w0 := w) w.heap.size rfl (.tmp 36) (.tmp 38) 22 26 (.agg #[(.int .i64 0),(.string ⟨#[]⟩),(.string ⟨#[]⟩),(.int .i64 0),(.int .i64 0),(.int .i64 0)]) 64 rfl Try.underlying22 info26 rfl (by decide) (by omega) v348 y347 l0_0 _ _ _ (fun k_ => k_ ≠ gb340) (fun _ => False) rfl rfl ?aO ?aR (fun _ _ h => h) (fun _ h => h.elim) ?aF ?aB ?aS ?aL ?_;(case aR => repeat (first | exact (Kd.C_below HR0_0.out HB.out) | (with_reducible refine Kd.C_alloc ?_ _) | (with_reducible refine Kd.C_drewN ?_ _) | (with_reducible refine Kd.C_drew ?_)));(case aB => exact (by repeat (first | (with_reducible first | exact HB.out | apply below_alloc | apply pw_below_drewN | apply below_drew1 | refine below_set ?_ GE339.out | refine below_set ?_ GE340.out | refine below_set ?_ GE341.out) | exact HB.out)));(case aF => exact (fun k_ hk => Kd.freshB (g := gb340) (o := .cells #[.int .i64 a1_0,.string a1_1,.string a1_2,.int .i64 a1_3,.int .i64 a1_4,.int .i64 a1_5] 26 (0,0)) (by (with_reducible repeat (first | refine blk_drewN ?_ _ | refine blk_drew ?_ | refine blk_alloc ?_ _));exact BK340.out) k_ hk));(case aO => exact (by (with_reducible repeat (first | apply Kd.R_alloc | apply Kd.R_drewN | apply Kd.R_drew));exact Kd.R_mono HO349.out (fun _ hk => hk.2)));(case aS => exact (below_size (by repeat (first | (with_reducible first | exact HB.out | apply below_alloc | apply pw_below_drewN | apply below_drew1 | refine below_set ?_ GE339.out | refine below_set ?_ GE340.out | refine below_set ?_ GE341.out) | exact HB.out))));(case aL => have := LMc43.out;omega);intro v351 w65 ho hb hg hat;rw [← Ny350.out] at ho;have n0_ := Aside0.mk (blk_grown (g := gb339) (o := .cells #[.slice A0_0 l0_0.length c0_0] 24 (0,0)) (by (with_reducible repeat (first | refine blk_drewN ?_ _ | refine blk_drew ?_ | refine blk_alloc ?_ _));exact BK339.out) hg (Kd.R_ne HO349.out BK339.out (by decide)));have n1_ := Aside0.mk (blk_grown (g := gb340) (o := .cells #[.int .i64 a1_0,.string a1_1,.string a1_2,.int .i64 a1_3,.int .i64 a1_4,.int .i64 a1_5] 26 (0,0)) (by (with_reducible repeat (first | refine blk_drewN ?_ _ | refine blk_drew ?_ | refine blk_alloc ?_ _));exact BK340.out) hg (Kd.R_away HO349.out (fun _ hk => hk.2)));have n2_ := Aside0.mk (blk_grown (g := gb341) (o := .cells #[.slice none 0 0] 24 (0,0)) (by (with_reducible repeat (first | refine blk_drewN ?_ _ | refine blk_drew ?_ | refine blk_alloc ?_ _));exact BK341.out) hg (Kd.R_ne HO349.out BK341.out (by decide)));have n3_ := Aside0.mk (hb);have n4_ := Aside0.mk (ho);clear BK339;clear BK340;clear BK341;clear HB;clear HO349;have BK339 := n0_;have BK340 := n1_;have BK341 := n2_;have HB := n3_;have HO352 := n4_;clear n0_ n1_ n2_ n3_ n4_;clear ho hb hg hat;obtain ⟨Ao66,co66,eo66⟩ := Kd.R_slice HO352.out;subst eo66) | ((with_reducible refine gate_dst (N := 7) rfl ?_);refine box_event ?hg (N := 7) ?hd (cs := #[.slice none 0 0]) (t := 24) ?hr ?_;(case hd => rfl);(case hg => rfl);(case hr => first | (go_simp;done) | (go_simp;rfl));intro gb353 hg w67 hbox hb;have n0_ := Aside0.mk (Kd.R_below (by (with_reducible repeat (first | apply Kd.R_alloc | apply Kd.R_drewN | apply Kd.R_drew));exact HO352.out) hb);have n1_ := Aside0.mk (blk_below (g := gb339) (o := .cells #[.slice A0_0 l0_0.length c0_0] 24 (0,0)) (by (with_reducible repeat (first | refine blk_drewN ?_ _ | refine blk_drew ?_ | refine blk_alloc ?_ _));exact BK339.out) hb);have n2_ := Aside0.mk (blk_below (g := gb340) (o := .cells #[.int .i64 a1_0,.string a1_1,.string a1_2,.int .i64 a1_3,.int .i64 a1_4,.int .i64 a1_5] 26 (0,0)) (by (with_reducible repeat (first | refine blk_drewN ?_ _ | refine blk_drew ?_ | refine blk_alloc ?_ _));exact BK340.out) hb);have n3_ := Aside0.mk (blk_below (g := gb341) (o := .cells #[.slice none 0 0] 24 (0,0)) (by (with_reducible repeat (first | refine blk_drewN ?_ _ | refine blk_drew ?_ | refine blk_alloc ?_ _));exact BK341.out) hb);have n4_ := Aside0.mk (below_step (by repeat (first | (with_reducible first | exact HB.out | apply below_alloc | apply pw_below_drewN | apply below_drew1 | refine below_set ?_ GE339.out | refine below_set ?_ GE340.out | refine below_set ?_ GE341.out) | exact HB.out)) hb);have n5_ := Aside0.mk (hbox);have n6_ := Aside0.mk ((by rw [hg];exact (below_size (by repeat (first | (with_reducible first | exact HB.out | apply below_alloc | apply pw_below_drewN | apply below_drew1 | refine below_set ?_ GE339.out | refine below_set ?_ GE340.out | refine below_set ?_ GE341.out) | exact HB.out))) : w.heap.size ≤ gb353));have n7_ := Aside0.mk ((by rw [hg];exact (below_size (by repeat (first | (with_reducible first | exact HB.out | apply below_alloc | apply pw_below_drewN | apply below_drew1 | refine below_set ?_ GE339.out | refine below_set ?_ GE340.out | refine below_set ?_ GE341.out) | exact HB.out))) : w.heap.size ≤ gb353));have n8_ := Aside0.mk ((by rw [hg];exact Nat.ne_of_lt (blk_lt (g := gb339) (o := .cells #[.slice A0_0 l0_0.length c0_0] 24 (0,0)) (by (with_reducible repeat (first | refine blk_drewN ?_ _ | refine blk_drew ?_ | refine blk_alloc ?_ _));exact BK339.out)) : gb339 ≠ gb353));have n9_ := Aside0.mk ((by rw [hg];exact Nat.ne_of_gt (blk_lt (g := gb339) (o := .cells #[.slice A0_0 l0_0.length c0_0] 24 (0,0)) (by (with_reducible repeat (first | refine blk_drewN ?_ _ | refine blk_drew ?_ | refine blk_alloc ?_ _));exact BK339.out)) : gb353 ≠ gb339));have n10_ := Aside0.mk ((by rw [hg];exact Nat.ne_of_lt (blk_lt (g := gb340) (o := .cells #[.int .i64 a1_0,.string a1_1,.string a1_2,.int .i64 a1_3,.int .i64 a1_4,.int .i64 a1_5] 26 (0,0)) (by (with_reducible repeat (first | refine blk_drewN ?_ _ | refine blk_drew ?_ | refine blk_alloc ?_ _));exact BK340.out)) : gb340 ≠ gb353));have n11_ := Aside0.mk ((by rw [hg];exact Nat.ne_of_gt (blk_lt (g := gb340) (o := .cells #[.int .i64 a1_0,.string a1_1,.string a1_2,.int .i64 a1_3,.int .i64 a1_4,.int .i64 a1_5] 26 (0,0)) (by (with_reducible repeat (first | refine blk_drewN ?_ _ | refine blk_drew ?_ | refine blk_alloc ?_ _));exact BK340.out)) : gb353 ≠ gb340));have n12_ := Aside0.mk ((by rw [hg];exact Nat.ne_of_lt (blk_lt (g := gb341) (o := .cells #[.slice none 0 0] 24 (0,0)) (by (with_reducible repeat (first | refine blk_drewN ?_ _ | refine blk_drew ?_ | refine blk_alloc ?_ _));exact BK341.out)) : gb341 ≠ gb353));have n13_ := Aside0.mk ((by rw [hg];exact Nat.ne_of_gt (blk_lt (g := gb341) (o := .cells #[.slice none 0 0] 24 (0,0)) (by (with_reducible repeat (first | refine blk_drewN ?_ _ | refine blk_drew ?_ | refine blk_alloc ?_ _));exact BK341.out)) : gb353 ≠ gb341));clear HO352;clear BK339;clear BK340;clear BK341;clear HB;have HO352 := n0_;have BK339 := n1_;have BK340 := n2_;have BK341 := n3_;have HB := n4_;have BK353 := n5_;have GW353 := n6_;have GE353 := n7_;have NB339_353 := n8_;have NB353_339 := n9_;have NB340_353 := n10_;have NB353_340 := n11_;have NB341_353 := n12_;have NB353_341 := n13_;clear n0_ n1_ n2_ n3_ n4_ n5_ n6_ n7_ n8_ n9_ n10_ n11_ n12_ n13_;clear hb hbox hg;have hnb68 := NB353_339.out;have hnc68 := NB339_353.out;have hnb69 := NB353_340.out;have hnc69 := NB340_353.out;have hnb70 := NB353_341.out;have hnc70 := NB341_353.out;have hcz71_0 : w67.cell? ⟨gb353,0,none⟩ = some (.slice none 0 0) := (blk_cell BK353.out 0).trans rfl;have hfz71_0 := blk_frozen BK353.out 0;have hcz72_0 : w67.cell? ⟨gb339,0,none⟩ = some (.slice A0_0 l0_0.length c0_0) := (blk_cell BK339.out 0).trans rfl;have hfz72_0 := blk_frozen BK339.out 0;have hnb73 := NB341_340.out;have hnc73 := NB340_341.out;have hcz74_0 : w67.cell? ⟨gb341,0,none⟩ = some (.slice none 0 0) := (blk_cell BK341.out 0).trans rfl;have hfz74_0 := blk_frozen BK341.out 0))
                    refine bodyPost_ret (results_ct rfl _ _ gb341 24 #[.slice none 0 0] (0,0) _ rfl (by (with_reducible repeat (first | refine blk_drewN ?_ _ | refine blk_drew ?_ | refine blk_alloc ?_ _));refine blk_put (cs := #[.slice none 0 0]) ?_ 0 _ rfl;(with_reducible repeat (first | refine blk_drewN ?_ _ | refine blk_drew ?_ | refine blk_alloc ?_ _));refine blk_far ?_ NB341_353.out _;(with_reducible repeat (first | refine blk_drewN ?_ _ | refine blk_drew ?_ | refine blk_alloc ?_ _));exact BK341.out) Try.underlying24 rfl (by kernel_rfl)) rfl ?_
                    exact ⟨_,by first | rfl | (simp [errW_none,errW_some] <;> rfl) | (simp [*,errW_none,errW_some] <;> rfl),by first | exact Kd.R_nil _ _ _ _ _ | exact Kd.N_nil _ _ _ _ _ | exact Kd.V_nil _ _ _ _ _ | exact Kd.Q_nil _ _ _ _ _ | exact Kd.S_nil _ _ _ _ _,by repeat (first | (with_reducible first | exact HB.out | apply below_alloc | apply pw_below_drewN | apply below_drew1 | refine below_set ?_ GE339.out | refine below_set ?_ GE340.out | refine below_set ?_ GE341.out | refine below_set ?_ GE353.out) | exact HB.out)⟩
                  · rw [if_neg c59] at H
                    have c59b0 : ((l0_0.length : Int) == 2000) = false := beq_eq_false_iff_ne.mpr c59
                    have c59b1 : ((l0_0.length : Int) != 2000) = true := bne_iff_ne.mpr c59
                    by_cases c75 : (l0_0.length : Int) > 0
                    · rw [if_pos c75] at H
                      have c75b0 : decide (0 < (l0_0.length : Int)) = true := decide_eq_true c75
                      have c75b1 : decide (0 < l0_0.length) = true := decide_eq_true (by omega)
                      clear c75
                      obtain ⟨ji76,hji76⟩ : ∃ j_ : Int,(wrap64 ((l0_0.length : Int) - 1)) = j_ := ⟨_,rfl⟩
                      replace H : (if 0 ≤ (ji76) then (if (ji76) < (l0_0.length : Int) then (if a1_5 < ((rd_T26 l0_0 (ji76)).f5) then (some (([] : List (S26)),6)) else (if y350.length < 2199023255552 then (some ((y350 ++ [(⟨a1_0,a1_1,a1_2,a1_3,a1_4,a1_5⟩ : S26)]),0)) else (none))) else (none)) else (none)) = some (r1,r2) := by first | (rw [hji76] at H;exact H) | (simp only [hji76] at H ⊢;exact H)
                      have hji76w : (IntKind.i64.wrap ((l0_0.length : Int) - 1)) = ji76 := (i64_w _).trans hji76
                      by_cases c77 : 0 ≤ (ji76)
                      · rw [if_pos c77] at H
                        have c77b0 : decide (0 ≤ (ji76)) = true := decide_eq_true c77
                        clear c77
                        by_cases c78 : (ji76) < (l0_0.length : Int)
                        · rw [if_pos c78] at H
                          have c78b0 : decide ((ji76) < (l0_0.length : Int)) = true := decide_eq_true c78
                          clear c78
                          by_cases c79 : a1_5 < ((rd_T26 l0_0 (ji76)).f5)
                          · rw [if_pos c79] at H
                            have c79b0 : decide (a1_5 < ((rd_T26 l0_0 (ji76)).f5)) = true := decide_eq_true c79
                            clear c79
                            simp only [Option.some.injEq,Prod.mk.injEq] at H
                            obtain ⟨rfl,rfl⟩ := H
                            try go_wp2_with (first | ((with_reducible refine gate_dst (N := 36) rfl ?_);refine Kd.R_lit k26 _ 26 ?hg (N := 36) ?hd (xs := ([] : List (S26))) (inner := []) (ok := fun _ => True) (okp := fun _ => True) ?hr ?hp (fun _ hk => hk) trivial (Below.refl _ _) (Nat.le_refl _) (by simp) ?_;(case hd => rfl);(case hg => rfl);(case hr => first | (go_simp;done) | (go_simp;rfl));(case hp => exact (Reps.none _ _));intro v348 w80 ho81 hb hg_ hnew_;clear hg_ hnew_;(first | rw [← Ny347.out] at ho81 | (simp only [Int.reduceToNat] at ho81;rw [← Ny347.out] at ho81));have n0_ := Aside0.mk (Kd.R_lower (Kd.R_newB ho81 (g := gb340) (o := .cells #[.int .i64 a1_0,.string a1_1,.string a1_2,.int .i64 a1_3,.int .i64 a1_4,.int .i64 a1_5] 26 (0,0)) (by (with_reducible repeat (first | refine blk_drewN ?_ _ | refine blk_drew ?_ | refine blk_alloc ?_ _));exact BK340.out)) (below_size (by repeat (first | (with_reducible first | exact HB.out | apply below_alloc | apply pw_below_drewN | apply below_drew1 | refine below_set ?_ GE339.out | refine below_set ?_ GE340.out | refine below_set ?_ GE341.out) | exact HB.out))));have n1_ := Aside0.mk (blk_below (g := gb339) (o := .cells #[.slice A0_0 l0_0.length c0_0] 24 (0,0)) (by (with_reducible repeat (first | refine blk_drewN ?_ _ | refine blk_drew ?_ | refine blk_alloc ?_ _));exact BK339.out) hb);have n2_ := Aside0.mk (blk_below (g := gb340) (o := .cells #[.int .i64 a1_0,.string a1_1,.string a1_2,.int .i64 a1_3,.int .i64 a1_4,.int .i64 a1_5] 26 (0,0)) (by (with_reducible repeat (first | refine blk_drewN ?_ _ | refine blk_drew ?_ | refine blk_alloc ?_ _));exact BK340.out) hb);have n3_ := Aside0.mk (blk_below (g := gb341) (o := .cells #[.slice none 0 0] 24 (0,0)) (by (with_reducible repeat (first | refine blk_drewN ?_ _ | refine blk_drew ?_ | refine blk_alloc ?_ _));exact BK341.out) hb);have n4_ := Aside0.mk (below_step (by repeat (first | (with_reducible first | exact HB.out | apply below_alloc | apply pw_below_drewN | apply below_drew1 | refine below_set ?_ GE339.out | refine below_set ?_ GE340.out | refine below_set ?_ GE341.out) | exact HB.out)) hb);clear BK339;clear BK340;clear BK341;clear HB;have HO349 := n0_;have BK339 := n1_;have BK340 := n2_;have BK341 := n3_;have HB := n4_;clear n0_ n1_ n2_ n3_ n4_;clear hb ho81;have hnb82 := NB339_340.out;have hnc82 := NB340_339.out;have hnb83 := NB339_341.out;have hnc83 := NB341_339.out;have hcz84_0 : w80.cell? ⟨gb339,0,none⟩ = some (.slice A0_0 l0_0.length c0_0) := (blk_cell BK339.out 0).trans rfl;have hfz84_0 := blk_frozen BK339.out 0) | ((with_reducible refine gate_builtin (b := .append) (xs := #[.tmp 36,.tmp 38]) rfl ?_);at_builtin;refine Kd.R_append_rows k26 (w0 := w) w.heap.size rfl (.tmp 36) (.tmp 38) 22 26 (.agg #[(.int .i64 0),(.string ⟨#[]⟩),(.string ⟨#[]⟩),(.int .i64 0),(.int .i64 0),(.int .i64 0)]) 64 rfl Try.underlying22 info26 rfl (by decide) (by omega) v348 y347 l0_0 _ _ _ (fun k_ => k_ ≠ gb340) (fun _ => False) rfl rfl ?aO ?aR (fun _ _ h => h) (fun _ h => h.elim) ?aF ?aB ?aS ?aL ?_;(case aR => repeat (first | exact (Kd.C_below HR0_0.out HB.out) | (with_reducible refine Kd.C_alloc ?_ _) | (with_reducible refine Kd.C_drewN ?_ _) | (with_reducible refine Kd.C_drew ?_)));(case aB => exact (by repeat (first | (with_reducible first | exact HB.out | apply below_alloc | apply pw_below_drewN | apply below_drew1 | refine below_set ?_ GE339.out | refine below_set ?_ GE340.out | refine below_set ?_ GE341.out) | exact HB.out)));(case aF => exact (fun k_ hk => Kd.freshB (g := gb340) (o := .cells #[.int .i64 a1_0,.string a1_1,.string a1_2,.int .i64 a1_3,.int .i64 a1_4,.int .i64 a1_5] 26 (0,0)) (by (with_reducible repeat (first | refine blk_drewN ?_ _ | refine blk_drew ?_ | refine blk_alloc ?_ _));exact BK340.out) k_ hk));(case aO => exact (by (with_reducible repeat (first | apply Kd.R_alloc | apply Kd.R_drewN | apply Kd.R_drew));exact Kd.R_mono HO349.out (fun _ hk => hk.2)));(case aS => exact (below_size (by repeat (first | (with_reducible first | exact HB.out | apply below_alloc | apply pw_below_drewN | apply below_drew1 | refine below_set ?_ GE339.out | refine below_set ?_ GE340.out | refine below_set ?_ GE341.out) | exact HB.out))));(case aL => have := LMc43.out;omega);intro v351 w85 ho hb hg hat;rw [← Ny350.out] at ho;have n0_ := Aside0.mk (blk_grown (g := gb339) (o := .cells #[.slice A0_0 l0_0.length c0_0] 24 (0,0)) (by (with_reducible repeat (first | refine blk_drewN ?_ _ | refine blk_drew ?_ | refine blk_alloc ?_ _));exact BK339.out) hg (Kd.R_ne HO349.out BK339.out (by decide)));have n1_ := Aside0.mk (blk_grown (g := gb340) (o := .cells #[.int .i64 a1_0,.string a1_1,.string a1_2,.int .i64 a1_3,.int .i64 a1_4,.int .i64 a1_5] 26 (0,0)) (by (with_reducible repeat (first | refine blk_drewN ?_ _ | refine blk_drew ?_ | refine blk_alloc ?_ _));exact BK340.out) hg (Kd.R_away HO349.out (fun _ hk => hk.2)));have n2_ := Aside0.mk (blk_grown (g := gb341) (o := .cells #[.slice none 0 0] 24 (0,0)) (by (with_reducible repeat (first | refine blk_drewN ?_ _ | refine blk_drew ?_ | refine blk_alloc ?_ _));exact BK341.out) hg (Kd.R_ne HO349.out BK341.out (by decide)));have n3_ := Aside0.mk (hb);have n4_ := Aside0.mk (ho);clear BK339;clear BK340;clear BK341;clear HB;clear HO349;have BK339 := n0_;have BK340 := n1_;have BK341 := n2_;have HB := n3_;have HO352 := n4_;clear n0_ n1_ n2_ n3_ n4_;clear ho hb hg hat;obtain ⟨Ao86,co86,eo86⟩ := Kd.R_slice HO352.out;subst eo86) | ((with_reducible refine gate_dst (N := 7) rfl ?_);refine box_event ?hg (N := 7) ?hd (cs := #[.slice none 0 0]) (t := 24) ?hr ?_;(case hd => rfl);(case hg => rfl);(case hr => first | (go_simp;done) | (go_simp;rfl));intro gb353 hg w87 hbox hb;have n0_ := Aside0.mk (Kd.R_below (by (with_reducible repeat (first | apply Kd.R_alloc | apply Kd.R_drewN | apply Kd.R_drew));exact HO352.out) hb);have n1_ := Aside0.mk (blk_below (g := gb339) (o := .cells #[.slice A0_0 l0_0.length c0_0] 24 (0,0)) (by (with_reducible repeat (first | refine blk_drewN ?_ _ | refine blk_drew ?_ | refine blk_alloc ?_ _));exact BK339.out) hb);have n2_ := Aside0.mk (blk_below (g := gb340) (o := .cells #[.int .i64 a1_0,.string a1_1,.string a1_2,.int .i64 a1_3,.int .i64 a1_4,.int .i64 a1_5] 26 (0,0)) (by (with_reducible repeat (first | refine blk_drewN ?_ _ | refine blk_drew ?_ | refine blk_alloc ?_ _));exact BK340.out) hb);have n3_ := Aside0.mk (blk_below (g := gb341) (o := .cells #[.slice none 0 0] 24 (0,0)) (by (with_reducible repeat (first | refine blk_drewN ?_ _ | refine blk_drew ?_ | refine blk_alloc ?_ _));exact BK341.out) hb);have n4_ := Aside0.mk (below_step (by repeat (first | (with_reducible first | exact HB.out | apply below_alloc | apply pw_below_drewN | apply below_drew1 | refine below_set ?_ GE339.out | refine below_set ?_ GE340.out | refine below_set ?_ GE341.out) | exact HB.out)) hb);have n5_ := Aside0.mk (hbox);have n6_ := Aside0.mk ((by rw [hg];exact (below_size (by repeat (first | (with_reducible first | exact HB.out | apply below_alloc | apply pw_below_drewN | apply below_drew1 | refine below_set ?_ GE339.out | refine below_set ?_ GE340.out | refine below_set ?_ GE341.out) | exact HB.out))) : w.heap.size ≤ gb353));have n7_ := Aside0.mk ((by rw [hg];exact (below_size (by repeat (first | (with_reducible first | exact HB.out | apply below_alloc | apply pw_below_drewN | apply below_drew1 | refine below_set ?_ GE339.out | refine below_set ?_ GE340.out | refine below_set ?_ GE341.out) | exact HB.out))) : w.heap.size ≤ gb353));have n8_ := Aside0.mk ((by rw [hg];exact Nat.ne_of_lt (blk_lt (g := gb339) (o := .cells #[.slice A0_0 l0_0.length c0_0] 24 (0,0)) (by (with_reducible repeat (first | refine blk_drewN ?_ _ | refine blk_drew ?_ | refine blk_alloc ?_ _));exact BK339.out)) : gb339 ≠ gb353));have n9_ := Aside0.mk ((by rw [hg];exact Nat.ne_of_gt (blk_lt (g := gb339) (o := .cells #[.slice A0_0 l0_0.length c0_0] 24 (0,0)) (by (with_reducible repeat (first | refine blk_drewN ?_ _ | refine blk_drew ?_ | refine blk_alloc ?_ _));exact BK339.out)) : gb353 ≠ gb339));have n10_ := Aside0.mk ((by rw [hg];exact Nat.ne_of_lt (blk_lt (g := gb340) (o := .cells #[.int .i64 a1_0,.string a1_1,.string a1_2,.int .i64 a1_3,.int .i64 a1_4,.int .i64 a1_5] 26 (0,0)) (by (with_reducible repeat (first | refine blk_drewN ?_ _ | refine blk_drew ?_ | refine blk_alloc ?_ _));exact BK340.out)) : gb340 ≠ gb353));have n11_ := Aside0.mk ((by rw [hg];exact Nat.ne_of_gt (blk_lt (g := gb340) (o := .cells #[.int .i64 a1_0,.string a1_1,.string a1_2,.int .i64 a1_3,.int .i64 a1_4,.int .i64 a1_5] 26 (0,0)) (by (with_reducible repeat (first | refine blk_drewN ?_ _ | refine blk_drew ?_ | refine blk_alloc ?_ _));exact BK340.out)) : gb353 ≠ gb340));have n12_ := Aside0.mk ((by rw [hg];exact Nat.ne_of_lt (blk_lt (g := gb341) (o := .cells #[.slice none 0 0] 24 (0,0)) (by (with_reducible repeat (first | refine blk_drewN ?_ _ | refine blk_drew ?_ | refine blk_alloc ?_ _));exact BK341.out)) : gb341 ≠ gb353));have n13_ := Aside0.mk ((by rw [hg];exact Nat.ne_of_gt (blk_lt (g := gb341) (o := .cells #[.slice none 0 0] 24 (0,0)) (by (with_reducible repeat (first | refine blk_drewN ?_ _ | refine blk_drew ?_ | refine blk_alloc ?_ _));exact BK341.out)) : gb353 ≠ gb341));clear HO352;clear BK339;clear BK340;clear BK341;clear HB;have HO352 := n0_;have BK339 := n1_;have BK340 := n2_;have BK341 := n3_;have HB := n4_;have BK353 := n5_;have GW353 := n6_;have GE353 := n7_;have NB339_353 := n8_;have NB353_339 := n9_;have NB340_353 := n10_;have NB353_340 := n11_;have NB341_353 := n12_;have NB353_341 := n13_;clear n0_ n1_ n2_ n3_ n4_ n5_ n6_ n7_ n8_ n9_ n10_ n11_ n12_ n13_;clear hb hbox hg;have hnb88 := NB353_339.out;have hnc88 := NB339_353.out;have hnb89 := NB353_340.out;have hnc89 := NB340_353.out;have hnb90 := NB353_341.out;have hnc90 := NB341_353.out;have hcz91_0 : w87.cell? ⟨gb353,0,none⟩ = some (.slice none 0 0) := (blk_cell BK353.out 0).trans rfl;have hfz91_0 := blk_frozen BK353.out 0;have hcz92_0 : w87.cell? ⟨gb339,0,none⟩ = some (.slice A0_0 l0_0.length c0_0) := (blk_cell BK339.out 0).trans rfl;have hfz92_0 := blk_frozen BK339.out 0))
                            have n0_ : Aside0 (Kd.R k26 26 (w87.setCell ⟨gb353,0,none⟩ (.slice Ao86 y350.length co86)) w.heap.size (fun k_ => k_ ≠ gb340) (.slice Ao86 y350.length co86) y350) := ⟨by (with_reducible repeat (first | apply Kd.R_alloc | apply Kd.R_drewN | apply Kd.R_drew));exact Kd.R_mono (Kd.R_far (p := ⟨gb353,0,none⟩) (Kd.R_types HO352.out BK353.out (by decide)) (fun _ hk => hk.2) (.slice Ao86 y350.length co86)) (fun _ hk => hk.1)⟩
                            have n1_ : Aside0 ((w87.setCell ⟨gb353,0,none⟩ (.slice Ao86 y350.length co86)).heap[gb339]? = some (.cells #[.slice A0_0 l0_0.length c0_0] 24 (0,0))) := ⟨by (with_reducible repeat (first | refine blk_drewN ?_ _ | refine blk_drew ?_ | refine blk_alloc ?_ _));refine blk_far ?_ NB339_353.out _;(with_reducible repeat (first | refine blk_drewN ?_ _ | refine blk_drew ?_ | refine blk_alloc ?_ _));exact BK339.out⟩
                            have n2_ : Aside0 ((w87.setCell ⟨gb353,0,none⟩ (.slice Ao86 y350.length co86)).heap[gb340]? = some (.cells #[.int .i64 a1_0,.string a1_1,.string a1_2,.int .i64 a1_3,.int .i64 a1_4,.int .i64 a1_5] 26 (0,0))) := ⟨by (with_reducible repeat (first | refine blk_drewN ?_ _ | refine blk_drew ?_ | refine blk_alloc ?_ _));refine blk_far ?_ NB340_353.out _;(with_reducible repeat (first | refine blk_drewN ?_ _ | refine blk_drew ?_ | refine blk_alloc ?_ _));exact BK340.out⟩
                            have n3_ : Aside0 ((w87.setCell ⟨gb353,0,none⟩ (.slice Ao86 y350.length co86)).heap[gb341]? = some (.cells #[.slice none 0 0] 24 (0,0))) := ⟨by (with_reducible repeat (first | refine blk_drewN ?_ _ | refine blk_drew ?_ | refine blk_alloc ?_ _));refine blk_far ?_ NB341_353.out _;(with_reducible repeat (first | refine blk_drewN ?_ _ | refine blk_drew ?_ | refine blk_alloc ?_ _));exact BK341.out⟩
                            have n4_ : Aside0 ((w87.setCell ⟨gb353,0,none⟩ (.slice Ao86 y350.length co86)).heap[gb353]? = some (.cells #[.slice Ao86 y350.length co86] 24 (0,0))) := ⟨by (with_reducible repeat (first | refine blk_drewN ?_ _ | refine blk_drew ?_ | refine blk_alloc ?_ _));refine blk_put (cs := #[.slice none 0 0]) ?_ 0 _ rfl;(with_reducible repeat (first | refine blk_drewN ?_ _ | refine blk_drew ?_ | refine blk_alloc ?_ _));exact BK353.out⟩
                            have n5_ : Aside0 (Below w.heap.size w (w87.setCell ⟨gb353,0,none⟩ (.slice Ao86 y350.length co86))) := ⟨by repeat (first | (with_reducible first | exact HB.out | apply below_alloc | apply pw_below_drewN | apply below_drew1 | refine below_set ?_ GE339.out | refine below_set ?_ GE340.out | refine below_set ?_ GE341.out | refine below_set ?_ GE353.out) | exact HB.out)⟩
                            (try clear HO352)
                            (try clear BK339)
                            (try clear BK340)
                            (try clear BK341)
                            (try clear BK353)
                            (try clear HB)
                            generalize (w87.setCell ⟨gb353,0,none⟩ (.slice Ao86 y350.length co86)) = w93 at n0_ n1_ n2_ n3_ n4_ n5_ ⊢
                            have HO352 := n0_
                            have BK339 := n1_
                            have BK340 := n2_
                            have BK341 := n3_
                            have BK353 := n4_
                            have HB := n5_
                            clear n0_ n1_ n2_ n3_ n4_ n5_
                            have n0_ := Aside0.mk (Kd.R_drew HO352.out)
                            have n1_ := Aside0.mk (blk_drew BK339.out)
                            have n2_ := Aside0.mk (blk_drew BK340.out)
                            have n3_ := Aside0.mk (blk_drew BK341.out)
                            have n4_ := Aside0.mk (blk_drew BK353.out)
                            have n5_ := Aside0.mk (below_drew1 HB.out)
                            clear HO352;clear BK339;clear BK340;clear BK341;clear BK353;clear HB
                            have HO352 := n0_
                            have BK339 := n1_
                            have BK340 := n2_
                            have BK341 := n3_
                            have BK353 := n4_
                            have HB := n5_
                            clear n0_ n1_ n2_ n3_ n4_ n5_
                            have p354 : 0 ≤ ((ji76) : Int) := of_decide_eq_true (by first | (with_reducible assumption) | assumption)
                            have q354 : (ji76) < (l0_0.length : Int) := of_decide_eq_true (by first | (with_reducible assumption) | assumption)
                            obtain ⟨ad354,e354,hx354_0,hx354_1,hx354_2,hx354_3,hx354_4,hx354_5⟩ := at_T26 HR0_0.out (ji76) p354 q354
                            have hw354_5 := hx354_5
                            have hw354_4 := hx354_4
                            have hw354_3 := hx354_3
                            have hw354_2 := hx354_2
                            have hw354_1 := hx354_1
                            have hw354_0 := hx354_0
                            cases e354
                            replace hx354_0 := (HB.out.cell (World.block_lt_of_cell? w _ hx354_0)).trans hx354_0
                            replace hx354_1 := (HB.out.cell (World.block_lt_of_cell? w _ hx354_1)).trans hx354_1
                            replace hx354_2 := (HB.out.cell (World.block_lt_of_cell? w _ hx354_2)).trans hx354_2
                            replace hx354_3 := (HB.out.cell (World.block_lt_of_cell? w _ hx354_3)).trans hx354_3
                            replace hx354_4 := (HB.out.cell (World.block_lt_of_cell? w _ hx354_4)).trans hx354_4
                            replace hx354_5 := (HB.out.cell (World.block_lt_of_cell? w _ hx354_5)).trans hx354_5
                            replace p354 := eq_true p354
                            replace q354 := eq_true q354
                            refine start_ (n := 14) (S := fun w' => w'.cell? ⟨gb340,0,none⟩ = some (.int .i64 a1_0) ∧ w'.cell? ⟨gb340,1,none⟩ = some (.string a1_1) ∧ w'.cell? ⟨gb340,2,none⟩ = some (.string a1_2) ∧ w'.cell? ⟨gb340,3,none⟩ = some (.int .i64 a1_3) ∧ w'.cell? ⟨gb340,4,none⟩ = some (.int .i64 a1_4) ∧ w'.cell? ⟨gb340,5,none⟩ = some (.int .i64 a1_5) ∧ w'.cell? ⟨gb339,0,none⟩ = some (.slice (some ad354) l0_0.length c0_0) ∧ w'.cell? (ad354.add (((ji76)).toNat * 6)) = some (.int .i64 ((rd_T26 l0_0 (ji76)).f0)) ∧ w'.cell? ⟨(ad354.add (((ji76)).toNat * 6)).block,(ad354.add (((ji76)).toNat * 6)).off + 1,none⟩ = some (.string ((rd_T26 l0_0 (ji76)).f1)) ∧ w'.cell? ⟨(ad354.add (((ji76)).toNat * 6)).block,(ad354.add (((ji76)).toNat * 6)).off + 2,none⟩ = some (.string ((rd_T26 l0_0 (ji76)).f2)) ∧ w'.cell? ⟨(ad354.add (((ji76)).toNat * 6)).block,(ad354.add (((ji76)).toNat * 6)).off + 3,none⟩ = some (.int .i64 ((rd_T26 l0_0 (ji76)).f3)) ∧ w'.cell? ⟨(ad354.add (((ji76)).toNat * 6)).block,(ad354.add (((ji76)).toNat * 6)).off + 4,none⟩ = some (.int .i64 ((rd_T26 l0_0 (ji76)).f4)) ∧ w'.cell? ⟨(ad354.add (((ji76)).toNat * 6)).block,(ad354.add (((ji76)).toNat * 6)).off + 5,none⟩ = some (.int .i64 ((rd_T26 l0_0 (ji76)).f5))) (ds := []) #[false,false,false,false,false,false,false,false,false,false,false,false,false,false] (by kernel_rfl) rfl rfl ⟨(blk_cell BK340.out 0).trans rfl,(blk_cell BK340.out 1).trans rfl,(blk_cell BK340.out 2).trans rfl,(blk_cell BK340.out 3).trans rfl,(blk_cell BK340.out 4).trans rfl,(blk_cell BK340.out 5).trans rfl,(blk_cell BK339.out 0).trans rfl,((HB.out.cell (World.block_lt_of_cell? w _ hw354_0)).trans hw354_0),((HB.out.cell (World.block_lt_of_cell? w _ hw354_1)).trans hw354_1),((HB.out.cell (World.block_lt_of_cell? w _ hw354_2)).trans hw354_2),((HB.out.cell (World.block_lt_of_cell? w _ hw354_3)).trans hw354_3),((HB.out.cell (World.block_lt_of_cell? w _ hw354_4)).trans hw354_4),((HB.out.cell (World.block_lt_of_cell? w _ hw354_5)).trans hw354_5)⟩ (fun hHeld => ?_);refine with_tabW wageofficeref39_Post.tab12 wageofficeref39_Post.bits12 (fun HT_ HW_ => ?_)
                            generalize w93.drew = w94 at HO352 BK339 BK340 BK341 BK353 HB hx354_0 hx354_1 hx354_2 hx354_3 hx354_4 hx354_5 hHeld ⊢
                            refine pure_ (i := 0) (N := some 50) (v := ?_) (a' := ?_) #[true,false,false,false,false,false,false,false,false,false,false,false,false,false] rfl rfl (any_of HT_.out (by kernel_rfl)) (fun _ _ _ h => h) (Or.inl ⟨by rfl,?_⟩) ?_ ?_
                            rotate_left
                            · intro w'
                              go_simp
                              with_reducible rfl
                            rotate_left
                            · simp only [Act.put,List.setIfInBounds_toArray,List.set_cons_zero,List.set_cons_succ,i64_w,i32_w]
                              rfl
                            refine pure_ (i := 1) (N := some 51) (v := ?_) (a' := ?_) #[true,true,false,false,false,false,false,false,false,false,false,false,false,false] rfl rfl (any_of HT_.out (by kernel_rfl)) (fun _ _ _ h => h) (Or.inl ⟨by rfl,?_⟩) ?_ ?_
                            rotate_left
                            · intro w'
                              go_simp
                              with_reducible rfl
                            rotate_left
                            · simp only [Act.put,List.setIfInBounds_toArray,List.set_cons_zero,List.set_cons_succ,i64_w,i32_w]
                              rfl
                            refine pure_ (i := 2) (N := some 52) (v := ?_) (a' := ?_) #[true,true,true,false,false,false,false,false,false,false,false,false,false,false] rfl rfl (any_of HT_.out (by kernel_rfl)) (fun _ _ _ h => h) (Or.inl ⟨by rfl,?_⟩) ?_ ?_
                            rotate_left
                            · intro w'
                              go_simp
                              with_reducible rfl
                            rotate_left
                            · simp only [Act.put,List.setIfInBounds_toArray,List.set_cons_zero,List.set_cons_succ,i64_w,i32_w]
                              rfl
                            refine pure_ (i := 3) (N := some 53) (v := ?_) (a' := ?_) #[true,true,true,true,false,false,false,false,false,false,false,false,false,false] rfl rfl (any_of HT_.out (by kernel_rfl)) (fun _ _ _ h => h) (Or.inl ⟨by rfl,?_⟩) ?_ ?_
                            rotate_left
                            · intro w'
                              go_simp
                              with_reducible rfl
                            rotate_left
                            · simp only [Act.put,List.setIfInBounds_toArray,List.set_cons_zero,List.set_cons_succ,i64_w,i32_w]
                              rfl
                            refine pure_ (i := 5) (N := some 55) (v := ?_) (a' := ?_) #[true,true,true,true,false,true,false,false,false,false,false,false,false,false] rfl rfl (any_of HT_.out (by kernel_rfl)) (fun _ _ _ h => h) (Or.inl ⟨by rfl,?_⟩) ?_ ?_
                            rotate_left
                            · intro w'
                              go_simp
                              with_reducible rfl
                            rotate_left
                            · simp only [Act.put,List.setIfInBounds_toArray,List.set_cons_zero,List.set_cons_succ,i64_w,i32_w]
                              rfl
                            refine pure_ (i := 7) (N := some 57) (v := ?_) (a' := ?_) #[true,true,true,true,false,true,false,true,false,false,false,false,false,false] rfl rfl (any_of HT_.out (by kernel_rfl)) (fun _ _ _ h => h) (Or.inl ⟨by rfl,?_⟩) ?_ ?_
                            rotate_left
                            · intro w'
                              go_simp
                              with_reducible rfl
                            rotate_left
                            · simp only [Act.put,List.setIfInBounds_toArray,List.set_cons_zero,List.set_cons_succ,i64_w,i32_w]
                              rfl
                            refine pure_ (i := 8) (N := some 58) (v := ?_) (a' := ?_) #[true,true,true,true,false,true,false,true,true,false,false,false,false,false] rfl rfl (any_of HT_.out (by kernel_rfl)) (fun _ _ _ h => h) (Or.inl ⟨by rfl,?_⟩) ?_ ?_
                            rotate_left
                            · intro w'
                              go_simp
                              with_reducible rfl
                            rotate_left
                            · simp only [Act.put,List.setIfInBounds_toArray,List.set_cons_zero,List.set_cons_succ,i64_w,i32_w]
                              rfl
                            refine take_ (i := 4) (N := some 54) (v := ?_) (a' := ?_) #[true,true,true,true,true,true,false,true,true,false,false,false,false,false] rfl rfl (take_ofW HT_.out HW_.out (by kernel_rfl)) (fun _ _ _ h => h) (Or.inl ⟨by rfl,?_⟩) hHeld ?_ ?_
                            rotate_left
                            · rintro w' ⟨s0,s1,s2,s3,s4,s5,s6,s7,s8,s9,s10,s11,s12⟩
                              go_simp
                              with_reducible rfl
                            rotate_left
                            · simp only [Act.put,List.setIfInBounds_toArray,List.set_cons_zero,List.set_cons_succ,i64_w,i32_w]
                              rfl
                            refine take_ (i := 6) (N := some 56) (v := ?_) (a' := ?_) #[true,true,true,true,true,true,true,true,true,false,false,false,false,false] rfl rfl (take_ofW HT_.out HW_.out (by kernel_rfl)) (fun _ _ _ h => h) (Or.inl ⟨by rfl,?_⟩) hHeld ?_ ?_
                            rotate_left
                            · rintro w' ⟨s0,s1,s2,s3,s4,s5,s6,s7,s8,s9,s10,s11,s12⟩
                              go_simp
                              with_reducible rfl
                            rotate_left
                            · simp only [Act.put,List.setIfInBounds_toArray,List.set_cons_zero,List.set_cons_succ,i64_w,i32_w]
                              rfl
                            refine pure_ (i := 9) (N := some 59) (v := ?_) (a' := ?_) #[true,true,true,true,true,true,true,true,true,true,false,false,false,false] rfl rfl (any_of HT_.out (by kernel_rfl)) (fun _ _ _ h => h) (Or.inl ⟨by rfl,?_⟩) ?_ ?_
                            rotate_left
                            · intro w'
                              go_simp
                              with_reducible rfl
                            rotate_left
                            · simp only [Act.put,List.setIfInBounds_toArray,List.set_cons_zero,List.set_cons_succ,i64_w,i32_w]
                              rfl
                            refine pure_ (i := 10) (N := some 60) (v := ?_) (a' := ?_) #[true,true,true,true,true,true,true,true,true,true,true,false,false,false] rfl rfl (any_of HT_.out (by kernel_rfl)) (fun _ _ _ h => h) (Or.inl ⟨by rfl,?_⟩) ?_ ?_
                            rotate_left
                            · intro w'
                              go_simp
                              with_reducible rfl
                            rotate_left
                            · simp only [Act.put,List.setIfInBounds_toArray,List.set_cons_zero,List.set_cons_succ,i64_w,i32_w]
                              rfl
                            refine take_ (i := 11) (N := some 61) (v := ?_) (a' := ?_) #[true,true,true,true,true,true,true,true,true,true,true,true,false,false] rfl rfl (take_ofW HT_.out HW_.out (by kernel_rfl)) (fun _ _ _ h => h) (Or.inl ⟨by rfl,?_⟩) hHeld ?_ ?_
                            rotate_left
                            · rintro w' ⟨s0,s1,s2,s3,s4,s5,s6,s7,s8,s9,s10,s11,s12⟩
                              go_simp
                              with_reducible rfl
                            rotate_left
                            · simp only [Act.put,List.setIfInBounds_toArray,List.set_cons_zero,List.set_cons_succ,i64_w,i32_w]
                              rfl
                            refine pure_ (i := 12) (N := some 62) (v := ?_) (a' := ?_) #[true,true,true,true,true,true,true,true,true,true,true,true,true,false] rfl rfl (any_of HT_.out (by kernel_rfl)) (fun _ _ _ h => h) (Or.inl ⟨by rfl,?_⟩) ?_ ?_
                            rotate_left
                            · intro w'
                              go_simp
                              with_reducible rfl
                            rotate_left
                            · simp only [Act.put,List.setIfInBounds_toArray,List.set_cons_zero,List.set_cons_succ,i64_w,i32_w]
                              rfl
                            refine pure_ (i := 13) (N := some 63) (v := ?_) (a' := ?_) #[true,true,true,true,true,true,true,true,true,true,true,true,true,true] rfl rfl (any_of HT_.out (by kernel_rfl)) (fun _ _ _ h => h) (Or.inl ⟨by rfl,?_⟩) ?_ ?_
                            rotate_left
                            · intro w'
                              go_simp
                              with_reducible rfl
                            rotate_left
                            · simp only [Act.put,List.setIfInBounds_toArray,List.set_cons_zero,List.set_cons_succ,i64_w,i32_w]
                              rfl
                            refine done_ (done_of HT_.out (by kernel_rfl)) ?_
                            have hnb95 := NB341_340.out;have hnc95 := NB340_341.out;have hcz96_0 : w94.cell? ⟨gb341,0,none⟩ = some (.slice none 0 0) := (blk_cell BK341.out 0).trans rfl;have hfz96_0 := blk_frozen BK341.out 0
                            try go_wp2
                            refine bodyPost_ret (results_ct rfl _ _ gb341 24 #[.slice none 0 0] (0,0) _ rfl (by (with_reducible repeat (first | refine blk_drewN ?_ _ | refine blk_drew ?_ | refine blk_alloc ?_ _));refine blk_put (cs := #[.slice none 0 0]) ?_ 0 _ rfl;(with_reducible repeat (first | refine blk_drewN ?_ _ | refine blk_drew ?_ | refine blk_alloc ?_ _));exact BK341.out) Try.underlying24 rfl (by kernel_rfl)) rfl ?_
                            exact ⟨_,by first | rfl | (simp [errW_none,errW_some] <;> rfl) | (simp only [← hji76];first | rfl | (simp [errW_none,errW_some] <;> rfl)) | (simp [*,errW_none,errW_some] <;> rfl),by first | exact Kd.R_nil _ _ _ _ _ | exact Kd.N_nil _ _ _ _ _ | exact Kd.V_nil _ _ _ _ _ | exact Kd.Q_nil _ _ _ _ _ | exact Kd.S_nil _ _ _ _ _,by repeat (first | (with_reducible first | exact HB.out | apply below_alloc | apply pw_below_drewN | apply below_drew1 | refine below_set ?_ GE339.out | refine below_set ?_ GE340.out | refine below_set ?_ GE341.out | refine below_set ?_ GE353.out) | exact HB.out)⟩
                          · rw [if_neg c79] at H
                            have c79b0 : decide (a1_5 < ((rd_T26 l0_0 (ji76)).f5)) = false := decide_eq_false c79
                            clear c79
                            by_cases c97 : y350.length < 2199023255552
                            · rw [if_pos c97] at H
                              have LMc97 := Aside0.mk c97
                              clear c97
                              obtain ⟨y355,hy355⟩ : ∃ y_ : List (S26),y_ = (y350 ++ [(⟨a1_0,a1_1,a1_2,a1_3,a1_4,a1_5⟩ : S26)]) := ⟨_,rfl⟩
                              replace H : (some (y355,0)) = some (r1,r2) := by first | (rw [hy355];with_reducible exact H) | (have H2_ := (Option.bind_some _ _).symm.trans H;rw [hy355];with_reducible exact H2_) | (have H2_ := (Option.bind_some _ _).symm.trans H;with_reducible exact H2_) | with_reducible exact H | (rw [hy355];exact H) | exact H
                              have Ny355 := Aside0.mk hy355
                              clear hy355
                              simp only [Option.some.injEq,Prod.mk.injEq] at H
                              obtain ⟨rfl,rfl⟩ := H
                              try go_wp2_with (first | ((with_reducible refine gate_dst (N := 36) rfl ?_);refine Kd.R_lit k26 _ 26 ?hg (N := 36) ?hd (xs := ([] : List (S26))) (inner := []) (ok := fun _ => True) (okp := fun _ => True) ?hr ?hp (fun _ hk => hk) trivial (Below.refl _ _) (Nat.le_refl _) (by simp) ?_;(case hd => rfl);(case hg => rfl);(case hr => first | (go_simp;done) | (go_simp;rfl));(case hp => exact (Reps.none _ _));intro v348 w98 ho99 hb hg_ hnew_;clear hg_ hnew_;(first | rw [← Ny347.out] at ho99 | (simp only [Int.reduceToNat] at ho99;rw [← Ny347.out] at ho99));have n0_ := Aside0.mk (Kd.R_lower (Kd.R_newB ho99 (g := gb340) (o := .cells #[.int .i64 a1_0,.string a1_1,.string a1_2,.int .i64 a1_3,.int .i64 a1_4,.int .i64 a1_5] 26 (0,0)) (by (with_reducible repeat (first | refine blk_drewN ?_ _ | refine blk_drew ?_ | refine blk_alloc ?_ _));exact BK340.out)) (below_size (by repeat (first | (with_reducible first | exact HB.out | apply below_alloc | apply pw_below_drewN | apply below_drew1 | refine below_set ?_ GE339.out | refine below_set ?_ GE340.out | refine below_set ?_ GE341.out) | exact HB.out))));have n1_ := Aside0.mk (blk_below (g := gb339) (o := .cells #[.slice A0_0 l0_0.length c0_0] 24 (0,0)) (by (with_reducible repeat (first | refine blk_drewN ?_ _ | refine blk_drew ?_ | refine blk_alloc ?_ _));exact BK339.out) hb);have n2_ := Aside0.mk (blk_below (g := gb340) (o := .cells #[.int .i64 a1_0,.string a1_1,.string a1_2,.int .i64 a1_3,.int .i64 a1_4,.int .i64 a1_5] 26 (0,0)) (by (with_reducible repeat (first | refine blk_drewN ?_ _ | refine blk_drew ?_ | refine blk_alloc ?_ _));exact BK340.out) hb);have n3_ := Aside0.mk (blk_below (g := gb341) (o := .cells #[.slice none 0 0] 24 (0,0)) (by (with_reducible repeat (first | refine blk_drewN ?_ _ | refine blk_drew ?_ | refine blk_alloc ?_ _));exact BK341.out) hb);have n4_ := Aside0.mk (below_step (by repeat (first | (with_reducible first | exact HB.out | apply below_alloc | apply pw_below_drewN | apply below_drew1 | refine below_set ?_ GE339.out | refine below_set ?_ GE340.out | refine below_set ?_ GE341.out) | exact HB.out)) hb);clear BK339;clear BK340;clear BK341;clear HB;have HO349 := n0_;have BK339 := n1_;have BK340 := n2_;have BK341 := n3_;have HB := n4_;clear n0_ n1_ n2_ n3_ n4_;clear hb ho99;have hnb100 := NB339_340.out;have hnc100 := NB340_339.out;have hnb101 := NB339_341.out;have hnc101 := NB341_339.out;have hcz102_0 : w98.cell? ⟨gb339,0,none⟩ = some (.slice A0_0 l0_0.length c0_0) := (blk_cell BK339.out 0).trans rfl;have hfz102_0 := blk_frozen BK339.out 0) | ((with_reducible refine gate_builtin (b := .append) (xs := #[.tmp 36,.tmp 38]) rfl ?_);at_builtin;refine Kd.R_append_rows k26 (w0 := w) w.heap.size rfl (.tmp 36) (.tmp 38) 22 26 (.agg #[(.int .i64 0),(.string ⟨#[]⟩),(.string ⟨#[]⟩),(.int .i64 0),(.int .i64 0),(.int .i64 0)]) 64 rfl Try.underlying22 info26 rfl (by decide) (by omega) v348 y347 l0_0 _ _ _ (fun k_ => k_ ≠ gb340) (fun _ => False) rfl rfl ?aO ?aR (fun _ _ h => h) (fun _ h => h.elim) ?aF ?aB ?aS ?aL ?_;(case aR => repeat (first | exact (Kd.C_below HR0_0.out HB.out) | (with_reducible refine Kd.C_alloc ?_ _) | (with_reducible refine Kd.C_drewN ?_ _) | (with_reducible refine Kd.C_drew ?_)));(case aB => exact (by repeat (first | (with_reducible first | exact HB.out | apply below_alloc | apply pw_below_drewN | apply below_drew1 | refine below_set ?_ GE339.out | refine below_set ?_ GE340.out | refine below_set ?_ GE341.out) | exact HB.out)));(case aF => exact (fun k_ hk => Kd.freshB (g := gb340) (o := .cells #[.int .i64 a1_0,.string a1_1,.string a1_2,.int .i64 a1_3,.int .i64 a1_4,.int .i64 a1_5] 26 (0,0)) (by (with_reducible repeat (first | refine blk_drewN ?_ _ | refine blk_drew ?_ | refine blk_alloc ?_ _));exact BK340.out) k_ hk));(case aO => exact (by (with_reducible repeat (first | apply Kd.R_alloc | apply Kd.R_drewN | apply Kd.R_drew));exact Kd.R_mono HO349.out (fun _ hk => hk.2)));(case aS => exact (below_size (by repeat (first | (with_reducible first | exact HB.out | apply below_alloc | apply pw_below_drewN | apply below_drew1 | refine below_set ?_ GE339.out | refine below_set ?_ GE340.out | refine below_set ?_ GE341.out) | exact HB.out))));(case aL => have := LMc43.out;omega);intro v351 w103 ho hb hg hat;rw [← Ny350.out] at ho;have n0_ := Aside0.mk (blk_grown (g := gb339) (o := .cells #[.slice A0_0 l0_0.length c0_0] 24 (0,0)) (by (with_reducible repeat (first | refine blk_drewN ?_ _ | refine blk_drew ?_ | refine blk_alloc ?_ _));exact BK339.out) hg (Kd.R_ne HO349.out BK339.out (by decide)));have n1_ := Aside0.mk (blk_grown (g := gb340) (o := .cells #[.int .i64 a1_0,.string a1_1,.string a1_2,.int .i64 a1_3,.int .i64 a1_4,.int .i64 a1_5] 26 (0,0)) (by (with_reducible repeat (first | refine blk_drewN ?_ _ | refine blk_drew ?_ | refine blk_alloc ?_ _));exact BK340.out) hg (Kd.R_away HO349.out (fun _ hk => hk.2)));have n2_ := Aside0.mk (blk_grown (g := gb341) (o := .cells #[.slice none 0 0] 24 (0,0)) (by (with_reducible repeat (first | refine blk_drewN ?_ _ | refine blk_drew ?_ | refine blk_alloc ?_ _));exact BK341.out) hg (Kd.R_ne HO349.out BK341.out (by decide)));have n3_ := Aside0.mk (hb);have n4_ := Aside0.mk (ho);clear BK339;clear BK340;clear BK341;clear HB;clear HO349;have BK339 := n0_;have BK340 := n1_;have BK341 := n2_;have HB := n3_;have HO352 := n4_;clear n0_ n1_ n2_ n3_ n4_;clear ho hb hg hat;obtain ⟨Ao104,co104,eo104⟩ := Kd.R_slice HO352.out;subst eo104) | ((with_reducible refine gate_dst (N := 7) rfl ?_);refine box_event ?hg (N := 7) ?hd (cs := #[.slice none 0 0]) (t := 24) ?hr ?_;(case hd => rfl);(case hg => rfl);(case hr => first | (go_simp;done) | (go_simp;rfl));intro gb353 hg w105 hbox hb;have n0_ := Aside0.mk (Kd.R_below (by (with_reducible repeat (first | apply Kd.R_alloc | apply Kd.R_drewN | apply Kd.R_drew));exact HO352.out) hb);have n1_ := Aside0.mk (blk_below (g := gb339) (o := .cells #[.slice A0_0 l0_0.length c0_0] 24 (0,0)) (by (with_reducible repeat (first | refine blk_drewN ?_ _ | refine blk_drew ?_ | refine blk_alloc ?_ _));exact BK339.out) hb);have n2_ := Aside0.mk (blk_below (g := gb340) (o := .cells #[.int .i64 a1_0,.string a1_1,.string a1_2,.int .i64 a1_3,.int .i64 a1_4,.int .i64 a1_5] 26 (0,0)) (by (with_reducible repeat (first | refine blk_drewN ?_ _ | refine blk_drew ?_ | refine blk_alloc ?_ _));exact BK340.out) hb);have n3_ := Aside0.mk (blk_below (g := gb341) (o := .cells #[.slice none 0 0] 24 (0,0)) (by (with_reducible repeat (first | refine blk_drewN ?_ _ | refine blk_drew ?_ | refine blk_alloc ?_ _));exact BK341.out) hb);have n4_ := Aside0.mk (below_step (by repeat (first | (with_reducible first | exact HB.out | apply below_alloc | apply pw_below_drewN | apply below_drew1 | refine below_set ?_ GE339.out | refine below_set ?_ GE340.out | refine below_set ?_ GE341.out) | exact HB.out)) hb);have n5_ := Aside0.mk (hbox);have n6_ := Aside0.mk ((by rw [hg];exact (below_size (by repeat (first | (with_reducible first | exact HB.out | apply below_alloc | apply pw_below_drewN | apply below_drew1 | refine below_set ?_ GE339.out | refine below_set ?_ GE340.out | refine below_set ?_ GE341.out) | exact HB.out))) : w.heap.size ≤ gb353));have n7_ := Aside0.mk ((by rw [hg];exact (below_size (by repeat (first | (with_reducible first | exact HB.out | apply below_alloc | apply pw_below_drewN | apply below_drew1 | refine below_set ?_ GE339.out | refine below_set ?_ GE340.out | refine below_set ?_ GE341.out) | exact HB.out))) : w.heap.size ≤ gb353));have n8_ := Aside0.mk ((by rw [hg];exact Nat.ne_of_lt (blk_lt (g := gb339) (o := .cells #[.slice A0_0 l0_0.length c0_0] 24 (0,0)) (by (with_reducible repeat (first | refine blk_drewN ?_ _ | refine blk_drew ?_ | refine blk_alloc ?_ _));exact BK339.out)) : gb339 ≠ gb353));have n9_ := Aside0.mk ((by rw [hg];exact Nat.ne_of_gt (blk_lt (g := gb339) (o := .cells #[.slice A0_0 l0_0.length c0_0] 24 (0,0)) (by (with_reducible repeat (first | refine blk_drewN ?_ _ | refine blk_drew ?_ | refine blk_alloc ?_ _));exact BK339.out)) : gb353 ≠ gb339));have n10_ := Aside0.mk ((by rw [hg];exact Nat.ne_of_lt (blk_lt (g := gb340) (o := .cells #[.int .i64 a1_0,.string a1_1,.string a1_2,.int .i64 a1_3,.int .i64 a1_4,.int .i64 a1_5] 26 (0,0)) (by (with_reducible repeat (first | refine blk_drewN ?_ _ | refine blk_drew ?_ | refine blk_alloc ?_ _));exact BK340.out)) : gb340 ≠ gb353));have n11_ := Aside0.mk ((by rw [hg];exact Nat.ne_of_gt (blk_lt (g := gb340) (o := .cells #[.int .i64 a1_0,.string a1_1,.string a1_2,.int .i64 a1_3,.int .i64 a1_4,.int .i64 a1_5] 26 (0,0)) (by (with_reducible repeat (first | refine blk_drewN ?_ _ | refine blk_drew ?_ | refine blk_alloc ?_ _));exact BK340.out)) : gb353 ≠ gb340));have n12_ := Aside0.mk ((by rw [hg];exact Nat.ne_of_lt (blk_lt (g := gb341) (o := .cells #[.slice none 0 0] 24 (0,0)) (by (with_reducible repeat (first | refine blk_drewN ?_ _ | refine blk_drew ?_ | refine blk_alloc ?_ _));exact BK341.out)) : gb341 ≠ gb353));have n13_ := Aside0.mk ((by rw [hg];exact Nat.ne_of_gt (blk_lt (g := gb341) (o := .cells #[.slice none 0 0] 24 (0,0)) (by (with_reducible repeat (first | refine blk_drewN ?_ _ | refine blk_drew ?_ | refine blk_alloc ?_ _));exact BK341.out)) : gb353 ≠ gb341));clear HO352;clear BK339;clear BK340;clear BK341;clear HB;have HO352 := n0_;have BK339 := n1_;have BK340 := n2_;have BK341 := n3_;have HB := n4_;have BK353 := n5_;have GW353 := n6_;have GE353 := n7_;have NB339_353 := n8_;have NB353_339 := n9_;have NB340_353 := n10_;have NB353_340 := n11_;have NB341_353 := n12_;have NB353_341 := n13_;clear n0_ n1_ n2_ n3_ n4_ n5_ n6_ n7_ n8_ n9_ n10_ n11_ n12_ n13_;clear hb hbox hg;have hnb106 := NB353_339.out;have hnc106 := NB339_353.out;have hnb107 := NB353_340.out;have hnc107 := NB340_353.out;have hnb108 := NB353_341.out;have hnc108 := NB341_353.out;have hcz109_0 : w105.cell? ⟨gb353,0,none⟩ = some (.slice none 0 0) := (blk_cell BK353.out 0).trans rfl;have hfz109_0 := blk_frozen BK353.out 0;have hcz110_0 : w105.cell? ⟨gb339,0,none⟩ = some (.slice A0_0 l0_0.length c0_0) := (blk_cell BK339.out 0).trans rfl;have hfz110_0 := blk_frozen BK339.out 0))
                              have n0_ : Aside0 (Kd.R k26 26 (w105.setCell ⟨gb353,0,none⟩ (.slice Ao104 y350.length co104)) w.heap.size (fun k_ => k_ ≠ gb340) (.slice Ao104 y350.length co104) y350) := ⟨by (with_reducible repeat (first | apply Kd.R_alloc | apply Kd.R_drewN | apply Kd.R_drew));exact Kd.R_mono (Kd.R_far (p := ⟨gb353,0,none⟩) (Kd.R_types HO352.out BK353.out (by decide)) (fun _ hk => hk.2) (.slice Ao104 y350.length co104)) (fun _ hk => hk.1)⟩
                              have n1_ : Aside0 ((w105.setCell ⟨gb353,0,none⟩ (.slice Ao104 y350.length co104)).heap[gb339]? = some (.cells #[.slice A0_0 l0_0.length c0_0] 24 (0,0))) := ⟨by (with_reducible repeat (first | refine blk_drewN ?_ _ | refine blk_drew ?_ | refine blk_alloc ?_ _));refine blk_far ?_ NB339_353.out _;(with_reducible repeat (first | refine blk_drewN ?_ _ | refine blk_drew ?_ | refine blk_alloc ?_ _));exact BK339.out⟩
                              have n2_ : Aside0 ((w105.setCell ⟨gb353,0,none⟩ (.slice Ao104 y350.length co104)).heap[gb340]? = some (.cells #[.int .i64 a1_0,.string a1_1,.string a1_2,.int .i64 a1_3,.int .i64 a1_4,.int .i64 a1_5] 26 (0,0))) := ⟨by (with_reducible repeat (first | refine blk_drewN ?_ _ | refine blk_drew ?_ | refine blk_alloc ?_ _));refine blk_far ?_ NB340_353.out _;(with_reducible repeat (first | refine blk_drewN ?_ _ | refine blk_drew ?_ | refine blk_alloc ?_ _));exact BK340.out⟩
                              have n3_ : Aside0 ((w105.setCell ⟨gb353,0,none⟩ (.slice Ao104 y350.length co104)).heap[gb341]? = some (.cells #[.slice none 0 0] 24 (0,0))) := ⟨by (with_reducible repeat (first | refine blk_drewN ?_ _ | refine blk_drew ?_ | refine blk_alloc ?_ _));refine blk_far ?_ NB341_353.out _;(with_reducible repeat (first | refine blk_drewN ?_ _ | refine blk_drew ?_ | refine blk_alloc ?_ _));exact BK341.out⟩
                              have n4_ : Aside0 ((w105.setCell ⟨gb353,0,none⟩ (.slice Ao104 y350.length co104)).heap[gb353]? = some (.cells #[.slice Ao104 y350.length co104] 24 (0,0))) := ⟨by (with_reducible repeat (first | refine blk_drewN ?_ _ | refine blk_drew ?_ | refine blk_alloc ?_ _));refine blk_put (cs := #[.slice none 0 0]) ?_ 0 _ rfl;(with_reducible repeat (first | refine blk_drewN ?_ _ | refine blk_drew ?_ | refine blk_alloc ?_ _));exact BK353.out⟩
                              have n5_ : Aside0 (Below w.heap.size w (w105.setCell ⟨gb353,0,none⟩ (.slice Ao104 y350.length co104))) := ⟨by repeat (first | (with_reducible first | exact HB.out | apply below_alloc | apply pw_below_drewN | apply below_drew1 | refine below_set ?_ GE339.out | refine below_set ?_ GE340.out | refine below_set ?_ GE341.out | refine below_set ?_ GE353.out) | exact HB.out)⟩
                              (try clear HO352)
                              (try clear BK339)
                              (try clear BK340)
                              (try clear BK341)
                              (try clear BK353)
                              (try clear HB)
                              generalize (w105.setCell ⟨gb353,0,none⟩ (.slice Ao104 y350.length co104)) = w111 at n0_ n1_ n2_ n3_ n4_ n5_ ⊢
                              have HO352 := n0_
                              have BK339 := n1_
                              have BK340 := n2_
                              have BK341 := n3_
                              have BK353 := n4_
                              have HB := n5_
                              clear n0_ n1_ n2_ n3_ n4_ n5_
                              have n0_ := Aside0.mk (Kd.R_drew HO352.out)
                              have n1_ := Aside0.mk (blk_drew BK339.out)
                              have n2_ := Aside0.mk (blk_drew BK340.out)
                              have n3_ := Aside0.mk (blk_drew BK341.out)
                              have n4_ := Aside0.mk (blk_drew BK353.out)
                              have n5_ := Aside0.mk (below_drew1 HB.out)
                              clear HO352;clear BK339;clear BK340;clear BK341;clear BK353;clear HB
                              have HO352 := n0_
                              have BK339 := n1_
                              have BK340 := n2_
                              have BK341 := n3_
                              have BK353 := n4_
                              have HB := n5_
                              clear n0_ n1_ n2_ n3_ n4_ n5_
                              have p354 : 0 ≤ ((ji76) : Int) := of_decide_eq_true (by first | (with_reducible assumption) | assumption)
                              have q354 : (ji76) < (l0_0.length : Int) := of_decide_eq_true (by first | (with_reducible assumption) | assumption)
                              obtain ⟨ad354,e354,hx354_0,hx354_1,hx354_2,hx354_3,hx354_4,hx354_5⟩ := at_T26 HR0_0.out (ji76) p354 q354
                              have hw354_5 := hx354_5
                              have hw354_4 := hx354_4
                              have hw354_3 := hx354_3
                              have hw354_2 := hx354_2
                              have hw354_1 := hx354_1
                              have hw354_0 := hx354_0
                              cases e354
                              replace hx354_0 := (HB.out.cell (World.block_lt_of_cell? w _ hx354_0)).trans hx354_0
                              replace hx354_1 := (HB.out.cell (World.block_lt_of_cell? w _ hx354_1)).trans hx354_1
                              replace hx354_2 := (HB.out.cell (World.block_lt_of_cell? w _ hx354_2)).trans hx354_2
                              replace hx354_3 := (HB.out.cell (World.block_lt_of_cell? w _ hx354_3)).trans hx354_3
                              replace hx354_4 := (HB.out.cell (World.block_lt_of_cell? w _ hx354_4)).trans hx354_4
                              replace hx354_5 := (HB.out.cell (World.block_lt_of_cell? w _ hx354_5)).trans hx354_5
                              replace p354 := eq_true p354
                              replace q354 := eq_true q354
                              refine start_ (n := 14) (S := fun w' => w'.cell? ⟨gb340,0,none⟩ = some (.int .i64 a1_0) ∧ w'.cell? ⟨gb340,1,none⟩ = some (.string a1_1) ∧ w'.cell? ⟨gb340,2,none⟩ = some (.string a1_2) ∧ w'.cell? ⟨gb340,3,none⟩ = some (.int .i64 a1_3) ∧ w'.cell? ⟨gb340,4,none⟩ = some (.int .i64 a1_4) ∧ w'.cell? ⟨gb340,5,none⟩ = some (.int .i64 a1_5) ∧ w'.cell? ⟨gb339,0,none⟩ = some (.slice (some ad354) l0_0.length c0_0) ∧ w'.cell? (ad354.add (((ji76)).toNat * 6)) = some (.int .i64 ((rd_T26 l0_0 (ji76)).f0)) ∧ w'.cell? ⟨(ad354.add (((ji76)).toNat * 6)).block,(ad354.add (((ji76)).toNat * 6)).off + 1,none⟩ = some (.string ((rd_T26 l0_0 (ji76)).f1)) ∧ w'.cell? ⟨(ad354.add (((ji76)).toNat * 6)).block,(ad354.add (((ji76)).toNat * 6)).off + 2,none⟩ = some (.string ((rd_T26 l0_0 (ji76)).f2)) ∧ w'.cell? ⟨(ad354.add (((ji76)).toNat * 6)).block,(ad354.add (((ji76)).toNat * 6)).off + 3,none⟩ = some (.int .i64 ((rd_T26 l0_0 (ji76)).f3)) ∧ w'.cell? ⟨(ad354.add (((ji76)).toNat * 6)).block,(ad354.add (((ji76)).toNat * 6)).off + 4,none⟩ = some (.int .i64 ((rd_T26 l0_0 (ji76)).f4)) ∧ w'.cell? ⟨(ad354.add (((ji76)).toNat * 6)).block,(ad354.add (((ji76)).toNat * 6)).off + 5,none⟩ = some (.int .i64 ((rd_T26 l0_0 (ji76)).f5))) (ds := []) #[false,false,false,false,false,false,false,false,false,false,false,false,false,false] (by kernel_rfl) rfl rfl ⟨(blk_cell BK340.out 0).trans rfl,(blk_cell BK340.out 1).trans rfl,(blk_cell BK340.out 2).trans rfl,(blk_cell BK340.out 3).trans rfl,(blk_cell BK340.out 4).trans rfl,(blk_cell BK340.out 5).trans rfl,(blk_cell BK339.out 0).trans rfl,((HB.out.cell (World.block_lt_of_cell? w _ hw354_0)).trans hw354_0),((HB.out.cell (World.block_lt_of_cell? w _ hw354_1)).trans hw354_1),((HB.out.cell (World.block_lt_of_cell? w _ hw354_2)).trans hw354_2),((HB.out.cell (World.block_lt_of_cell? w _ hw354_3)).trans hw354_3),((HB.out.cell (World.block_lt_of_cell? w _ hw354_4)).trans hw354_4),((HB.out.cell (World.block_lt_of_cell? w _ hw354_5)).trans hw354_5)⟩ (fun hHeld => ?_);refine with_tabW wageofficeref39_Post.tab12 wageofficeref39_Post.bits12 (fun HT_ HW_ => ?_)
                              generalize w111.drew = w112 at HO352 BK339 BK340 BK341 BK353 HB hx354_0 hx354_1 hx354_2 hx354_3 hx354_4 hx354_5 hHeld ⊢
                              refine pure_ (i := 0) (N := some 50) (v := ?_) (a' := ?_) #[true,false,false,false,false,false,false,false,false,false,false,false,false,false] rfl rfl (any_of HT_.out (by kernel_rfl)) (fun _ _ _ h => h) (Or.inl ⟨by rfl,?_⟩) ?_ ?_
                              rotate_left
                              · intro w'
                                go_simp
                                with_reducible rfl
                              rotate_left
                              · simp only [Act.put,List.setIfInBounds_toArray,List.set_cons_zero,List.set_cons_succ,i64_w,i32_w]
                                rfl
                              refine pure_ (i := 1) (N := some 51) (v := ?_) (a' := ?_) #[true,true,false,false,false,false,false,false,false,false,false,false,false,false] rfl rfl (any_of HT_.out (by kernel_rfl)) (fun _ _ _ h => h) (Or.inl ⟨by rfl,?_⟩) ?_ ?_
                              rotate_left
                              · intro w'
                                go_simp
                                with_reducible rfl
                              rotate_left
                              · simp only [Act.put,List.setIfInBounds_toArray,List.set_cons_zero,List.set_cons_succ,i64_w,i32_w]
                                rfl
                              refine pure_ (i := 2) (N := some 52) (v := ?_) (a' := ?_) #[true,true,true,false,false,false,false,false,false,false,false,false,false,false] rfl rfl (any_of HT_.out (by kernel_rfl)) (fun _ _ _ h => h) (Or.inl ⟨by rfl,?_⟩) ?_ ?_
                              rotate_left
                              · intro w'
                                go_simp
                                with_reducible rfl
                              rotate_left
                              · simp only [Act.put,List.setIfInBounds_toArray,List.set_cons_zero,List.set_cons_succ,i64_w,i32_w]
                                rfl
                              refine pure_ (i := 3) (N := some 53) (v := ?_) (a' := ?_) #[true,true,true,true,false,false,false,false,false,false,false,false,false,false] rfl rfl (any_of HT_.out (by kernel_rfl)) (fun _ _ _ h => h) (Or.inl ⟨by rfl,?_⟩) ?_ ?_
                              rotate_left
                              · intro w'
                                go_simp
                                with_reducible rfl
                              rotate_left
                              · simp only [Act.put,List.setIfInBounds_toArray,List.set_cons_zero,List.set_cons_succ,i64_w,i32_w]
                                rfl
                              refine pure_ (i := 5) (N := some 55) (v := ?_) (a' := ?_) #[true,true,true,true,false,true,false,false,false,false,false,false,false,false] rfl rfl (any_of HT_.out (by kernel_rfl)) (fun _ _ _ h => h) (Or.inl ⟨by rfl,?_⟩) ?_ ?_
                              rotate_left
                              · intro w'
                                go_simp
                                with_reducible rfl
                              rotate_left
                              · simp only [Act.put,List.setIfInBounds_toArray,List.set_cons_zero,List.set_cons_succ,i64_w,i32_w]
                                rfl
                              refine pure_ (i := 7) (N := some 57) (v := ?_) (a' := ?_) #[true,true,true,true,false,true,false,true,false,false,false,false,false,false] rfl rfl (any_of HT_.out (by kernel_rfl)) (fun _ _ _ h => h) (Or.inl ⟨by rfl,?_⟩) ?_ ?_
                              rotate_left
                              · intro w'
                                go_simp
                                with_reducible rfl
                              rotate_left
                              · simp only [Act.put,List.setIfInBounds_toArray,List.set_cons_zero,List.set_cons_succ,i64_w,i32_w]
                                rfl
                              refine pure_ (i := 8) (N := some 58) (v := ?_) (a' := ?_) #[true,true,true,true,false,true,false,true,true,false,false,false,false,false] rfl rfl (any_of HT_.out (by kernel_rfl)) (fun _ _ _ h => h) (Or.inl ⟨by rfl,?_⟩) ?_ ?_
                              rotate_left
                              · intro w'
                                go_simp
                                with_reducible rfl
                              rotate_left
                              · simp only [Act.put,List.setIfInBounds_toArray,List.set_cons_zero,List.set_cons_succ,i64_w,i32_w]
                                rfl
                              refine take_ (i := 4) (N := some 54) (v := ?_) (a' := ?_) #[true,true,true,true,true,true,false,true,true,false,false,false,false,false] rfl rfl (take_ofW HT_.out HW_.out (by kernel_rfl)) (fun _ _ _ h => h) (Or.inl ⟨by rfl,?_⟩) hHeld ?_ ?_
                              rotate_left
                              · rintro w' ⟨s0,s1,s2,s3,s4,s5,s6,s7,s8,s9,s10,s11,s12⟩
                                go_simp
                                with_reducible rfl
                              rotate_left
                              · simp only [Act.put,List.setIfInBounds_toArray,List.set_cons_zero,List.set_cons_succ,i64_w,i32_w]
                                rfl
                              refine take_ (i := 6) (N := some 56) (v := ?_) (a' := ?_) #[true,true,true,true,true,true,true,true,true,false,false,false,false,false] rfl rfl (take_ofW HT_.out HW_.out (by kernel_rfl)) (fun _ _ _ h => h) (Or.inl ⟨by rfl,?_⟩) hHeld ?_ ?_
                              rotate_left
                              · rintro w' ⟨s0,s1,s2,s3,s4,s5,s6,s7,s8,s9,s10,s11,s12⟩
                                go_simp
                                with_reducible rfl
                              rotate_left
                              · simp only [Act.put,List.setIfInBounds_toArray,List.set_cons_zero,List.set_cons_succ,i64_w,i32_w]
                                rfl
                              refine pure_ (i := 9) (N := some 59) (v := ?_) (a' := ?_) #[true,true,true,true,true,true,true,true,true,true,false,false,false,false] rfl rfl (any_of HT_.out (by kernel_rfl)) (fun _ _ _ h => h) (Or.inl ⟨by rfl,?_⟩) ?_ ?_
                              rotate_left
                              · intro w'
                                go_simp
                                with_reducible rfl
                              rotate_left
                              · simp only [Act.put,List.setIfInBounds_toArray,List.set_cons_zero,List.set_cons_succ,i64_w,i32_w]
                                rfl
                              refine pure_ (i := 10) (N := some 60) (v := ?_) (a' := ?_) #[true,true,true,true,true,true,true,true,true,true,true,false,false,false] rfl rfl (any_of HT_.out (by kernel_rfl)) (fun _ _ _ h => h) (Or.inl ⟨by rfl,?_⟩) ?_ ?_
                              rotate_left
                              · intro w'
                                go_simp
                                with_reducible rfl
                              rotate_left
                              · simp only [Act.put,List.setIfInBounds_toArray,List.set_cons_zero,List.set_cons_succ,i64_w,i32_w]
                                rfl
                              refine take_ (i := 11) (N := some 61) (v := ?_) (a' := ?_) #[true,true,true,true,true,true,true,true,true,true,true,true,false,false] rfl rfl (take_ofW HT_.out HW_.out (by kernel_rfl)) (fun _ _ _ h => h) (Or.inl ⟨by rfl,?_⟩) hHeld ?_ ?_
                              rotate_left
                              · rintro w' ⟨s0,s1,s2,s3,s4,s5,s6,s7,s8,s9,s10,s11,s12⟩
                                go_simp
                                with_reducible rfl
                              rotate_left
                              · simp only [Act.put,List.setIfInBounds_toArray,List.set_cons_zero,List.set_cons_succ,i64_w,i32_w]
                                rfl
                              refine pure_ (i := 12) (N := some 62) (v := ?_) (a' := ?_) #[true,true,true,true,true,true,true,true,true,true,true,true,true,false] rfl rfl (any_of HT_.out (by kernel_rfl)) (fun _ _ _ h => h) (Or.inl ⟨by rfl,?_⟩) ?_ ?_
                              rotate_left
                              · intro w'
                                go_simp
                                with_reducible rfl
                              rotate_left
                              · simp only [Act.put,List.setIfInBounds_toArray,List.set_cons_zero,List.set_cons_succ,i64_w,i32_w]
                                rfl
                              refine pure_ (i := 13) (N := some 63) (v := ?_) (a' := ?_) #[true,true,true,true,true,true,true,true,true,true,true,true,true,true] rfl rfl (any_of HT_.out (by kernel_rfl)) (fun _ _ _ h => h) (Or.inl ⟨by rfl,?_⟩) ?_ ?_
                              rotate_left
                              · intro w'
                                go_simp
                                with_reducible rfl
                              rotate_left
                              · simp only [Act.put,List.setIfInBounds_toArray,List.set_cons_zero,List.set_cons_succ,i64_w,i32_w]
                                rfl
                              refine done_ (done_of HT_.out (by kernel_rfl)) ?_
                              have hcz113_0 : w112.cell? ⟨gb353,0,none⟩ = some (.slice Ao104 y350.length co104) := (blk_cell BK353.out 0).trans rfl;have hfz113_0 := blk_frozen BK353.out 0;have hnb114 := NB340_341.out;have hnc114 := NB341_340.out;have hcz115_0 : w112.cell? ⟨gb340,0,none⟩ = some (.int .i64 a1_0) := (blk_cell BK340.out 0).trans rfl;have hcz115_1 : w112.cell? ⟨gb340,1,none⟩ = some (.string a1_1) := (blk_cell BK340.out 1).trans rfl;have hcz115_2 : w112.cell? ⟨gb340,2,none⟩ = some (.string a1_2) := (blk_cell BK340.out 2).trans rfl;have hcz115_3 : w112.cell? ⟨gb340,3,none⟩ = some (.int .i64 a1_3) := (blk_cell BK340.out 3).trans rfl;have hcz115_4 : w112.cell? ⟨gb340,4,none⟩ = some (.int .i64 a1_4) := (blk_cell BK340.out 4).trans rfl;have hcz115_5 : w112.cell? ⟨gb340,5,none⟩ = some (.int .i64 a1_5) := (blk_cell BK340.out 5).trans rfl;have hfz115_0 := blk_frozen BK340.out 0;have hfz115_1 := blk_frozen BK340.out 1;have hfz115_2 := blk_frozen BK340.out 2;have hfz115_3 := blk_frozen BK340.out 3;have hfz115_4 := blk_frozen BK340.out 4;have hfz115_5 := blk_frozen BK340.out 5
                              try go_wp2_with (first | ((with_reducible refine gate_builtin (b := .append) (xs := #[.tmp 66,.tmp 68]) rfl ?_);at_builtin;refine Kd.R_append k26 (w0 := w) w.heap.size rfl (.tmp 66) (.tmp 68) 22 26 (.agg #[(.int .i64 0),(.string ⟨#[]⟩),(.string ⟨#[]⟩),(.int .i64 0),(.int .i64 0),(.int .i64 0)]) 64 rfl Try.underlying22 info26 rfl (by decide) (by omega) (.slice Ao104 y350.length co104) y350 (⟨a1_0,a1_1,a1_2,a1_3,a1_4,a1_5⟩ : S26) [.int .i64 a1_0,.string a1_1,.string a1_2,.int .i64 a1_3,.int .i64 a1_4,.int .i64 a1_5] (fun k_ => k_ ≠ gb340) (fun _ => False) rfl rfl ?aP (fun _ hk => hk.elim) ?aF ?aO ?aB ?aS ?aL ?_;(case aP => exact k26_mkM _ _ _ (⟨a1_0,a1_1,a1_2,a1_3,a1_4,a1_5⟩ : S26));(case aB => exact (by repeat (first | (with_reducible first | exact HB.out | apply below_alloc | apply pw_below_drewN | apply below_drew1 | refine below_set ?_ GE339.out | refine below_set ?_ GE340.out | refine below_set ?_ GE341.out | refine below_set ?_ GE353.out) | exact HB.out)));(case aF => exact (fun k_ hk => Kd.freshB (g := gb340) (o := .cells #[.int .i64 a1_0,.string a1_1,.string a1_2,.int .i64 a1_3,.int .i64 a1_4,.int .i64 a1_5] 26 (0,0)) (by (with_reducible repeat (first | refine blk_drewN ?_ _ | refine blk_drew ?_ | refine blk_alloc ?_ _));exact BK340.out) k_ hk));(case aO => exact (by (with_reducible repeat (first | apply Kd.R_alloc | apply Kd.R_drewN | apply Kd.R_drew));exact HO352.out));(case aS => exact (below_size (by repeat (first | (with_reducible first | exact HB.out | apply below_alloc | apply pw_below_drewN | apply below_drew1 | refine below_set ?_ GE339.out | refine below_set ?_ GE340.out | refine below_set ?_ GE341.out | refine below_set ?_ GE353.out) | exact HB.out))));(case aL => have := LMc97.out;omega);intro v356 w116 ho hb hg hat;rw [← Ny355.out] at ho;have n0_ := Aside0.mk (blk_grown (g := gb339) (o := .cells #[.slice (some ad354) l0_0.length c0_0] 24 (0,0)) (by (with_reducible repeat (first | refine blk_drewN ?_ _ | refine blk_drew ?_ | refine blk_alloc ?_ _));exact BK339.out) hg (Kd.R_ne HO352.out BK339.out (by decide)));have n1_ := Aside0.mk (blk_grown (g := gb340) (o := .cells #[.int .i64 a1_0,.string a1_1,.string a1_2,.int .i64 a1_3,.int .i64 a1_4,.int .i64 a1_5] 26 (0,0)) (by (with_reducible repeat (first | refine blk_drewN ?_ _ | refine blk_drew ?_ | refine blk_alloc ?_ _));exact BK340.out) hg (Kd.R_away HO352.out (fun _ hk => hk)));have n2_ := Aside0.mk (blk_grown (g := gb341) (o := .cells #[.slice none 0 0] 24 (0,0)) (by (with_reducible repeat (first | refine blk_drewN ?_ _ | refine blk_drew ?_ | refine blk_alloc ?_ _));exact BK341.out) hg (Kd.R_ne HO352.out BK341.out (by decide)));have n3_ := Aside0.mk (blk_grown (g := gb353) (o := .cells #[.slice Ao104 y350.length co104] 24 (0,0)) (by (with_reducible repeat (first | refine blk_drewN ?_ _ | refine blk_drew ?_ | refine blk_alloc ?_ _));exact BK353.out) hg (Kd.R_ne HO352.out BK353.out (by decide)));have n4_ := Aside0.mk (hb);have n5_ := Aside0.mk (ho);clear BK339;clear BK340;clear BK341;clear BK353;clear HB;clear HO352;have BK339 := n0_;have BK340 := n1_;have BK341 := n2_;have BK353 := n3_;have HB := n4_;have HO357 := n5_;clear n0_ n1_ n2_ n3_ n4_ n5_;clear ho hb hg hat;obtain ⟨Ao117,co117,eo117⟩ := Kd.R_slice HO357.out;subst eo117;have hcz118_0 : w116.cell? ⟨gb353,0,none⟩ = some (.slice Ao104 y350.length co104) := (blk_cell BK353.out 0).trans rfl;have hfz118_0 := blk_frozen BK353.out 0;have hcz119_0 : w116.cell? ⟨gb341,0,none⟩ = some (.slice none 0 0) := (blk_cell BK341.out 0).trans rfl;have hfz119_0 := blk_frozen BK341.out 0))
                              refine bodyPost_ret (results_ct rfl _ _ gb341 24 #[.slice Ao117 y355.length co117] (0,0) _ rfl (by (with_reducible repeat (first | refine blk_drewN ?_ _ | refine blk_drew ?_ | refine blk_alloc ?_ _));refine blk_put (cs := #[.slice none 0 0]) ?_ 0 _ rfl;(with_reducible repeat (first | refine blk_drewN ?_ _ | refine blk_drew ?_ | refine blk_alloc ?_ _));refine blk_far ?_ NB341_353.out _;(with_reducible repeat (first | refine blk_drewN ?_ _ | refine blk_drew ?_ | refine blk_alloc ?_ _));exact BK341.out) Try.underlying24 rfl (by kernel_rfl)) rfl ?_
                              exact ⟨_,by first | rfl | (simp [errW_none,errW_some] <;> rfl) | (simp only [← hji76];first | rfl | (simp [errW_none,errW_some] <;> rfl)) | (simp [*,errW_none,errW_some] <;> rfl),by (with_reducible repeat (first | apply Kd.R_alloc | apply Kd.R_drewN | apply Kd.R_drew));exact Kd.R_mono (Kd.R_far (p := ⟨gb341,0,none⟩) (Kd.R_far (p := ⟨gb353,0,none⟩) (Kd.R_types (Kd.R_types HO357.out BK353.out (by decide)) BK341.out (by decide)) (fun _ hk => hk.1.2) (.slice Ao117 y355.length co117)) (fun _ hk => hk.2) (.slice Ao117 y355.length co117)) (fun _ hk => trivial),by repeat (first | (with_reducible first | exact HB.out | apply below_alloc | apply pw_below_drewN | apply below_drew1 | refine below_set ?_ GE339.out | refine below_set ?_ GE340.out | refine below_set ?_ GE341.out | refine below_set ?_ GE353.out) | exact HB.out)⟩
                            · rw [if_neg c97] at H
                              exact absurd H (by simp)
                        · rw [if_neg c78] at H
                          exact absurd H (by simp)
                      · rw [if_neg c77] at H
                        exact absurd H (by simp)
                    · rw [if_neg c75] at H
                      have c75b0 : decide (0 < (l0_0.length : Int)) = false := decide_eq_false c75
                      have c75b1 : decide (0 < l0_0.length) = false := decide_eq_false (by omega)
                      clear c75
                      by_cases c120 : y350.length < 2199023255552
                      · rw [if_pos c120] at H
                        have LMc120 := Aside0.mk c120
                        clear c120
                        obtain ⟨y358,hy358⟩ : ∃ y_ : List (S26),y_ = (y350 ++ [(⟨a1_0,a1_1,a1_2,a1_3,a1_4,a1_5⟩ : S26)]) := ⟨_,rfl⟩
                        replace H : (some (y358,0)) = some (r1,r2) := by first | (rw [hy358];with_reducible exact H) | (have H2_ := (Option.bind_some _ _).symm.trans H;rw [hy358];with_reducible exact H2_) | (have H2_ := (Option.bind_some _ _).symm.trans H;with_reducible exact H2_) | with_reducible exact H | (rw [hy358];exact H) | exact H
                        have Ny358 := Aside0.mk hy358
                        clear hy358
                        simp only [Option.some.injEq,Prod.mk.injEq] at H
                        obtain ⟨rfl,rfl⟩ := H
                        try go_wp2_with (first | ((with_reducible refine gate_dst (N := 36) rfl ?_);refine Kd.R_lit k26 _ 26 ?hg (N := 36) ?hd (xs := ([] : List (S26))) (inner := []) (ok := fun _ => True) (okp := fun _ => True) ?hr ?hp (fun _ hk => hk) trivial (Below.refl _ _) (Nat.le_refl _) (by simp) ?_;(case hd => rfl);(case hg => rfl);(case hr => first | (go_simp;done) | (go_simp;rfl));(case hp => exact (Reps.none _ _));intro v348 w121 ho122 hb hg_ hnew_;clear hg_ hnew_;(first | rw [← Ny347.out] at ho122 | (simp only [Int.reduceToNat] at ho122;rw [← Ny347.out] at ho122));have n0_ := Aside0.mk (Kd.R_lower (Kd.R_newB ho122 (g := gb340) (o := .cells #[.int .i64 a1_0,.string a1_1,.string a1_2,.int .i64 a1_3,.int .i64 a1_4,.int .i64 a1_5] 26 (0,0)) (by (with_reducible repeat (first | refine blk_drewN ?_ _ | refine blk_drew ?_ | refine blk_alloc ?_ _));exact BK340.out)) (below_size (by repeat (first | (with_reducible first | exact HB.out | apply below_alloc | apply pw_below_drewN | apply below_drew1 | refine below_set ?_ GE339.out | refine below_set ?_ GE340.out | refine below_set ?_ GE341.out) | exact HB.out))));have n1_ := Aside0.mk (blk_below (g := gb339) (o := .cells #[.slice A0_0 l0_0.length c0_0] 24 (0,0)) (by (with_reducible repeat (first | refine blk_drewN ?_ _ | refine blk_drew ?_ | refine blk_alloc ?_ _));exact BK339.out) hb);have n2_ := Aside0.mk (blk_below (g := gb340) (o := .cells #[.int .i64 a1_0,.string a1_1,.string a1_2,.int .i64 a1_3,.int .i64 a1_4,.int .i64 a1_5] 26 (0,0)) (by (with_reducible repeat (first | refine blk_drewN ?_ _ | refine blk_drew ?_ | refine blk_alloc ?_ _));exact BK340.out) hb);have n3_ := Aside0.mk (blk_below (g := gb341) (o := .cells #[.slice none 0 0] 24 (0,0)) (by (with_reducible repeat (first | refine blk_drewN ?_ _ | refine blk_drew ?_ | refine blk_alloc ?_ _));exact BK341.out) hb);have n4_ := Aside0.mk (below_step (by repeat (first | (with_reducible first | exact HB.out | apply below_alloc | apply pw_below_drewN | apply below_drew1 | refine below_set ?_ GE339.out | refine below_set ?_ GE340.out | refine below_set ?_ GE341.out) | exact HB.out)) hb);clear BK339;clear BK340;clear BK341;clear HB;have HO349 := n0_;have BK339 := n1_;have BK340 := n2_;have BK341 := n3_;have HB := n4_;clear n0_ n1_ n2_ n3_ n4_;clear hb ho122;have hnb123 := NB339_340.out;have hnc123 := NB340_339.out;have hnb124 := NB339_341.out;have hnc124 := NB341_339.out;have hcz125_0 : w121.cell? ⟨gb339,0,none⟩ = some (.slice A0_0 l0_0.length c0_0) := (blk_cell BK339.out 0).trans rfl;have hfz125_0 := blk_frozen BK339.out 0) | ((with_reducible refine gate_builtin (b := .append) (xs := #[.tmp 36,.tmp 38]) rfl ?_);at_builtin;refine Kd.R_append_rows k26 (w0 := w) w.heap.size rfl (.tmp 36) (.tmp 38) 22 26 (.agg #[(.int .i64 0),(.string ⟨#[]⟩),(.string ⟨#[]⟩),(.int .i64 0),(.int .i64 0),(.int .i64 0)]) 64 rfl Try.underlying22 info26 rfl (by decide) (by omega) v348 y347 l0_0 _ _ _ (fun k_ => k_ ≠ gb340) (fun _ => False) rfl rfl ?aO ?aR (fun _ _ h => h) (fun _ h => h.elim) ?aF ?aB ?aS ?aL ?_;(case aR => repeat (first | exact (Kd.C_below HR0_0.out HB.out) | (with_reducible refine Kd.C_alloc ?_ _) | (with_reducible refine Kd.C_drewN ?_ _) | (with_reducible refine Kd.C_drew ?_)));(case aB => exact (by repeat (first | (with_reducible first | exact HB.out | apply below_alloc | apply pw_below_drewN | apply below_drew1 | refine below_set ?_ GE339.out | refine below_set ?_ GE340.out | refine below_set ?_ GE341.out) | exact HB.out)));(case aF => exact (fun k_ hk => Kd.freshB (g := gb340) (o := .cells #[.int .i64 a1_0,.string a1_1,.string a1_2,.int .i64 a1_3,.int .i64 a1_4,.int .i64 a1_5] 26 (0,0)) (by (with_reducible repeat (first | refine blk_drewN ?_ _ | refine blk_drew ?_ | refine blk_alloc ?_ _));exact BK340.out) k_ hk));(case aO => exact (by (with_reducible repeat (first | apply Kd.R_alloc | apply Kd.R_drewN | apply Kd.R_drew));exact Kd.R_mono HO349.out (fun _ hk => hk.2)));(case aS => exact (below_size (by repeat (first | (with_reducible first | exact HB.out | apply below_alloc | apply pw_below_drewN | apply below_drew1 | refine below_set ?_ GE339.out | refine below_set ?_ GE340.out | refine below_set ?_ GE341.out) | exact HB.out))));(case aL => have := LMc43.out;omega);intro v351 w126 ho hb hg hat;rw [← Ny350.out] at ho;have n0_ := Aside0.mk (blk_grown (g := gb339) (o := .cells #[.slice A0_0 l0_0.length c0_0] 24 (0,0)) (by (with_reducible repeat (first | refine blk_drewN ?_ _ | refine blk_drew ?_ | refine blk_alloc ?_ _));exact BK339.out) hg (Kd.R_ne HO349.out BK339.out (by decide)));have n1_ := Aside0.mk (blk_grown (g := gb340) (o := .cells #[.int .i64 a1_0,.string a1_1,.string a1_2,.int .i64 a1_3,.int .i64 a1_4,.int .i64 a1_5] 26 (0,0)) (by (with_reducible repeat (first | refine blk_drewN ?_ _ | refine blk_drew ?_ | refine blk_alloc ?_ _));exact BK340.out) hg (Kd.R_away HO349.out (fun _ hk => hk.2)));have n2_ := Aside0.mk (blk_grown (g := gb341) (o := .cells #[.slice none 0 0] 24 (0,0)) (by (with_reducible repeat (first | refine blk_drewN ?_ _ | refine blk_drew ?_ | refine blk_alloc ?_ _));exact BK341.out) hg (Kd.R_ne HO349.out BK341.out (by decide)));have n3_ := Aside0.mk (hb);have n4_ := Aside0.mk (ho);clear BK339;clear BK340;clear BK341;clear HB;clear HO349;have BK339 := n0_;have BK340 := n1_;have BK341 := n2_;have HB := n3_;have HO352 := n4_;clear n0_ n1_ n2_ n3_ n4_;clear ho hb hg hat;obtain ⟨Ao127,co127,eo127⟩ := Kd.R_slice HO352.out;subst eo127) | ((with_reducible refine gate_dst (N := 7) rfl ?_);refine box_event ?hg (N := 7) ?hd (cs := #[.slice none 0 0]) (t := 24) ?hr ?_;(case hd => rfl);(case hg => rfl);(case hr => first | (go_simp;done) | (go_simp;rfl));intro gb353 hg w128 hbox hb;have n0_ := Aside0.mk (Kd.R_below (by (with_reducible repeat (first | apply Kd.R_alloc | apply Kd.R_drewN | apply Kd.R_drew));exact HO352.out) hb);have n1_ := Aside0.mk (blk_below (g := gb339) (o := .cells #[.slice A0_0 l0_0.length c0_0] 24 (0,0)) (by (with_reducible repeat (first | refine blk_drewN ?_ _ | refine blk_drew ?_ | refine blk_alloc ?_ _));exact BK339.out) hb);have n2_ := Aside0.mk (blk_below (g := gb340) (o := .cells #[.int .i64 a1_0,.string a1_1,.string a1_2,.int .i64 a1_3,.int .i64 a1_4,.int .i64 a1_5] 26 (0,0)) (by (with_reducible repeat (first | refine blk_drewN ?_ _ | refine blk_drew ?_ | refine blk_alloc ?_ _));exact BK340.out) hb);have n3_ := Aside0.mk (blk_below (g := gb341) (o := .cells #[.slice none 0 0] 24 (0,0)) (by (with_reducible repeat (first | refine blk_drewN ?_ _ | refine blk_drew ?_ | refine blk_alloc ?_ _));exact BK341.out) hb);have n4_ := Aside0.mk (below_step (by repeat (first | (with_reducible first | exact HB.out | apply below_alloc | apply pw_below_drewN | apply below_drew1 | refine below_set ?_ GE339.out | refine below_set ?_ GE340.out | refine below_set ?_ GE341.out) | exact HB.out)) hb);have n5_ := Aside0.mk (hbox);have n6_ := Aside0.mk ((by rw [hg];exact (below_size (by repeat (first | (with_reducible first | exact HB.out | apply below_alloc | apply pw_below_drewN | apply below_drew1 | refine below_set ?_ GE339.out | refine below_set ?_ GE340.out | refine below_set ?_ GE341.out) | exact HB.out))) : w.heap.size ≤ gb353));have n7_ := Aside0.mk ((by rw [hg];exact (below_size (by repeat (first | (with_reducible first | exact HB.out | apply below_alloc | apply pw_below_drewN | apply below_drew1 | refine below_set ?_ GE339.out | refine below_set ?_ GE340.out | refine below_set ?_ GE341.out) | exact HB.out))) : w.heap.size ≤ gb353));have n8_ := Aside0.mk ((by rw [hg];exact Nat.ne_of_lt (blk_lt (g := gb339) (o := .cells #[.slice A0_0 l0_0.length c0_0] 24 (0,0)) (by (with_reducible repeat (first | refine blk_drewN ?_ _ | refine blk_drew ?_ | refine blk_alloc ?_ _));exact BK339.out)) : gb339 ≠ gb353));have n9_ := Aside0.mk ((by rw [hg];exact Nat.ne_of_gt (blk_lt (g := gb339) (o := .cells #[.slice A0_0 l0_0.length c0_0] 24 (0,0)) (by (with_reducible repeat (first | refine blk_drewN ?_ _ | refine blk_drew ?_ | refine blk_alloc ?_ _));exact BK339.out)) : gb353 ≠ gb339));have n10_ := Aside0.mk ((by rw [hg];exact Nat.ne_of_lt (blk_lt (g := gb340) (o := .cells #[.int .i64 a1_0,.string a1_1,.string a1_2,.int .i64 a1_3,.int .i64 a1_4,.int .i64 a1_5] 26 (0,0)) (by (with_reducible repeat (first | refine blk_drewN ?_ _ | refine blk_drew ?_ | refine blk_alloc ?_ _));exact BK340.out)) : gb340 ≠ gb353));have n11_ := Aside0.mk ((by rw [hg];exact Nat.ne_of_gt (blk_lt (g := gb340) (o := .cells #[.int .i64 a1_0,.string a1_1,.string a1_2,.int .i64 a1_3,.int .i64 a1_4,.int .i64 a1_5] 26 (0,0)) (by (with_reducible repeat (first | refine blk_drewN ?_ _ | refine blk_drew ?_ | refine blk_alloc ?_ _));exact BK340.out)) : gb353 ≠ gb340));have n12_ := Aside0.mk ((by rw [hg];exact Nat.ne_of_lt (blk_lt (g := gb341) (o := .cells #[.slice none 0 0] 24 (0,0)) (by (with_reducible repeat (first | refine blk_drewN ?_ _ | refine blk_drew ?_ | refine blk_alloc ?_ _));exact BK341.out)) : gb341 ≠ gb353));have n13_ := Aside0.mk ((by rw [hg];exact Nat.ne_of_gt (blk_lt (g := gb341) (o := .cells #[.slice none 0 0] 24 (0,0)) (by (with_reducible repeat (first | refine blk_drewN ?_ _ | refine blk_drew ?_ | refine blk_alloc ?_ _));exact BK341.out)) : gb353 ≠ gb341));clear HO352;clear BK339;clear BK340;clear BK341;clear HB;have HO352 := n0_;have BK339 := n1_;have BK340 := n2_;have BK341 := n3_;have HB := n4_;have BK353 := n5_;have GW353 := n6_;have GE353 := n7_;have NB339_353 := n8_;have NB353_339 := n9_;have NB340_353 := n10_;have NB353_340 := n11_;have NB341_353 := n12_;have NB353_341 := n13_;clear n0_ n1_ n2_ n3_ n4_ n5_ n6_ n7_ n8_ n9_ n10_ n11_ n12_ n13_;clear hb hbox hg;have hnb129 := NB353_339.out;have hnc129 := NB339_353.out;have hnb130 := NB353_340.out;have hnc130 := NB340_353.out;have hnb131 := NB353_341.out;have hnc131 := NB341_353.out;have hcz132_0 : w128.cell? ⟨gb353,0,none⟩ = some (.slice none 0 0) := (blk_cell BK353.out 0).trans rfl;have hfz132_0 := blk_frozen BK353.out 0;have hcz133_0 : w128.cell? ⟨gb339,0,none⟩ = some (.slice A0_0 l0_0.length c0_0) := (blk_cell BK339.out 0).trans rfl;have hfz133_0 := blk_frozen BK339.out 0))
                        have n0_ : Aside0 (Kd.R k26 26 (w128.setCell ⟨gb353,0,none⟩ (.slice Ao127 y350.length co127)) w.heap.size (fun k_ => k_ ≠ gb340) (.slice Ao127 y350.length co127) y350) := ⟨by (with_reducible repeat (first | apply Kd.R_alloc | apply Kd.R_drewN | apply Kd.R_drew));exact Kd.R_mono (Kd.R_far (p := ⟨gb353,0,none⟩) (Kd.R_types HO352.out BK353.out (by decide)) (fun _ hk => hk.2) (.slice Ao127 y350.length co127)) (fun _ hk => hk.1)⟩
                        have n1_ : Aside0 ((w128.setCell ⟨gb353,0,none⟩ (.slice Ao127 y350.length co127)).heap[gb339]? = some (.cells #[.slice A0_0 l0_0.length c0_0] 24 (0,0))) := ⟨by (with_reducible repeat (first | refine blk_drewN ?_ _ | refine blk_drew ?_ | refine blk_alloc ?_ _));refine blk_far ?_ NB339_353.out _;(with_reducible repeat (first | refine blk_drewN ?_ _ | refine blk_drew ?_ | refine blk_alloc ?_ _));exact BK339.out⟩
                        have n2_ : Aside0 ((w128.setCell ⟨gb353,0,none⟩ (.slice Ao127 y350.length co127)).heap[gb340]? = some (.cells #[.int .i64 a1_0,.string a1_1,.string a1_2,.int .i64 a1_3,.int .i64 a1_4,.int .i64 a1_5] 26 (0,0))) := ⟨by (with_reducible repeat (first | refine blk_drewN ?_ _ | refine blk_drew ?_ | refine blk_alloc ?_ _));refine blk_far ?_ NB340_353.out _;(with_reducible repeat (first | refine blk_drewN ?_ _ | refine blk_drew ?_ | refine blk_alloc ?_ _));exact BK340.out⟩
                        have n3_ : Aside0 ((w128.setCell ⟨gb353,0,none⟩ (.slice Ao127 y350.length co127)).heap[gb341]? = some (.cells #[.slice none 0 0] 24 (0,0))) := ⟨by (with_reducible repeat (first | refine blk_drewN ?_ _ | refine blk_drew ?_ | refine blk_alloc ?_ _));refine blk_far ?_ NB341_353.out _;(with_reducible repeat (first | refine blk_drewN ?_ _ | refine blk_drew ?_ | refine blk_alloc ?_ _));exact BK341.out⟩
                        have n4_ : Aside0 ((w128.setCell ⟨gb353,0,none⟩ (.slice Ao127 y350.length co127)).heap[gb353]? = some (.cells #[.slice Ao127 y350.length co127] 24 (0,0))) := ⟨by (with_reducible repeat (first | refine blk_drewN ?_ _ | refine blk_drew ?_ | refine blk_alloc ?_ _));refine blk_put (cs := #[.slice none 0 0]) ?_ 0 _ rfl;(with_reducible repeat (first | refine blk_drewN ?_ _ | refine blk_drew ?_ | refine blk_alloc ?_ _));exact BK353.out⟩
                        have n5_ : Aside0 (Below w.heap.size w (w128.setCell ⟨gb353,0,none⟩ (.slice Ao127 y350.length co127))) := ⟨by repeat (first | (with_reducible first | exact HB.out | apply below_alloc | apply pw_below_drewN | apply below_drew1 | refine below_set ?_ GE339.out | refine below_set ?_ GE340.out | refine below_set ?_ GE341.out | refine below_set ?_ GE353.out) | exact HB.out)⟩
                        (try clear HO352)
                        (try clear BK339)
                        (try clear BK340)
                        (try clear BK341)
                        (try clear BK353)
                        (try clear HB)
                        generalize (w128.setCell ⟨gb353,0,none⟩ (.slice Ao127 y350.length co127)) = w134 at n0_ n1_ n2_ n3_ n4_ n5_ ⊢
                        have HO352 := n0_
                        have BK339 := n1_
                        have BK340 := n2_
                        have BK341 := n3_
                        have BK353 := n4_
                        have HB := n5_
                        clear n0_ n1_ n2_ n3_ n4_ n5_
                        have n0_ := Aside0.mk (Kd.R_drew HO352.out)
                        have n1_ := Aside0.mk (blk_drew BK339.out)
                        have n2_ := Aside0.mk (blk_drew BK340.out)
                        have n3_ := Aside0.mk (blk_drew BK341.out)
                        have n4_ := Aside0.mk (blk_drew BK353.out)
                        have n5_ := Aside0.mk (below_drew1 HB.out)
                        clear HO352;clear BK339;clear BK340;clear BK341;clear BK353;clear HB
                        have HO352 := n0_
                        have BK339 := n1_
                        have BK340 := n2_
                        have BK341 := n3_
                        have BK353 := n4_
                        have HB := n5_
                        clear n0_ n1_ n2_ n3_ n4_ n5_
                        refine start_ (n := 14) (S := fun w' => True) (ds := []) #[false,false,false,false,false,false,false,false,false,false,false,false,false,false] (by kernel_rfl) rfl rfl trivial (fun hHeld => ?_);refine with_tabW wageofficeref39_Post.tab12 wageofficeref39_Post.bits12 (fun HT_ HW_ => ?_)
                        generalize w134.drew = w135 at HO352 BK339 BK340 BK341 BK353 HB hHeld ⊢
                        refine pure_ (i := 0) (N := some 50) (v := ?_) (a' := ?_) #[true,false,false,false,false,false,false,false,false,false,false,false,false,false] rfl rfl (any_of HT_.out (by kernel_rfl)) (fun _ _ _ h => h) (Or.inl ⟨by rfl,?_⟩) ?_ ?_
                        rotate_left
                        · intro w'
                          go_simp
                          with_reducible rfl
                        rotate_left
                        · simp only [Act.put,List.setIfInBounds_toArray,List.set_cons_zero,List.set_cons_succ,i64_w,i32_w]
                          rfl
                        refine pure_ (i := 1) (N := some 51) (v := ?_) (a' := ?_) #[true,true,false,false,false,false,false,false,false,false,false,false,false,false] rfl rfl (any_of HT_.out (by kernel_rfl)) (fun _ _ _ h => h) (Or.inl ⟨by rfl,?_⟩) ?_ ?_
                        rotate_left
                        · intro w'
                          go_simp
                          with_reducible rfl
                        rotate_left
                        · simp only [Act.put,List.setIfInBounds_toArray,List.set_cons_zero,List.set_cons_succ,i64_w,i32_w]
                          rfl
                        refine pure_ (i := 2) (N := some 52) (v := ?_) (a' := ?_) #[true,true,true,false,false,false,false,false,false,false,false,false,false,false] rfl rfl (any_of HT_.out (by kernel_rfl)) (fun _ _ _ h => h) (Or.inl ⟨by rfl,?_⟩) ?_ ?_
                        rotate_left
                        · intro w'
                          go_simp
                          with_reducible rfl
                        rotate_left
                        · simp only [Act.put,List.setIfInBounds_toArray,List.set_cons_zero,List.set_cons_succ,i64_w,i32_w]
                          rfl
                        refine pure_ (i := 3) (N := some 53) (v := undef) (a' := ?_) #[true,true,true,true,false,false,false,false,false,false,false,false,false,false] rfl rfl (any_of HT_.out (by kernel_rfl)) (fun _ _ _ h => h) (Or.inr ⟨by rfl,rfl⟩) ?_ ?_
                        rotate_left
                        · simp only [Act.put,List.setIfInBounds_toArray,List.set_cons_zero,List.set_cons_succ,i64_w,i32_w]
                          rfl
                        refine pure_ (i := 4) (N := some 54) (v := undef) (a' := ?_) #[true,true,true,true,true,false,false,false,false,false,false,false,false,false] rfl rfl (any_of HT_.out (by kernel_rfl)) (fun _ _ _ h => h) (Or.inr ⟨by rfl,rfl⟩) ?_ ?_
                        rotate_left
                        · simp only [Act.put,List.setIfInBounds_toArray,List.set_cons_zero,List.set_cons_succ,i64_w,i32_w]
                          rfl
                        refine pure_ (i := 5) (N := some 55) (v := undef) (a' := ?_) #[true,true,true,true,true,true,false,false,false,false,false,false,false,false] rfl rfl (any_of HT_.out (by kernel_rfl)) (fun _ _ _ h => h) (Or.inr ⟨by rfl,rfl⟩) ?_ ?_
                        rotate_left
                        · simp only [Act.put,List.setIfInBounds_toArray,List.set_cons_zero,List.set_cons_succ,i64_w,i32_w]
                          rfl
                        refine pure_ (i := 6) (N := some 56) (v := undef) (a' := ?_) #[true,true,true,true,true,true,true,false,false,false,false,false,false,false] rfl rfl (any_of HT_.out (by kernel_rfl)) (fun _ _ _ h => h) (Or.inr ⟨by rfl,rfl⟩) ?_ ?_
                        rotate_left
                        · simp only [Act.put,List.setIfInBounds_toArray,List.set_cons_zero,List.set_cons_succ,i64_w,i32_w]
                          rfl
                        refine pure_ (i := 7) (N := some 57) (v := undef) (a' := ?_) #[true,true,true,true,true,true,true,true,false,false,false,false,false,false] rfl rfl (any_of HT_.out (by kernel_rfl)) (fun _ _ _ h => h) (Or.inr ⟨by rfl,rfl⟩) ?_ ?_
                        rotate_left
                        · simp only [Act.put,List.setIfInBounds_toArray,List.set_cons_zero,List.set_cons_succ,i64_w,i32_w]
                          rfl
                        refine pure_ (i := 8) (N := some 58) (v := undef) (a' := ?_) #[true,true,true,true,true,true,true,true,true,false,false,false,false,false] rfl rfl (any_of HT_.out (by kernel_rfl)) (fun _ _ _ h => h) (Or.inr ⟨by rfl,rfl⟩) ?_ ?_
                        rotate_left
                        · simp only [Act.put,List.setIfInBounds_toArray,List.set_cons_zero,List.set_cons_succ,i64_w,i32_w]
                          rfl
                        refine pure_ (i := 9) (N := some 59) (v := undef) (a' := ?_) #[true,true,true,true,true,true,true,true,true,true,false,false,false,false] rfl rfl (any_of HT_.out (by kernel_rfl)) (fun _ _ _ h => h) (Or.inr ⟨by rfl,rfl⟩) ?_ ?_
                        rotate_left
                        · simp only [Act.put,List.setIfInBounds_toArray,List.set_cons_zero,List.set_cons_succ,i64_w,i32_w]
                          rfl
                        refine pure_ (i := 10) (N := some 60) (v := undef) (a' := ?_) #[true,true,true,true,true,true,true,true,true,true,true,false,false,false] rfl rfl (any_of HT_.out (by kernel_rfl)) (fun _ _ _ h => h) (Or.inr ⟨by rfl,rfl⟩) ?_ ?_
                        rotate_left
                        · simp only [Act.put,List.setIfInBounds_toArray,List.set_cons_zero,List.set_cons_succ,i64_w,i32_w]
                          rfl
                        refine pure_ (i := 11) (N := some 61) (v := undef) (a' := ?_) #[true,true,true,true,true,true,true,true,true,true,true,true,false,false] rfl rfl (any_of HT_.out (by kernel_rfl)) (fun _ _ _ h => h) (Or.inr ⟨by rfl,rfl⟩) ?_ ?_
                        rotate_left
                        · simp only [Act.put,List.setIfInBounds_toArray,List.set_cons_zero,List.set_cons_succ,i64_w,i32_w]
                          rfl
                        refine pure_ (i := 12) (N := some 62) (v := undef) (a' := ?_) #[true,true,true,true,true,true,true,true,true,true,true,true,true,false] rfl rfl (any_of HT_.out (by kernel_rfl)) (fun _ _ _ h => h) (Or.inr ⟨by rfl,rfl⟩) ?_ ?_
                        rotate_left
                        · simp only [Act.put,List.setIfInBounds_toArray,List.set_cons_zero,List.set_cons_succ,i64_w,i32_w]
                          rfl
                        refine pure_ (i := 13) (N := some 63) (v := ?_) (a' := ?_) #[true,true,true,true,true,true,true,true,true,true,true,true,true,true] rfl rfl (any_of HT_.out (by kernel_rfl)) (fun _ _ _ h => h) (Or.inl ⟨by rfl,?_⟩) ?_ ?_
                        rotate_left
                        · intro w'
                          go_simp
                          with_reducible rfl
                        rotate_left
                        · simp only [Act.put,List.setIfInBounds_toArray,List.set_cons_zero,List.set_cons_succ,i64_w,i32_w]
                          rfl
                        refine done_ (done_of HT_.out (by kernel_rfl)) ?_
                        have hcz136_0 : w135.cell? ⟨gb353,0,none⟩ = some (.slice Ao127 y350.length co127) := (blk_cell BK353.out 0).trans rfl;have hfz136_0 := blk_frozen BK353.out 0;have hnb137 := NB340_341.out;have hnc137 := NB341_340.out;have hcz138_0 : w135.cell? ⟨gb340,0,none⟩ = some (.int .i64 a1_0) := (blk_cell BK340.out 0).trans rfl;have hcz138_1 : w135.cell? ⟨gb340,1,none⟩ = some (.string a1_1) := (blk_cell BK340.out 1).trans rfl;have hcz138_2 : w135.cell? ⟨gb340,2,none⟩ = some (.string a1_2) := (blk_cell BK340.out 2).trans rfl;have hcz138_3 : w135.cell? ⟨gb340,3,none⟩ = some (.int .i64 a1_3) := (blk_cell BK340.out 3).trans rfl;have hcz138_4 : w135.cell? ⟨gb340,4,none⟩ = some (.int .i64 a1_4) := (blk_cell BK340.out 4).trans rfl;have hcz138_5 : w135.cell? ⟨gb340,5,none⟩ = some (.int .i64 a1_5) := (blk_cell BK340.out 5).trans rfl;have hfz138_0 := blk_frozen BK340.out 0;have hfz138_1 := blk_frozen BK340.out 1;have hfz138_2 := blk_frozen BK340.out 2;have hfz138_3 := blk_frozen BK340.out 3;have hfz138_4 := blk_frozen BK340.out 4;have hfz138_5 := blk_frozen BK340.out 5
                        try go_wp2_with (first | ((with_reducible refine gate_builtin (b := .append) (xs := #[.tmp 66,.tmp 68]) rfl ?_);at_builtin;refine Kd.R_append k26 (w0 := w) w.heap.size rfl (.tmp 66) (.tmp 68) 22 26 (.agg #[(.int .i64 0),(.string ⟨#[]⟩),(.string ⟨#[]⟩),(.int .i64 0),(.int .i64 0),(.int .i64 0)]) 64 rfl Try.underlying22 info26 rfl (by decide) (by omega) (.slice Ao127 y350.length co127) y350 (⟨a1_0,a1_1,a1_2,a1_3,a1_4,a1_5⟩ : S26) [.int .i64 a1_0,.string a1_1,.string a1_2,.int .i64 a1_3,.int .i64 a1_4,.int .i64 a1_5] (fun k_ => k_ ≠ gb340) (fun _ => False) rfl rfl ?aP (fun _ hk => hk.elim) ?aF ?aO ?aB ?aS ?aL ?_;(case aP => exact k26_mkM _ _ _ (⟨a1_0,a1_1,a1_2,a1_3,a1_4,a1_5⟩ : S26));(case aB => exact (by repeat (first | (with_reducible first | exact HB.out | apply below_alloc | apply pw_below_drewN | apply below_drew1 | refine below_set ?_ GE339.out | refine below_set ?_ GE340.out | refine below_set ?_ GE341.out | refine below_set ?_ GE353.out) | exact HB.out)));(case aF => exact (fun k_ hk => Kd.freshB (g := gb340) (o := .cells #[.int .i64 a1_0,.string a1_1,.string a1_2,.int .i64 a1_3,.int .i64 a1_4,.int .i64 a1_5] 26 (0,0)) (by (with_reducible repeat (first | refine blk_drewN ?_ _ | refine blk_drew ?_ | refine blk_alloc ?_ _));exact BK340.out) k_ hk));(case aO => exact (by (with_reducible repeat (first | apply Kd.R_alloc | apply Kd.R_drewN | apply Kd.R_drew));exact HO352.out));(case aS => exact (below_size (by repeat (first | (with_reducible first | exact HB.out | apply below_alloc | apply pw_below_drewN | apply below_drew1 | refine below_set ?_ GE339.out | refine below_set ?_ GE340.out | refine below_set ?_ GE341.out | refine below_set ?_ GE353.out) | exact HB.out))));(case aL => have := LMc120.out;omega);intro v359 w139 ho hb hg hat;rw [← Ny358.out] at ho;have n0_ := Aside0.mk (blk_grown (g := gb339) (o := .cells #[.slice A0_0 l0_0.length c0_0] 24 (0,0)) (by (with_reducible repeat (first | refine blk_drewN ?_ _ | refine blk_drew ?_ | refine blk_alloc ?_ _));exact BK339.out) hg (Kd.R_ne HO352.out BK339.out (by decide)));have n1_ := Aside0.mk (blk_grown (g := gb340) (o := .cells #[.int .i64 a1_0,.string a1_1,.string a1_2,.int .i64 a1_3,.int .i64 a1_4,.int .i64 a1_5] 26 (0,0)) (by (with_reducible repeat (first | refine blk_drewN ?_ _ | refine blk_drew ?_ | refine blk_alloc ?_ _));exact BK340.out) hg (Kd.R_away HO352.out (fun _ hk => hk)));have n2_ := Aside0.mk (blk_grown (g := gb341) (o := .cells #[.slice none 0 0] 24 (0,0)) (by (with_reducible repeat (first | refine blk_drewN ?_ _ | refine blk_drew ?_ | refine blk_alloc ?_ _));exact BK341.out) hg (Kd.R_ne HO352.out BK341.out (by decide)));have n3_ := Aside0.mk (blk_grown (g := gb353) (o := .cells #[.slice Ao127 y350.length co127] 24 (0,0)) (by (with_reducible repeat (first | refine blk_drewN ?_ _ | refine blk_drew ?_ | refine blk_alloc ?_ _));exact BK353.out) hg (Kd.R_ne HO352.out BK353.out (by decide)));have n4_ := Aside0.mk (hb);have n5_ := Aside0.mk (ho);clear BK339;clear BK340;clear BK341;clear BK353;clear HB;clear HO352;have BK339 := n0_;have BK340 := n1_;have BK341 := n2_;have BK353 := n3_;have HB := n4_;have HO360 := n5_;clear n0_ n1_ n2_ n3_ n4_ n5_;clear ho hb hg hat;obtain ⟨Ao140,co140,eo140⟩ := Kd.R_slice HO360.out;subst eo140;have hcz141_0 : w139.cell? ⟨gb353,0,none⟩ = some (.slice Ao127 y350.length co127) := (blk_cell BK353.out 0).trans rfl;have hfz141_0 := blk_frozen BK353.out 0;have hcz142_0 : w139.cell? ⟨gb341,0,none⟩ = some (.slice none 0 0) := (blk_cell BK341.out 0).trans rfl;have hfz142_0 := blk_frozen BK341.out 0))
                        refine bodyPost_ret (results_ct rfl _ _ gb341 24 #[.slice Ao140 y358.length co140] (0,0) _ rfl (by (with_reducible repeat (first | refine blk_drewN ?_ _ | refine blk_drew ?_ | refine blk_alloc ?_ _));refine blk_put (cs := #[.slice none 0 0]) ?_ 0 _ rfl;(with_reducible repeat (first | refine blk_drewN ?_ _ | refine blk_drew ?_ | refine blk_alloc ?_ _));refine blk_far ?_ NB341_353.out _;(with_reducible repeat (first | refine blk_drewN ?_ _ | refine blk_drew ?_ | refine blk_alloc ?_ _));exact BK341.out) Try.underlying24 rfl (by kernel_rfl)) rfl ?_
                        exact ⟨_,by first | rfl | (simp [errW_none,errW_some] <;> rfl) | (simp [*,errW_none,errW_some] <;> rfl),by (with_reducible repeat (first | apply Kd.R_alloc | apply Kd.R_drewN | apply Kd.R_drew));exact Kd.R_mono (Kd.R_far (p := ⟨gb341,0,none⟩) (Kd.R_far (p := ⟨gb353,0,none⟩) (Kd.R_types (Kd.R_types HO360.out BK353.out (by decide)) BK341.out (by decide)) (fun _ hk => hk.1.2) (.slice Ao140 y358.length co140)) (fun _ hk => hk.2) (.slice Ao140 y358.length co140)) (fun _ hk => trivial),by repeat (first | (with_reducible first | exact HB.out | apply below_alloc | apply pw_below_drewN | apply below_drew1 | refine below_set ?_ GE339.out | refine below_set ?_ GE340.out | refine below_set ?_ GE341.out | refine below_set ?_ GE353.out) | exact HB.out)⟩
                      · rw [if_neg c120] at H
                        exact absurd H (by simp)
              · rw [if_neg c43] at H
                exact absurd H (by simp)

end Go.Proofs.Ytbmochegfdljfaa.My
