-- Written by a program of this session (wip/myprint.py),which drives the kit's print over hand-written fragments. Not trusted: Lean checks it.
import Derived.Test.YtbmochegfdljfaaMyx0
import Derived.Test.YtbmochegfdljfaaMyx22
namespace Go.Proofs.Ytbmochegfdljfaa.My
open Go.Proofs.Ytbmochegfdljfaa.Aid Go.Proofs.Ytbmochegfdljfaa.KdX
open Go.RowKit Go.Proofs.YtbmochegfdljfaaW.PrintWords Go.Proofs.YtbmochegfdljfaaW.PrintLast Go.Proofs.YtbmochegfdljfaaW.PrintMore
attribute [local go_sem] max2_int min2_int max_two min_two max_three min_three max_four min_four   -- for this text's walks alone
set_option linter.unusedVariables false
set_option linter.unusedSimpArgs false

/-! ### wageofficeref39_Balance: function 25 -/
mutual
def wageofficeref39_Balance.l0 : Nat → ByteArray → Int → Int → Int → Int → List (S26) → Option (Int)
  | 0,_,_,_,_,_,_ => none
  | k + 1,x1,x2,x3,x9,x10,x362000 => if x10 < (x362000.length : Int) then (if 0 ≤ x10 then (if ((rd_T26 x362000 x10).f4) > x2 then (wageofficeref39_Balance.j1 k x1 x2 x3 x9 x10 true x362000 ((rd_T26 x362000 x10).f0) ((rd_T26 x362000 x10).f1) ((rd_T26 x362000 x10).f2) ((rd_T26 x362000 x10).f3) ((rd_T26 x362000 x10).f4) ((rd_T26 x362000 x10).f5)) else (wageofficeref39_Balance.j1 k x1 x2 x3 x9 x10 (decide (((rd_T26 x362000 x10).f5) > x3)) x362000 ((rd_T26 x362000 x10).f0) ((rd_T26 x362000 x10).f1) ((rd_T26 x362000 x10).f2) ((rd_T26 x362000 x10).f3) ((rd_T26 x362000 x10).f4) ((rd_T26 x362000 x10).f5))) else (none)) else (some x9)
def wageofficeref39_Balance.j1 : Nat → ByteArray → Int → Int → Int → Int → Bool → List (S26) → Int → ByteArray → ByteArray → Int → Int → Int → Option (Int)
  | 0,_,_,_,_,_,_,_,_,_,_,_,_,_ => none
  | k + 1,x1,x2,x3,x9,x10,x36,x362000,x365000,x365001,x365002,x365003,x365004,x365005 => if x36 = true then (wageofficeref39_Balance.l0 k x1 x2 x3 x9 (wrap64 (x10 + 1)) x362000) else (if x365001.toList = x1.toList then (if x365002.toList = x1.toList then (wageofficeref39_Balance.l0 k x1 x2 x3 (wrap64 ((wrap64 (x9 + x365003)) - x365003)) (wrap64 (x10 + 1)) x362000) else (wageofficeref39_Balance.l0 k x1 x2 x3 (wrap64 (x9 + x365003)) (wrap64 (x10 + 1)) x362000)) else (if x365002.toList = x1.toList then (wageofficeref39_Balance.l0 k x1 x2 x3 (wrap64 (x9 - x365003)) (wrap64 (x10 + 1)) x362000) else (wageofficeref39_Balance.l0 k x1 x2 x3 x9 (wrap64 (x10 + 1)) x362000)))
end
def wageofficeref39_Balance.f (k : Nat) (l0_0 : List (S26)) (a1 : ByteArray) (a2 : Int) (a3 : Int) : Option (Int) := (wageofficeref39_Valid.f k l0_0).bind fun t362 => (if t362 = true then (wageofficeref39_Balance.l0 k a1 a2 a3 0 0 l0_0) else (some 0))
theorem wageofficeref39_Balance.mono_l : ∀ k,(∀ y0 y1 y2 y3 y4 y5,LeO (wageofficeref39_Balance.l0 k y0 y1 y2 y3 y4 y5) (wageofficeref39_Balance.l0 (k + 1) y0 y1 y2 y3 y4 y5)) ∧ (∀ y0 y1 y2 y3 y4 y5 y6 y7 y8 y9 y10 y11 y12,LeO (wageofficeref39_Balance.j1 k y0 y1 y2 y3 y4 y5 y6 y7 y8 y9 y10 y11 y12) (wageofficeref39_Balance.j1 (k + 1) y0 y1 y2 y3 y4 y5 y6 y7 y8 y9 y10 y11 y12))
  | 0 => ⟨fun _ _ _ _ _ _ r h => by simp [wageofficeref39_Balance.l0] at h,fun _ _ _ _ _ _ _ _ _ _ _ _ _ r h => by simp [wageofficeref39_Balance.j1] at h⟩
  | k + 1 => by
    obtain ⟨ih0,ih1⟩ := wageofficeref39_Balance.mono_l k
    refine ⟨?_,?_⟩
    · intro y0 y1 y2 y3 y4 y5
      unfold wageofficeref39_Balance.l0
      repeat' first
      | (with_reducible exact ih0 _ _ _ _ _ _)
      | (with_reducible exact ih1 _ _ _ _ _ _ _ _ _ _ _ _ _)
      | (with_reducible exact wageofficeref39_Valid.mono _ _)
      | (with_reducible exact LeO.refl _)
      | (with_reducible exact LeO.none _)
      | (with_reducible refine LeO.ite ?_ ?_)
      | (with_reducible refine LeO.bind ?_ (fun _ => ?_))
      | exact ih0 _ _ _ _ _ _
      | exact ih1 _ _ _ _ _ _ _ _ _ _ _ _ _
      | exact wageofficeref39_Valid.mono _ _
      | exact LeO.none _
      | refine LeO.ite ?_ ?_
      | refine LeO.bind ?_ (fun _ => ?_)
    · intro y0 y1 y2 y3 y4 y5 y6 y7 y8 y9 y10 y11 y12
      unfold wageofficeref39_Balance.j1
      repeat' first
      | (with_reducible exact ih0 _ _ _ _ _ _)
      | (with_reducible exact ih1 _ _ _ _ _ _ _ _ _ _ _ _ _)
      | (with_reducible exact wageofficeref39_Valid.mono _ _)
      | (with_reducible exact LeO.refl _)
      | (with_reducible exact LeO.none _)
      | (with_reducible refine LeO.ite ?_ ?_)
      | (with_reducible refine LeO.bind ?_ (fun _ => ?_))
      | exact ih0 _ _ _ _ _ _
      | exact ih1 _ _ _ _ _ _ _ _ _ _ _ _ _
      | exact wageofficeref39_Valid.mono _ _
      | exact LeO.none _
      | refine LeO.ite ?_ ?_
      | refine LeO.bind ?_ (fun _ => ?_)
theorem wageofficeref39_Balance.mono : ∀ a0 a1 a2 a3 k,LeO (wageofficeref39_Balance.f k a0 a1 a2 a3) (wageofficeref39_Balance.f (k + 1) a0 a1 a2 a3) := by
  intro a0 a1 a2 a3 k
  obtain ⟨ih0,ih1⟩ := wageofficeref39_Balance.mono_l k
  unfold wageofficeref39_Balance.f
  repeat' first
      | (with_reducible exact ih0 _ _ _ _ _ _)
      | (with_reducible exact ih1 _ _ _ _ _ _ _ _ _ _ _ _ _)
      | (with_reducible exact wageofficeref39_Valid.mono _ _)
      | (with_reducible exact LeO.refl _)
      | (with_reducible exact LeO.none _)
      | (with_reducible refine LeO.ite ?_ ?_)
      | (with_reducible refine LeO.bind ?_ (fun _ => ?_))
      | exact ih0 _ _ _ _ _ _
      | exact ih1 _ _ _ _ _ _ _ _ _ _ _ _ _
      | exact wageofficeref39_Valid.mono _ _
      | exact LeO.none _
      | refine LeO.ite ?_ ?_
      | refine LeO.bind ?_ (fun _ => ?_)
set_option maxHeartbeats 8000000 in
set_option maxRecDepth 100000 in
theorem wageofficeref39_Balance.calls (k : Nat) (A0_0 : Option Addr) (c0_0 : Nat) (l0_0 : List (S26)) (a1 : ByteArray) (a2 : Int) (a3 : Int) (r : Int) (w : World) (hr0_0 : Kd.C k26 w A0_0 l0_0.length l0_0) (hc0_0 : l0_0.length ≤ c0_0) (h : wageofficeref39_Balance.f k l0_0 a1 a2 a3 = some r) :
    Calls Try.prog 25 #[.agg #[.slice A0_0 l0_0.length c0_0],.string a1,.int .i64 a2,.int .i64 a3] w fun e w' => e = .returned (.int .i64 r) ∧ Below w.heap.size w w' := by
  have hu24 := Try.underlying24
  have hu26 := Try.underlying26
  have HR0_0 := Aside0.mk hr0_0
  have HC0_0 := Aside0.mk hc0_0
  clear hr0_0 hc0_0
  have HB := Aside0.mk (Below.refl w.heap.size w)
  have H : ((wageofficeref39_Valid.f k l0_0).bind fun t362 => (if t362 = true then (wageofficeref39_Balance.l0 k a1 a2 a3 0 0 l0_0) else (some 0))) = some r := h
  clear h
  replace H := Option.bind_eq_some_iff.mp H
  obtain ⟨t362,A50,H⟩ := H
  replace H : (if t362 = true then (wageofficeref39_Balance.l0 k a1 a2 a3 0 0 l0_0) else (some 0)) = some r := H
  have A5 := Aside0.mk A50
  clear A50
  by_cases c6 : t362 = true
  · subst c6
    have H1 : (wageofficeref39_Balance.l0 k a1 a2 a3 0 0 l0_0) = some r := by rw [if_pos rfl] at H;exact H
    clear H
    have H := H1
    clear H1
    have H' := Aside0.mk H
    clear H
    go_enter Try.func25,Try.ntmps25
    go_wp2_with (first | ((with_reducible refine gate_dst (N := 4) rfl ?_);refine box_event ?hg (N := 4) ?hd (cs := #[.slice A0_0 l0_0.length c0_0]) (t := 24) ?hr ?_;(case hd => rfl);(case hg => rfl);(case hr => first | (go_simp;done) | (go_simp;rfl));intro gb361 hg w7 hbox hb;have n0_ := Aside0.mk (below_step (by repeat (first | (with_reducible first | exact HB.out | apply below_alloc | apply pw_below_drewN | apply below_drew1) | exact HB.out)) hb);have n1_ := Aside0.mk (hbox);have n2_ := Aside0.mk ((by rw [hg];exact (below_size (by repeat (first | (with_reducible first | exact HB.out | apply below_alloc | apply pw_below_drewN | apply below_drew1) | exact HB.out))) : w.heap.size ≤ gb361));have n3_ := Aside0.mk ((by rw [hg];exact (below_size (by repeat (first | (with_reducible first | exact HB.out | apply below_alloc | apply pw_below_drewN | apply below_drew1) | exact HB.out))) : w.heap.size ≤ gb361));clear HB;have HB := n0_;have BK361 := n1_;have GW361 := n2_;have GE361 := n3_;clear n0_ n1_ n2_ n3_;clear hb hbox hg;have hcz8_0 : w7.cell? ⟨gb361,0,none⟩ = some (.slice A0_0 l0_0.length c0_0) := (blk_cell BK361.out 0).trans rfl;have hfz8_0 := blk_frozen BK361.out 0) | ((with_reducible refine gate_callee (f := 22) rfl ?_);refine goesL_ (some 13) rfl rfl Try.func22 (by kernel_rfl) rfl #[.agg #[.slice A0_0 l0_0.length c0_0]] rfl (by (try simp only [List.map_toArray,List.map_cons,List.map_nil]);first | done | rfl | (simp only [List.length_drop,List.length_take];rfl)) ?_;(with_reducible refine (wageofficeref39_Valid.calls k _ _ l0_0 true _ ?side1 ?side2 A5.out).mono ?_);(case side1 => repeat (first | exact (Kd.C_below HR0_0.out HB.out) | (with_reducible refine Kd.C_alloc ?_ _) | (with_reducible refine Kd.C_drewN ?_ _) | (with_reducible refine Kd.C_drew ?_)));(case side2 => exact HC0_0.out);rintro e w9 ⟨rfl,hb⟩;refine ⟨_,rfl,?_⟩;have n0_ := Aside0.mk (blk_below (g := gb361) (o := .cells #[.slice A0_0 l0_0.length c0_0] 24 (0,0)) (by (with_reducible repeat (first | refine blk_drewN ?_ _ | refine blk_drew ?_ | refine blk_alloc ?_ _));exact BK361.out) hb);have n1_ := Aside0.mk (below_step (by repeat (first | (with_reducible first | exact HB.out | apply below_alloc | apply pw_below_drewN | apply below_drew1 | refine below_set ?_ GE361.out) | exact HB.out)) hb);clear BK361;clear HB;have BK361 := n0_;have HB := n1_;clear n0_ n1_;(try clear hb);(try clear hb2);(try clear hk);(try clear hi)))
    go_loopg [9,10] k (fun kq v9 v10 w' => ∃ (x9_1 : Int) (x10_1 : Int),v9 = .int .i64 x9_1 ∧ v10 = .int .i64 x10_1 ∧ Aside0 (wageofficeref39_Balance.l0 kq a1 a2 a3 x9_1 x10_1 l0_0 = some r) ∧ Aside0 (kq ≤ k) ∧ Aside0 (w'.heap[gb361]? = some (.cells #[(.slice A0_0 l0_0.length c0_0)] 24 (0,0))) ∧ Aside0 (Below w.heap.size w w'))
    case atStart => exact ⟨(0),(0),(by first | rfl | (simp;done) | (simp [*];done)),(by first | rfl | (simp;done) | (simp [*];done)),H',⟨Nat.le_refl _⟩,⟨by (with_reducible repeat (first | refine blk_drewN ?_ _ | refine blk_drew ?_ | refine blk_alloc ?_ _));exact BK361.out⟩,⟨by repeat (first | (with_reducible first | exact HB.out | apply below_alloc | apply pw_below_drewN | apply below_drew1 | refine below_set ?_ GE361.out) | exact HB.out)⟩⟩
    case round =>
      clear H';(try clear c2);(try clear p2);(try clear c6);(try clear hcz8_0);(try clear hfz8_0)
      obtain ⟨x9_1,x10_1,rfl,rfl,HA,HK1,BK361,HB⟩ := hrel
      cases gk with
      | zero => exact absurd HA.out (by simp [wageofficeref39_Balance.l0])
      | succ k1 =>
        have H := HA.out
        clear HA
        simp only [wageofficeref39_Balance.l0] at H
        by_cases c10 : x10_1 < (l0_0.length : Int)
        · rw [if_pos c10] at H
          have c10b0 : decide (x10_1 < (l0_0.length : Int)) = true := decide_eq_true c10
          clear c10
          by_cases c11 : 0 ≤ x10_1
          · rw [if_pos c11] at H
            have c11b0 : decide (0 ≤ x10_1) = true := decide_eq_true c11
            clear c11
            have HC12 := Aside0.mk H
            clear H;have hcz13_0 : wr.cell? ⟨gb361,0,none⟩ = some (.slice A0_0 l0_0.length c0_0) := (blk_cell BK361.out 0).trans rfl;have hfz13_0 := blk_frozen BK361.out 0
            have p363 : 0 ≤ (x10_1 : Int) := of_decide_eq_true (by first | (with_reducible assumption) | assumption)
            have q363 : x10_1 < (l0_0.length : Int) := of_decide_eq_true (by first | (with_reducible assumption) | assumption)
            obtain ⟨ad363,e363,hx363_0,hx363_1,hx363_2,hx363_3,hx363_4,hx363_5⟩ := at_T26 HR0_0.out x10_1 p363 q363
            cases e363
            replace hx363_0 := (HB.out.cell (World.block_lt_of_cell? w _ hx363_0)).trans hx363_0
            replace hx363_1 := (HB.out.cell (World.block_lt_of_cell? w _ hx363_1)).trans hx363_1
            replace hx363_2 := (HB.out.cell (World.block_lt_of_cell? w _ hx363_2)).trans hx363_2
            replace hx363_3 := (HB.out.cell (World.block_lt_of_cell? w _ hx363_3)).trans hx363_3
            replace hx363_4 := (HB.out.cell (World.block_lt_of_cell? w _ hx363_4)).trans hx363_4
            replace hx363_5 := (HB.out.cell (World.block_lt_of_cell? w _ hx363_5)).trans hx363_5
            replace p363 := eq_true p363
            replace q363 := eq_true q363
            go_upto_region 8 with (first | ((with_reducible refine gate_dst (N := 11) rfl ?_);refine box_event ?hg (N := 11) ?hd (cs := #[.int .i64 0,.string (⟨#[]⟩ : ByteArray),.string (⟨#[]⟩ : ByteArray),.int .i64 0,.int .i64 0,.int .i64 0]) (t := 26) ?hr ?_;(case hd => rfl);(case hg => rfl);(case hr => first | (go_simp;done) | (go_simp;rfl));intro gb364 hg w14 hbox hb;have n0_ := Aside0.mk (blk_below (g := gb361) (o := .cells #[.slice (some ad363) l0_0.length c0_0] 24 (0,0)) (by (with_reducible repeat (first | refine blk_drewN ?_ _ | refine blk_drew ?_ | refine blk_alloc ?_ _));exact BK361.out) hb);have n1_ := Aside0.mk (below_step (by repeat (first | (with_reducible first | exact HB.out | apply below_alloc | apply pw_below_drewN | apply below_drew1 | refine below_set ?_ GE361.out) | exact HB.out)) hb);have n2_ := Aside0.mk (hbox);have n3_ := Aside0.mk ((by rw [hg];exact (below_size (by repeat (first | (with_reducible first | exact HB.out | apply below_alloc | apply pw_below_drewN | apply below_drew1 | refine below_set ?_ GE361.out) | exact HB.out))) : w.heap.size ≤ gb364));have n4_ := Aside0.mk ((by rw [hg];exact (below_size (by repeat (first | (with_reducible first | exact HB.out | apply below_alloc | apply pw_below_drewN | apply below_drew1 | refine below_set ?_ GE361.out) | exact HB.out))) : w.heap.size ≤ gb364));have n5_ := Aside0.mk ((by rw [hg];exact Nat.ne_of_lt (blk_lt (g := gb361) (o := .cells #[.slice (some ad363) l0_0.length c0_0] 24 (0,0)) (by (with_reducible repeat (first | refine blk_drewN ?_ _ | refine blk_drew ?_ | refine blk_alloc ?_ _));exact BK361.out)) : gb361 ≠ gb364));have n6_ := Aside0.mk ((by rw [hg];exact Nat.ne_of_gt (blk_lt (g := gb361) (o := .cells #[.slice (some ad363) l0_0.length c0_0] 24 (0,0)) (by (with_reducible repeat (first | refine blk_drewN ?_ _ | refine blk_drew ?_ | refine blk_alloc ?_ _));exact BK361.out)) : gb364 ≠ gb361));clear BK361;clear HB;have BK361 := n0_;have HB := n1_;have BK364 := n2_;have GW364 := n3_;have GE364 := n4_;have NB361_364 := n5_;have NB364_361 := n6_;clear n0_ n1_ n2_ n3_ n4_ n5_ n6_;clear hb hbox hg;have hnb15 := NB364_361.out;have hnc15 := NB361_364.out;have hcz16_0 : w14.cell? ⟨gb364,0,none⟩ = some (.int .i64 0) := (blk_cell BK364.out 0).trans rfl;have hcz16_1 : w14.cell? ⟨gb364,1,none⟩ = some (.string (⟨#[]⟩ : ByteArray)) := (blk_cell BK364.out 1).trans rfl;have hcz16_2 : w14.cell? ⟨gb364,2,none⟩ = some (.string (⟨#[]⟩ : ByteArray)) := (blk_cell BK364.out 2).trans rfl;have hcz16_3 : w14.cell? ⟨gb364,3,none⟩ = some (.int .i64 0) := (blk_cell BK364.out 3).trans rfl;have hcz16_4 : w14.cell? ⟨gb364,4,none⟩ = some (.int .i64 0) := (blk_cell BK364.out 4).trans rfl;have hcz16_5 : w14.cell? ⟨gb364,5,none⟩ = some (.int .i64 0) := (blk_cell BK364.out 5).trans rfl;have hfz16_0 := blk_frozen BK364.out 0;have hfz16_1 := blk_frozen BK364.out 1;have hfz16_2 := blk_frozen BK364.out 2;have hfz16_3 := blk_frozen BK364.out 3;have hfz16_4 := blk_frozen BK364.out 4;have hfz16_5 := blk_frozen BK364.out 5))
            (try simp only [Act.put,List.setIfInBounds_toArray,List.set_cons_zero,List.set_cons_succ])
            go_cut [36] (fun v36 wc => ∃ (kq : Nat) (x36_11 : Bool),v36 = .bool x36_11 ∧ Aside0 (wageofficeref39_Balance.j1 kq a1 a2 a3 x9_1 x10_1 x36_11 l0_0 ((rd_T26 l0_0 x10_1).f0) ((rd_T26 l0_0 x10_1).f1) ((rd_T26 l0_0 x10_1).f2) ((rd_T26 l0_0 x10_1).f3) ((rd_T26 l0_0 x10_1).f4) ((rd_T26 l0_0 x10_1).f5) = some r) ∧ Aside0 (kq ≤ k1) ∧ Aside0 (wc.heap[gb361]? = some (.cells #[(.slice (some ad363) l0_0.length c0_0)] 24 (0,0))) ∧ Aside0 (wc.heap[gb364]? = some (.cells #[.int .i64 ((rd_T26 l0_0 x10_1).f0),.string ((rd_T26 l0_0 x10_1).f1),.string ((rd_T26 l0_0 x10_1).f2),.int .i64 ((rd_T26 l0_0 x10_1).f3),.int .i64 ((rd_T26 l0_0 x10_1).f4),.int .i64 ((rd_T26 l0_0 x10_1).f5)] 26 (0,0))) ∧ Aside0 (Below w.heap.size w wc))
            case first =>
              have H := HC12.out
              clear HC12
              by_cases c17 : ((rd_T26 l0_0 x10_1).f4) > a2
              · rw [if_pos c17] at H
                have c17b0 : decide (a2 < ((rd_T26 l0_0 x10_1).f4)) = true := decide_eq_true c17
                clear c17
                (first | rw [c17b0] | (simp only [i64_w,i32_w];rw [c17b0]) | skip)
                have H' := Aside0.mk H
                clear H;have hnb18 := NB364_361.out;have hnc18 := NB361_364.out;have hcz19_0 : w14.cell? ⟨gb364,0,none⟩ = some (.int .i64 0) := (blk_cell BK364.out 0).trans rfl;have hcz19_1 : w14.cell? ⟨gb364,1,none⟩ = some (.string (⟨#[]⟩ : ByteArray)) := (blk_cell BK364.out 1).trans rfl;have hcz19_2 : w14.cell? ⟨gb364,2,none⟩ = some (.string (⟨#[]⟩ : ByteArray)) := (blk_cell BK364.out 2).trans rfl;have hcz19_3 : w14.cell? ⟨gb364,3,none⟩ = some (.int .i64 0) := (blk_cell BK364.out 3).trans rfl;have hcz19_4 : w14.cell? ⟨gb364,4,none⟩ = some (.int .i64 0) := (blk_cell BK364.out 4).trans rfl;have hcz19_5 : w14.cell? ⟨gb364,5,none⟩ = some (.int .i64 0) := (blk_cell BK364.out 5).trans rfl;have hfz19_0 := blk_frozen BK364.out 0;have hfz19_1 := blk_frozen BK364.out 1;have hfz19_2 := blk_frozen BK364.out 2;have hfz19_3 := blk_frozen BK364.out 3;have hfz19_4 := blk_frozen BK364.out 4;have hfz19_5 := blk_frozen BK364.out 5
                go_wp2
                go_meet
                case rel => exact ⟨_,(true),(by first | rfl | (simp;done) | (simp [*];done)),H',⟨by have := HK1.out;first | omega | exact Nat.le_refl _⟩,⟨by (with_reducible repeat (first | refine blk_drewN ?_ _ | refine blk_drew ?_ | refine blk_alloc ?_ _));refine blk_far ?_ NB361_364.out _;(with_reducible repeat (first | refine blk_drewN ?_ _ | refine blk_drew ?_ | refine blk_alloc ?_ _));refine blk_far ?_ NB361_364.out _;(with_reducible repeat (first | refine blk_drewN ?_ _ | refine blk_drew ?_ | refine blk_alloc ?_ _));refine blk_far ?_ NB361_364.out _;(with_reducible repeat (first | refine blk_drewN ?_ _ | refine blk_drew ?_ | refine blk_alloc ?_ _));refine blk_far ?_ NB361_364.out _;(with_reducible repeat (first | refine blk_drewN ?_ _ | refine blk_drew ?_ | refine blk_alloc ?_ _));refine blk_far ?_ NB361_364.out _;(with_reducible repeat (first | refine blk_drewN ?_ _ | refine blk_drew ?_ | refine blk_alloc ?_ _));refine blk_far ?_ NB361_364.out _;(with_reducible repeat (first | refine blk_drewN ?_ _ | refine blk_drew ?_ | refine blk_alloc ?_ _));exact BK361.out⟩,⟨by (with_reducible repeat (first | refine blk_drewN ?_ _ | refine blk_drew ?_ | refine blk_alloc ?_ _));refine blk_put (cs := #[.int .i64 ((rd_T26 l0_0 x10_1).f0),.string ((rd_T26 l0_0 x10_1).f1),.string ((rd_T26 l0_0 x10_1).f2),.int .i64 ((rd_T26 l0_0 x10_1).f3),.int .i64 ((rd_T26 l0_0 x10_1).f4),.int .i64 0]) ?_ 5 _ rfl;(with_reducible repeat (first | refine blk_drewN ?_ _ | refine blk_drew ?_ | refine blk_alloc ?_ _));refine blk_put (cs := #[.int .i64 ((rd_T26 l0_0 x10_1).f0),.string ((rd_T26 l0_0 x10_1).f1),.string ((rd_T26 l0_0 x10_1).f2),.int .i64 ((rd_T26 l0_0 x10_1).f3),.int .i64 0,.int .i64 0]) ?_ 4 _ rfl;(with_reducible repeat (first | refine blk_drewN ?_ _ | refine blk_drew ?_ | refine blk_alloc ?_ _));refine blk_put (cs := #[.int .i64 ((rd_T26 l0_0 x10_1).f0),.string ((rd_T26 l0_0 x10_1).f1),.string ((rd_T26 l0_0 x10_1).f2),.int .i64 0,.int .i64 0,.int .i64 0]) ?_ 3 _ rfl;(with_reducible repeat (first | refine blk_drewN ?_ _ | refine blk_drew ?_ | refine blk_alloc ?_ _));refine blk_put (cs := #[.int .i64 ((rd_T26 l0_0 x10_1).f0),.string ((rd_T26 l0_0 x10_1).f1),.string (⟨#[]⟩ : ByteArray),.int .i64 0,.int .i64 0,.int .i64 0]) ?_ 2 _ rfl;(with_reducible repeat (first | refine blk_drewN ?_ _ | refine blk_drew ?_ | refine blk_alloc ?_ _));refine blk_put (cs := #[.int .i64 ((rd_T26 l0_0 x10_1).f0),.string (⟨#[]⟩ : ByteArray),.string (⟨#[]⟩ : ByteArray),.int .i64 0,.int .i64 0,.int .i64 0]) ?_ 1 _ rfl;(with_reducible repeat (first | refine blk_drewN ?_ _ | refine blk_drew ?_ | refine blk_alloc ?_ _));refine blk_put (cs := #[.int .i64 0,.string (⟨#[]⟩ : ByteArray),.string (⟨#[]⟩ : ByteArray),.int .i64 0,.int .i64 0,.int .i64 0]) ?_ 0 _ rfl;(with_reducible repeat (first | refine blk_drewN ?_ _ | refine blk_drew ?_ | refine blk_alloc ?_ _));exact BK364.out⟩,⟨by repeat (first | (with_reducible first | exact HB.out | apply below_alloc | apply pw_below_drewN | apply below_drew1 | refine below_set ?_ GE361.out | refine below_set ?_ GE364.out) | exact HB.out)⟩⟩
              · rw [if_neg c17] at H
                have c17b0 : decide (a2 < ((rd_T26 l0_0 x10_1).f4)) = false := decide_eq_false c17
                clear c17
                (first | rw [c17b0] | (simp only [i64_w,i32_w];rw [c17b0]) | skip)
                have H' := Aside0.mk H
                clear H;have hnb20 := NB364_361.out;have hnc20 := NB361_364.out;have hcz21_0 : w14.cell? ⟨gb364,0,none⟩ = some (.int .i64 0) := (blk_cell BK364.out 0).trans rfl;have hcz21_1 : w14.cell? ⟨gb364,1,none⟩ = some (.string (⟨#[]⟩ : ByteArray)) := (blk_cell BK364.out 1).trans rfl;have hcz21_2 : w14.cell? ⟨gb364,2,none⟩ = some (.string (⟨#[]⟩ : ByteArray)) := (blk_cell BK364.out 2).trans rfl;have hcz21_3 : w14.cell? ⟨gb364,3,none⟩ = some (.int .i64 0) := (blk_cell BK364.out 3).trans rfl;have hcz21_4 : w14.cell? ⟨gb364,4,none⟩ = some (.int .i64 0) := (blk_cell BK364.out 4).trans rfl;have hcz21_5 : w14.cell? ⟨gb364,5,none⟩ = some (.int .i64 0) := (blk_cell BK364.out 5).trans rfl;have hfz21_0 := blk_frozen BK364.out 0;have hfz21_1 := blk_frozen BK364.out 1;have hfz21_2 := blk_frozen BK364.out 2;have hfz21_3 := blk_frozen BK364.out 3;have hfz21_4 := blk_frozen BK364.out 4;have hfz21_5 := blk_frozen BK364.out 5
                go_wp2
                go_meet
                case rel => exact ⟨_,(decide (((rd_T26 l0_0 x10_1).f5) > a3)),(by first | rfl | (simp;done) | (simp [*];done)),H',⟨by have := HK1.out;first | omega | exact Nat.le_refl _⟩,⟨by (with_reducible repeat (first | refine blk_drewN ?_ _ | refine blk_drew ?_ | refine blk_alloc ?_ _));refine blk_far ?_ NB361_364.out _;(with_reducible repeat (first | refine blk_drewN ?_ _ | refine blk_drew ?_ | refine blk_alloc ?_ _));refine blk_far ?_ NB361_364.out _;(with_reducible repeat (first | refine blk_drewN ?_ _ | refine blk_drew ?_ | refine blk_alloc ?_ _));refine blk_far ?_ NB361_364.out _;(with_reducible repeat (first | refine blk_drewN ?_ _ | refine blk_drew ?_ | refine blk_alloc ?_ _));refine blk_far ?_ NB361_364.out _;(with_reducible repeat (first | refine blk_drewN ?_ _ | refine blk_drew ?_ | refine blk_alloc ?_ _));refine blk_far ?_ NB361_364.out _;(with_reducible repeat (first | refine blk_drewN ?_ _ | refine blk_drew ?_ | refine blk_alloc ?_ _));refine blk_far ?_ NB361_364.out _;(with_reducible repeat (first | refine blk_drewN ?_ _ | refine blk_drew ?_ | refine blk_alloc ?_ _));exact BK361.out⟩,⟨by (with_reducible repeat (first | refine blk_drewN ?_ _ | refine blk_drew ?_ | refine blk_alloc ?_ _));refine blk_put (cs := #[.int .i64 ((rd_T26 l0_0 x10_1).f0),.string ((rd_T26 l0_0 x10_1).f1),.string ((rd_T26 l0_0 x10_1).f2),.int .i64 ((rd_T26 l0_0 x10_1).f3),.int .i64 ((rd_T26 l0_0 x10_1).f4),.int .i64 0]) ?_ 5 _ rfl;(with_reducible repeat (first | refine blk_drewN ?_ _ | refine blk_drew ?_ | refine blk_alloc ?_ _));refine blk_put (cs := #[.int .i64 ((rd_T26 l0_0 x10_1).f0),.string ((rd_T26 l0_0 x10_1).f1),.string ((rd_T26 l0_0 x10_1).f2),.int .i64 ((rd_T26 l0_0 x10_1).f3),.int .i64 0,.int .i64 0]) ?_ 4 _ rfl;(with_reducible repeat (first | refine blk_drewN ?_ _ | refine blk_drew ?_ | refine blk_alloc ?_ _));refine blk_put (cs := #[.int .i64 ((rd_T26 l0_0 x10_1).f0),.string ((rd_T26 l0_0 x10_1).f1),.string ((rd_T26 l0_0 x10_1).f2),.int .i64 0,.int .i64 0,.int .i64 0]) ?_ 3 _ rfl;(with_reducible repeat (first | refine blk_drewN ?_ _ | refine blk_drew ?_ | refine blk_alloc ?_ _));refine blk_put (cs := #[.int .i64 ((rd_T26 l0_0 x10_1).f0),.string ((rd_T26 l0_0 x10_1).f1),.string (⟨#[]⟩ : ByteArray),.int .i64 0,.int .i64 0,.int .i64 0]) ?_ 2 _ rfl;(with_reducible repeat (first | refine blk_drewN ?_ _ | refine blk_drew ?_ | refine blk_alloc ?_ _));refine blk_put (cs := #[.int .i64 ((rd_T26 l0_0 x10_1).f0),.string (⟨#[]⟩ : ByteArray),.string (⟨#[]⟩ : ByteArray),.int .i64 0,.int .i64 0,.int .i64 0]) ?_ 1 _ rfl;(with_reducible repeat (first | refine blk_drewN ?_ _ | refine blk_drew ?_ | refine blk_alloc ?_ _));refine blk_put (cs := #[.int .i64 0,.string (⟨#[]⟩ : ByteArray),.string (⟨#[]⟩ : ByteArray),.int .i64 0,.int .i64 0,.int .i64 0]) ?_ 0 _ rfl;(with_reducible repeat (first | refine blk_drewN ?_ _ | refine blk_drew ?_ | refine blk_alloc ?_ _));exact BK364.out⟩,⟨by repeat (first | (with_reducible first | exact HB.out | apply below_alloc | apply pw_below_drewN | apply below_drew1 | refine below_set ?_ GE361.out | refine below_set ?_ GE364.out) | exact HB.out)⟩⟩
            case rest =>
              clear HC12;(try clear c1);(try clear c2);(try clear p2);(try clear p3);(try clear q3);(try clear hx3);(try clear c6);(try clear c10);(try clear c10b0);(try clear c11);(try clear c11b0);(try clear c15);(try clear c17);(try clear c17b0);(try clear c18);(try clear c20);(try clear hcz13_0);(try clear hcz16_0);(try clear hcz16_1);(try clear hcz16_2);(try clear hcz16_3);(try clear hcz16_4);(try clear hcz16_5);(try clear hcz19_0);(try clear hcz19_1);(try clear hcz19_2);(try clear hcz19_3);(try clear hcz19_4);(try clear hcz19_5);(try clear hcz21_0);(try clear hcz21_1);(try clear hcz21_2);(try clear hcz21_3);(try clear hcz21_4);(try clear hcz21_5);(try clear hcz8_0);(try clear hfz13_0);(try clear hfz16_0);(try clear hfz16_1);(try clear hfz16_2);(try clear hfz16_3);(try clear hfz16_4);(try clear hfz16_5);(try clear hfz19_0);(try clear hfz19_1);(try clear hfz19_2);(try clear hfz19_3);(try clear hfz19_4);(try clear hfz19_5);(try clear hfz21_0);(try clear hfz21_1);(try clear hfz21_2);(try clear hfz21_3);(try clear hfz21_4);(try clear hfz21_5);(try clear hfz8_0);(try clear hx363_0);(try clear hx363_1);(try clear hx363_2);(try clear hx363_3);(try clear hx363_4);(try clear hx363_5);(try clear p2);(try clear p363);(try clear q363)
              obtain ⟨kq,x36_11,rfl,HA,HJ11,BK361,BK364,HB⟩ := hcut
              cases kq with
              | zero => exact absurd HA.out (by simp [wageofficeref39_Balance.j1])
              | succ kj11 =>
                have H := HA.out
                clear HA
                simp only [wageofficeref39_Balance.j1] at H
                by_cases c22 : x36_11 = true
                · subst c22
                  have H1 : (wageofficeref39_Balance.l0 kj11 a1 a2 a3 x9_1 (wrap64 (x10_1 + 1)) l0_0) = some r := by rw [if_pos rfl] at H;exact H
                  clear H
                  have H := H1
                  clear H1
                  have H' := Aside0.mk H
                  clear H
                  go_wp2
                  go_roundg kj11
                  case measure => have := HK1.out;have := HJ11.out;omega
                  case rel => exact ⟨(x9_1),(wrap64 (x10_1 + 1)),(by first | rfl | (simp;done) | (simp [*];done)),(by first | rfl | (simp;done) | (simp [*];done)),H',⟨by have := HK1.out;have := HJ11.out;omega⟩,⟨by (with_reducible repeat (first | refine blk_drewN ?_ _ | refine blk_drew ?_ | refine blk_alloc ?_ _));exact BK361.out⟩,⟨by repeat (first | (with_reducible first | exact HB.out | apply below_alloc | apply pw_below_drewN | apply below_drew1 | refine below_set ?_ GE361.out | refine below_set ?_ GE364.out) | exact HB.out)⟩⟩
                · replace c22 := Bool.eq_false_iff.mpr c22
                  subst c22
                  have H1 : (if ((rd_T26 l0_0 x10_1).f1).toList = a1.toList then (if ((rd_T26 l0_0 x10_1).f2).toList = a1.toList then (wageofficeref39_Balance.l0 kj11 a1 a2 a3 (wrap64 ((wrap64 (x9_1 + ((rd_T26 l0_0 x10_1).f3))) - ((rd_T26 l0_0 x10_1).f3))) (wrap64 (x10_1 + 1)) l0_0) else (wageofficeref39_Balance.l0 kj11 a1 a2 a3 (wrap64 (x9_1 + ((rd_T26 l0_0 x10_1).f3))) (wrap64 (x10_1 + 1)) l0_0)) else (if ((rd_T26 l0_0 x10_1).f2).toList = a1.toList then (wageofficeref39_Balance.l0 kj11 a1 a2 a3 (wrap64 (x9_1 - ((rd_T26 l0_0 x10_1).f3))) (wrap64 (x10_1 + 1)) l0_0) else (wageofficeref39_Balance.l0 kj11 a1 a2 a3 x9_1 (wrap64 (x10_1 + 1)) l0_0))) = some r := by rw [if_neg (show ¬ (false = true) by decide)] at H;exact H
                  clear H
                  have H := H1
                  clear H1
                  by_cases c23 : ((rd_T26 l0_0 x10_1).f1).toList = a1.toList
                  · rw [if_pos c23] at H
                    have c23b0 : (((rd_T26 l0_0 x10_1).f1).toList == a1.toList) = true := beq_iff_eq.mpr c23
                    have c23b1 : (((rd_T26 l0_0 x10_1).f1).toList != a1.toList) = false := bne_eq_false_iff_eq.mpr c23
                    clear c23
                    by_cases c24 : ((rd_T26 l0_0 x10_1).f2).toList = a1.toList
                    · rw [if_pos c24] at H
                      have c24b0 : (((rd_T26 l0_0 x10_1).f2).toList == a1.toList) = true := beq_iff_eq.mpr c24
                      have c24b1 : (((rd_T26 l0_0 x10_1).f2).toList != a1.toList) = false := bne_eq_false_iff_eq.mpr c24
                      clear c24
                      have H' := Aside0.mk H
                      clear H;have hnb25 := NB364_361.out;have hnc25 := NB361_364.out;have hcz26_0 : wc.cell? ⟨gb364,0,none⟩ = some (.int .i64 ((rd_T26 l0_0 x10_1).f0)) := (blk_cell BK364.out 0).trans rfl;have hcz26_1 : wc.cell? ⟨gb364,1,none⟩ = some (.string ((rd_T26 l0_0 x10_1).f1)) := (blk_cell BK364.out 1).trans rfl;have hcz26_2 : wc.cell? ⟨gb364,2,none⟩ = some (.string ((rd_T26 l0_0 x10_1).f2)) := (blk_cell BK364.out 2).trans rfl;have hcz26_3 : wc.cell? ⟨gb364,3,none⟩ = some (.int .i64 ((rd_T26 l0_0 x10_1).f3)) := (blk_cell BK364.out 3).trans rfl;have hcz26_4 : wc.cell? ⟨gb364,4,none⟩ = some (.int .i64 ((rd_T26 l0_0 x10_1).f4)) := (blk_cell BK364.out 4).trans rfl;have hcz26_5 : wc.cell? ⟨gb364,5,none⟩ = some (.int .i64 ((rd_T26 l0_0 x10_1).f5)) := (blk_cell BK364.out 5).trans rfl;have hfz26_0 := blk_frozen BK364.out 0;have hfz26_1 := blk_frozen BK364.out 1;have hfz26_2 := blk_frozen BK364.out 2;have hfz26_3 := blk_frozen BK364.out 3;have hfz26_4 := blk_frozen BK364.out 4;have hfz26_5 := blk_frozen BK364.out 5
                      go_wp2
                      go_roundg kj11
                      case measure => have := HK1.out;have := HJ11.out;omega
                      case rel => exact ⟨(wrap64 ((wrap64 (x9_1 + ((rd_T26 l0_0 x10_1).f3))) - ((rd_T26 l0_0 x10_1).f3))),(wrap64 (x10_1 + 1)),(by first | rfl | (simp;done) | (simp [*];done)),(by first | rfl | (simp;done) | (simp [*];done)),H',⟨by have := HK1.out;have := HJ11.out;omega⟩,⟨by (with_reducible repeat (first | refine blk_drewN ?_ _ | refine blk_drew ?_ | refine blk_alloc ?_ _));exact BK361.out⟩,⟨by repeat (first | (with_reducible first | exact HB.out | apply below_alloc | apply pw_below_drewN | apply below_drew1 | refine below_set ?_ GE361.out | refine below_set ?_ GE364.out) | exact HB.out)⟩⟩
                    · rw [if_neg c24] at H
                      have c24b0 : (((rd_T26 l0_0 x10_1).f2).toList == a1.toList) = false := beq_eq_false_iff_ne.mpr c24
                      have c24b1 : (((rd_T26 l0_0 x10_1).f2).toList != a1.toList) = true := bne_iff_ne.mpr c24
                      have H' := Aside0.mk H
                      clear H;have hnb27 := NB364_361.out;have hnc27 := NB361_364.out;have hcz28_0 : wc.cell? ⟨gb364,0,none⟩ = some (.int .i64 ((rd_T26 l0_0 x10_1).f0)) := (blk_cell BK364.out 0).trans rfl;have hcz28_1 : wc.cell? ⟨gb364,1,none⟩ = some (.string ((rd_T26 l0_0 x10_1).f1)) := (blk_cell BK364.out 1).trans rfl;have hcz28_2 : wc.cell? ⟨gb364,2,none⟩ = some (.string ((rd_T26 l0_0 x10_1).f2)) := (blk_cell BK364.out 2).trans rfl;have hcz28_3 : wc.cell? ⟨gb364,3,none⟩ = some (.int .i64 ((rd_T26 l0_0 x10_1).f3)) := (blk_cell BK364.out 3).trans rfl;have hcz28_4 : wc.cell? ⟨gb364,4,none⟩ = some (.int .i64 ((rd_T26 l0_0 x10_1).f4)) := (blk_cell BK364.out 4).trans rfl;have hcz28_5 : wc.cell? ⟨gb364,5,none⟩ = some (.int .i64 ((rd_T26 l0_0 x10_1).f5)) := (blk_cell BK364.out 5).trans rfl;have hfz28_0 := blk_frozen BK364.out 0;have hfz28_1 := blk_frozen BK364.out 1;have hfz28_2 := blk_frozen BK364.out 2;have hfz28_3 := blk_frozen BK364.out 3;have hfz28_4 := blk_frozen BK364.out 4;have hfz28_5 := blk_frozen BK364.out 5
                      go_wp2
                      go_roundg kj11
                      case measure => have := HK1.out;have := HJ11.out;omega
                      case rel => exact ⟨(wrap64 (x9_1 + ((rd_T26 l0_0 x10_1).f3))),(wrap64 (x10_1 + 1)),(by first | rfl | (simp;done) | (simp [*];done)),(by first | rfl | (simp;done) | (simp [*];done)),H',⟨by have := HK1.out;have := HJ11.out;omega⟩,⟨by (with_reducible repeat (first | refine blk_drewN ?_ _ | refine blk_drew ?_ | refine blk_alloc ?_ _));exact BK361.out⟩,⟨by repeat (first | (with_reducible first | exact HB.out | apply below_alloc | apply pw_below_drewN | apply below_drew1 | refine below_set ?_ GE361.out | refine below_set ?_ GE364.out) | exact HB.out)⟩⟩
                  · rw [if_neg c23] at H
                    have c23b0 : (((rd_T26 l0_0 x10_1).f1).toList == a1.toList) = false := beq_eq_false_iff_ne.mpr c23
                    have c23b1 : (((rd_T26 l0_0 x10_1).f1).toList != a1.toList) = true := bne_iff_ne.mpr c23
                    by_cases c29 : ((rd_T26 l0_0 x10_1).f2).toList = a1.toList
                    · rw [if_pos c29] at H
                      have c29b0 : (((rd_T26 l0_0 x10_1).f2).toList == a1.toList) = true := beq_iff_eq.mpr c29
                      have c29b1 : (((rd_T26 l0_0 x10_1).f2).toList != a1.toList) = false := bne_eq_false_iff_eq.mpr c29
                      clear c29
                      have H' := Aside0.mk H
                      clear H;have hnb30 := NB364_361.out;have hnc30 := NB361_364.out;have hcz31_0 : wc.cell? ⟨gb364,0,none⟩ = some (.int .i64 ((rd_T26 l0_0 x10_1).f0)) := (blk_cell BK364.out 0).trans rfl;have hcz31_1 : wc.cell? ⟨gb364,1,none⟩ = some (.string ((rd_T26 l0_0 x10_1).f1)) := (blk_cell BK364.out 1).trans rfl;have hcz31_2 : wc.cell? ⟨gb364,2,none⟩ = some (.string ((rd_T26 l0_0 x10_1).f2)) := (blk_cell BK364.out 2).trans rfl;have hcz31_3 : wc.cell? ⟨gb364,3,none⟩ = some (.int .i64 ((rd_T26 l0_0 x10_1).f3)) := (blk_cell BK364.out 3).trans rfl;have hcz31_4 : wc.cell? ⟨gb364,4,none⟩ = some (.int .i64 ((rd_T26 l0_0 x10_1).f4)) := (blk_cell BK364.out 4).trans rfl;have hcz31_5 : wc.cell? ⟨gb364,5,none⟩ = some (.int .i64 ((rd_T26 l0_0 x10_1).f5)) := (blk_cell BK364.out 5).trans rfl;have hfz31_0 := blk_frozen BK364.out 0;have hfz31_1 := blk_frozen BK364.out 1;have hfz31_2 := blk_frozen BK364.out 2;have hfz31_3 := blk_frozen BK364.out 3;have hfz31_4 := blk_frozen BK364.out 4;have hfz31_5 := blk_frozen BK364.out 5
                      go_wp2
                      go_roundg kj11
                      case measure => have := HK1.out;have := HJ11.out;omega
                      case rel => exact ⟨(wrap64 (x9_1 - ((rd_T26 l0_0 x10_1).f3))),(wrap64 (x10_1 + 1)),(by first | rfl | (simp;done) | (simp [*];done)),(by first | rfl | (simp;done) | (simp [*];done)),H',⟨by have := HK1.out;have := HJ11.out;omega⟩,⟨by (with_reducible repeat (first | refine blk_drewN ?_ _ | refine blk_drew ?_ | refine blk_alloc ?_ _));exact BK361.out⟩,⟨by repeat (first | (with_reducible first | exact HB.out | apply below_alloc | apply pw_below_drewN | apply below_drew1 | refine below_set ?_ GE361.out | refine below_set ?_ GE364.out) | exact HB.out)⟩⟩
                    · rw [if_neg c29] at H
                      have c29b0 : (((rd_T26 l0_0 x10_1).f2).toList == a1.toList) = false := beq_eq_false_iff_ne.mpr c29
                      have c29b1 : (((rd_T26 l0_0 x10_1).f2).toList != a1.toList) = true := bne_iff_ne.mpr c29
                      have H' := Aside0.mk H
                      clear H;have hnb32 := NB364_361.out;have hnc32 := NB361_364.out;have hcz33_0 : wc.cell? ⟨gb364,0,none⟩ = some (.int .i64 ((rd_T26 l0_0 x10_1).f0)) := (blk_cell BK364.out 0).trans rfl;have hcz33_1 : wc.cell? ⟨gb364,1,none⟩ = some (.string ((rd_T26 l0_0 x10_1).f1)) := (blk_cell BK364.out 1).trans rfl;have hcz33_2 : wc.cell? ⟨gb364,2,none⟩ = some (.string ((rd_T26 l0_0 x10_1).f2)) := (blk_cell BK364.out 2).trans rfl;have hcz33_3 : wc.cell? ⟨gb364,3,none⟩ = some (.int .i64 ((rd_T26 l0_0 x10_1).f3)) := (blk_cell BK364.out 3).trans rfl;have hcz33_4 : wc.cell? ⟨gb364,4,none⟩ = some (.int .i64 ((rd_T26 l0_0 x10_1).f4)) := (blk_cell BK364.out 4).trans rfl;have hcz33_5 : wc.cell? ⟨gb364,5,none⟩ = some (.int .i64 ((rd_T26 l0_0 x10_1).f5)) := (blk_cell BK364.out 5).trans rfl;have hfz33_0 := blk_frozen BK364.out 0;have hfz33_1 := blk_frozen BK364.out 1;have hfz33_2 := blk_frozen BK364.out 2;have hfz33_3 := blk_frozen BK364.out 3;have hfz33_4 := blk_frozen BK364.out 4;have hfz33_5 := blk_frozen BK364.out 5
                      go_wp2
                      go_roundg kj11
                      case measure => have := HK1.out;have := HJ11.out;omega
                      case rel => exact ⟨(x9_1),(wrap64 (x10_1 + 1)),(by first | rfl | (simp;done) | (simp [*];done)),(by first | rfl | (simp;done) | (simp [*];done)),H',⟨by have := HK1.out;have := HJ11.out;omega⟩,⟨by (with_reducible repeat (first | refine blk_drewN ?_ _ | refine blk_drew ?_ | refine blk_alloc ?_ _));exact BK361.out⟩,⟨by repeat (first | (with_reducible first | exact HB.out | apply below_alloc | apply pw_below_drewN | apply below_drew1 | refine below_set ?_ GE361.out | refine below_set ?_ GE364.out) | exact HB.out)⟩⟩
          · rw [if_neg c11] at H
            exact absurd H (by simp)
        · rw [if_neg c10] at H
          have c10b0 : decide (x10_1 < (l0_0.length : Int)) = false := decide_eq_false c10
          clear c10
          obtain rfl := Option.some.inj H
          have hcz34_0 : wr.cell? ⟨gb361,0,none⟩ = some (.slice A0_0 l0_0.length c0_0) := (blk_cell BK361.out 0).trans rfl;have hfz34_0 := blk_frozen BK361.out 0
          go_wp2
          go_ret
          exact ⟨by first | rfl | (simp [errW_none,errW_some] <;> rfl) | (simp [*,errW_none,errW_some] <;> rfl),by repeat (first | (with_reducible first | exact HB.out | apply below_alloc | apply pw_below_drewN | apply below_drew1 | refine below_set ?_ GE361.out) | exact HB.out)⟩
  · replace c6 := Bool.eq_false_iff.mpr c6
    subst c6
    have H1 : (some 0) = some r := by rw [if_neg (show ¬ (false = true) by decide)] at H;exact H
    clear H
    have H := H1
    clear H1
    obtain rfl := Option.some.inj H
    go_enter Try.func25,Try.ntmps25
    go_wp2_with (first | ((with_reducible refine gate_dst (N := 4) rfl ?_);refine box_event ?hg (N := 4) ?hd (cs := #[.slice A0_0 l0_0.length c0_0]) (t := 24) ?hr ?_;(case hd => rfl);(case hg => rfl);(case hr => first | (go_simp;done) | (go_simp;rfl));intro gb361 hg w35 hbox hb;have n0_ := Aside0.mk (below_step (by repeat (first | (with_reducible first | exact HB.out | apply below_alloc | apply pw_below_drewN | apply below_drew1) | exact HB.out)) hb);have n1_ := Aside0.mk (hbox);have n2_ := Aside0.mk ((by rw [hg];exact (below_size (by repeat (first | (with_reducible first | exact HB.out | apply below_alloc | apply pw_below_drewN | apply below_drew1) | exact HB.out))) : w.heap.size ≤ gb361));have n3_ := Aside0.mk ((by rw [hg];exact (below_size (by repeat (first | (with_reducible first | exact HB.out | apply below_alloc | apply pw_below_drewN | apply below_drew1) | exact HB.out))) : w.heap.size ≤ gb361));clear HB;have HB := n0_;have BK361 := n1_;have GW361 := n2_;have GE361 := n3_;clear n0_ n1_ n2_ n3_;clear hb hbox hg;have hcz36_0 : w35.cell? ⟨gb361,0,none⟩ = some (.slice A0_0 l0_0.length c0_0) := (blk_cell BK361.out 0).trans rfl;have hfz36_0 := blk_frozen BK361.out 0) | ((with_reducible refine gate_callee (f := 22) rfl ?_);refine goesL_ (some 13) rfl rfl Try.func22 (by kernel_rfl) rfl #[.agg #[.slice A0_0 l0_0.length c0_0]] rfl (by (try simp only [List.map_toArray,List.map_cons,List.map_nil]);first | done | rfl | (simp only [List.length_drop,List.length_take];rfl)) ?_;(with_reducible refine (wageofficeref39_Valid.calls k _ _ l0_0 false _ ?side1 ?side2 A5.out).mono ?_);(case side1 => repeat (first | exact (Kd.C_below HR0_0.out HB.out) | (with_reducible refine Kd.C_alloc ?_ _) | (with_reducible refine Kd.C_drewN ?_ _) | (with_reducible refine Kd.C_drew ?_)));(case side2 => exact HC0_0.out);rintro e w37 ⟨rfl,hb⟩;refine ⟨_,rfl,?_⟩;have n0_ := Aside0.mk (blk_below (g := gb361) (o := .cells #[.slice A0_0 l0_0.length c0_0] 24 (0,0)) (by (with_reducible repeat (first | refine blk_drewN ?_ _ | refine blk_drew ?_ | refine blk_alloc ?_ _));exact BK361.out) hb);have n1_ := Aside0.mk (below_step (by repeat (first | (with_reducible first | exact HB.out | apply below_alloc | apply pw_below_drewN | apply below_drew1 | refine below_set ?_ GE361.out) | exact HB.out)) hb);clear BK361;clear HB;have BK361 := n0_;have HB := n1_;clear n0_ n1_;(try clear hb);(try clear hb2);(try clear hk);(try clear hi)))
    go_ret
    exact ⟨by first | rfl | (simp [errW_none,errW_some] <;> rfl) | (simp [*,errW_none,errW_some] <;> rfl),by repeat (first | (with_reducible first | exact HB.out | apply below_alloc | apply pw_below_drewN | apply below_drew1 | refine below_set ?_ GE361.out) | exact HB.out)⟩

end Go.Proofs.Ytbmochegfdljfaa.My
