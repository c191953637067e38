-- Written by a program of this session (wip/myprint.py),which drives the kit's print over hand-written fragments. Not trusted: Lean checks it.
import Derived.Test.YtbmochegfdljfaaMyx0
import Derived.Test.YtbmochegfdljfaaMyx80
import Derived.Test.YtbmochegfdljfaaMyx81
namespace Go.Proofs.Ytbmochegfdljfaa.My
open Go.Proofs.Ytbmochegfdljfaa.Aid Go.Proofs.Ytbmochegfdljfaa.KdX
open Go.RowKit Go.Proofs.YtbmochegfdljfaaW.PrintWords Go.Proofs.YtbmochegfdljfaaW.PrintLast Go.Proofs.YtbmochegfdljfaaW.PrintMore
attribute [local go_sem] max2_int min2_int max_two min_two max_three min_three max_four min_four   -- for this text's walks alone
set_option linter.unusedVariables false
set_option linter.unusedSimpArgs false

/-! ### wageofficeref39_Formed: function 51 -/
def wageofficeref39_Formed.j0 : Nat → Bool → Int → ByteArray → ByteArray → Int → Int → Int → Option (Bool)
  | 0,_,_,_,_,_,_,_ => none
  | k + 1,x29,x322000,x322001,x322002,x322003,x322004,x322005 => if x29 = true then (some false) else (if x322003 ≥ 1 then (if x322003 ≤ 1000000000000 then ((wageofficeref12_Day.f x322004).bind fun t324 => (if t324 = true then ((wageofficeref12_Day.f x322005).bind fun t325 => (some t325)) else (some false))) else (some false)) else (some false))
def wageofficeref39_Formed.f (k : Nat) (a0_0 : Int) (a0_1 : ByteArray) (a0_2 : ByteArray) (a0_3 : Int) (a0_4 : Int) (a0_5 : Int) : Option (Bool) := if a0_0 < 0 then (wageofficeref39_Formed.j0 k true a0_0 a0_1 a0_2 a0_3 a0_4 a0_5) else (if a0_0 > 1000000000000 then (wageofficeref39_Formed.j0 k true a0_0 a0_1 a0_2 a0_3 a0_4 a0_5) else ((wageofficeref12_Name.f k a0_1).bind fun t322 => (if t322 = true then ((wageofficeref12_Name.f k a0_2).bind fun t323 => (if t323 = true then (wageofficeref39_Formed.j0 k (a0_1.toList == a0_2.toList) a0_0 a0_1 a0_2 a0_3 a0_4 a0_5) else (wageofficeref39_Formed.j0 k true a0_0 a0_1 a0_2 a0_3 a0_4 a0_5))) else (wageofficeref39_Formed.j0 k true a0_0 a0_1 a0_2 a0_3 a0_4 a0_5))))
theorem wageofficeref39_Formed.mono_l : ∀ k,(∀ y0 y1 y2 y3 y4 y5 y6,LeO (wageofficeref39_Formed.j0 k y0 y1 y2 y3 y4 y5 y6) (wageofficeref39_Formed.j0 (k + 1) y0 y1 y2 y3 y4 y5 y6))
  | 0 => fun _ _ _ _ _ _ _ r h => by simp [wageofficeref39_Formed.j0] at h
  | k + 1 => by
    have ih0 := wageofficeref39_Formed.mono_l k
    · intro y0 y1 y2 y3 y4 y5 y6
      unfold wageofficeref39_Formed.j0
      repeat' first
      | (with_reducible exact ih0 _ _ _ _ _ _ _)
      | (with_reducible exact wageofficeref12_Name.mono _ _)
      | (with_reducible exact LeO.refl _)
      | (with_reducible exact LeO.none _)
      | (with_reducible refine LeO.ite ?_ ?_)
      | (with_reducible refine LeO.bind ?_ (fun _ => ?_))
      | exact ih0 _ _ _ _ _ _ _
      | exact wageofficeref12_Name.mono _ _
      | exact LeO.none _
      | refine LeO.ite ?_ ?_
      | refine LeO.bind ?_ (fun _ => ?_)
theorem wageofficeref39_Formed.mono : ∀ a0 a1 a2 a3 a4 a5 k,LeO (wageofficeref39_Formed.f k a0 a1 a2 a3 a4 a5) (wageofficeref39_Formed.f (k + 1) a0 a1 a2 a3 a4 a5) := by
  intro a0 a1 a2 a3 a4 a5 k
  have ih0 := wageofficeref39_Formed.mono_l k
  unfold wageofficeref39_Formed.f
  repeat' first
      | (with_reducible exact ih0 _ _ _ _ _ _ _)
      | (with_reducible exact wageofficeref12_Name.mono _ _)
      | (with_reducible exact LeO.refl _)
      | (with_reducible exact LeO.none _)
      | (with_reducible refine LeO.ite ?_ ?_)
      | (with_reducible refine LeO.bind ?_ (fun _ => ?_))
      | exact ih0 _ _ _ _ _ _ _
      | exact wageofficeref12_Name.mono _ _
      | exact LeO.none _
      | refine LeO.ite ?_ ?_
      | refine LeO.bind ?_ (fun _ => ?_)
set_option maxHeartbeats 8000000 in
set_option maxRecDepth 100000 in
theorem wageofficeref39_Formed.calls (k : Nat) (a0_0 : Int) (a0_1 : ByteArray) (a0_2 : ByteArray) (a0_3 : Int) (a0_4 : Int) (a0_5 : Int) (r : Bool) (w : World) (h : wageofficeref39_Formed.f k a0_0 a0_1 a0_2 a0_3 a0_4 a0_5 = some r) :
    Calls Try.prog 51 #[.agg #[.int .i64 a0_0,.string a0_1,.string a0_2,.int .i64 a0_3,.int .i64 a0_4,.int .i64 a0_5]] w fun e w' => e = .returned (.bool r) ∧ Below w.heap.size w w' := by
  have hu26 := Try.underlying26
  have HB := Aside0.mk (Below.refl w.heap.size w)
  have H : (if a0_0 < 0 then (wageofficeref39_Formed.j0 k true a0_0 a0_1 a0_2 a0_3 a0_4 a0_5) else (if a0_0 > 1000000000000 then (wageofficeref39_Formed.j0 k true a0_0 a0_1 a0_2 a0_3 a0_4 a0_5) else ((wageofficeref12_Name.f k a0_1).bind fun t322 => (if t322 = true then ((wageofficeref12_Name.f k a0_2).bind fun t323 => (if t323 = true then (wageofficeref39_Formed.j0 k (a0_1.toList == a0_2.toList) a0_0 a0_1 a0_2 a0_3 a0_4 a0_5) else (wageofficeref39_Formed.j0 k true a0_0 a0_1 a0_2 a0_3 a0_4 a0_5))) else (wageofficeref39_Formed.j0 k true a0_0 a0_1 a0_2 a0_3 a0_4 a0_5))))) = some r := h
  clear h
  have HC2 := Aside0.mk H
  clear H
  go_enter Try.func51,Try.ntmps51
  go_upto_region 1 with (first | ((with_reducible refine gate_dst (N := 1) rfl ?_);refine box_event ?hg (N := 1) ?hd (cs := #[.int .i64 a0_0,.string a0_1,.string a0_2,.int .i64 a0_3,.int .i64 a0_4,.int .i64 a0_5]) (t := 26) ?hr ?_;(case hd => rfl);(case hg => rfl);(case hr => first | (go_simp;done) | (go_simp;rfl));intro gb321 hg w3 hbox hb;have n0_ := Aside0.mk (below_step (by repeat (first | (with_reducible first | exact HB.out | apply below_alloc | apply pw_below_drewN | apply below_drew1) | exact HB.out)) hb);have n1_ := Aside0.mk (hbox);have n2_ := Aside0.mk ((by rw [hg];exact (below_size (by repeat (first | (with_reducible first | exact HB.out | apply below_alloc | apply pw_below_drewN | apply below_drew1) | exact HB.out))) : w.heap.size ≤ gb321));have n3_ := Aside0.mk ((by rw [hg];exact (below_size (by repeat (first | (with_reducible first | exact HB.out | apply below_alloc | apply pw_below_drewN | apply below_drew1) | exact HB.out))) : w.heap.size ≤ gb321));clear HB;have HB := n0_;have BK321 := n1_;have GW321 := n2_;have GE321 := n3_;clear n0_ n1_ n2_ n3_;clear hb hbox hg))
  (try simp only [Act.put,List.setIfInBounds_toArray,List.set_cons_zero,List.set_cons_succ])
  go_cut [29] (fun v29 wc => ∃ (kq : Nat) (x29_1 : Bool),v29 = .bool x29_1 ∧ Aside0 (wageofficeref39_Formed.j0 kq x29_1 a0_0 a0_1 a0_2 a0_3 a0_4 a0_5 = some r) ∧ Aside0 (kq ≤ k) ∧ Aside0 (wc.heap[gb321]? = some (.cells #[.int .i64 a0_0,.string a0_1,.string a0_2,.int .i64 a0_3,.int .i64 a0_4,.int .i64 a0_5] 26 (0,0))) ∧ Aside0 (Below w.heap.size w wc))
  case first =>
    have H := HC2.out
    clear HC2
    by_cases c4 : a0_0 < 0
    · rw [if_pos c4] at H
      have c4b0 : decide (a0_0 < 0) = true := decide_eq_true c4
      clear c4
      (first | rw [c4b0] | (simp only [i64_w,i32_w];rw [c4b0]) | skip)
      have H' := Aside0.mk H
      clear H;have hcz5_0 : w3.cell? ⟨gb321,0,none⟩ = some (.int .i64 a0_0) := (blk_cell BK321.out 0).trans rfl;have hcz5_1 : w3.cell? ⟨gb321,1,none⟩ = some (.string a0_1) := (blk_cell BK321.out 1).trans rfl;have hcz5_2 : w3.cell? ⟨gb321,2,none⟩ = some (.string a0_2) := (blk_cell BK321.out 2).trans rfl;have hcz5_3 : w3.cell? ⟨gb321,3,none⟩ = some (.int .i64 a0_3) := (blk_cell BK321.out 3).trans rfl;have hcz5_4 : w3.cell? ⟨gb321,4,none⟩ = some (.int .i64 a0_4) := (blk_cell BK321.out 4).trans rfl;have hcz5_5 : w3.cell? ⟨gb321,5,none⟩ = some (.int .i64 a0_5) := (blk_cell BK321.out 5).trans rfl;have hfz5_0 := blk_frozen BK321.out 0;have hfz5_1 := blk_frozen BK321.out 1;have hfz5_2 := blk_frozen BK321.out 2;have hfz5_3 := blk_frozen BK321.out 3;have hfz5_4 := blk_frozen BK321.out 4;have hfz5_5 := blk_frozen BK321.out 5
      go_wp2
      go_meet
      case rel => exact ⟨_,(true),(by first | rfl | (simp;done) | (simp [*];done)),H',⟨by first | omega | exact Nat.le_refl _⟩,⟨by (with_reducible repeat (first | refine blk_drewN ?_ _ | refine blk_drew ?_ | refine blk_alloc ?_ _));exact BK321.out⟩,⟨by repeat (first | (with_reducible first | exact HB.out | apply below_alloc | apply pw_below_drewN | apply below_drew1 | refine below_set ?_ GE321.out) | exact HB.out)⟩⟩
    · rw [if_neg c4] at H
      have c4b0 : decide (a0_0 < 0) = false := decide_eq_false c4
      clear c4
      (first | rw [c4b0] | (simp only [i64_w,i32_w];rw [c4b0]) | skip)
      by_cases c6 : a0_0 > 1000000000000
      · rw [if_pos c6] at H
        have c6b0 : decide (1000000000000 < a0_0) = true := decide_eq_true c6
        clear c6
        have H' := Aside0.mk H
        clear H;have hcz7_0 : w3.cell? ⟨gb321,0,none⟩ = some (.int .i64 a0_0) := (blk_cell BK321.out 0).trans rfl;have hcz7_1 : w3.cell? ⟨gb321,1,none⟩ = some (.string a0_1) := (blk_cell BK321.out 1).trans rfl;have hcz7_2 : w3.cell? ⟨gb321,2,none⟩ = some (.string a0_2) := (blk_cell BK321.out 2).trans rfl;have hcz7_3 : w3.cell? ⟨gb321,3,none⟩ = some (.int .i64 a0_3) := (blk_cell BK321.out 3).trans rfl;have hcz7_4 : w3.cell? ⟨gb321,4,none⟩ = some (.int .i64 a0_4) := (blk_cell BK321.out 4).trans rfl;have hcz7_5 : w3.cell? ⟨gb321,5,none⟩ = some (.int .i64 a0_5) := (blk_cell BK321.out 5).trans rfl;have hfz7_0 := blk_frozen BK321.out 0;have hfz7_1 := blk_frozen BK321.out 1;have hfz7_2 := blk_frozen BK321.out 2;have hfz7_3 := blk_frozen BK321.out 3;have hfz7_4 := blk_frozen BK321.out 4;have hfz7_5 := blk_frozen BK321.out 5
        go_wp2
        go_meet
        case rel => exact ⟨_,(true),(by first | rfl | (simp;done) | (simp [*];done)),H',⟨by first | omega | exact Nat.le_refl _⟩,⟨by (with_reducible repeat (first | refine blk_drewN ?_ _ | refine blk_drew ?_ | refine blk_alloc ?_ _));exact BK321.out⟩,⟨by repeat (first | (with_reducible first | exact HB.out | apply below_alloc | apply pw_below_drewN | apply below_drew1 | refine below_set ?_ GE321.out) | exact HB.out)⟩⟩
      · rw [if_neg c6] at H
        have c6b0 : decide (1000000000000 < a0_0) = false := decide_eq_false c6
        clear c6
        replace H := Option.bind_eq_some_iff.mp H
        obtain ⟨t322,A80,H⟩ := H
        replace H : (if t322 = true then ((wageofficeref12_Name.f k a0_2).bind fun t323 => (if t323 = true then (wageofficeref39_Formed.j0 k (a0_1.toList == a0_2.toList) a0_0 a0_1 a0_2 a0_3 a0_4 a0_5) else (wageofficeref39_Formed.j0 k true a0_0 a0_1 a0_2 a0_3 a0_4 a0_5))) else (wageofficeref39_Formed.j0 k true a0_0 a0_1 a0_2 a0_3 a0_4 a0_5)) = some r := H
        have A8 := Aside0.mk A80
        clear A80
        by_cases c9 : t322 = true
        · subst c9
          have H1 : ((wageofficeref12_Name.f k a0_2).bind fun t323 => (if t323 = true then (wageofficeref39_Formed.j0 k (a0_1.toList == a0_2.toList) a0_0 a0_1 a0_2 a0_3 a0_4 a0_5) else (wageofficeref39_Formed.j0 k true a0_0 a0_1 a0_2 a0_3 a0_4 a0_5))) = some r := by rw [if_pos rfl] at H;exact H
          clear H
          have H := H1
          clear H1
          replace H := Option.bind_eq_some_iff.mp H
          obtain ⟨t323,A100,H⟩ := H
          replace H : (if t323 = true then (wageofficeref39_Formed.j0 k (a0_1.toList == a0_2.toList) a0_0 a0_1 a0_2 a0_3 a0_4 a0_5) else (wageofficeref39_Formed.j0 k true a0_0 a0_1 a0_2 a0_3 a0_4 a0_5)) = some r := H
          have A10 := Aside0.mk A100
          clear A100
          by_cases c11 : t323 = true
          · subst c11
            have H1 : (wageofficeref39_Formed.j0 k (a0_1.toList == a0_2.toList) a0_0 a0_1 a0_2 a0_3 a0_4 a0_5) = some r := by rw [if_pos rfl] at H;exact H
            clear H
            have H := H1
            clear H1
            have H' := Aside0.mk H
            clear H;have hcz12_0 : w3.cell? ⟨gb321,0,none⟩ = some (.int .i64 a0_0) := (blk_cell BK321.out 0).trans rfl;have hcz12_1 : w3.cell? ⟨gb321,1,none⟩ = some (.string a0_1) := (blk_cell BK321.out 1).trans rfl;have hcz12_2 : w3.cell? ⟨gb321,2,none⟩ = some (.string a0_2) := (blk_cell BK321.out 2).trans rfl;have hcz12_3 : w3.cell? ⟨gb321,3,none⟩ = some (.int .i64 a0_3) := (blk_cell BK321.out 3).trans rfl;have hcz12_4 : w3.cell? ⟨gb321,4,none⟩ = some (.int .i64 a0_4) := (blk_cell BK321.out 4).trans rfl;have hcz12_5 : w3.cell? ⟨gb321,5,none⟩ = some (.int .i64 a0_5) := (blk_cell BK321.out 5).trans rfl;have hfz12_0 := blk_frozen BK321.out 0;have hfz12_1 := blk_frozen BK321.out 1;have hfz12_2 := blk_frozen BK321.out 2;have hfz12_3 := blk_frozen BK321.out 3;have hfz12_4 := blk_frozen BK321.out 4;have hfz12_5 := blk_frozen BK321.out 5
            go_wp2_with (first | (go_at_call 80;(with_reducible refine (wageofficeref12_Name.calls k a0_1 true _ A8.out).mono ?_);rintro e w' ⟨rfl,⟨nd,rfl⟩⟩) | (go_at_call 80;(with_reducible refine (wageofficeref12_Name.calls k a0_2 true _ A10.out).mono ?_);rintro e w' ⟨rfl,⟨nd,rfl⟩⟩))
            go_meet
            case rel => exact ⟨_,((a0_1.toList == a0_2.toList)),(by first | rfl | (simp;done) | (simp [*];done)),H',⟨by first | omega | exact Nat.le_refl _⟩,⟨by (with_reducible repeat (first | refine blk_drewN ?_ _ | refine blk_drew ?_ | refine blk_alloc ?_ _));exact BK321.out⟩,⟨by repeat (first | (with_reducible first | exact HB.out | apply below_alloc | apply pw_below_drewN | apply below_drew1 | refine below_set ?_ GE321.out) | exact HB.out)⟩⟩
          · replace c11 := Bool.eq_false_iff.mpr c11
            subst c11
            have H1 : (wageofficeref39_Formed.j0 k true a0_0 a0_1 a0_2 a0_3 a0_4 a0_5) = some r := by rw [if_neg (show ¬ (false = true) by decide)] at H;exact H
            clear H
            have H := H1
            clear H1
            have H' := Aside0.mk H
            clear H;have hcz13_0 : w3.cell? ⟨gb321,0,none⟩ = some (.int .i64 a0_0) := (blk_cell BK321.out 0).trans rfl;have hcz13_1 : w3.cell? ⟨gb321,1,none⟩ = some (.string a0_1) := (blk_cell BK321.out 1).trans rfl;have hcz13_2 : w3.cell? ⟨gb321,2,none⟩ = some (.string a0_2) := (blk_cell BK321.out 2).trans rfl;have hcz13_3 : w3.cell? ⟨gb321,3,none⟩ = some (.int .i64 a0_3) := (blk_cell BK321.out 3).trans rfl;have hcz13_4 : w3.cell? ⟨gb321,4,none⟩ = some (.int .i64 a0_4) := (blk_cell BK321.out 4).trans rfl;have hcz13_5 : w3.cell? ⟨gb321,5,none⟩ = some (.int .i64 a0_5) := (blk_cell BK321.out 5).trans rfl;have hfz13_0 := blk_frozen BK321.out 0;have hfz13_1 := blk_frozen BK321.out 1;have hfz13_2 := blk_frozen BK321.out 2;have hfz13_3 := blk_frozen BK321.out 3;have hfz13_4 := blk_frozen BK321.out 4;have hfz13_5 := blk_frozen BK321.out 5
            go_wp2_with (first | (go_at_call 80;(with_reducible refine (wageofficeref12_Name.calls k a0_1 true _ A8.out).mono ?_);rintro e w' ⟨rfl,⟨nd,rfl⟩⟩) | (go_at_call 80;(with_reducible refine (wageofficeref12_Name.calls k a0_2 false _ A10.out).mono ?_);rintro e w' ⟨rfl,⟨nd,rfl⟩⟩))
            go_meet
            case rel => exact ⟨_,(true),(by first | rfl | (simp;done) | (simp [*];done)),H',⟨by first | omega | exact Nat.le_refl _⟩,⟨by (with_reducible repeat (first | refine blk_drewN ?_ _ | refine blk_drew ?_ | refine blk_alloc ?_ _));exact BK321.out⟩,⟨by repeat (first | (with_reducible first | exact HB.out | apply below_alloc | apply pw_below_drewN | apply below_drew1 | refine below_set ?_ GE321.out) | exact HB.out)⟩⟩
        · replace c9 := Bool.eq_false_iff.mpr c9
          subst c9
          have H1 : (wageofficeref39_Formed.j0 k true a0_0 a0_1 a0_2 a0_3 a0_4 a0_5) = some r := by rw [if_neg (show ¬ (false = true) by decide)] at H;exact H
          clear H
          have H := H1
          clear H1
          have H' := Aside0.mk H
          clear H;have hcz14_0 : w3.cell? ⟨gb321,0,none⟩ = some (.int .i64 a0_0) := (blk_cell BK321.out 0).trans rfl;have hcz14_1 : w3.cell? ⟨gb321,1,none⟩ = some (.string a0_1) := (blk_cell BK321.out 1).trans rfl;have hcz14_2 : w3.cell? ⟨gb321,2,none⟩ = some (.string a0_2) := (blk_cell BK321.out 2).trans rfl;have hcz14_3 : w3.cell? ⟨gb321,3,none⟩ = some (.int .i64 a0_3) := (blk_cell BK321.out 3).trans rfl;have hcz14_4 : w3.cell? ⟨gb321,4,none⟩ = some (.int .i64 a0_4) := (blk_cell BK321.out 4).trans rfl;have hcz14_5 : w3.cell? ⟨gb321,5,none⟩ = some (.int .i64 a0_5) := (blk_cell BK321.out 5).trans rfl;have hfz14_0 := blk_frozen BK321.out 0;have hfz14_1 := blk_frozen BK321.out 1;have hfz14_2 := blk_frozen BK321.out 2;have hfz14_3 := blk_frozen BK321.out 3;have hfz14_4 := blk_frozen BK321.out 4;have hfz14_5 := blk_frozen BK321.out 5
          go_wp2_with (first | (go_at_call 80;(with_reducible refine (wageofficeref12_Name.calls k a0_1 false _ A8.out).mono ?_);rintro e w' ⟨rfl,⟨nd,rfl⟩⟩))
          go_meet
          case rel => exact ⟨_,(true),(by first | rfl | (simp;done) | (simp [*];done)),H',⟨by first | omega | exact Nat.le_refl _⟩,⟨by (with_reducible repeat (first | refine blk_drewN ?_ _ | refine blk_drew ?_ | refine blk_alloc ?_ _));exact BK321.out⟩,⟨by repeat (first | (with_reducible first | exact HB.out | apply below_alloc | apply pw_below_drewN | apply below_drew1 | refine below_set ?_ GE321.out) | exact HB.out)⟩⟩
  case rest =>
    clear HC2;(try clear c1);(try clear p2);(try clear c4);(try clear c4b0);(try clear c5);(try clear c6);(try clear c6b0);(try clear c9);(try clear c11);(try clear hcz12_0);(try clear hcz12_1);(try clear hcz12_2);(try clear hcz12_3);(try clear hcz12_4);(try clear hcz12_5);(try clear hcz13_0);(try clear hcz13_1);(try clear hcz13_2);(try clear hcz13_3);(try clear hcz13_4);(try clear hcz13_5);(try clear hcz14_0);(try clear hcz14_1);(try clear hcz14_2);(try clear hcz14_3);(try clear hcz14_4);(try clear hcz14_5);(try clear hcz5_0);(try clear hcz5_1);(try clear hcz5_2);(try clear hcz5_3);(try clear hcz5_4);(try clear hcz5_5);(try clear hcz7_0);(try clear hcz7_1);(try clear hcz7_2);(try clear hcz7_3);(try clear hcz7_4);(try clear hcz7_5);(try clear hfz12_0);(try clear hfz12_1);(try clear hfz12_2);(try clear hfz12_3);(try clear hfz12_4);(try clear hfz12_5);(try clear hfz13_0);(try clear hfz13_1);(try clear hfz13_2);(try clear hfz13_3);(try clear hfz13_4);(try clear hfz13_5);(try clear hfz14_0);(try clear hfz14_1);(try clear hfz14_2);(try clear hfz14_3);(try clear hfz14_4);(try clear hfz14_5);(try clear hfz5_0);(try clear hfz5_1);(try clear hfz5_2);(try clear hfz5_3);(try clear hfz5_4);(try clear hfz5_5);(try clear hfz7_0);(try clear hfz7_1);(try clear hfz7_2);(try clear hfz7_3);(try clear hfz7_4);(try clear hfz7_5)
    obtain ⟨kq,x29_1,rfl,HA,HJ1,BK321,HB⟩ := hcut
    cases kq with
    | zero => exact absurd HA.out (by simp [wageofficeref39_Formed.j0])
    | succ kj1 =>
      have H := HA.out
      clear HA
      simp only [wageofficeref39_Formed.j0] at H
      by_cases c15 : x29_1 = true
      · subst c15
        have H1 : (some false) = some r := by rw [if_pos rfl] at H;exact H
        clear H
        have H := H1
        clear H1
        obtain rfl := Option.some.inj H
        go_wp2
        go_ret
        exact ⟨by first | rfl | (simp [errW_none,errW_some] <;> rfl) | (simp [*,errW_none,errW_some] <;> rfl),by repeat (first | (with_reducible first | exact HB.out | apply below_alloc | apply pw_below_drewN | apply below_drew1 | refine below_set ?_ GE321.out) | exact HB.out)⟩
      · replace c15 := Bool.eq_false_iff.mpr c15
        subst c15
        have H1 : (if a0_3 ≥ 1 then (if a0_3 ≤ 1000000000000 then ((wageofficeref12_Day.f a0_4).bind fun t324 => (if t324 = true then ((wageofficeref12_Day.f a0_5).bind fun t325 => (some t325)) else (some false))) else (some false)) else (some false)) = some r := by rw [if_neg (show ¬ (false = true) by decide)] at H;exact H
        clear H
        have H := H1
        clear H1
        by_cases c16 : a0_3 ≥ 1
        · rw [if_pos c16] at H
          have c16b0 : decide (1 ≤ a0_3) = true := decide_eq_true c16
          clear c16
          by_cases c17 : a0_3 ≤ 1000000000000
          · rw [if_pos c17] at H
            have c17b0 : decide (a0_3 ≤ 1000000000000) = true := decide_eq_true c17
            clear c17
            replace H := Option.bind_eq_some_iff.mp H
            obtain ⟨t324,A180,H⟩ := H
            replace H : (if t324 = true then ((wageofficeref12_Day.f a0_5).bind fun t325 => (some t325)) else (some false)) = some r := H
            have A18 := Aside0.mk A180
            clear A180
            by_cases c19 : t324 = true
            · subst c19
              have H1 : ((wageofficeref12_Day.f a0_5).bind fun t325 => (some t325)) = some r := by rw [if_pos rfl] at H;exact H
              clear H
              have H := H1
              clear H1
              replace H := Option.bind_eq_some_iff.mp H
              obtain ⟨t325,A200,H⟩ := H
              replace H : (some t325) = some r := H
              have A20 := Aside0.mk A200
              clear A200
              obtain rfl := Option.some.inj H
              have hcz21_0 : wc.cell? ⟨gb321,0,none⟩ = some (.int .i64 a0_0) := (blk_cell BK321.out 0).trans rfl;have hcz21_1 : wc.cell? ⟨gb321,1,none⟩ = some (.string a0_1) := (blk_cell BK321.out 1).trans rfl;have hcz21_2 : wc.cell? ⟨gb321,2,none⟩ = some (.string a0_2) := (blk_cell BK321.out 2).trans rfl;have hcz21_3 : wc.cell? ⟨gb321,3,none⟩ = some (.int .i64 a0_3) := (blk_cell BK321.out 3).trans rfl;have hcz21_4 : wc.cell? ⟨gb321,4,none⟩ = some (.int .i64 a0_4) := (blk_cell BK321.out 4).trans rfl;have hcz21_5 : wc.cell? ⟨gb321,5,none⟩ = some (.int .i64 a0_5) := (blk_cell BK321.out 5).trans rfl;have hfz21_0 := blk_frozen BK321.out 0;have hfz21_1 := blk_frozen BK321.out 1;have hfz21_2 := blk_frozen BK321.out 2;have hfz21_3 := blk_frozen BK321.out 3;have hfz21_4 := blk_frozen BK321.out 4;have hfz21_5 := blk_frozen BK321.out 5
              go_wp2_with (first | (go_at_call 81;(with_reducible refine (wageofficeref12_Day.calls a0_4 true _ A18.out).mono ?_);rintro e w' ⟨rfl,⟨nd,rfl⟩⟩) | (go_at_call 81;(with_reducible refine (wageofficeref12_Day.calls a0_5 t325 _ A20.out).mono ?_);rintro e w' ⟨rfl,⟨nd,rfl⟩⟩))
              go_ret
              exact ⟨by first | rfl | (simp [errW_none,errW_some] <;> rfl) | (simp [*,errW_none,errW_some] <;> rfl),by repeat (first | (with_reducible first | exact HB.out | apply below_alloc | apply pw_below_drewN | apply below_drew1 | refine below_set ?_ GE321.out) | exact HB.out)⟩
            · replace c19 := Bool.eq_false_iff.mpr c19
              subst c19
              have H1 : (some false) = some r := by rw [if_neg (show ¬ (false = true) by decide)] at H;exact H
              clear H
              have H := H1
              clear H1
              obtain rfl := Option.some.inj H
              have hcz22_0 : wc.cell? ⟨gb321,0,none⟩ = some (.int .i64 a0_0) := (blk_cell BK321.out 0).trans rfl;have hcz22_1 : wc.cell? ⟨gb321,1,none⟩ = some (.string a0_1) := (blk_cell BK321.out 1).trans rfl;have hcz22_2 : wc.cell? ⟨gb321,2,none⟩ = some (.string a0_2) := (blk_cell BK321.out 2).trans rfl;have hcz22_3 : wc.cell? ⟨gb321,3,none⟩ = some (.int .i64 a0_3) := (blk_cell BK321.out 3).trans rfl;have hcz22_4 : wc.cell? ⟨gb321,4,none⟩ = some (.int .i64 a0_4) := (blk_cell BK321.out 4).trans rfl;have hcz22_5 : wc.cell? ⟨gb321,5,none⟩ = some (.int .i64 a0_5) := (blk_cell BK321.out 5).trans rfl;have hfz22_0 := blk_frozen BK321.out 0;have hfz22_1 := blk_frozen BK321.out 1;have hfz22_2 := blk_frozen BK321.out 2;have hfz22_3 := blk_frozen BK321.out 3;have hfz22_4 := blk_frozen BK321.out 4;have hfz22_5 := blk_frozen BK321.out 5
              go_wp2_with (first | (go_at_call 81;(with_reducible refine (wageofficeref12_Day.calls a0_4 false _ A18.out).mono ?_);rintro e w' ⟨rfl,⟨nd,rfl⟩⟩))
              go_ret
              exact ⟨by first | rfl | (simp [errW_none,errW_some] <;> rfl) | (simp [*,errW_none,errW_some] <;> rfl),by repeat (first | (with_reducible first | exact HB.out | apply below_alloc | apply pw_below_drewN | apply below_drew1 | refine below_set ?_ GE321.out) | exact HB.out)⟩
          · rw [if_neg c17] at H
            have c17b0 : decide (a0_3 ≤ 1000000000000) = false := decide_eq_false c17
            clear c17
            obtain rfl := Option.some.inj H
            have hcz23_0 : wc.cell? ⟨gb321,0,none⟩ = some (.int .i64 a0_0) := (blk_cell BK321.out 0).trans rfl;have hcz23_1 : wc.cell? ⟨gb321,1,none⟩ = some (.string a0_1) := (blk_cell BK321.out 1).trans rfl;have hcz23_2 : wc.cell? ⟨gb321,2,none⟩ = some (.string a0_2) := (blk_cell BK321.out 2).trans rfl;have hcz23_3 : wc.cell? ⟨gb321,3,none⟩ = some (.int .i64 a0_3) := (blk_cell BK321.out 3).trans rfl;have hcz23_4 : wc.cell? ⟨gb321,4,none⟩ = some (.int .i64 a0_4) := (blk_cell BK321.out 4).trans rfl;have hcz23_5 : wc.cell? ⟨gb321,5,none⟩ = some (.int .i64 a0_5) := (blk_cell BK321.out 5).trans rfl;have hfz23_0 := blk_frozen BK321.out 0;have hfz23_1 := blk_frozen BK321.out 1;have hfz23_2 := blk_frozen BK321.out 2;have hfz23_3 := blk_frozen BK321.out 3;have hfz23_4 := blk_frozen BK321.out 4;have hfz23_5 := blk_frozen BK321.out 5
            go_wp2
            go_ret
            exact ⟨by first | rfl | (simp [errW_none,errW_some] <;> rfl) | (simp [*,errW_none,errW_some] <;> rfl),by repeat (first | (with_reducible first | exact HB.out | apply below_alloc | apply pw_below_drewN | apply below_drew1 | refine below_set ?_ GE321.out) | exact HB.out)⟩
        · rw [if_neg c16] at H
          have c16b0 : decide (1 ≤ a0_3) = false := decide_eq_false c16
          clear c16
          obtain rfl := Option.some.inj H
          have hcz24_0 : wc.cell? ⟨gb321,0,none⟩ = some (.int .i64 a0_0) := (blk_cell BK321.out 0).trans rfl;have hcz24_1 : wc.cell? ⟨gb321,1,none⟩ = some (.string a0_1) := (blk_cell BK321.out 1).trans rfl;have hcz24_2 : wc.cell? ⟨gb321,2,none⟩ = some (.string a0_2) := (blk_cell BK321.out 2).trans rfl;have hcz24_3 : wc.cell? ⟨gb321,3,none⟩ = some (.int .i64 a0_3) := (blk_cell BK321.out 3).trans rfl;have hcz24_4 : wc.cell? ⟨gb321,4,none⟩ = some (.int .i64 a0_4) := (blk_cell BK321.out 4).trans rfl;have hcz24_5 : wc.cell? ⟨gb321,5,none⟩ = some (.int .i64 a0_5) := (blk_cell BK321.out 5).trans rfl;have hfz24_0 := blk_frozen BK321.out 0;have hfz24_1 := blk_frozen BK321.out 1;have hfz24_2 := blk_frozen BK321.out 2;have hfz24_3 := blk_frozen BK321.out 3;have hfz24_4 := blk_frozen BK321.out 4;have hfz24_5 := blk_frozen BK321.out 5
          go_wp2
          go_ret
          exact ⟨by first | rfl | (simp [errW_none,errW_some] <;> rfl) | (simp [*,errW_none,errW_some] <;> rfl),by repeat (first | (with_reducible first | exact HB.out | apply below_alloc | apply pw_below_drewN | apply below_drew1 | refine below_set ?_ GE321.out) | exact HB.out)⟩

end Go.Proofs.Ytbmochegfdljfaa.My
