-- Written by a program of this session (wip/myprint.py), which drives the kit's print over hand-written fragments. Not trusted: Lean checks it.
import Derived.Test.YtnadfkhllfgoiaaMyx0
import Derived.Test.YtnadfkhllfgoiaaMyx64
namespace Go.Proofs.Ytnadfkhllfgoiaa.My
open Go.Proofs.Ytnadfkhllfgoiaa.Aid Go.Proofs.Ytnadfkhllfgoiaa.KdX
open Go.RowKit Go.Proofs.YtnadfkhllfgoiaaW.PrintWords Go.Proofs.YtnadfkhllfgoiaaW.PrintLast Go.Proofs.YtnadfkhllfgoiaaW.PrintMore
attribute [local go_sem] max2_int min2_int max_two min_two max_three min_three max_four min_four   -- for this text's walks alone
set_option linter.unusedVariables false
set_option linter.unusedSimpArgs false

/-! ### wageofficeref05_At: function 56 -/
def wageofficeref05_At.f (k : Nat) (a0_0 : Int) (l0_1 : List (S75)) (a1 : Int) : Option (Int) := (wageofficeref05_Piece.f k a0_0 l0_1 a1).bind fun t494 => (if 0 ≤ t494 then (if t494 < (l0_1.length : Int) then (some (wrap64 (((rd_T75 l0_1 t494).f1) + (wrap64 (((rd_T75 l0_1 t494).f2) * (wrap64 (a1 - ((rd_T75 l0_1 t494).f0)))))))) else (none)) else (none))
theorem wageofficeref05_At.mono : ∀ a0 a1 a2 k, LeO (wageofficeref05_At.f k a0 a1 a2) (wageofficeref05_At.f (k + 1) a0 a1 a2) := by
  intro a0 a1 a2 k
  unfold wageofficeref05_At.f
  repeat' first
      | (with_reducible exact wageofficeref05_Piece.mono _ _ _ _)
      | (with_reducible exact LeO.refl _)
      | (with_reducible exact LeO.none _)
      | (with_reducible refine LeO.ite ?_ ?_)
      | (with_reducible refine LeO.bind ?_ (fun _ => ?_))
      | exact wageofficeref05_Piece.mono _ _ _ _
      | exact LeO.none _
      | refine LeO.ite ?_ ?_
      | refine LeO.bind ?_ (fun _ => ?_)
def wageofficeref05_At.T1 : Bool × List (List Nat × List Nat) := (true, [([], []), ([0], [0]), ([], []), ([], []), ([2, 3], [2, 3]), ([1, 4], [1, 4]), ([5], [5]), ([], []), ([7, 6, 4, 0, 1, 2, 3, 4, 5, 6, 7], [6, 7])])
def wageofficeref05_At.B1 : List Nat := [0, 1, 0, 0, 12, 31, 63, 0, 255]
theorem wageofficeref05_At.tab1 : rtab .any (opsOf Try.f56 1) = wageofficeref05_At.T1 := by kernel_rfl
theorem wageofficeref05_At.bits1 : waitsOk wageofficeref05_At.T1.2 wageofficeref05_At.B1 = true := by kernel_rfl
set_option maxHeartbeats 8000000 in
set_option maxRecDepth 100000 in
theorem wageofficeref05_At.calls (k : Nat) (a0_0 : Int) (A0_1 : Option Addr) (c0_1 : Nat) (l0_1 : List (S75)) (a1 : Int) (r : Int) (w : World) (hr0_1 : Kd.C k75 w A0_1 l0_1.length l0_1) (hc0_1 : l0_1.length ≤ c0_1) (h : wageofficeref05_At.f k a0_0 l0_1 a1 = some r) :
    Calls Try.prog 56 #[.agg #[.int .i64 a0_0, .slice A0_1 l0_1.length c0_1], .int .i64 a1] w fun e w' => e = .returned (.int .i64 r) ∧ Below w.heap.size w w' := by
  have hu42 := Try.underlying42
  have hu75 := Try.underlying75
  have HR0_1 := Aside0.mk hr0_1
  have HC0_1 := Aside0.mk hc0_1
  clear hr0_1 hc0_1
  have HB := Aside0.mk (Below.refl w.heap.size w)
  have H : ((wageofficeref05_Piece.f k a0_0 l0_1 a1).bind fun t494 => (if 0 ≤ t494 then (if t494 < (l0_1.length : Int) then (some (wrap64 (((rd_T75 l0_1 t494).f1) + (wrap64 (((rd_T75 l0_1 t494).f2) * (wrap64 (a1 - ((rd_T75 l0_1 t494).f0)))))))) else (none)) else (none))) = some r := h
  clear h
  replace H := Option.bind_eq_some_iff.mp H
  obtain ⟨t494, A30, H⟩ := H
  replace H : (if 0 ≤ t494 then (if t494 < (l0_1.length : Int) then (some (wrap64 (((rd_T75 l0_1 t494).f1) + (wrap64 (((rd_T75 l0_1 t494).f2) * (wrap64 (a1 - ((rd_T75 l0_1 t494).f0)))))))) else (none)) else (none)) = some r := H
  have A3 := Aside0.mk A30
  clear A30
  by_cases c4 : 0 ≤ t494
  · rw [if_pos c4] at H
    have c4b0 : decide (0 ≤ t494) = true := decide_eq_true c4
    clear c4
    by_cases c5 : t494 < (l0_1.length : Int)
    · rw [if_pos c5] at H
      have c5b0 : decide (t494 < (l0_1.length : Int)) = true := decide_eq_true c5
      clear c5
      obtain rfl := Option.some.inj H
      go_enter Try.func56, Try.ntmps56
      try go_wp2_with (first | ((with_reducible refine gate_dst (N := 2) rfl ?_); refine box_event ?hg (N := 2) ?hd (cs := #[.int .i64 a0_0, .slice A0_1 l0_1.length c0_1]) (t := 42) ?hr ?_; (case hd => rfl); (case hg => rfl); (case hr => first | (go_simp; done) | (go_simp; rfl)); intro gb493 hg w6 hbox hb; have n0_ := Aside0.mk (below_step (by repeat (first | (with_reducible first | exact HB.out | apply below_alloc | apply pw_below_drewN | apply below_drew1) | exact HB.out)) hb); have n1_ := Aside0.mk (hbox); have n2_ := Aside0.mk ((by rw [hg]; exact (below_size (by repeat (first | (with_reducible first | exact HB.out | apply below_alloc | apply pw_below_drewN | apply below_drew1) | exact HB.out))) : w.heap.size ≤ gb493)); have n3_ := Aside0.mk ((by rw [hg]; exact (below_size (by repeat (first | (with_reducible first | exact HB.out | apply below_alloc | apply pw_below_drewN | apply below_drew1) | exact HB.out))) : w.heap.size ≤ gb493)); clear HB; have HB := n0_; have BK493 := n1_; have GW493 := n2_; have GE493 := n3_; clear n0_ n1_ n2_ n3_; clear hb hbox hg))
      have n0_ := Aside0.mk (blk_drew BK493.out)
      have n1_ := Aside0.mk (below_drew1 HB.out)
      clear BK493
      clear HB
      have BK493 := n0_
      have HB := n1_
      clear n0_ n1_
      have p495 : 0 ≤ (t494 : Int) := of_decide_eq_true (by first | (with_reducible assumption) | assumption)
      have q495 : t494 < (l0_1.length : Int) := of_decide_eq_true (by first | (with_reducible assumption) | assumption)
      obtain ⟨ad495, e495, hx495_0, hx495_1, hx495_2⟩ := at_T75 HR0_1.out t494 p495 q495
      have hw495_2 := hx495_2
      have hw495_1 := hx495_1
      have hw495_0 := hx495_0
      cases e495
      replace hx495_0 := (HB.out.cell (World.block_lt_of_cell? w _ hx495_0)).trans hx495_0
      replace hx495_1 := (HB.out.cell (World.block_lt_of_cell? w _ hx495_1)).trans hx495_1
      replace hx495_2 := (HB.out.cell (World.block_lt_of_cell? w _ hx495_2)).trans hx495_2
      replace p495 := eq_true p495
      replace q495 := eq_true q495
      refine start_ (n := 9) (S := fun w' => w'.cell? ⟨gb493, 0, none⟩ = some (.int .i64 a0_0) ∧ w'.cell? ⟨gb493, 1, none⟩ = some (.slice (some ad495) l0_1.length c0_1) ∧ w'.cell? (ad495.add ((t494).toNat * 3)) = some (.int .i64 ((rd_T75 l0_1 t494).f0)) ∧ w'.cell? ⟨(ad495.add ((t494).toNat * 3)).block, (ad495.add ((t494).toNat * 3)).off + 1, none⟩ = some (.int .i64 ((rd_T75 l0_1 t494).f1)) ∧ w'.cell? ⟨(ad495.add ((t494).toNat * 3)).block, (ad495.add ((t494).toNat * 3)).off + 2, none⟩ = some (.int .i64 ((rd_T75 l0_1 t494).f2))) (ds := []) #[false, false, false, false, false, false, false, false, false] (by kernel_rfl) rfl rfl ⟨(blk_cell BK493.out 0).trans rfl, (blk_cell BK493.out 1).trans rfl, ((HB.out.cell (World.block_lt_of_cell? w _ hw495_0)).trans hw495_0), ((HB.out.cell (World.block_lt_of_cell? w _ hw495_1)).trans hw495_1), ((HB.out.cell (World.block_lt_of_cell? w _ hw495_2)).trans hw495_2)⟩ (fun hHeld => ?_); refine with_tabW wageofficeref05_At.tab1 wageofficeref05_At.bits1 (fun HT_ HW_ => ?_)
      generalize w6.drew = w7 at BK493 HB hx495_0 hx495_1 hx495_2 hHeld ⊢
      refine pure_ (i := 0) (N := some 6) (v := ?_) (a' := ?_) #[true, false, false, false, false, false, false, false, false] rfl rfl (any_of HT_.out (by kernel_rfl)) (fun _ _ _ h => h) (Or.inl ⟨by rfl, ?_⟩) ?_ ?_
      rotate_left
      · intro w'
        go_simp
        with_reducible rfl
      rotate_left
      · simp only [Act.put, List.setIfInBounds_toArray, List.set_cons_zero, List.set_cons_succ, i64_w, i32_w]
        rfl
      refine pure_ (i := 3) (N := some 9) (v := ?_) (a' := ?_) #[true, false, false, true, false, false, false, false, false] rfl rfl (any_of HT_.out (by kernel_rfl)) (fun _ _ _ h => h) (Or.inl ⟨by rfl, ?_⟩) ?_ ?_
      rotate_left
      · intro w'
        go_simp
        with_reducible rfl
      rotate_left
      · simp only [Act.put, List.setIfInBounds_toArray, List.set_cons_zero, List.set_cons_succ, i64_w, i32_w]
        rfl
      refine take_ (i := 1) (N := some 7) (v := ?_) (a' := ?_) #[true, true, false, true, false, false, false, false, false] rfl rfl (take_ofW HT_.out HW_.out (by kernel_rfl)) (fun _ _ _ h => h) (Or.inl ⟨by rfl, ?_⟩) hHeld ?_ ?_
      rotate_left
      · rintro w' ⟨s0, s1, s2, s3, s4⟩
        go_simp
        with_reducible rfl
      rotate_left
      · simp only [Act.put, List.setIfInBounds_toArray, List.set_cons_zero, List.set_cons_succ, i64_w, i32_w]
        rfl
      refine take_ (i := 2) (N := some 8) (v := ?_) (a' := ?_) #[true, true, true, true, false, false, false, false, false] rfl rfl (take_ofW HT_.out HW_.out (by kernel_rfl)) (fun _ _ _ h => h) (Or.inl ⟨by rfl, ?_⟩) hHeld ?_ ?_
      rotate_left
      · rintro w' ⟨s0, s1, s2, s3, s4⟩
        go_simp
        with_reducible rfl
      rotate_left
      · simp only [Act.put, List.setIfInBounds_toArray, List.set_cons_zero, List.set_cons_succ, i64_w, i32_w]
        rfl
      refine join_ (σ := Nat) 1 #[true, true, true, true, true, true, true, true, false] (fun s_ => [(10, .int .i64 t494), (5, .pointer (some ⟨s_, 0, none⟩)), (11, .pointer (some (ad495.add ((t494).toNat * 3)))), (12, .agg #[.int .i64 ((rd_T75 l0_1 t494).f0), .int .i64 ((rd_T75 l0_1 t494).f1), .int .i64 ((rd_T75 l0_1 t494).f2)])]) (fun s_ w' => (w'.cell? ⟨gb493, 0, none⟩ = some (.int .i64 a0_0) ∧ w'.cell? ⟨gb493, 1, none⟩ = some (.slice (some ad495) l0_1.length c0_1) ∧ w'.cell? (ad495.add ((t494).toNat * 3)) = some (.int .i64 ((rd_T75 l0_1 t494).f0)) ∧ w'.cell? ⟨(ad495.add ((t494).toNat * 3)).block, (ad495.add ((t494).toNat * 3)).off + 1, none⟩ = some (.int .i64 ((rd_T75 l0_1 t494).f1)) ∧ w'.cell? ⟨(ad495.add ((t494).toNat * 3)).block, (ad495.add ((t494).toNat * 3)).off + 2, none⟩ = some (.int .i64 ((rd_T75 l0_1 t494).f2))) ∧ (w'.heap[gb493]? = some (.cells #[.int .i64 a0_0, .slice (some ad495) l0_1.length c0_1] 42 (0, 0))) ∧ (w'.heap[s_]? = some (.cells #[.int .i64 0, .int .i64 0, .int .i64 0] 75 (0, 0))) ∧ (w.heap.size ≤ s_) ∧ (w.heap.size ≤ s_) ∧ (gb493 ≠ s_) ∧ (s_ ≠ gb493) ∧ (Below w.heap.size w w')) ?_ ?_
      rotate_left
      · intro hCont
        refine two_ (i := 4) (j := 7) (Ni := some 10) (Nj := some 5) #[true, true, true, true, true, false, false, false, false] #[true, true, true, true, false, false, false, true, false] rfl rfl rfl rfl (two_of HT_.out (by kernel_rfl)) (by decide) (by decide) (fun K hK => ?_) (fun K hK => ?_)
        · skip
          refine goes_ Try.func64 (by kernel_rfl) rfl #[.agg #[.int .i64 a0_0, .slice (some ad495) l0_1.length c0_1], .int .i64 a1] (by rfl) rfl rfl (by (try simp only [List.map_toArray, List.map_cons, List.map_nil]); first | done | rfl | (simp only [List.length_drop, List.length_take]; rfl)) ?_
          with_reducible refine (wageofficeref05_Piece.calls k a0_0 _ _ l0_1 a1 t494 _ ?side1 ?side2 A3.out).mono ?_
          (case side1 => repeat (first | exact (Kd.C_below HR0_1.out HB.out) | (with_reducible refine Kd.C_alloc ?_ _) | (with_reducible refine Kd.C_drewN ?_ _) | (with_reducible refine Kd.C_drew ?_)))
          (case side2 => exact HC0_1.out)
          rintro e w8 ⟨rfl, hb⟩
          refine ⟨_, rfl, ?_⟩
          have n0_ := Aside0.mk (blk_below (g := gb493) (o := .cells #[.int .i64 a0_0, .slice (some ad495) l0_1.length c0_1] 42 (0, 0)) (by (with_reducible repeat (first | refine blk_drewN ?_ _ | refine blk_drew ?_ | refine blk_alloc ?_ _)); exact BK493.out) hb)
          have n1_ := Aside0.mk (below_step (by repeat (first | (with_reducible first | exact HB.out | apply below_alloc | apply pw_below_drewN | apply below_drew1 | refine below_set ?_ GE493.out) | exact HB.out)) hb)
          clear BK493
          clear HB
          have BK493 := n0_
          have HB := n1_
          clear n0_ n1_
          (try clear hb)
          (try clear hb2)
          (try clear hk)
          (try clear hi)
          refine hK.out _ _ ⟨(blk_cell BK493.out 0).trans rfl, (blk_cell BK493.out 1).trans rfl, ((HB.out.cell (World.block_lt_of_cell? w _ hw495_0)).trans hw495_0), ((HB.out.cell (World.block_lt_of_cell? w _ hw495_1)).trans hw495_1), ((HB.out.cell (World.block_lt_of_cell? w _ hw495_2)).trans hw495_2)⟩ (fun hHeld => ?_)
          clear hK K
          refine norm_ (a' := ?_) ?_ ?_
          rotate_left
          · show Act.put _ (some 10) _ = _
            simp only [Act.put, List.setIfInBounds_toArray, List.set_cons_zero, List.set_cons_succ, i64_w, i32_w]
            rfl
          refine pure_ (i := 5) (N := some 11) (v := ?_) (a' := ?_) #[true, true, true, true, true, true, false, false, false] rfl rfl (any_of HT_.out (by kernel_rfl)) (fun _ _ _ h => h) (Or.inl ⟨by rfl, ?_⟩) ?_ ?_
          rotate_left
          · intro w'
            go_simp
            with_reducible rfl
          rotate_left
          · simp only [Act.put, List.setIfInBounds_toArray, List.set_cons_zero, List.set_cons_succ, i64_w, i32_w]
            rfl
          refine take_ (i := 6) (N := some 12) (v := ?_) (a' := ?_) #[true, true, true, true, true, true, true, false, false] rfl rfl (take_ofW HT_.out HW_.out (by kernel_rfl)) (fun _ _ _ h => h) (Or.inl ⟨by rfl, ?_⟩) hHeld ?_ ?_
          rotate_left
          · rintro w' ⟨s0, s1, s2, s3, s4⟩
            go_simp
            with_reducible rfl
          rotate_left
          · simp only [Act.put, List.setIfInBounds_toArray, List.set_cons_zero, List.set_cons_succ, i64_w, i32_w]
            rfl
          refine one_ (i := 7) (N := some 5) #[true, true, true, true, true, true, true, true, false] rfl rfl (one_of HT_.out (by kernel_rfl)) (by decide) (fun K hK => ?_)
          refine box_step ?hg (N := 5) ?hd (cs := #[.int .i64 0, .int .i64 0, .int .i64 0]) (t := 75) ?hr ?_; (case hd => rfl); (case hg => rfl); (case hr => first | (go_simp; done) | (go_simp; rfl))
          intro gb496 hg w9 hbox hb
          have n0_ := Aside0.mk (blk_below (g := gb493) (o := .cells #[.int .i64 a0_0, .slice (some ad495) l0_1.length c0_1] 42 (0, 0)) (by (with_reducible repeat (first | refine blk_drewN ?_ _ | refine blk_drew ?_ | refine blk_alloc ?_ _)); exact BK493.out) hb)
          have n1_ := Aside0.mk (below_step (by repeat (first | (with_reducible first | exact HB.out | apply below_alloc | apply pw_below_drewN | apply below_drew1 | refine below_set ?_ GE493.out) | exact HB.out)) hb)
          have n2_ := Aside0.mk (hbox)
          have n3_ := Aside0.mk ((by rw [hg]; exact (below_size (by repeat (first | (with_reducible first | exact HB.out | apply below_alloc | apply pw_below_drewN | apply below_drew1 | refine below_set ?_ GE493.out) | exact HB.out))) : w.heap.size ≤ gb496))
          have n4_ := Aside0.mk ((by rw [hg]; exact (below_size (by repeat (first | (with_reducible first | exact HB.out | apply below_alloc | apply pw_below_drewN | apply below_drew1 | refine below_set ?_ GE493.out) | exact HB.out))) : w.heap.size ≤ gb496))
          have n5_ := Aside0.mk ((by rw [hg]; exact Nat.ne_of_lt (blk_lt (g := gb493) (o := .cells #[.int .i64 a0_0, .slice (some ad495) l0_1.length c0_1] 42 (0, 0)) (by (with_reducible repeat (first | refine blk_drewN ?_ _ | refine blk_drew ?_ | refine blk_alloc ?_ _)); exact BK493.out)) : gb493 ≠ gb496))
          have n6_ := Aside0.mk ((by rw [hg]; exact Nat.ne_of_gt (blk_lt (g := gb493) (o := .cells #[.int .i64 a0_0, .slice (some ad495) l0_1.length c0_1] 42 (0, 0)) (by (with_reducible repeat (first | refine blk_drewN ?_ _ | refine blk_drew ?_ | refine blk_alloc ?_ _)); exact BK493.out)) : gb496 ≠ gb493))
          clear BK493
          clear HB
          have BK493 := n0_
          have HB := n1_
          have BK496 := n2_
          have GW496 := n3_
          have GE496 := n4_
          have NB493_496 := n5_
          have NB496_493 := n6_
          clear n0_ n1_ n2_ n3_ n4_ n5_ n6_
          clear hb hbox hg
          refine hK.out _ _ ⟨(blk_cell BK493.out 0).trans rfl, (blk_cell BK493.out 1).trans rfl, ((HB.out.cell (World.block_lt_of_cell? w _ hw495_0)).trans hw495_0), ((HB.out.cell (World.block_lt_of_cell? w _ hw495_1)).trans hw495_1), ((HB.out.cell (World.block_lt_of_cell? w _ hw495_2)).trans hw495_2)⟩ (fun hHeld => ?_)
          clear hK K
          refine norm_ (a' := ?_) ?_ ?_
          rotate_left
          · show Act.put _ (some 5) _ = _
            simp only [Act.put, List.setIfInBounds_toArray, List.set_cons_zero, List.set_cons_succ, i64_w, i32_w]
            rfl
          exact norm_ (by simp only [putAll, Act.put, List.setIfInBounds_toArray, List.set_cons_zero, List.set_cons_succ]) (hCont (gb496) _ ⟨hHeld, (by (with_reducible repeat (first | refine blk_drewN ?_ _ | refine blk_drew ?_ | refine blk_alloc ?_ _)); exact BK493.out), (by (with_reducible repeat (first | refine blk_drewN ?_ _ | refine blk_drew ?_ | refine blk_alloc ?_ _)); exact BK496.out), GW496.out, GE496.out, NB493_496.out, NB496_493.out, (by repeat (first | (with_reducible first | exact HB.out | apply below_alloc | apply pw_below_drewN | apply below_drew1 | refine below_set ?_ GE493.out | refine below_set ?_ GE496.out) | exact HB.out))⟩)
        · skip
          refine box_step ?hg (N := 5) ?hd (cs := #[.int .i64 0, .int .i64 0, .int .i64 0]) (t := 75) ?hr ?_; (case hd => rfl); (case hg => rfl); (case hr => first | (go_simp; done) | (go_simp; rfl))
          intro gb496 hg w8 hbox hb
          have n0_ := Aside0.mk (blk_below (g := gb493) (o := .cells #[.int .i64 a0_0, .slice (some ad495) l0_1.length c0_1] 42 (0, 0)) (by (with_reducible repeat (first | refine blk_drewN ?_ _ | refine blk_drew ?_ | refine blk_alloc ?_ _)); exact BK493.out) hb)
          have n1_ := Aside0.mk (below_step (by repeat (first | (with_reducible first | exact HB.out | apply below_alloc | apply pw_below_drewN | apply below_drew1 | refine below_set ?_ GE493.out) | exact HB.out)) hb)
          have n2_ := Aside0.mk (hbox)
          have n3_ := Aside0.mk ((by rw [hg]; exact (below_size (by repeat (first | (with_reducible first | exact HB.out | apply below_alloc | apply pw_below_drewN | apply below_drew1 | refine below_set ?_ GE493.out) | exact HB.out))) : w.heap.size ≤ gb496))
          have n4_ := Aside0.mk ((by rw [hg]; exact (below_size (by repeat (first | (with_reducible first | exact HB.out | apply below_alloc | apply pw_below_drewN | apply below_drew1 | refine below_set ?_ GE493.out) | exact HB.out))) : w.heap.size ≤ gb496))
          have n5_ := Aside0.mk ((by rw [hg]; exact Nat.ne_of_lt (blk_lt (g := gb493) (o := .cells #[.int .i64 a0_0, .slice (some ad495) l0_1.length c0_1] 42 (0, 0)) (by (with_reducible repeat (first | refine blk_drewN ?_ _ | refine blk_drew ?_ | refine blk_alloc ?_ _)); exact BK493.out)) : gb493 ≠ gb496))
          have n6_ := Aside0.mk ((by rw [hg]; exact Nat.ne_of_gt (blk_lt (g := gb493) (o := .cells #[.int .i64 a0_0, .slice (some ad495) l0_1.length c0_1] 42 (0, 0)) (by (with_reducible repeat (first | refine blk_drewN ?_ _ | refine blk_drew ?_ | refine blk_alloc ?_ _)); exact BK493.out)) : gb496 ≠ gb493))
          clear BK493
          clear HB
          have BK493 := n0_
          have HB := n1_
          have BK496 := n2_
          have GW496 := n3_
          have GE496 := n4_
          have NB493_496 := n5_
          have NB496_493 := n6_
          clear n0_ n1_ n2_ n3_ n4_ n5_ n6_
          clear hb hbox hg
          refine hK.out _ _ ⟨(blk_cell BK493.out 0).trans rfl, (blk_cell BK493.out 1).trans rfl, ((HB.out.cell (World.block_lt_of_cell? w _ hw495_0)).trans hw495_0), ((HB.out.cell (World.block_lt_of_cell? w _ hw495_1)).trans hw495_1), ((HB.out.cell (World.block_lt_of_cell? w _ hw495_2)).trans hw495_2)⟩ (fun hHeld => ?_)
          clear hK K
          refine norm_ (a' := ?_) ?_ ?_
          rotate_left
          · show Act.put _ (some 5) _ = _
            simp only [Act.put, List.setIfInBounds_toArray, List.set_cons_zero, List.set_cons_succ, i64_w, i32_w]
            rfl
          refine one_ (i := 4) (N := some 10) #[true, true, true, true, true, false, false, true, false] rfl rfl (one_of HT_.out (by kernel_rfl)) (by decide) (fun K hK => ?_)
          refine goes_ Try.func64 (by kernel_rfl) rfl #[.agg #[.int .i64 a0_0, .slice (some ad495) l0_1.length c0_1], .int .i64 a1] (by rfl) rfl rfl (by (try simp only [List.map_toArray, List.map_cons, List.map_nil]); first | done | rfl | (simp only [List.length_drop, List.length_take]; rfl)) ?_
          with_reducible refine (wageofficeref05_Piece.calls k a0_0 _ _ l0_1 a1 t494 _ ?side1 ?side2 A3.out).mono ?_
          (case side1 => repeat (first | exact (Kd.C_below HR0_1.out HB.out) | (with_reducible refine Kd.C_alloc ?_ _) | (with_reducible refine Kd.C_drewN ?_ _) | (with_reducible refine Kd.C_drew ?_)))
          (case side2 => exact HC0_1.out)
          rintro e w9 ⟨rfl, hb⟩
          refine ⟨_, rfl, ?_⟩
          have n0_ := Aside0.mk (blk_below (g := gb493) (o := .cells #[.int .i64 a0_0, .slice (some ad495) l0_1.length c0_1] 42 (0, 0)) (by (with_reducible repeat (first | refine blk_drewN ?_ _ | refine blk_drew ?_ | refine blk_alloc ?_ _)); exact BK493.out) hb)
          have n1_ := Aside0.mk (blk_below (g := gb496) (o := .cells #[.int .i64 0, .int .i64 0, .int .i64 0] 75 (0, 0)) (by (with_reducible repeat (first | refine blk_drewN ?_ _ | refine blk_drew ?_ | refine blk_alloc ?_ _)); exact BK496.out) hb)
          have n2_ := Aside0.mk (below_step (by repeat (first | (with_reducible first | exact HB.out | apply below_alloc | apply pw_below_drewN | apply below_drew1 | refine below_set ?_ GE493.out | refine below_set ?_ GE496.out) | exact HB.out)) hb)
          clear BK493
          clear BK496
          clear HB
          have BK493 := n0_
          have BK496 := n1_
          have HB := n2_
          clear n0_ n1_ n2_
          (try clear hb)
          (try clear hb2)
          (try clear hk)
          (try clear hi)
          refine hK.out _ _ ⟨(blk_cell BK493.out 0).trans rfl, (blk_cell BK493.out 1).trans rfl, ((HB.out.cell (World.block_lt_of_cell? w _ hw495_0)).trans hw495_0), ((HB.out.cell (World.block_lt_of_cell? w _ hw495_1)).trans hw495_1), ((HB.out.cell (World.block_lt_of_cell? w _ hw495_2)).trans hw495_2)⟩ (fun hHeld => ?_)
          clear hK K
          refine norm_ (a' := ?_) ?_ ?_
          rotate_left
          · show Act.put _ (some 10) _ = _
            simp only [Act.put, List.setIfInBounds_toArray, List.set_cons_zero, List.set_cons_succ, i64_w, i32_w]
            rfl
          refine pure_ (i := 5) (N := some 11) (v := ?_) (a' := ?_) #[true, true, true, true, true, true, false, true, false] rfl rfl (any_of HT_.out (by kernel_rfl)) (fun _ _ _ h => h) (Or.inl ⟨by rfl, ?_⟩) ?_ ?_
          rotate_left
          · intro w'
            go_simp
            with_reducible rfl
          rotate_left
          · simp only [Act.put, List.setIfInBounds_toArray, List.set_cons_zero, List.set_cons_succ, i64_w, i32_w]
            rfl
          refine take_ (i := 6) (N := some 12) (v := ?_) (a' := ?_) #[true, true, true, true, true, true, true, true, false] rfl rfl (take_ofW HT_.out HW_.out (by kernel_rfl)) (fun _ _ _ h => h) (Or.inl ⟨by rfl, ?_⟩) hHeld ?_ ?_
          rotate_left
          · rintro w' ⟨s0, s1, s2, s3, s4⟩
            go_simp
            with_reducible rfl
          rotate_left
          · simp only [Act.put, List.setIfInBounds_toArray, List.set_cons_zero, List.set_cons_succ, i64_w, i32_w]
            rfl
          exact norm_ (by simp only [putAll, Act.put, List.setIfInBounds_toArray, List.set_cons_zero, List.set_cons_succ]) (hCont (gb496) _ ⟨hHeld, (by (with_reducible repeat (first | refine blk_drewN ?_ _ | refine blk_drew ?_ | refine blk_alloc ?_ _)); exact BK493.out), (by (with_reducible repeat (first | refine blk_drewN ?_ _ | refine blk_drew ?_ | refine blk_alloc ?_ _)); exact BK496.out), GW496.out, GE496.out, NB493_496.out, NB496_493.out, (by repeat (first | (with_reducible first | exact HB.out | apply below_alloc | apply pw_below_drewN | apply below_drew1 | refine below_set ?_ GE493.out | refine below_set ?_ GE496.out) | exact HB.out))⟩)
      rintro gb496 w10 ⟨hS_, h0_, h1_, h2_, h3_, h4_, h5_, h6_⟩
      have n0_ : Aside0 (w10.heap[gb493]? = some (.cells #[.int .i64 a0_0, .slice (some ad495) l0_1.length c0_1] 42 (0, 0))) := ⟨h0_⟩
      have n1_ : Aside0 (w10.heap[gb496]? = some (.cells #[.int .i64 0, .int .i64 0, .int .i64 0] 75 (0, 0))) := ⟨h1_⟩
      have n2_ : Aside0 (w.heap.size ≤ gb496) := ⟨h2_⟩
      have n3_ : Aside0 (w.heap.size ≤ gb496) := ⟨h3_⟩
      have n4_ : Aside0 (gb493 ≠ gb496) := ⟨h4_⟩
      have n5_ : Aside0 (gb496 ≠ gb493) := ⟨h5_⟩
      have n6_ : Aside0 (Below w.heap.size w w10) := ⟨h6_⟩
      clear BK493
      clear HB
      clear h0_ h1_ h2_ h3_ h4_ h5_ h6_
      have BK493 := n0_
      have BK496 := n1_
      have GW496 := n2_
      have GE496 := n3_
      have NB493_496 := n4_
      have NB496_493 := n5_
      have HB := n6_
      clear n0_ n1_ n2_ n3_ n4_ n5_ n6_
      have hHeld : w10.cell? ⟨gb493, 0, none⟩ = some (.int .i64 a0_0) ∧ w10.cell? ⟨gb493, 1, none⟩ = some (.slice (some ad495) l0_1.length c0_1) ∧ w10.cell? (ad495.add ((t494).toNat * 3)) = some (.int .i64 ((rd_T75 l0_1 t494).f0)) ∧ w10.cell? ⟨(ad495.add ((t494).toNat * 3)).block, (ad495.add ((t494).toNat * 3)).off + 1, none⟩ = some (.int .i64 ((rd_T75 l0_1 t494).f1)) ∧ w10.cell? ⟨(ad495.add ((t494).toNat * 3)).block, (ad495.add ((t494).toNat * 3)).off + 2, none⟩ = some (.int .i64 ((rd_T75 l0_1 t494).f2)) := hS_
      refine norm_ (a' := ?_) ?_ ?_
      rotate_left
      · simp only [putAll, Act.put, List.setIfInBounds_toArray, List.set_cons_zero, List.set_cons_succ]
        rfl
      refine one_ (i := 8) (N := none) #[true, true, true, true, true, true, true, true, true] rfl rfl (one_of HT_.out (by kernel_rfl)) (by decide) (fun K hK => ?_)
      have hs11 : w10.cell? ⟨gb496, 0, none⟩ = some (.int .i64 0) := (blk_cell BK496.out 0).trans rfl
      have hfs11 := blk_frozen BK496.out 0
      have hns11_0 := NB493_496.out
      have hms11_0 := NB496_493.out
      have hs12 : w10.cell? ⟨gb496, 1, none⟩ = some (.int .i64 0) := (blk_cell BK496.out 1).trans rfl
      have hfs12 := blk_frozen BK496.out 1
      have hns12_0 := NB493_496.out
      have hms12_0 := NB496_493.out
      have hs13 : w10.cell? ⟨gb496, 2, none⟩ = some (.int .i64 0) := (blk_cell BK496.out 2).trans rfl
      have hfs13 := blk_frozen BK496.out 2
      have hns13_0 := NB493_496.out
      have hms13_0 := NB496_493.out
      refine skip_ (w1 := ?_) (by rfl) rfl ?_ ?_
      rotate_left
      · go_simp
        rfl
      refine hK.out _ _ ⟨((cell_far (p := ⟨gb496, _, none⟩) NB493_496.out _).trans (((cell_far (p := ⟨gb496, _, none⟩) NB493_496.out _).trans (((cell_far (p := ⟨gb496, _, none⟩) NB493_496.out _).trans (hHeld.1)))))), ((cell_far (p := ⟨gb496, _, none⟩) NB493_496.out _).trans (((cell_far (p := ⟨gb496, _, none⟩) NB493_496.out _).trans (((cell_far (p := ⟨gb496, _, none⟩) NB493_496.out _).trans (hHeld.2.1)))))), ((cell_far (p := ⟨gb496, _, none⟩) (by first | exact Nat.ne_of_lt (Nat.lt_of_lt_of_le (by have := World.block_lt_of_cell? _ _ hw495_0; first | rwa [add_block] at this | exact this) GW496.out) | (rw [add_block]; exact Nat.ne_of_lt (Nat.lt_of_lt_of_le (by have := World.block_lt_of_cell? _ _ hw495_0; first | rwa [add_block] at this | exact this) GW496.out)) | (show (Addr.add _ _).block ≠ _; rw [add_block]; exact Nat.ne_of_lt (Nat.lt_of_lt_of_le (by have := World.block_lt_of_cell? _ _ hw495_0; first | rwa [add_block] at this | exact this) GW496.out)) | (dsimp only; exact Nat.ne_of_lt (Nat.lt_of_lt_of_le (by have := World.block_lt_of_cell? _ _ hw495_0; first | rwa [add_block] at this | exact this) GW496.out))) _).trans (((cell_far (p := ⟨gb496, _, none⟩) (by first | exact Nat.ne_of_lt (Nat.lt_of_lt_of_le (by have := World.block_lt_of_cell? _ _ hw495_0; first | rwa [add_block] at this | exact this) GW496.out) | (rw [add_block]; exact Nat.ne_of_lt (Nat.lt_of_lt_of_le (by have := World.block_lt_of_cell? _ _ hw495_0; first | rwa [add_block] at this | exact this) GW496.out)) | (show (Addr.add _ _).block ≠ _; rw [add_block]; exact Nat.ne_of_lt (Nat.lt_of_lt_of_le (by have := World.block_lt_of_cell? _ _ hw495_0; first | rwa [add_block] at this | exact this) GW496.out)) | (dsimp only; exact Nat.ne_of_lt (Nat.lt_of_lt_of_le (by have := World.block_lt_of_cell? _ _ hw495_0; first | rwa [add_block] at this | exact this) GW496.out))) _).trans (((cell_far (p := ⟨gb496, _, none⟩) (by first | exact Nat.ne_of_lt (Nat.lt_of_lt_of_le (by have := World.block_lt_of_cell? _ _ hw495_0; first | rwa [add_block] at this | exact this) GW496.out) | (rw [add_block]; exact Nat.ne_of_lt (Nat.lt_of_lt_of_le (by have := World.block_lt_of_cell? _ _ hw495_0; first | rwa [add_block] at this | exact this) GW496.out)) | (show (Addr.add _ _).block ≠ _; rw [add_block]; exact Nat.ne_of_lt (Nat.lt_of_lt_of_le (by have := World.block_lt_of_cell? _ _ hw495_0; first | rwa [add_block] at this | exact this) GW496.out)) | (dsimp only; exact Nat.ne_of_lt (Nat.lt_of_lt_of_le (by have := World.block_lt_of_cell? _ _ hw495_0; first | rwa [add_block] at this | exact this) GW496.out))) _).trans (hHeld.2.2.1)))))), ((cell_far (p := ⟨gb496, _, none⟩) (by first | exact Nat.ne_of_lt (Nat.lt_of_lt_of_le (by have := World.block_lt_of_cell? _ _ hw495_1; first | rwa [add_block] at this | exact this) GW496.out) | (rw [add_block]; exact Nat.ne_of_lt (Nat.lt_of_lt_of_le (by have := World.block_lt_of_cell? _ _ hw495_1; first | rwa [add_block] at this | exact this) GW496.out)) | (show (Addr.add _ _).block ≠ _; rw [add_block]; exact Nat.ne_of_lt (Nat.lt_of_lt_of_le (by have := World.block_lt_of_cell? _ _ hw495_1; first | rwa [add_block] at this | exact this) GW496.out)) | (dsimp only; exact Nat.ne_of_lt (Nat.lt_of_lt_of_le (by have := World.block_lt_of_cell? _ _ hw495_1; first | rwa [add_block] at this | exact this) GW496.out))) _).trans (((cell_far (p := ⟨gb496, _, none⟩) (by first | exact Nat.ne_of_lt (Nat.lt_of_lt_of_le (by have := World.block_lt_of_cell? _ _ hw495_1; first | rwa [add_block] at this | exact this) GW496.out) | (rw [add_block]; exact Nat.ne_of_lt (Nat.lt_of_lt_of_le (by have := World.block_lt_of_cell? _ _ hw495_1; first | rwa [add_block] at this | exact this) GW496.out)) | (show (Addr.add _ _).block ≠ _; rw [add_block]; exact Nat.ne_of_lt (Nat.lt_of_lt_of_le (by have := World.block_lt_of_cell? _ _ hw495_1; first | rwa [add_block] at this | exact this) GW496.out)) | (dsimp only; exact Nat.ne_of_lt (Nat.lt_of_lt_of_le (by have := World.block_lt_of_cell? _ _ hw495_1; first | rwa [add_block] at this | exact this) GW496.out))) _).trans (((cell_far (p := ⟨gb496, _, none⟩) (by first | exact Nat.ne_of_lt (Nat.lt_of_lt_of_le (by have := World.block_lt_of_cell? _ _ hw495_1; first | rwa [add_block] at this | exact this) GW496.out) | (rw [add_block]; exact Nat.ne_of_lt (Nat.lt_of_lt_of_le (by have := World.block_lt_of_cell? _ _ hw495_1; first | rwa [add_block] at this | exact this) GW496.out)) | (show (Addr.add _ _).block ≠ _; rw [add_block]; exact Nat.ne_of_lt (Nat.lt_of_lt_of_le (by have := World.block_lt_of_cell? _ _ hw495_1; first | rwa [add_block] at this | exact this) GW496.out)) | (dsimp only; exact Nat.ne_of_lt (Nat.lt_of_lt_of_le (by have := World.block_lt_of_cell? _ _ hw495_1; first | rwa [add_block] at this | exact this) GW496.out))) _).trans (hHeld.2.2.2.1)))))), ((cell_far (p := ⟨gb496, _, none⟩) (by first | exact Nat.ne_of_lt (Nat.lt_of_lt_of_le (by have := World.block_lt_of_cell? _ _ hw495_2; first | rwa [add_block] at this | exact this) GW496.out) | (rw [add_block]; exact Nat.ne_of_lt (Nat.lt_of_lt_of_le (by have := World.block_lt_of_cell? _ _ hw495_2; first | rwa [add_block] at this | exact this) GW496.out)) | (show (Addr.add _ _).block ≠ _; rw [add_block]; exact Nat.ne_of_lt (Nat.lt_of_lt_of_le (by have := World.block_lt_of_cell? _ _ hw495_2; first | rwa [add_block] at this | exact this) GW496.out)) | (dsimp only; exact Nat.ne_of_lt (Nat.lt_of_lt_of_le (by have := World.block_lt_of_cell? _ _ hw495_2; first | rwa [add_block] at this | exact this) GW496.out))) _).trans (((cell_far (p := ⟨gb496, _, none⟩) (by first | exact Nat.ne_of_lt (Nat.lt_of_lt_of_le (by have := World.block_lt_of_cell? _ _ hw495_2; first | rwa [add_block] at this | exact this) GW496.out) | (rw [add_block]; exact Nat.ne_of_lt (Nat.lt_of_lt_of_le (by have := World.block_lt_of_cell? _ _ hw495_2; first | rwa [add_block] at this | exact this) GW496.out)) | (show (Addr.add _ _).block ≠ _; rw [add_block]; exact Nat.ne_of_lt (Nat.lt_of_lt_of_le (by have := World.block_lt_of_cell? _ _ hw495_2; first | rwa [add_block] at this | exact this) GW496.out)) | (dsimp only; exact Nat.ne_of_lt (Nat.lt_of_lt_of_le (by have := World.block_lt_of_cell? _ _ hw495_2; first | rwa [add_block] at this | exact this) GW496.out))) _).trans (((cell_far (p := ⟨gb496, _, none⟩) (by first | exact Nat.ne_of_lt (Nat.lt_of_lt_of_le (by have := World.block_lt_of_cell? _ _ hw495_2; first | rwa [add_block] at this | exact this) GW496.out) | (rw [add_block]; exact Nat.ne_of_lt (Nat.lt_of_lt_of_le (by have := World.block_lt_of_cell? _ _ hw495_2; first | rwa [add_block] at this | exact this) GW496.out)) | (show (Addr.add _ _).block ≠ _; rw [add_block]; exact Nat.ne_of_lt (Nat.lt_of_lt_of_le (by have := World.block_lt_of_cell? _ _ hw495_2; first | rwa [add_block] at this | exact this) GW496.out)) | (dsimp only; exact Nat.ne_of_lt (Nat.lt_of_lt_of_le (by have := World.block_lt_of_cell? _ _ hw495_2; first | rwa [add_block] at this | exact this) GW496.out))) _).trans (hHeld.2.2.2.2))))))⟩ (fun hHeld => ?_)
      clear hK K
      refine done_ (done_of HT_.out (by kernel_rfl)) ?_
      have hnb14 := NB496_493.out
      have hnc14 := NB493_496.out
      have hcz15_0 : w10.cell? ⟨gb496, 0, none⟩ = some (.int .i64 0) := (blk_cell BK496.out 0).trans rfl
      have hcz15_1 : w10.cell? ⟨gb496, 1, none⟩ = some (.int .i64 0) := (blk_cell BK496.out 1).trans rfl
      have hcz15_2 : w10.cell? ⟨gb496, 2, none⟩ = some (.int .i64 0) := (blk_cell BK496.out 2).trans rfl
      have hfz15_0 := blk_frozen BK496.out 0
      have hfz15_1 := blk_frozen BK496.out 1
      have hfz15_2 := blk_frozen BK496.out 2
      try go_wp2
      go_ret
      exact ⟨by first | rfl | (simp [errW_none, errW_some] <;> rfl) | (simp [*, errW_none, errW_some] <;> rfl), by repeat (first | (with_reducible first | exact HB.out | apply below_alloc | apply pw_below_drewN | apply below_drew1 | refine below_set ?_ GE493.out | refine below_set ?_ GE496.out) | exact HB.out)⟩
    · rw [if_neg c5] at H
      exact absurd H (by simp)
  · rw [if_neg c4] at H
    exact absurd H (by simp)

end Go.Proofs.Ytnadfkhllfgoiaa.My
