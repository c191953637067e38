-- Merged by a program of this session (wip/sh/merge.py) from texts of mine.
import Derived.Test.YtnadfkhllfgoiaaMyx0
import Derived.Test.YtnadfkhllfgoiaaMyx48
import Derived.Test.YtnadfkhllfgoiaaMyx31
import Derived.Test.YtnadfkhllfgoiaaMyx33
import Derived.Test.YtnadfkhllfgoiaaMyx30
import Derived.Test.YtnadfkhllfgoiaaMyx32
import Derived.Test.YtnadfkhllfgoiaaMyx34
import Derived.Test.YtnadfkhllfgoiaaMyx35
import Derived.Test.YtnadfkhllfgoiaaAid
import Derived.Test.YtnadfkhllfgoiaaMyx51
import Derived.Test.YtnadfkhllfgoiaaMyx62
import Derived.Test.YtnadfkhllfgoiaaMyx53
import Derived.Test.YtnadfkhllfgoiaaMyx68
import Derived.Test.YtnadfkhllfgoiaaMyx38
import Derived.Test.YtnadfkhllfgoiaaMyx41
import Derived.Test.YtnadfkhllfgoiaaMyx40
import Derived.Test.YtnadfkhllfgoiaaMyx54
import Derived.Test.YtnadfkhllfgoiaaKdX
import Derived.ChangeArms
import Derived.WideShapes
import Derived.Lib.SmallJoins
import Derived.Deep.Slices
section
-- Written by a program of this session (wip/myprint.py), which drives the kit's print over hand-written fragments. Not trusted: Lean checks it.

namespace Go.Proofs.Ytnadfkhllfgoiaa.My
open Go.Proofs.Ytnadfkhllfgoiaa.Aid Go.Proofs.Ytnadfkhllfgoiaa.KdX
open Go.RowKit Go.Proofs.YtnadfkhllfgoiaaW.PrintWords Go.Proofs.YtnadfkhllfgoiaaW.PrintLast Go.Proofs.YtnadfkhllfgoiaaW.PrintMore
attribute [local go_sem] max2_int min2_int max_two min_two max_three min_three max_four min_four   -- for this text's walks alone
set_option linter.unusedVariables false
set_option linter.unusedSimpArgs false

/-! ### api_Piece: function 50 (by hand) -/
def api_Piece.f (l0 : List (S75)) : Option (List (S75)) := if l0.length ≤ 1000000000 then some l0 else none
set_option maxHeartbeats 400000 in
theorem api_Piece.calls (A0 : Option Addr) (c0 : Nat) (l0 : List (S75)) (r : List (S75)) (w : World) (hr0 : Kd.C k75 w A0 l0.length l0) (hc0 : l0.length ≤ c0) (h : api_Piece.f l0 = some r) :
    Calls Try.prog 50 #[.slice A0 l0.length c0] w fun e w' => ∃ v0_ : Value, e = .returned v0_ ∧ Kd.R k75 75 w' w.heap.size (fun _ => True) v0_ r ∧ Below w.heap.size w w' := by
  unfold api_Piece.f at h
  by_cases hl : l0.length ≤ 1000000000
  · rw [if_pos hl] at h
    obtain rfl := Option.some.inj h
    clear h
    have hq : ∀ (W : World) (a : Option Addr) (n c : Nat), (binOp .eql 40 (.slice a n c) (.slice none 0 0)).run Try.prog W = .ok (.bool a.isNone) W := fun W a n c => eql_nil W 40 75 a n c Try.underlying40
    have HR := Aside0.mk hr0
    clear hr0
    cases A0 with
    | none =>
      have hz : l0 = [] := by
        rcases Nat.eq_zero_or_pos l0.length with h0 | h0
        · exact List.eq_nil_of_length_eq_zero h0
        · obtain ⟨ad, e, _⟩ := HR.out.2.2 h0; cases e
      subst hz
      go_enter Try.func50, Try.ntmps50
      go_wp2
      go_ret
      exact ⟨_, rfl, Kd.R_nil _ _ _ _ _, Below.refl _ _⟩
    | some ad =>
      go_enter Try.func50, Try.ntmps50
      go_wp2_with (first | ((with_reducible refine gate_builtin (b := .append) (xs := #[.tmp 5, .tmp 6]) rfl ?_); at_builtin; refine Kd.R_append_rows k75 (w0 := w) w.heap.size rfl (.tmp 5) (.tmp 6) 40 75 (.agg #[(.int .i64 0), (.int .i64 0), (.int .i64 0)]) 24 rfl Try.underlying40 info75 rfl (by decide) (by omega) (.slice (some ⟨w.heap.size, 0, none⟩) 0 0) ([] : List (S75)) l0 _ _ _ (fun _ => True) (fun _ => False) rfl rfl ?aO ?aR (fun _ _ h => h) (fun _ h => h.elim) ?aF ?aB ?aS ?aL ?_; (case aO => exact emp_own trivial (Nat.le_refl _)); (case aR => exact Kd.C_alloc HR.out _); (case aF => exact fun _ _ => trivial); (case aB => exact below_alloc (Below.refl _ _) _); (case aS => simp); (case aL => simp; omega); intro v9 w9 ho hb hg hat; have HO9 := Aside0.mk ho; have HB9 := Aside0.mk hb; clear ho hb hg hat))
      go_ret
      exact ⟨_, rfl, HO9.out, HB9.out⟩
  · rw [if_neg hl] at h; cases h

end Go.Proofs.Ytnadfkhllfgoiaa.My
end
section
-- Written by a program of this session (wip/myprint.py), which drives the kit's print over hand-written fragments. Not trusted: Lean checks it.



namespace Go.Proofs.Ytnadfkhllfgoiaa.My
open Go.Proofs.Ytnadfkhllfgoiaa.Aid Go.Proofs.Ytnadfkhllfgoiaa.KdX
open Go.RowKit Go.Proofs.YtnadfkhllfgoiaaW.PrintWords Go.Proofs.YtnadfkhllfgoiaaW.PrintLast Go.Proofs.YtnadfkhllfgoiaaW.PrintMore
attribute [local go_sem] max2_int min2_int max_two min_two max_three min_three max_four min_four   -- for this text's walks alone
set_option linter.unusedVariables false
set_option linter.unusedSimpArgs false

/-! ### tax_Find: function 29 (by hand) -/
def tax_Find.f (l0 : List (S44)) (a1 : Int) : Option (Int × Int × List S75 × Bool) :=
  if lat l0 a1 l0.length < 0 then some (0, 0, [], false)
  else (api_Piece.f (rd_T44 l0 (lat l0 a1 l0.length)).f1.f1).bind fun c => some ((rd_T44 l0 (lat l0 a1 l0.length)).f0, (rd_T44 l0 (lat l0 a1 l0.length)).f1.f0, c, true)
set_option maxHeartbeats 1000000 in
theorem tax_Find.calls (A0 : Option Addr) (c0 : Nat) (l0 : List (S44)) (a1 : Int) (r1 r2 : Int) (r3 : List S75) (r4 : Bool) (w : World) (hr0 : Kd.C k44 w A0 l0.length l0) (hc0 : l0.length ≤ c0) (h : tax_Find.f l0 a1 = some (r1, r2, r3, r4)) :
    Calls Try.prog 29 #[.slice A0 l0.length c0, .int .i64 a1] w fun e w' => ∃ v2_ : Value, e = .returned (.tuple #[.agg #[.int .i64 r1, .int .i64 r2, v2_], .bool r4]) ∧ Kd.R k75 75 w' w.heap.size (fun _ => True) v2_ r3 ∧ Below w.heap.size w w' := by
  have hu44 := Try.underlying44
  have hu42 := Try.underlying42
  unfold tax_Find.f at h
  have hlb := lat_bd l0 a1 l0.length
  obtain ⟨W, hW⟩ : ∃ W, W = w.alloc (.cells #[.int .i64 0, .int .i64 0, .slice none 0 0] 44) := ⟨_, rfl⟩
  have hB : Below w.heap.size w W := by subst hW; exact below_alloc (Below.refl _ _) _
  have hBK : W.heap[w.heap.size]? = some (.cells #[.int .i64 0, .int .i64 0, .slice none 0 0] 44 (0, 0)) := by subst hW; exact blk_new w _
  have HL := Aside0.mk (api_Bracket.calls A0 c0 l0 a1 W (Kd.C_below hr0 hB))
  have HR := Aside0.mk hr0
  clear hr0
  by_cases hneg : lat l0 a1 l0.length < 0
  · rw [if_pos hneg] at h
    simp only [Option.some.injEq, Prod.mk.injEq] at h
    obtain ⟨rfl, rfl, rfl, rfl⟩ := h
    generalize lat l0 a1 l0.length = q at *
    go_enter Try.func29, Try.ntmps29
    go_wp2_with fail
    rw [← hW]
    have HX := Aside0.mk hW
    have HBK := Aside0.mk hBK
    have HB := Aside0.mk hB
    clear hW hBK hB
    refine HL.out.mono ?_
    rintro e w2 ⟨rfl, hb2⟩
    have hbk2 := (hb2.block w.heap.size (blk_lt HBK.out)).trans HBK.out
    have b0 := blk_cell hbk2 0
    have b1 := blk_cell hbk2 1
    have b2 := blk_cell hbk2 2
    have f0 := blk_frozen hbk2 0
    have f1 := blk_frozen hbk2 1
    have f2 := blk_frozen hbk2 2
    simp at b0 b1 b2
    have HB2 := Aside0.mk (below_step HB.out hb2)
    have HBK2 := Aside0.mk hbk2
    clear hb2 hbk2 HX HL
    go_wp2
    refine bodyPost_ret (results_ct rfl _ _ w.heap.size 44 #[.int .i64 0, .int .i64 0, .slice none 0 0] (0, 0) _ rfl (by
      refine blk_put (cs := #[.int .i64 0, .int .i64 0, .slice none 0 0]) ?_ 2 _ rfl
      refine blk_put (cs := #[.int .i64 0, .int .i64 0, .slice none 0 0]) ?_ 1 _ rfl
      refine blk_put (cs := #[.int .i64 0, .int .i64 0, .slice none 0 0]) ?_ 0 _ rfl
      exact HBK2.out) hu44 rfl (by kernel_rfl)) rfl ?_
    exact ⟨_, rfl, Kd.R_nil _ _ _ _ _, below_set (below_set (below_set HB2.out (Nat.le_refl _)) (Nat.le_refl _)) (Nat.le_refl _)⟩
  · rw [if_neg hneg] at h
    obtain ⟨c, hc, hr⟩ := Option.bind_eq_some_iff.1 h
    simp only [Option.some.injEq, Prod.mk.injEq] at hr
    obtain ⟨e1, e2, rfl, rfl⟩ := hr
    obtain ⟨ad, A2, c2, rfl, h1, h2, h3, hc2, hC2⟩ := at_T44 HR.out (lat l0 a1 l0.length) (by omega) (by omega)
    rw [e1] at h1
    rw [e2] at h2
    clear e1 e2 h
    have hcl := hc
    generalize lat l0 a1 l0.length = q at *
    generalize (rd_T44 l0 q).f1.f1 = ps at *
    have HCL := Aside0.mk hcl
    have HC2 := Aside0.mk hC2
    clear hc hC2 hcl
    go_enter Try.func29, Try.ntmps29
    go_wp2_with fail
    rw [← hW]
    have HX := Aside0.mk hW
    have HBK := Aside0.mk hBK
    have HB := Aside0.mk hB
    clear hW hBK hB
    refine HL.out.mono ?_
    rintro e w2 ⟨rfl, hb2⟩
    have hbk2 := (hb2.block w.heap.size (blk_lt HBK.out)).trans HBK.out
    have b0 := blk_cell hbk2 0
    have b1 := blk_cell hbk2 1
    have b2 := blk_cell hbk2 2
    have f0 := blk_frozen hbk2 0
    have f1 := blk_frozen hbk2 1
    have f2 := blk_frozen hbk2 2
    simp at b0 b1 b2
    have HB2 := Aside0.mk (below_step HB.out hb2)
    have HBK2 := Aside0.mk hbk2
    replace h1 := (HB2.out.cell (World.block_lt_of_cell? w _ h1)).trans h1
    replace h2 := (HB2.out.cell (World.block_lt_of_cell? w _ h2)).trans h2
    replace h3 := (HB2.out.cell (World.block_lt_of_cell? w _ h3)).trans h3
    clear hb2 hbk2 HX HL
    go_wp2_with fail
    have hbb := blk_new w2 (.cells #[.int .i64 r1, .int .i64 r2, .slice A2 ps.length c2] 44)
    have hal := below_alloc (Below.refl w2.heap.size w2) (.cells #[.int .i64 r1, .int .i64 r2, .slice A2 ps.length c2] 44)
    refine (api_Piece.calls A2 c2 ps c _ (Kd.C_below HC2.out (below_step HB2.out hal)) hc2 HCL.out).mono ?_
    rintro e w3 ⟨v3, rfl, hv3, hb3⟩
    obtain ⟨A3, c3, rfl⟩ := Kd.R_slice hv3
    have hbb3 := (hb3.block w2.heap.size (blk_lt hbb)).trans hbb
    have hr3 := (hb3.block w.heap.size (by have := HB2.out.size; have := blk_lt HBK2.out; simp; omega)).trans ((hal.block w.heap.size (blk_lt HBK2.out)).trans HBK2.out)
    have hlt3 : w.heap.size < w2.heap.size := blk_lt HBK2.out
    have hne : w.heap.size ≠ w2.heap.size := by omega
    have p0 := blk_cell hbb3 0
    have p1 := blk_cell hbb3 1
    have p2 := blk_cell hbb3 2
    have k2 := blk_frozen hbb3 2
    have s0 := blk_cell hr3 0
    have s1 := blk_cell hr3 1
    have s2 := blk_cell hr3 2
    have g0 := blk_frozen hr3 0
    have g1 := blk_frozen hr3 1
    have g2 := blk_frozen hr3 2
    simp at p0 p1 p2 s0 s1 s2
    have HB3 := Aside0.mk (below_step (below_step HB2.out hal) hb3)
    have HR3 := Aside0.mk hr3
    have HV3 := Aside0.mk hv3
    have HBB3 := Aside0.mk hbb3
    clear hb3 hr3 hv3 hbb3 hal hbb h1 h2 h3 b0 b1 b2 f0 f1 f2
    go_wp2
    refine bodyPost_ret (results_ct rfl _ _ w.heap.size 44 #[.int .i64 r1, .int .i64 r2, .slice A3 c.length c3] (0, 0) _ rfl (by
      refine blk_put (cs := #[.int .i64 r1, .int .i64 r2, .slice none 0 0]) ?_ 2 _ rfl
      refine blk_put (cs := #[.int .i64 r1, .int .i64 0, .slice none 0 0]) ?_ 1 _ rfl
      refine blk_put (cs := #[.int .i64 0, .int .i64 0, .slice none 0 0]) ?_ 0 _ rfl
      exact blk_far HR3.out hne _) hu44 rfl (by kernel_rfl)) rfl ?_
    have hR := Kd.R_mono (ok' := fun k => w2.heap.size < k) (Kd.R_bound HV3.out) (fun k hk => by have := hk.2.1; simp at this; omega)
    refine ⟨_, rfl, Kd.R_lower (Kd.R_mono (ok' := fun _ => True) (Kd.R_far (Kd.R_far (Kd.R_far (Kd.R_far hR ?_ _) ?_ _) ?_ _) ?_ _) (fun _ _ => trivial)) ?_,
      below_set (below_set (below_set (below_set HB3.out (Nat.le_of_lt hlt3)) (Nat.le_refl _)) (Nat.le_refl _)) (Nat.le_refl _)⟩
    · intro k hk; show k ≠ w2.heap.size; omega
    · intro k hk; show k ≠ w.heap.size; omega
    · intro k hk; show k ≠ w.heap.size; omega
    · intro k hk; show k ≠ w.heap.size; omega
    · simp; omega


end Go.Proofs.Ytnadfkhllfgoiaa.My
end
section
-- Written by a program of this session (wip/myprint.py), which drives the kit's print over hand-written fragments. Not trusted: Lean checks it.

namespace Go.Proofs.Ytnadfkhllfgoiaa.My
open Go.Proofs.Ytnadfkhllfgoiaa.Aid Go.Proofs.Ytnadfkhllfgoiaa.KdX
open Go.RowKit Go.Proofs.YtnadfkhllfgoiaaW.PrintWords Go.Proofs.YtnadfkhllfgoiaaW.PrintLast Go.Proofs.YtnadfkhllfgoiaaW.PrintMore
attribute [local go_sem] max2_int min2_int max_two min_two max_three min_three max_four min_four   -- for this text's walks alone
set_option linter.unusedVariables false
set_option linter.unusedSimpArgs false

/-! ### wageofficelaw28_Simple: function 47 -/
def wageofficelaw28_Simple.f (a0 : Int) : Option (Int × Int × (List (S75))) := some (a0, 10, (([(⟨0, 0, 0⟩ : S75), (⟨1000, 0, 2⟩ : S75)] : List (S75))))
set_option maxHeartbeats 8000000 in
set_option maxRecDepth 100000 in
theorem wageofficelaw28_Simple.calls (a0 : Int) (r1 : Int) (r2 : Int) (r3 : List (S75)) (w : World) (h : wageofficelaw28_Simple.f a0 = some (r1, r2, r3)) :
    Calls Try.prog 47 #[.int .i64 a0] w fun e w' => ∃ v2_ : Value, e = .returned (.agg #[.int .i64 r1, .int .i64 r2, v2_]) ∧ Kd.R k75 75 w' w.heap.size (fun _ => True) v2_ r3 ∧ Below w.heap.size w w' := by
  have hu44 := Try.underlying44
  have hu75 := Try.underlying75
  have hu42 := Try.underlying42
  have HB := Aside0.mk (Below.refl w.heap.size w)
  have H : (some (a0, 10, (([(⟨0, 0, 0⟩ : S75), (⟨1000, 0, 2⟩ : S75)] : List (S75))))) = some (r1, r2, r3) := h
  clear h
  obtain ⟨y474, hy474⟩ : ∃ y_ : List (S75), y_ = (([(⟨0, 0, 0⟩ : S75), (⟨1000, 0, 2⟩ : S75)] : List (S75))) := ⟨_, rfl⟩
  replace H : (some (a0, 10, y474)) = some (r1, r2, r3) := by first | (rw [hy474]; with_reducible exact H) | (have H2_ := (Option.bind_some _ _).symm.trans H; rw [hy474]; with_reducible exact H2_) | (have H2_ := (Option.bind_some _ _).symm.trans H; with_reducible exact H2_) | with_reducible exact H | (rw [hy474]; exact H) | exact H
  have Ny474 := Aside0.mk hy474
  clear hy474
  simp only [Option.some.injEq, Prod.mk.injEq] at H
  obtain ⟨rfl, rfl, rfl⟩ := H
  go_enter Try.func47, Try.ntmps47
  go_wp2_with (first | ((with_reducible refine gate_dst (N := 2) rfl ?_); refine box_event ?hg (N := 2) ?hd (cs := #[.int .i64 0, .int .i64 0, .slice none 0 0]) (t := 44) ?hr ?_; (case hd => rfl); (case hg => rfl); (case hr => first | (go_simp; done) | (go_simp; rfl)); intro gb473 hg w2 hbox hb; have n0_ := Aside0.mk (below_step (by repeat (first | (with_reducible first | exact HB.out | apply below_alloc | apply pw_below_drewN | apply below_drew1) | exact HB.out)) hb); have n1_ := Aside0.mk (hbox); have n2_ := Aside0.mk ((by rw [hg]; exact (below_size (by repeat (first | (with_reducible first | exact HB.out | apply below_alloc | apply pw_below_drewN | apply below_drew1) | exact HB.out))) : w.heap.size ≤ gb473)); have n3_ := Aside0.mk ((by rw [hg]; exact (below_size (by repeat (first | (with_reducible first | exact HB.out | apply below_alloc | apply pw_below_drewN | apply below_drew1) | exact HB.out))) : w.heap.size ≤ gb473)); clear HB; have HB := n0_; have BK473 := n1_; have GW473 := n2_; have GE473 := n3_; clear n0_ n1_ n2_ n3_; clear hb hbox hg) | ((with_reducible refine gate_dst (N := 6) rfl ?_); refine Kd.R_lit k75 _ 75 ?hg (N := 6) ?hd (xs := ([(⟨0, 0, 0⟩ : S75), (⟨1000, 0, 2⟩ : S75)] : List (S75))) (inner := [.int .i64 0, .int .i64 0, .int .i64 0, .int .i64 1000, .int .i64 0, .int .i64 2]) (ok := fun _ => True) (okp := fun _ => True) ?hr ?hp (fun _ hk => hk) trivial (Below.refl _ _) (Nat.le_refl _) (by simp) ?_; (case hd => rfl); (case hg => rfl); (case hr => first | (go_simp; done) | (go_simp; rfl)); (case hp => exact (Reps.c3 (show Kd.M k75 _ _ _ (⟨0, 0, 0⟩ : S75) [.int .i64 0, .int .i64 0, .int .i64 0] from (k75_mkM _ _ _ (⟨0, 0, 0⟩ : S75) )) (Reps.c3 (show Kd.M k75 _ _ _ (⟨1000, 0, 2⟩ : S75) [.int .i64 1000, .int .i64 0, .int .i64 2] from (k75_mkM _ _ _ (⟨1000, 0, 2⟩ : S75) )) (Reps.none _ _)))); intro v475 w3 ho4 hb hg_ hnew_; clear hg_ hnew_; (first | rw [← Ny474.out] at ho4 | (simp only [Int.reduceToNat] at ho4; rw [← Ny474.out] at ho4)); have n0_ := Aside0.mk (Kd.R_lower ho4 (below_size (by repeat (first | (with_reducible first | exact HB.out | apply below_alloc | apply pw_below_drewN | apply below_drew1 | refine below_set ?_ GE473.out) | exact HB.out)))); have n1_ := Aside0.mk (blk_below (g := gb473) (o := .cells #[.int .i64 0, .int .i64 0, .slice none 0 0] 44 (0, 0)) (by (with_reducible repeat (first | refine blk_drewN ?_ _ | refine blk_drew ?_ | refine blk_alloc ?_ _)); exact BK473.out) hb); have n2_ := Aside0.mk (below_step (by repeat (first | (with_reducible first | exact HB.out | apply below_alloc | apply pw_below_drewN | apply below_drew1 | refine below_set ?_ GE473.out) | exact HB.out)) hb); clear BK473; clear HB; have HO476 := n0_; have BK473 := n1_; have HB := n2_; clear n0_ n1_ n2_; clear hb ho4; obtain ⟨Ao5, co5, eo5⟩ := Kd.R_slice HO476.out; subst eo5; have hcz6_0 : w3.cell? ⟨gb473, 0, none⟩ = some (.int .i64 0) := (blk_cell BK473.out 0).trans rfl; have hcz6_1 : w3.cell? ⟨gb473, 1, none⟩ = some (.int .i64 0) := (blk_cell BK473.out 1).trans rfl; have hcz6_2 : w3.cell? ⟨gb473, 2, none⟩ = some (.slice none 0 0) := (blk_cell BK473.out 2).trans rfl; have hfz6_0 := blk_frozen BK473.out 0; have hfz6_1 := blk_frozen BK473.out 1; have hfz6_2 := blk_frozen BK473.out 2))
  refine bodyPost_ret (results_cell_row rfl _ _ gb473 44 #[.int .i64 a0, .int .i64 10, .slice Ao5 y474.length co5] (0, 0) _ rfl (by (with_reducible repeat (first | refine blk_drewN ?_ _ | refine blk_drew ?_ | refine blk_alloc ?_ _)); refine blk_put (cs := #[.int .i64 a0, .int .i64 10, .slice none 0 0]) ?_ 2 _ rfl; (with_reducible repeat (first | refine blk_drewN ?_ _ | refine blk_drew ?_ | refine blk_alloc ?_ _)); refine blk_put (cs := #[.int .i64 a0, .int .i64 0, .slice none 0 0]) ?_ 1 _ rfl; (with_reducible repeat (first | refine blk_drewN ?_ _ | refine blk_drew ?_ | refine blk_alloc ?_ _)); refine blk_put (cs := #[.int .i64 0, .int .i64 0, .slice none 0 0]) ?_ 0 _ rfl; (with_reducible repeat (first | refine blk_drewN ?_ _ | refine blk_drew ?_ | refine blk_alloc ?_ _)); exact BK473.out) Try.underlying44 rfl (by kernel_rfl)) rfl ?_
  exact ⟨_, by first | rfl | (simp [errW_none, errW_some] <;> rfl) | (simp [*, errW_none, errW_some] <;> rfl), by (with_reducible repeat (first | apply Kd.R_alloc | apply Kd.R_drewN | apply Kd.R_drew)); exact Kd.R_mono (Kd.R_far (p := ⟨gb473, 2, none⟩) (Kd.R_far (p := ⟨gb473, 1, none⟩) (Kd.R_far (p := ⟨gb473, 0, none⟩) (Kd.R_types HO476.out BK473.out (by decide)) (fun _ hk => hk.2) (.int .i64 a0)) (fun _ hk => hk.2) (.int .i64 10)) (fun _ hk => hk.2) (.slice Ao5 y474.length co5)) (fun _ hk => trivial), by repeat (first | (with_reducible first | exact HB.out | apply below_alloc | apply pw_below_drewN | apply below_drew1 | refine below_set ?_ GE473.out) | exact HB.out)⟩

end Go.Proofs.Ytnadfkhllfgoiaa.My
end
section
-- Written by a program of this session (wip/myprint.py), which drives the kit's print over hand-written fragments. Not trusted: Lean checks it.





namespace Go.Proofs.Ytnadfkhllfgoiaa.My
open Go.Proofs.Ytnadfkhllfgoiaa.Aid Go.Proofs.Ytnadfkhllfgoiaa.KdX
open Go.RowKit Go.Proofs.YtnadfkhllfgoiaaW.PrintWords Go.Proofs.YtnadfkhllfgoiaaW.PrintLast Go.Proofs.YtnadfkhllfgoiaaW.PrintMore
attribute [local go_sem] max2_int min2_int max_two min_two max_three min_three max_four min_four   -- for this text's walks alone
set_option linter.unusedVariables false
set_option linter.unusedSimpArgs false

/-! ### wageofficelaw28_head: function 27 (by hand) -/
def wageofficelaw28_head.f : Option (Bool) := some true
def head28_ps : List S75 := [⟨0, 0, 0⟩, ⟨1000, 0, 2⟩]
theorem C_of_block {α : Type} {d : Kd α} {W : World} {g : Nat} {cs : Array Value} {t : TypeId} {fr : Nat × Nat} {xs : List α} (h : W.heap[g]? = some (.cells cs t fr)) (hl : xs.length ≤ 9223372036854775807)
    (hx : ∀ j (hj : j < xs.length), ∃ c, d.K W xs[j] c ∧ ∀ i u, c[i]? = some u → cs[j * d.sz + i]? = some u) : d.C W (some ⟨g, 0, none⟩) xs.length xs := by
  refine ⟨rfl, hl, fun _ => ⟨_, rfl, fun j p hj => ?_⟩⟩
  obtain ⟨hjl, rfl⟩ := List.getElem?_eq_some_iff.1 hj
  obtain ⟨c, hK, hc⟩ := hx j hjl
  refine ⟨c, d.K_len hK, hK, fun i u hu => ?_⟩
  rw [add_plain, cell_of_row W g _ cs t fr h]
  exact hc i u hu
theorem head28_simple (y : Int) : wageofficelaw28_Simple.f y = some (y, 10, head28_ps) := rfl
theorem head28_1 : tax_Year.f 20 2024 10 head28_ps 1005 = some (1, 0) := by decide +kernel
theorem head28_2 : tax_Year.f 20 2024 10 head28_ps (-7) = some (0, 0) := by decide +kernel
theorem head28_3 : tax_Month.f 20 2024 10 head28_ps 600 0 600 = some (40, 0) := by decide +kernel
theorem head28_4 : tax_Month.f 20 2024 10 head28_ps 1200 40 300 = some (60, 0) := by decide +kernel
theorem head28_5 : tax_Month.f 20 2024 10 head28_ps 1500 100 (-1000) = some (-100, 0) := by decide +kernel
theorem head28_6 : tax_Month.f 20 2024 10 head28_ps 1000000000000 0 1 = some (0, 3) := by decide +kernel
theorem head28_7 : tax_Year.f 20 0 0 [] 5 = some (0, 1) := by decide +kernel
def head28_b3 : List S44 := [⟨2023, 10, head28_ps⟩, ⟨2024, 10, head28_ps⟩, ⟨2026, 10, head28_ps⟩]
def head28_b1 : List S44 := [⟨2024, 10, head28_ps⟩]
theorem head28_8 : tax_Find.f head28_b3 2025 = some (2024, 10, head28_ps, true) := by rfl
theorem head28_9 : tax_Find.f head28_b1 2023 = some (0, 0, [], false) := by rfl
theorem lt_alloc (w : World) (o : Obj) : w.heap.size < (w.alloc o).heap.size := by simp
theorem lt_alloc2 (w : World) (a b : Obj) : w.heap.size < ((w.alloc a).alloc b).heap.size := by simp; omega
theorem lt_alloc21 (w : World) (a b : Obj) : w.heap.size + 1 < ((w.alloc a).alloc b).heap.size := by simp
theorem blk_new1 (w : World) (a b : Obj) : ((w.alloc a).alloc b).heap[w.heap.size + 1]? = some b := by simpa using blk_new (w.alloc a) b
theorem below_over {W W2 : World} {o : Obj} (h : Below (W.alloc o).heap.size (W.alloc o) W2) : Below W.heap.size W W2 := below_step (below_alloc (Below.refl _ _) o) h
theorem head28_C3' {W : World} {g : Nat} {A1 A2 A3 : Option Addr} {c1 c2 c3 : Nat} (hg : W.heap[g]? = some (.cells #[.int .i64 2023, .int .i64 10, .slice A1 head28_ps.length c1, .int .i64 2024, .int .i64 10, .slice A2 head28_ps.length c2, .int .i64 2026, .int .i64 10, .slice A3 head28_ps.length c3] 44 (0, 0))) (h1 : Kd.C k75 W A1 head28_ps.length head28_ps) (h2 : Kd.C k75 W A2 head28_ps.length head28_ps) (h3 : Kd.C k75 W A3 head28_ps.length head28_ps) (l1 : head28_ps.length ≤ c1) (l2 : head28_ps.length ≤ c2) (l3 : head28_ps.length ≤ c3) :
    Kd.C k44 W (some ⟨g, 0, none⟩) head28_b3.length head28_b3 := by
  refine C_of_block hg (by decide) fun j hj => ?_
  have hj3 : j < 3 := hj
  match j, hj3 with
  | 0, _ => exact ⟨_, k44_mk _ ⟨2023, 10, head28_ps⟩ l1 h1, fun i u hu => by
      match i, hu with
      | 0, hu => exact hu
      | 1, hu => exact hu
      | 2, hu => exact hu
      | i + 3, hu => simp at hu⟩
  | 1, _ => exact ⟨_, k44_mk _ ⟨2024, 10, head28_ps⟩ l2 h2, fun i u hu => by
      match i, hu with
      | 0, hu => exact hu
      | 1, hu => exact hu
      | 2, hu => exact hu
      | i + 3, hu => simp at hu⟩
  | 2, _ => exact ⟨_, k44_mk _ ⟨2026, 10, head28_ps⟩ l3 h3, fun i u hu => by
      match i, hu with
      | 0, hu => exact hu
      | 1, hu => exact hu
      | 2, hu => exact hu
      | i + 3, hu => simp at hu⟩
theorem head28_C1 {W : World} {A1 : Option Addr} {c1 : Nat} (h1 : Kd.C k75 W A1 head28_ps.length head28_ps) (l1 : head28_ps.length ≤ c1) :
    Kd.C k44 (W.alloc (.cells #[.int .i64 2024, .int .i64 10, .slice A1 head28_ps.length c1] 44)) (some ⟨W.heap.size, 0, none⟩) head28_b1.length head28_b1 := by
  refine C_of_block (blk_new W _) (by decide) fun j hj => ?_
  have hj3 : j < 1 := hj
  match j, hj3 with
  | 0, _ => exact ⟨_, k44_mk _ ⟨2024, 10, head28_ps⟩ l1 (Kd.C_alloc h1 _), fun i u hu => by
      match i, hu with
      | 0, hu => exact hu
      | 1, hu => exact hu
      | 2, hu => exact hu
      | i + 3, hu => simp at hu⟩
set_option maxRecDepth 100000 in
set_option maxHeartbeats 4000000 in
theorem wageofficelaw28_head.calls (r : Bool) (w : World) (h : wageofficelaw28_head.f = some r) : Calls Try.prog 27 #[] w fun e w' => e = .returned (.bool r) ∧ Below w.heap.size w w' := by
  have hu44 := Try.underlying44
  obtain rfl := Option.some.inj h
  clear h
  go_enter Try.func27, Try.ntmps27
  go_wp2_with fail
  refine (wageofficelaw28_Simple.calls 2024 _ _ _ w (head28_simple 2024)).mono ?_
  rintro e w1 ⟨v1, rfl, hv1, hb1⟩
  obtain ⟨A, c, rfl, hlc, hC1⟩ := Kd.R_reads hv1
  have HLC := Aside0.mk hlc
  obtain ⟨W, hW⟩ : ∃ W, W = w1.alloc (.cells #[.int .i64 2024, .int .i64 10, .slice A head28_ps.length c] 44) := ⟨_, rfl⟩
  have hB : Below w.heap.size w W := by subst hW; exact below_alloc hb1 _
  have HC := Aside0.mk (show Kd.C _ W A head28_ps.length head28_ps by subst hW; exact Kd.C_alloc hC1 _)
  clear hv1 hb1 hC1 hlc
  have c0 : W.cell? ⟨w1.heap.size, 0, none⟩ = some (.int .i64 2024) := by subst hW; go_simp
  have c1 : W.cell? ⟨w1.heap.size, 1, none⟩ = some (.int .i64 10) := by subst hW; go_simp
  have c2 : W.cell? ⟨w1.heap.size, 2, none⟩ = some (.slice A head28_ps.length c) := by subst hW; go_simp
  go_wp2_with fail
  rw [← hW]
  have HB := Aside0.mk hB
  clear hW hB
  generalize w1.heap.size = g at *
  refine (tax_Year.calls 20 _ _ A c head28_ps _ _ _ _ HC.out HLC.out head28_1).mono ?_
  rintro e W2 ⟨rfl, hb⟩
  have c0' := (hb.cell (World.block_lt_of_cell? _ _ c0)).trans c0
  have c1' := (hb.cell (World.block_lt_of_cell? _ _ c1)).trans c1
  have c2' := (hb.cell (World.block_lt_of_cell? _ _ c2)).trans c2
  have HB' := Aside0.mk (below_step HB.out hb)
  have HC' := Aside0.mk (Kd.C_below HC.out hb)
  clear hb c0 c1 c2 HB HC
  have c0 := c0'
  have c1 := c1'
  have c2 := c2'
  have HB := HB'
  have HC := HC'
  clear c0' c1' c2' HB' HC'
  go_wp2_with fail
  refine (tax_Year.calls 20 _ _ A c head28_ps _ _ _ _ HC.out HLC.out head28_2).mono ?_
  rintro e W2 ⟨rfl, hb⟩
  have c0' := (hb.cell (World.block_lt_of_cell? _ _ c0)).trans c0
  have c1' := (hb.cell (World.block_lt_of_cell? _ _ c1)).trans c1
  have c2' := (hb.cell (World.block_lt_of_cell? _ _ c2)).trans c2
  have HB' := Aside0.mk (below_step HB.out hb)
  have HC' := Aside0.mk (Kd.C_below HC.out hb)
  clear hb c0 c1 c2 HB HC
  have c0 := c0'
  have c1 := c1'
  have c2 := c2'
  have HB := HB'
  have HC := HC'
  clear c0' c1' c2' HB' HC'
  go_wp2_with fail
  refine (tax_Month.calls 20 _ _ A c head28_ps _ _ _ _ _ _ HC.out HLC.out head28_3).mono ?_
  rintro e W2 ⟨rfl, hb⟩
  have c0' := (hb.cell (World.block_lt_of_cell? _ _ c0)).trans c0
  have c1' := (hb.cell (World.block_lt_of_cell? _ _ c1)).trans c1
  have c2' := (hb.cell (World.block_lt_of_cell? _ _ c2)).trans c2
  have HB' := Aside0.mk (below_step HB.out hb)
  have HC' := Aside0.mk (Kd.C_below HC.out hb)
  clear hb c0 c1 c2 HB HC
  have c0 := c0'
  have c1 := c1'
  have c2 := c2'
  have HB := HB'
  have HC := HC'
  clear c0' c1' c2' HB' HC'
  go_wp2_with fail
  refine (tax_Month.calls 20 _ _ A c head28_ps _ _ _ _ _ _ HC.out HLC.out head28_4).mono ?_
  rintro e W2 ⟨rfl, hb⟩
  have c0' := (hb.cell (World.block_lt_of_cell? _ _ c0)).trans c0
  have c1' := (hb.cell (World.block_lt_of_cell? _ _ c1)).trans c1
  have c2' := (hb.cell (World.block_lt_of_cell? _ _ c2)).trans c2
  have HB' := Aside0.mk (below_step HB.out hb)
  have HC' := Aside0.mk (Kd.C_below HC.out hb)
  clear hb c0 c1 c2 HB HC
  have c0 := c0'
  have c1 := c1'
  have c2 := c2'
  have HB := HB'
  have HC := HC'
  clear c0' c1' c2' HB' HC'
  go_wp2_with fail
  refine (tax_Month.calls 20 _ _ A c head28_ps _ _ _ _ _ _ HC.out HLC.out head28_5).mono ?_
  rintro e W2 ⟨rfl, hb⟩
  have c0' := (hb.cell (World.block_lt_of_cell? _ _ c0)).trans c0
  have c1' := (hb.cell (World.block_lt_of_cell? _ _ c1)).trans c1
  have c2' := (hb.cell (World.block_lt_of_cell? _ _ c2)).trans c2
  have HB' := Aside0.mk (below_step HB.out hb)
  have HC' := Aside0.mk (Kd.C_below HC.out hb)
  clear hb c0 c1 c2 HB HC
  have c0 := c0'
  have c1 := c1'
  have c2 := c2'
  have HB := HB'
  have HC := HC'
  clear c0' c1' c2' HB' HC'
  go_wp2_with fail
  refine (tax_Month.calls 20 _ _ A c head28_ps _ _ _ _ _ _ HC.out HLC.out head28_6).mono ?_
  rintro e W2 ⟨rfl, hb⟩
  have c0' := (hb.cell (World.block_lt_of_cell? _ _ c0)).trans c0
  have c1' := (hb.cell (World.block_lt_of_cell? _ _ c1)).trans c1
  have c2' := (hb.cell (World.block_lt_of_cell? _ _ c2)).trans c2
  have HB' := Aside0.mk (below_step HB.out hb)
  have HC' := Aside0.mk (Kd.C_below HC.out hb)
  clear hb c0 c1 c2 HB HC
  have c0 := c0'
  have c1 := c1'
  have c2 := c2'
  have HB := HB'
  have HC := HC'
  clear c0' c1' c2' HB' HC'
  go_wp2_with fail
  refine (tax_Year.calls 20 _ _ none 0 ([] : List S75) _ _ _ _ ⟨rfl, by simp, fun h => absurd h (by simp)⟩ (Nat.le_refl _) head28_7).mono ?_
  rintro e W2 ⟨rfl, hb⟩
  have c0' := (hb.cell (World.block_lt_of_cell? _ _ c0)).trans c0
  have c1' := (hb.cell (World.block_lt_of_cell? _ _ c1)).trans c1
  have c2' := (hb.cell (World.block_lt_of_cell? _ _ c2)).trans c2
  have HB' := Aside0.mk (below_step HB.out hb)
  have HC' := Aside0.mk (Kd.C_below HC.out hb)
  clear hb c0 c1 c2 HB HC
  have c0 := c0'
  have c1 := c1'
  have c2 := c2'
  have HB := HB'
  have HC := HC'
  clear c0' c1' c2' HB' HC'
  go_upto_region 9 with fail
  obtain ⟨W0, rfl⟩ : ∃ W0, W0 = W2 := ⟨_, rfl⟩
  have L := World.block_lt_of_cell? _ _ c0
  have n0a : g ≠ W0.heap.size := Nat.ne_of_lt L
  have n0b : W0.heap.size ≠ g := (Nat.ne_of_lt L).symm
  go_cut [16, 17] (fun s16 s17 wx => ∃ gc : Nat, s16 = .pointer (some ⟨gc, 0, none⟩) ∧ s17 = .bool true ∧ wx.cell? ⟨gc, 0, none⟩ = some (.int .i64 2024) ∧ Aside0 (Below W0.heap.size W0 wx))
  case first =>
    go_region_held3 (fun w' => w'.cell? ⟨g, 0, none⟩ = some (.int .i64 2024) ∧ w'.cell? ⟨g, 1, none⟩ = some (.int .i64 10) ∧ w'.cell? ⟨g, 2, none⟩ = some (.slice A head28_ps.length c)) (go_keep)
      (first
        | (go_at_call_of 47 (Value.int IntKind.i64 2023); refine (wageofficelaw28_Simple.calls 2023 _ _ _ _ (head28_simple 2023)).mono ?_; rintro e Wa ⟨va, rfl, hva, hba⟩; have hA : Below W0.heap.size W0 Wa := below_step (by repeat (first | exact Below.refl _ _ | apply below_alloc | apply below_drew1)) hba; have ca0 := (hA.cell (p := ⟨g, 0, none⟩) L).trans c0; have ca1 := (hA.cell (p := ⟨g, 1, none⟩) L).trans c1; have ca2 := (hA.cell (p := ⟨g, 2, none⟩) L).trans c2; have La := Nat.lt_of_lt_of_le L hA.size; have n1a : g ≠ Wa.heap.size := Nat.ne_of_lt La; have n1b : Wa.heap.size ≠ g := (Nat.ne_of_lt La).symm; (try (have yA := Aside0.mk ((hba.block W0.heap.size (lt_alloc W0.drew _)).trans (blk_new W0.drew _)))); obtain ⟨Aa, ka, rfl, hla, hCa⟩ := Kd.R_reads hva; have HLA := Aside0.mk hla; have HCA := Aside0.mk hCa; have HBA := Aside0.mk hA; clear hva hba hla hCa hA)
        | (go_at_call 29; refine (tax_Find.calls (some ⟨_, 0, none⟩) 3 head28_b3 2025 _ _ _ _ _ (head28_C3' (by first | exact blk_new _ _ | exact blk_alloc (blk_new _ _) _ | exact blk_new1 _ _ _) (by repeat (first | exact HCY.out | refine Kd.C_alloc ?_ _)) (by repeat (first | exact Kd.C_below HC.out HBB.out | refine Kd.C_alloc ?_ _)) (by repeat (first | exact HCB.out | refine Kd.C_alloc ?_ _)) HLA.out HLC.out HLB.out) (Nat.le_refl _) head28_8).mono ?_; rintro e Wc ⟨vc, rfl, hvc, hbc⟩; have hBC : Below Wb.heap.size Wb Wc := below_step (by repeat (first | exact Below.refl _ _ | apply below_alloc)) hbc; have hC0 := below_step HBB.out hBC; have cc0 := (hC0.cell (p := ⟨g, 0, none⟩) L).trans c0; have cc1 := (hC0.cell (p := ⟨g, 1, none⟩) L).trans c1; have cc2 := (hC0.cell (p := ⟨g, 2, none⟩) L).trans c2; have Lc := Nat.lt_of_lt_of_le L hC0.size; have n4a : g ≠ Wc.heap.size := Nat.ne_of_lt Lc; have n4b : Wc.heap.size ≠ g := (Nat.ne_of_lt Lc).symm; (try (have yC := Aside0.mk ((hBC.block _ (blk_lt yB.out)).trans yB.out))); (try (have yD := Aside0.mk ((hbc.block (Wb.heap.size + 1) (lt_alloc21 Wb _ _)).trans (blk_new1 Wb _ _)))); (try (have yE := Aside0.mk ((hbc.block Wb.heap.size (lt_alloc2 Wb _ _)).trans (blk_alloc (blk_new Wb _) _)))); (try (have y0yC := blk_cell yC.out 0; have y1yC := blk_cell yC.out 1; have y2yC := blk_cell yC.out 2; have z0yC := blk_frozen yC.out 0; have z1yC := blk_frozen yC.out 1; have z2yC := blk_frozen yC.out 2; simp at y0yC y1yC y2yC)); (try (have y0yD := blk_cell yD.out 0; have y1yD := blk_cell yD.out 1; have y2yD := blk_cell yD.out 2; have z0yD := blk_frozen yD.out 0; have z1yD := blk_frozen yD.out 1; have z2yD := blk_frozen yD.out 2; simp at y0yD y1yD y2yD)); (try (have y0yE := blk_cell yE.out 0; have y1yE := blk_cell yE.out 1; have y2yE := blk_cell yE.out 2; have z0yE := blk_frozen yE.out 0; have z1yE := blk_frozen yE.out 1; have z2yE := blk_frozen yE.out 2; simp at y0yE y1yE y2yE)); obtain ⟨Ac, kc, rfl⟩ := Kd.R_slice hvc; have HBC := Aside0.mk hC0; clear hvc hbc hBC hC0)
        | (go_at_call_of 47 (Value.int IntKind.i64 2026); refine (wageofficelaw28_Simple.calls 2026 _ _ _ _ (head28_simple 2026)).mono ?_; rintro e Wb ⟨vb, rfl, hvb, hbb⟩; have hAB : Below Wa.heap.size Wa Wb := below_step (by repeat (first | exact Below.refl _ _ | apply below_alloc | apply below_drew1)) hbb; have hB0 := below_step HBA.out hAB; have cb0 := (hB0.cell (p := ⟨g, 0, none⟩) L).trans c0; have cb1 := (hB0.cell (p := ⟨g, 1, none⟩) L).trans c1; have cb2 := (hB0.cell (p := ⟨g, 2, none⟩) L).trans c2; have Lb := Nat.lt_of_lt_of_le L hB0.size; have n2a : g ≠ Wb.heap.size := Nat.ne_of_lt Lb; have n2b : Wb.heap.size ≠ g := (Nat.ne_of_lt Lb).symm; have n3a : g ≠ Wb.heap.size + 1 := Nat.ne_of_lt (Nat.lt_succ_of_lt Lb); have n3b : Wb.heap.size + 1 ≠ g := (Nat.ne_of_lt (Nat.lt_succ_of_lt Lb)).symm; (try (have yB := Aside0.mk ((hAB.block _ (blk_lt yA.out)).trans yA.out))); (try (have yB := Aside0.mk ((hbb.block Wa.heap.size (lt_alloc Wa _)).trans (blk_new Wa _)))); obtain ⟨Ab, kb, rfl, hlb, hCb⟩ := Kd.R_reads hvb; have HLB := Aside0.mk hlb; have HCB := Aside0.mk hCb; have HBB := Aside0.mk hB0; have HCY := Aside0.mk (Kd.C_below HCA.out hAB); clear hvb hbb hlb hCb hAB hB0))
    all_goals (go_wp2_with fail; go_meet; exact ⟨_, rfl, rfl, by go_simp, ⟨by repeat (first | exact HBC.out | apply below_alloc | refine below_set ?_ (by first | exact Nat.le_refl _ | exact HBA.out.size | exact HBB.out.size | exact Nat.le_succ_of_le HBB.out.size | exact HBC.out.size))⟩⟩)
  case rest =>
    obtain ⟨gc, rfl, rfl, hgc, HBX⟩ := hcut
    have d0 := (HBX.out.cell (p := ⟨g, 0, none⟩) L).trans c0
    have d1 := (HBX.out.cell (p := ⟨g, 1, none⟩) L).trans c1
    have d2 := (HBX.out.cell (p := ⟨g, 2, none⟩) L).trans c2
    have HCX := Aside0.mk (Kd.C_below HC.out HBX.out)
    have HBW := Aside0.mk (below_step HB.out HBX.out)
    clear c0 c1 c2 HC HB
    go_wp2_with fail
    refine (tax_Find.calls (some ⟨_, 0, none⟩) 1 head28_b1 2023 _ _ _ _ _ (head28_C1 HCX.out HLC.out) (Nat.le_refl _) head28_9).mono ?_
    rintro e Wd ⟨vd, rfl, hvd, hbd⟩
    have hbe := below_over hbd
    have hgd := (hbe.cell (World.block_lt_of_cell? _ _ hgc)).trans hgc
    have hne : gc ≠ Wd.heap.size := Nat.ne_of_lt (Nat.lt_of_lt_of_le (World.block_lt_of_cell? _ _ hgc) hbe.size)
    obtain ⟨Ad, kd, rfl⟩ := Kd.R_slice hvd
    have HBZ := Aside0.mk (below_step HBW.out hbe)
    clear hvd hbd hbe hgc d0 d1 d2
    have hgo := fun o1 => ((below_alloc (Below.refl Wd.heap.size Wd) o1).cell (World.block_lt_of_cell? _ _ hgd)).trans hgd
    go_wp2
    go_ret
    exact ⟨rfl, by repeat (first | exact HBZ.out | apply below_alloc | refine below_set ?_ HBZ.out.size)⟩

end Go.Proofs.Ytnadfkhllfgoiaa.My
end
section
-- Written by a program of this session (wip/myprint.py), which drives the kit's print over hand-written fragments. Not trusted: Lean checks it.

namespace Go.Proofs.Ytnadfkhllfgoiaa.My
open Go.Proofs.Ytnadfkhllfgoiaa.Aid Go.Proofs.Ytnadfkhllfgoiaa.KdX
open Go.RowKit Go.Proofs.YtnadfkhllfgoiaaW.PrintWords Go.Proofs.YtnadfkhllfgoiaaW.PrintLast Go.Proofs.YtnadfkhllfgoiaaW.PrintMore
attribute [local go_sem] max2_int min2_int max_two min_two max_three min_three max_four min_four   -- for this text's walks alone
set_option linter.unusedVariables false
set_option linter.unusedSimpArgs false

/-! ### wageofficelaw28_short: function 28 -/
def wageofficelaw28_short.l0 : Nat → List (S44) → List (S44) → Int → Int → Option (Bool)
  | 0, _, _, _, _ => none
  | k + 1, x0, x5, x6, x7 => if x7 < x6 then (if 0 ≤ x7 then (if x7 < (x5.length : Int) then (if (((rd_T44 x5 x7).f1.f1).length : Int) > 66 then (some false) else (wageofficelaw28_short.l0 k x0 x5 x6 (wrap64 (x7 + 1)))) else (none)) else (none)) else (some (decide ((x0.length : Int) ≤ 40)))
def wageofficelaw28_short.f (k : Nat) (l0 : List (S44)) : Option (Bool) := wageofficelaw28_short.l0 k l0 l0 (l0.length : Int) 0
theorem wageofficelaw28_short.mono_l : ∀ k, (∀ y0 y1 y2 y3, LeO (wageofficelaw28_short.l0 k y0 y1 y2 y3) (wageofficelaw28_short.l0 (k + 1) y0 y1 y2 y3))
  | 0 => fun _ _ _ _ r h => by simp [wageofficelaw28_short.l0] at h
  | k + 1 => by
    have ih0 := wageofficelaw28_short.mono_l k
    · intro y0 y1 y2 y3
      unfold wageofficelaw28_short.l0
      repeat' first
      | (with_reducible exact ih0 _ _ _ _)
      | (with_reducible exact LeO.refl _)
      | (with_reducible exact LeO.none _)
      | (with_reducible refine LeO.ite ?_ ?_)
      | (with_reducible refine LeO.bind ?_ (fun _ => ?_))
      | exact ih0 _ _ _ _
      | exact LeO.none _
      | refine LeO.ite ?_ ?_
      | refine LeO.bind ?_ (fun _ => ?_)
theorem wageofficelaw28_short.mono : ∀ a0 k, LeO (wageofficelaw28_short.f k a0) (wageofficelaw28_short.f (k + 1) a0) := by
  intro a0 k
  have ih0 := wageofficelaw28_short.mono_l k
  unfold wageofficelaw28_short.f
  repeat' first
      | (with_reducible exact ih0 _ _ _ _)
      | (with_reducible exact LeO.refl _)
      | (with_reducible exact LeO.none _)
      | (with_reducible refine LeO.ite ?_ ?_)
      | (with_reducible refine LeO.bind ?_ (fun _ => ?_))
      | exact ih0 _ _ _ _
      | exact LeO.none _
      | refine LeO.ite ?_ ?_
      | refine LeO.bind ?_ (fun _ => ?_)
set_option maxHeartbeats 8000000 in
set_option maxRecDepth 100000 in
theorem wageofficelaw28_short.calls (k : Nat) (A0 : Option Addr) (c0 : Nat) (l0 : List (S44)) (r : Bool) (w : World) (hr0 : Kd.C k44 w A0 l0.length l0) (hc0 : l0.length ≤ c0) (h : wageofficelaw28_short.f k l0 = some r) :
    Calls Try.prog 28 #[.slice A0 l0.length c0] w fun e w' => e = .returned (.bool r) ∧ Below w.heap.size w w' := by
  have hu44 := Try.underlying44
  have HR0 := Aside0.mk hr0
  have HC0 := Aside0.mk hc0
  clear hr0 hc0
  have HB := Aside0.mk (Below.refl w.heap.size w)
  have H : (wageofficelaw28_short.l0 k l0 l0 (l0.length : Int) 0) = some r := h
  clear h
  have H' := Aside0.mk H
  clear H
  go_enter Try.func28, Try.ntmps28
  go_wp2
  go_loopg [7] k (fun kq v7 w' => ∃ (x7_1 : Int), v7 = .int .i64 x7_1 ∧ Aside0 (wageofficelaw28_short.l0 kq l0 l0 (l0.length : Int) x7_1 = some r) ∧ Aside0 (kq ≤ k) ∧ Aside0 (Below w.heap.size w w'))
  case atStart => exact ⟨(0), (by first | rfl | (simp; done) | (simp [*]; done)), H', ⟨Nat.le_refl _⟩, ⟨by repeat (first | (with_reducible first | exact HB.out | apply below_alloc | apply pw_below_drewN | apply below_drew1) | exact HB.out)⟩⟩
  case round =>
    clear H'
    obtain ⟨x7_1, rfl, HA, HK1, HB⟩ := hrel
    cases gk with
    | zero => exact absurd HA.out (by simp [wageofficelaw28_short.l0])
    | succ k1 =>
      have H := HA.out
      clear HA
      simp only [wageofficelaw28_short.l0] at H
      by_cases c2 : x7_1 < (l0.length : Int)
      · rw [if_pos c2] at H
        have c2b0 : decide (x7_1 < (l0.length : Int)) = true := decide_eq_true c2
        clear c2
        by_cases c3 : 0 ≤ x7_1
        · rw [if_pos c3] at H
          have c3b0 : decide (0 ≤ x7_1) = true := decide_eq_true c3
          clear c3
          by_cases c4 : x7_1 < (l0.length : Int)
          · rw [if_pos c4] at H
            have c4b0 : decide (x7_1 < (l0.length : Int)) = true := decide_eq_true c4
            clear c4
            by_cases c5 : (((rd_T44 l0 x7_1).f1.f1).length : Int) > 66
            · rw [if_pos c5] at H
              have c5b0 : decide (66 < (((rd_T44 l0 x7_1).f1.f1).length : Int)) = true := decide_eq_true c5
              have c5b1 : decide (66 < ((rd_T44 l0 x7_1).f1.f1).length) = true := decide_eq_true (by omega)
              clear c5
              obtain rfl := Option.some.inj H
              have p477 : 0 ≤ (x7_1 : Int) := of_decide_eq_true (by first | (with_reducible assumption) | assumption)
              have q477 : x7_1 < (l0.length : Int) := of_decide_eq_true (by first | (with_reducible assumption) | assumption)
              obtain ⟨ad477, A477_2, c477_2, e477, hx477_0, hx477_1, hx477_2, hl477_2, hi477_2⟩ := at_T44 HR0.out x7_1 p477 q477
              cases e477
              replace hx477_0 := (HB.out.cell (World.block_lt_of_cell? w _ hx477_0)).trans hx477_0
              replace hx477_1 := (HB.out.cell (World.block_lt_of_cell? w _ hx477_1)).trans hx477_1
              replace hx477_2 := (HB.out.cell (World.block_lt_of_cell? w _ hx477_2)).trans hx477_2
              have HR477_2 := Aside0.mk hi477_2
              have HC477_2 := Aside0.mk hl477_2
              clear hi477_2 hl477_2
              replace p477 := eq_true p477
              replace q477 := eq_true q477
              go_wp2_with (first | ((with_reducible refine gate_dst (N := 4) rfl ?_); refine box_event ?hg (N := 4) ?hd (cs := #[.int .i64 0, .int .i64 0, .slice none 0 0]) (t := 44) ?hr ?_; (case hd => rfl); (case hg => rfl); (case hr => first | (go_simp; done) | (go_simp; rfl)); intro gb478 hg w6 hbox hb; have n0_ := Aside0.mk (below_step (by repeat (first | (with_reducible first | exact HB.out | apply below_alloc | apply pw_below_drewN | apply below_drew1) | exact HB.out)) hb); have n1_ := Aside0.mk (hbox); have n2_ := Aside0.mk ((by rw [hg]; exact (below_size (by repeat (first | (with_reducible first | exact HB.out | apply below_alloc | apply pw_below_drewN | apply below_drew1) | exact HB.out))) : w.heap.size ≤ gb478)); have n3_ := Aside0.mk ((by rw [hg]; exact (below_size (by repeat (first | (with_reducible first | exact HB.out | apply below_alloc | apply pw_below_drewN | apply below_drew1) | exact HB.out))) : w.heap.size ≤ gb478)); clear HB; have HB := n0_; have BK478 := n1_; have GW478 := n2_; have GE478 := n3_; clear n0_ n1_ n2_ n3_; clear hb hbox hg; have hcz7_0 : w6.cell? ⟨gb478, 0, none⟩ = some (.int .i64 0) := (blk_cell BK478.out 0).trans rfl; have hcz7_1 : w6.cell? ⟨gb478, 1, none⟩ = some (.int .i64 0) := (blk_cell BK478.out 1).trans rfl; have hcz7_2 : w6.cell? ⟨gb478, 2, none⟩ = some (.slice none 0 0) := (blk_cell BK478.out 2).trans rfl; have hfz7_0 := blk_frozen BK478.out 0; have hfz7_1 := blk_frozen BK478.out 1; have hfz7_2 := blk_frozen BK478.out 2))
              go_ret
              exact ⟨by first | rfl | (simp [errW_none, errW_some] <;> rfl) | (simp [*, errW_none, errW_some] <;> rfl), by repeat (first | (with_reducible first | exact HB.out | apply below_alloc | apply pw_below_drewN | apply below_drew1 | refine below_set ?_ GE478.out) | exact HB.out)⟩
            · rw [if_neg c5] at H
              have c5b0 : decide (66 < (((rd_T44 l0 x7_1).f1.f1).length : Int)) = false := decide_eq_false c5
              have c5b1 : decide (66 < ((rd_T44 l0 x7_1).f1.f1).length) = false := decide_eq_false (by omega)
              clear c5
              have H' := Aside0.mk H
              clear H
              have p477 : 0 ≤ (x7_1 : Int) := of_decide_eq_true (by first | (with_reducible assumption) | assumption)
              have q477 : x7_1 < (l0.length : Int) := of_decide_eq_true (by first | (with_reducible assumption) | assumption)
              obtain ⟨ad477, A477_2, c477_2, e477, hx477_0, hx477_1, hx477_2, hl477_2, hi477_2⟩ := at_T44 HR0.out x7_1 p477 q477
              cases e477
              replace hx477_0 := (HB.out.cell (World.block_lt_of_cell? w _ hx477_0)).trans hx477_0
              replace hx477_1 := (HB.out.cell (World.block_lt_of_cell? w _ hx477_1)).trans hx477_1
              replace hx477_2 := (HB.out.cell (World.block_lt_of_cell? w _ hx477_2)).trans hx477_2
              have HR477_2 := Aside0.mk hi477_2
              have HC477_2 := Aside0.mk hl477_2
              clear hi477_2 hl477_2
              replace p477 := eq_true p477
              replace q477 := eq_true q477
              go_wp2_with (first | ((with_reducible refine gate_dst (N := 4) rfl ?_); refine box_event ?hg (N := 4) ?hd (cs := #[.int .i64 0, .int .i64 0, .slice none 0 0]) (t := 44) ?hr ?_; (case hd => rfl); (case hg => rfl); (case hr => first | (go_simp; done) | (go_simp; rfl)); intro gb478 hg w8 hbox hb; have n0_ := Aside0.mk (below_step (by repeat (first | (with_reducible first | exact HB.out | apply below_alloc | apply pw_below_drewN | apply below_drew1) | exact HB.out)) hb); have n1_ := Aside0.mk (hbox); have n2_ := Aside0.mk ((by rw [hg]; exact (below_size (by repeat (first | (with_reducible first | exact HB.out | apply below_alloc | apply pw_below_drewN | apply below_drew1) | exact HB.out))) : w.heap.size ≤ gb478)); have n3_ := Aside0.mk ((by rw [hg]; exact (below_size (by repeat (first | (with_reducible first | exact HB.out | apply below_alloc | apply pw_below_drewN | apply below_drew1) | exact HB.out))) : w.heap.size ≤ gb478)); clear HB; have HB := n0_; have BK478 := n1_; have GW478 := n2_; have GE478 := n3_; clear n0_ n1_ n2_ n3_; clear hb hbox hg; have hcz9_0 : w8.cell? ⟨gb478, 0, none⟩ = some (.int .i64 0) := (blk_cell BK478.out 0).trans rfl; have hcz9_1 : w8.cell? ⟨gb478, 1, none⟩ = some (.int .i64 0) := (blk_cell BK478.out 1).trans rfl; have hcz9_2 : w8.cell? ⟨gb478, 2, none⟩ = some (.slice none 0 0) := (blk_cell BK478.out 2).trans rfl; have hfz9_0 := blk_frozen BK478.out 0; have hfz9_1 := blk_frozen BK478.out 1; have hfz9_2 := blk_frozen BK478.out 2))
              go_roundg k1
              case measure => have := HK1.out; omega
              case rel => exact ⟨(wrap64 (x7_1 + 1)), (by first | rfl | (simp; done) | (simp [*]; done)), H', ⟨by have := HK1.out; omega⟩, ⟨by repeat (first | (with_reducible first | exact HB.out | apply below_alloc | apply pw_below_drewN | apply below_drew1 | refine below_set ?_ GE478.out) | exact HB.out)⟩⟩
          · rw [if_neg c4] at H
            exact absurd H (by simp)
        · rw [if_neg c3] at H
          exact absurd H (by simp)
      · rw [if_neg c2] at H
        have c2b0 : decide (x7_1 < (l0.length : Int)) = false := decide_eq_false c2
        clear c2
        obtain rfl := Option.some.inj H
        go_wp2
        go_ret
        exact ⟨by first | rfl | (simp [errW_none, errW_some] <;> rfl) | (simp [*, errW_none, errW_some] <;> rfl), by repeat (first | (with_reducible first | exact HB.out | apply below_alloc | apply pw_below_drewN | apply below_drew1) | exact HB.out)⟩

end Go.Proofs.Ytnadfkhllfgoiaa.My
end
section
-- Written by a program of this session (wip/myprint.py), which drives the kit's print over hand-written fragments. Not trusted: Lean checks it.










namespace Go.Proofs.Ytnadfkhllfgoiaa.My
open Go.Proofs.Ytnadfkhllfgoiaa.Aid Go.Proofs.Ytnadfkhllfgoiaa.KdX
open Go.RowKit Go.Proofs.YtnadfkhllfgoiaaW.PrintWords Go.Proofs.YtnadfkhllfgoiaaW.PrintLast Go.Proofs.YtnadfkhllfgoiaaW.PrintMore
attribute [local go_sem] max2_int min2_int max_two min_two max_three min_three max_four min_four   -- for this text's walks alone
set_option linter.unusedVariables false
set_option linter.unusedSimpArgs false

/-! ### wageofficelaw28_TaxMatchesReference: function 8 -/
def wageofficelaw28_TaxMatchesReference.j0 : Nat → List (S44) → Int → Int → Int → Int → Bool → Bool → Int → Int → List (S75) → Option (Bool)
  | 0, _, _, _, _, _, _, _, _, _, _ => none
  | k + 1, x0, x2, x3, x4, x5, x13, x35, x525000, x525001, x525002 => if x35 = true then (some x13) else ((tax_Find.f x0 x2).bind fun bt531 => ((wageofficeref28_Find.f k x0 x2).bind fun bt538 => ((tax_Year.f k x525000 x525001 x525002 x5).bind fun bt545 => ((wageofficeref28_Year.f k x525000 x525001 x525002 x5).bind fun bt547 => ((tax_Month.f k x525000 x525001 x525002 x3 x4 x5).bind fun bt549 => ((wageofficeref28_Month.f k x525000 x525001 x525002 x3 x4 x5).bind fun bt551 => (if x13 = true then (if (bt531.2.2.2 == bt538.2.2.2) = true then ((wageofficeref28_Same.f k bt531.1 bt531.2.1 bt531.2.2.1 bt538.1 bt538.2.1 bt538.2.2.1).bind fun t553 => (if t553 = true then (if bt545.1 = bt547.1 then (if bt545.2 = bt547.2 then (if bt549.1 = bt551.1 then (some (bt549.2 == bt551.2)) else (some false)) else (some false)) else (some false)) else (some false))) else (some false)) else (some false))))))))
def wageofficelaw28_TaxMatchesReference.f (k : Nat) (l0 : List (S44)) (a1_0 : Int) (a1_1 : Int) (l1_2 : List (S75)) (a2 : Int) (a3 : Int) (a4 : Int) (a5 : Int) : Option (Bool) := (wageofficelaw28_head.f).bind fun t525 => ((wageofficelaw28_short.f k l0).bind fun t526 => (if t526 = true then ((wageofficelaw28_short.f k (([(⟨a1_0, (⟨a1_1, l1_2⟩ : S42)⟩ : S44)] : List (S44)))).bind fun t530 => (wageofficelaw28_TaxMatchesReference.j0 k l0 a2 a3 a4 a5 t525 (!t530) a1_0 a1_1 l1_2)) else (wageofficelaw28_TaxMatchesReference.j0 k l0 a2 a3 a4 a5 t525 true a1_0 a1_1 l1_2)))
theorem wageofficelaw28_TaxMatchesReference.mono_l : ∀ k, (∀ y0 y1 y2 y3 y4 y5 y6 y7 y8 y9, LeO (wageofficelaw28_TaxMatchesReference.j0 k y0 y1 y2 y3 y4 y5 y6 y7 y8 y9) (wageofficelaw28_TaxMatchesReference.j0 (k + 1) y0 y1 y2 y3 y4 y5 y6 y7 y8 y9))
  | 0 => fun _ _ _ _ _ _ _ _ _ _ r h => by simp [wageofficelaw28_TaxMatchesReference.j0] at h
  | k + 1 => by
    have ih0 := wageofficelaw28_TaxMatchesReference.mono_l k
    · intro y0 y1 y2 y3 y4 y5 y6 y7 y8 y9
      unfold wageofficelaw28_TaxMatchesReference.j0
      repeat' first
      | (with_reducible exact ih0 _ _ _ _ _ _ _ _ _ _)
      | (with_reducible exact tax_Month.mono _ _ _ _ _ _ _)
      | (with_reducible exact tax_Year.mono _ _ _ _ _)
      | (with_reducible exact wageofficelaw28_short.mono _ _)
      | (with_reducible exact wageofficeref28_Find.mono _ _ _)
      | (with_reducible exact wageofficeref28_Month.mono _ _ _ _ _ _ _)
      | (with_reducible exact wageofficeref28_Same.mono _ _ _ _ _ _ _)
      | (with_reducible exact wageofficeref28_Year.mono _ _ _ _ _)
      | (with_reducible exact LeO.refl _)
      | (with_reducible exact LeO.none _)
      | (with_reducible refine LeO.ite ?_ ?_)
      | (with_reducible refine LeO.bind ?_ (fun _ => ?_))
      | exact ih0 _ _ _ _ _ _ _ _ _ _
      | exact tax_Month.mono _ _ _ _ _ _ _
      | exact tax_Year.mono _ _ _ _ _
      | exact wageofficelaw28_short.mono _ _
      | exact wageofficeref28_Find.mono _ _ _
      | exact wageofficeref28_Month.mono _ _ _ _ _ _ _
      | exact wageofficeref28_Same.mono _ _ _ _ _ _ _
      | exact wageofficeref28_Year.mono _ _ _ _ _
      | exact LeO.none _
      | refine LeO.ite ?_ ?_
      | refine LeO.bind ?_ (fun _ => ?_)
theorem wageofficelaw28_TaxMatchesReference.mono : ∀ a0 a1 a2 a3 a4 a5 a6 a7 k, LeO (wageofficelaw28_TaxMatchesReference.f k a0 a1 a2 a3 a4 a5 a6 a7) (wageofficelaw28_TaxMatchesReference.f (k + 1) a0 a1 a2 a3 a4 a5 a6 a7) := by
  intro a0 a1 a2 a3 a4 a5 a6 a7 k
  have ih0 := wageofficelaw28_TaxMatchesReference.mono_l k
  unfold wageofficelaw28_TaxMatchesReference.f
  repeat' first
      | (with_reducible exact ih0 _ _ _ _ _ _ _ _ _ _)
      | (with_reducible exact tax_Month.mono _ _ _ _ _ _ _)
      | (with_reducible exact tax_Year.mono _ _ _ _ _)
      | (with_reducible exact wageofficelaw28_short.mono _ _)
      | (with_reducible exact wageofficeref28_Find.mono _ _ _)
      | (with_reducible exact wageofficeref28_Month.mono _ _ _ _ _ _ _)
      | (with_reducible exact wageofficeref28_Same.mono _ _ _ _ _ _ _)
      | (with_reducible exact wageofficeref28_Year.mono _ _ _ _ _)
      | (with_reducible exact LeO.refl _)
      | (with_reducible exact LeO.none _)
      | (with_reducible refine LeO.ite ?_ ?_)
      | (with_reducible refine LeO.bind ?_ (fun _ => ?_))
      | exact ih0 _ _ _ _ _ _ _ _ _ _
      | exact tax_Month.mono _ _ _ _ _ _ _
      | exact tax_Year.mono _ _ _ _ _
      | exact wageofficelaw28_short.mono _ _
      | exact wageofficeref28_Find.mono _ _ _
      | exact wageofficeref28_Month.mono _ _ _ _ _ _ _
      | exact wageofficeref28_Same.mono _ _ _ _ _ _ _
      | exact wageofficeref28_Year.mono _ _ _ _ _
      | exact LeO.none _
      | refine LeO.ite ?_ ?_
      | refine LeO.bind ?_ (fun _ => ?_)
set_option maxHeartbeats 8000000 in
set_option maxRecDepth 100000 in
theorem wageofficelaw28_TaxMatchesReference.calls (k : Nat) (P0_ : Nat → Prop) (A0 : Option Addr) (c0 : Nat) (l0 : List (S44)) (a1_0 : Int) (a1_1 : Int) (P1_2_ : Nat → Prop) (A1_2 : Option Addr) (c1_2 : Nat) (l1_2 : List (S75)) (a2 : Int) (a3 : Int) (a4 : Int) (a5 : Int) (r : Bool) (w : World) (hs0 : Kd.V k44 44 w w.heap.size (fun k_ => P0_ k_) (.slice A0 l0.length c0) l0) (hs1_2 : Kd.V k75 75 w w.heap.size (fun k_ => P1_2_ k_) (.slice A1_2 l1_2.length c1_2) l1_2) (h : wageofficelaw28_TaxMatchesReference.f k l0 a1_0 a1_1 l1_2 a2 a3 a4 a5 = some r) :
    Calls Try.prog 8 #[.slice A0 l0.length c0, .agg #[.int .i64 a1_0, .int .i64 a1_1, .slice A1_2 l1_2.length c1_2], .int .i64 a2, .int .i64 a3, .int .i64 a4, .int .i64 a5] w fun e w' => e = .returned (.bool r) ∧ Below w.heap.size w w' := by
  have hu44 := Try.underlying44
  have HO0 := Aside0.mk (show Kd.V k44 44 w w.heap.size (fun k_ => ((P0_ k_ ∨ P1_2_ k_) ∨ w.heap.size ≤ k_)) (.slice A0 l0.length c0) l0 from Kd.V_mono hs0 (fun k_ hk => .inl (.inl hk)))
  have HO1_2 := Aside0.mk (show Kd.V k75 75 w w.heap.size (fun k_ => ((P0_ k_ ∨ P1_2_ k_) ∨ w.heap.size ≤ k_)) (.slice A1_2 l1_2.length c1_2) l1_2 from Kd.V_mono hs1_2 (fun k_ hk => .inl (.inr hk)))
  have HB := Aside0.mk (Below.refl w.heap.size w)
  have H : ((wageofficelaw28_head.f).bind fun t525 => ((wageofficelaw28_short.f k l0).bind fun t526 => (if t526 = true then ((wageofficelaw28_short.f k (([(⟨a1_0, (⟨a1_1, l1_2⟩ : S42)⟩ : S44)] : List (S44)))).bind fun t530 => (wageofficelaw28_TaxMatchesReference.j0 k l0 a2 a3 a4 a5 t525 (!t530) a1_0 a1_1 l1_2)) else (wageofficelaw28_TaxMatchesReference.j0 k l0 a2 a3 a4 a5 t525 true a1_0 a1_1 l1_2)))) = some r := h
  clear h
  replace H := Option.bind_eq_some_iff.mp H
  obtain ⟨t525, A70, H⟩ := H
  replace H : ((wageofficelaw28_short.f k l0).bind fun t526 => (if t526 = true then ((wageofficelaw28_short.f k (([(⟨a1_0, (⟨a1_1, l1_2⟩ : S42)⟩ : S44)] : List (S44)))).bind fun t530 => (wageofficelaw28_TaxMatchesReference.j0 k l0 a2 a3 a4 a5 t525 (!t530) a1_0 a1_1 l1_2)) else (wageofficelaw28_TaxMatchesReference.j0 k l0 a2 a3 a4 a5 t525 true a1_0 a1_1 l1_2))) = some r := H
  have A7 := Aside0.mk A70
  clear A70
  have HC8 := Aside0.mk H
  clear H
  go_enter Try.func8, Try.ntmps8
  go_upto_region 2 with (first | ((with_reducible refine gate_dst (N := 7) rfl ?_); (try (refine gate_guard (by rfl) ?_; dsimp only)); refine box_event ?hg (N := 7) ?hd (cs := #[.int .i64 a1_0, .int .i64 a1_1, .slice A1_2 l1_2.length c1_2]) (t := 44) ?hr ?_; (case hd => rfl); (case hg => rfl); (case hr => first | (go_simp; done) | (go_simp; rfl)); intro gb524 hg w9 hbox hb; have n0_ := Aside0.mk (Kd.V_below (Kd.V_elderB (by (with_reducible repeat (first | apply Kd.V_alloc | apply Kd.V_drewN | apply Kd.V_drew)); exact HO0.out) gb524 (Nat.le_of_eq hg.symm)) hb); have n1_ := Aside0.mk (Kd.V_below (Kd.V_elderB (by (with_reducible repeat (first | apply Kd.V_alloc | apply Kd.V_drewN | apply Kd.V_drew)); exact HO1_2.out) gb524 (Nat.le_of_eq hg.symm)) hb); have n2_ := Aside0.mk (below_step (by repeat (first | (with_reducible first | exact HB.out | apply below_alloc | apply pw_below_drewN | apply below_drew1) | exact HB.out)) hb); have n3_ := Aside0.mk (hbox); have n4_ := Aside0.mk ((by rw [hg]; exact (below_size (by repeat (first | (with_reducible first | exact HB.out | apply below_alloc | apply pw_below_drewN | apply below_drew1) | exact HB.out))) : w.heap.size ≤ gb524)); have n5_ := Aside0.mk ((by rw [hg]; exact (below_size (by repeat (first | (with_reducible first | exact HB.out | apply below_alloc | apply pw_below_drewN | apply below_drew1) | exact HB.out))) : w.heap.size ≤ gb524)); clear HO0; clear HO1_2; clear HB; have HO0 := n0_; have HO1_2 := n1_; have HB := n2_; have BK524 := n3_; have GW524 := n4_; have GE524 := n5_; clear n0_ n1_ n2_ n3_ n4_ n5_; clear hb hbox hg) | ((with_reducible refine gate_callee (f := 27) rfl ?_); refine goesL_ (some 26) rfl rfl Try.func27 (by kernel_rfl) rfl #[] rfl (by (try simp only [List.map_toArray, List.map_cons, List.map_nil]); first | done | rfl | (simp only [List.length_drop, List.length_take]; rfl)) ?_; (with_reducible refine (wageofficelaw28_head.calls  t525 _ A7.out).mono ?_); rintro e w10 ⟨rfl, hb⟩; refine ⟨_, rfl, ?_⟩; have n0_ := Aside0.mk (Kd.V_below (by (with_reducible repeat (first | apply Kd.V_alloc | apply Kd.V_drewN | apply Kd.V_drew)); exact HO0.out) hb); have n1_ := Aside0.mk (Kd.V_below (by (with_reducible repeat (first | apply Kd.V_alloc | apply Kd.V_drewN | apply Kd.V_drew)); exact HO1_2.out) hb); have n2_ := Aside0.mk (blk_below (g := gb524) (o := .cells #[.int .i64 a1_0, .int .i64 a1_1, .slice A1_2 l1_2.length c1_2] 44 (0, 0)) (by (with_reducible repeat (first | refine blk_drewN ?_ _ | refine blk_drew ?_ | refine blk_alloc ?_ _)); exact BK524.out) hb); have n3_ := Aside0.mk (below_step (by repeat (first | (with_reducible first | exact HB.out | apply below_alloc | apply pw_below_drewN | apply below_drew1 | refine below_set ?_ GE524.out) | exact HB.out)) hb); clear HO0; clear HO1_2; clear BK524; clear HB; have HO0 := n0_; have HO1_2 := n1_; have BK524 := n2_; have HB := n3_; clear n0_ n1_ n2_ n3_; (try clear hb); (try clear hb2); (try clear hk); (try clear hi)))
  (try simp only [Act.put, List.setIfInBounds_toArray, List.set_cons_zero, List.set_cons_succ])
  go_cut [35] (fun v35 wc => ∃ (kq : Nat) (x35_7 : Bool), v35 = .bool x35_7 ∧ Aside0 (wageofficelaw28_TaxMatchesReference.j0 kq l0 a2 a3 a4 a5 t525 x35_7 a1_0 a1_1 l1_2 = some r) ∧ Aside0 (kq ≤ k) ∧ Aside0 (Kd.V k44 44 wc w.heap.size (fun k_ => ((P0_ k_ ∨ P1_2_ k_) ∨ w.heap.size ≤ k_) ∧ k_ ≠ gb524) (.slice A0 l0.length c0) l0) ∧ Aside0 (Kd.V k75 75 wc w.heap.size (fun k_ => ((P0_ k_ ∨ P1_2_ k_) ∨ w.heap.size ≤ k_) ∧ k_ ≠ gb524) (.slice A1_2 l1_2.length c1_2) l1_2) ∧ Aside0 (wc.heap[gb524]? = some (.cells #[.int .i64 a1_0, .int .i64 a1_1, (.slice A1_2 l1_2.length c1_2)] 44 (0, 0))) ∧ Aside0 (Below w.heap.size w wc))
  case first =>
    have H := HC8.out
    clear HC8
    replace H := Option.bind_eq_some_iff.mp H
    obtain ⟨t526, A110, H⟩ := H
    replace H : (if t526 = true then ((wageofficelaw28_short.f k (([(⟨a1_0, (⟨a1_1, l1_2⟩ : S42)⟩ : S44)] : List (S44)))).bind fun t530 => (wageofficelaw28_TaxMatchesReference.j0 k l0 a2 a3 a4 a5 t525 (!t530) a1_0 a1_1 l1_2)) else (wageofficelaw28_TaxMatchesReference.j0 k l0 a2 a3 a4 a5 t525 true a1_0 a1_1 l1_2)) = some r := H
    have A11 := Aside0.mk A110
    clear A110
    by_cases c12 : t526 = true
    · subst c12
      have H1 : ((wageofficelaw28_short.f k (([(⟨a1_0, (⟨a1_1, l1_2⟩ : S42)⟩ : S44)] : List (S44)))).bind fun t530 => (wageofficelaw28_TaxMatchesReference.j0 k l0 a2 a3 a4 a5 t525 (!t530) a1_0 a1_1 l1_2)) = some r := by rw [if_pos rfl] at H; exact H
      clear H
      have H := H1
      clear H1
      obtain ⟨y527, hy527⟩ : ∃ y_ : List (S44), y_ = (([(⟨a1_0, (⟨a1_1, l1_2⟩ : S42)⟩ : S44)] : List (S44))) := ⟨_, rfl⟩
      replace H : ((wageofficelaw28_short.f k y527).bind fun t530 => (wageofficelaw28_TaxMatchesReference.j0 k l0 a2 a3 a4 a5 t525 (!t530) a1_0 a1_1 l1_2)) = some r := by first | (rw [hy527]; with_reducible exact H) | (have H2_ := (Option.bind_some _ _).symm.trans H; rw [hy527]; with_reducible exact H2_) | (have H2_ := (Option.bind_some _ _).symm.trans H; with_reducible exact H2_) | with_reducible exact H | (rw [hy527]; exact H) | exact H
      have Ny527 := Aside0.mk hy527
      clear hy527
      replace H := Option.bind_eq_some_iff.mp H
      obtain ⟨t530, A130, H⟩ := H
      replace H : (wageofficelaw28_TaxMatchesReference.j0 k l0 a2 a3 a4 a5 t525 (!t530) a1_0 a1_1 l1_2) = some r := H
      have A13 := Aside0.mk A130
      clear A130
      have H' := Aside0.mk H
      clear H
      go_wp2_with (first | ((with_reducible refine gate_callee (f := 28) rfl ?_); refine goesL_ (some 28) rfl rfl Try.func28 (by kernel_rfl) rfl #[.slice A0 l0.length c0] rfl (by (try simp only [List.map_toArray, List.map_cons, List.map_nil]); first | done | rfl | (simp only [List.length_drop, List.length_take]; rfl)) ?_; (with_reducible refine (wageofficelaw28_short.calls k _ _ l0 true _ ?side1 ?side2 A11.out).mono ?_); (case side1 => repeat (first | exact (Kd.V_reads' HO0.out).2.2 | (with_reducible refine Kd.C_alloc ?_ _) | (with_reducible refine Kd.C_drewN ?_ _) | (with_reducible refine Kd.C_drew ?_))); (case side2 => exact (Kd.V_reads' HO0.out).2.1); rintro e w14 ⟨rfl, hb⟩; refine ⟨_, rfl, ?_⟩; have n0_ := Aside0.mk (Kd.V_below (by (with_reducible repeat (first | apply Kd.V_alloc | apply Kd.V_drewN | apply Kd.V_drew)); exact HO0.out) hb); have n1_ := Aside0.mk (Kd.V_below (by (with_reducible repeat (first | apply Kd.V_alloc | apply Kd.V_drewN | apply Kd.V_drew)); exact HO1_2.out) hb); have n2_ := Aside0.mk (blk_below (g := gb524) (o := .cells #[.int .i64 a1_0, .int .i64 a1_1, .slice A1_2 l1_2.length c1_2] 44 (0, 0)) (by (with_reducible repeat (first | refine blk_drewN ?_ _ | refine blk_drew ?_ | refine blk_alloc ?_ _)); exact BK524.out) hb); have n3_ := Aside0.mk (below_step (by repeat (first | (with_reducible first | exact HB.out | apply below_alloc | apply pw_below_drewN | apply below_drew1 | refine below_set ?_ GE524.out) | exact HB.out)) hb); clear HO0; clear HO1_2; clear BK524; clear HB; have HO0 := n0_; have HO1_2 := n1_; have BK524 := n2_; have HB := n3_; clear n0_ n1_ n2_ n3_; (try clear hb); (try clear hb2); (try clear hk); (try clear hi); have hcz15_0 : w14.cell? ⟨gb524, 0, none⟩ = some (.int .i64 a1_0) := (blk_cell BK524.out 0).trans rfl; have hcz15_1 : w14.cell? ⟨gb524, 1, none⟩ = some (.int .i64 a1_1) := (blk_cell BK524.out 1).trans rfl; have hcz15_2 : w14.cell? ⟨gb524, 2, none⟩ = some (.slice A1_2 l1_2.length c1_2) := (blk_cell BK524.out 2).trans rfl; have hfz15_0 := blk_frozen BK524.out 0; have hfz15_1 := blk_frozen BK524.out 1; have hfz15_2 := blk_frozen BK524.out 2) | ((with_reducible refine gate_dst (N := 32) rfl ?_); (try (refine gate_guard (by rfl) ?_; dsimp only)); refine Kd.N_lit k44 _ 44 ?hg (N' := 32) ?hd (xs := ([(⟨a1_0, (⟨a1_1, l1_2⟩ : S42)⟩ : S44)] : List (S44))) (inner := [.int .i64 a1_0, .int .i64 a1_1, .slice A1_2 l1_2.length c1_2]) (ok := (fun k_ => ((P0_ k_ ∨ P1_2_ k_) ∨ w.heap.size ≤ k_) ∧ k_ ≠ gb524)) (okp := (fun k_ => ((P0_ k_ ∨ P1_2_ k_) ∨ w.heap.size ≤ k_) ∧ k_ ≠ gb524)) ?hr ?hp (fun _ hk => hk) ((show ∀ k_, w14.heap.size ≤ k_ → (fun k_ => ((P0_ k_ ∨ P1_2_ k_) ∨ w.heap.size ≤ k_) ∧ k_ ≠ gb524) k_ from fun k_ hk => ⟨(.inr (Nat.le_trans (below_size (by repeat (first | (with_reducible first | exact HB.out | apply below_alloc | apply pw_below_drewN | apply below_drew1 | refine below_set ?_ GE524.out) | exact HB.out))) hk)), Kd.freshB (g := gb524) (o := .cells #[.int .i64 a1_0, .int .i64 a1_1, .slice A1_2 l1_2.length c1_2] 44 (0, 0)) (by (with_reducible repeat (first | refine blk_drewN ?_ _ | refine blk_drew ?_ | refine blk_alloc ?_ _)); exact BK524.out) k_ hk⟩) _ (Nat.le_refl _)) (Below.refl _ _) (Nat.le_refl _) (by simp) ?_; (case hd => rfl); (case hg => rfl); (case hr => first | (go_simp; done) | (go_simp; rfl)); (case hp => exact (Reps.c3 (show Kd.FK k44 _ _ (⟨a1_0, (⟨a1_1, l1_2⟩ : S42)⟩ : S44) [.int .i64 a1_0, .int .i64 a1_1, .slice A1_2 l1_2.length c1_2] from (k44_mkF _ _ (⟨a1_0, (⟨a1_1, l1_2⟩ : S42)⟩ : S44) (Kd.V_reads' (Kd.V_mono (ok' := (fun k_ => ((P0_ k_ ∨ P1_2_ k_) ∨ w.heap.size ≤ k_) ∧ k_ ≠ gb524)) (HO1_2.out) (fun k_ hk => ⟨hk.1, hk.2⟩))).2.1 (Kd.V_F (Kd.V_mono (ok' := (fun k_ => ((P0_ k_ ∨ P1_2_ k_) ∨ w.heap.size ≤ k_) ∧ k_ ≠ gb524)) (HO1_2.out) (fun k_ hk => ⟨hk.1, hk.2⟩))))) (Reps.none _ _))); intro v528 w16 ho17 hb hg_ hnew_; clear hg_ hnew_; (first | rw [← Ny527.out] at ho17 | (simp only [Int.reduceToNat] at ho17; rw [← Ny527.out] at ho17)); have n0_ := Aside0.mk (Kd.V_elder' (by (with_reducible repeat (first | apply Kd.V_alloc | apply Kd.V_drewN | apply Kd.V_drew)); exact HO0.out) (Kd.N_base ho17) hb); have n1_ := Aside0.mk (Kd.V_elder' (by (with_reducible repeat (first | apply Kd.V_alloc | apply Kd.V_drewN | apply Kd.V_drew)); exact HO1_2.out) (Kd.N_base ho17) hb); have n2_ := Aside0.mk (Kd.N_lower ho17 (below_size (by repeat (first | (with_reducible first | exact HB.out | apply below_alloc | apply pw_below_drewN | apply below_drew1 | refine below_set ?_ GE524.out) | exact HB.out)))); have n3_ := Aside0.mk (blk_below (g := gb524) (o := .cells #[.int .i64 a1_0, .int .i64 a1_1, .slice A1_2 l1_2.length c1_2] 44 (0, 0)) (by (with_reducible repeat (first | refine blk_drewN ?_ _ | refine blk_drew ?_ | refine blk_alloc ?_ _)); exact BK524.out) hb); have n4_ := Aside0.mk (below_step (by repeat (first | (with_reducible first | exact HB.out | apply below_alloc | apply pw_below_drewN | apply below_drew1 | refine below_set ?_ GE524.out) | exact HB.out)) hb); clear HO0; clear HO1_2; clear BK524; clear HB; have HO0 := n0_; have HO1_2 := n1_; have HO529 := n2_; have BK524 := n3_; have HB := n4_; clear n0_ n1_ n2_ n3_ n4_; clear hb ho17; obtain ⟨Ao18, co18, eo18⟩ := Kd.N_slice HO529.out; subst eo18) | (go_at_call 28; (with_reducible refine (wageofficelaw28_short.calls k _ _ y527 t530 _ ?side1 ?side2 A13.out).mono ?_); (case side1 => repeat (first | exact (Kd.N_reads' HO529.out).2.2 | (with_reducible refine Kd.C_alloc ?_ _) | (with_reducible refine Kd.C_drewN ?_ _) | (with_reducible refine Kd.C_drew ?_))); (case side2 => exact (Kd.N_reads' HO529.out).2.1); rintro e w19 ⟨rfl, hb⟩; have n0_ := Aside0.mk (Kd.V_below (by (with_reducible repeat (first | apply Kd.V_alloc | apply Kd.V_drewN | apply Kd.V_drew)); exact HO0.out) hb); have n1_ := Aside0.mk (Kd.V_below (by (with_reducible repeat (first | apply Kd.V_alloc | apply Kd.V_drewN | apply Kd.V_drew)); exact HO1_2.out) hb); have n2_ := Aside0.mk (Kd.N_below (by (with_reducible repeat (first | apply Kd.N_alloc | apply Kd.N_drewN | apply Kd.N_drew)); exact HO529.out) hb); have n3_ := Aside0.mk (blk_below (g := gb524) (o := .cells #[.int .i64 a1_0, .int .i64 a1_1, .slice A1_2 l1_2.length c1_2] 44 (0, 0)) (by (with_reducible repeat (first | refine blk_drewN ?_ _ | refine blk_drew ?_ | refine blk_alloc ?_ _)); exact BK524.out) hb); have n4_ := Aside0.mk (below_step (by repeat (first | (with_reducible first | exact HB.out | apply below_alloc | apply pw_below_drewN | apply below_drew1 | refine below_set ?_ GE524.out) | exact HB.out)) hb); clear HO0; clear HO1_2; clear HO529; clear BK524; clear HB; have HO0 := n0_; have HO1_2 := n1_; have HO529 := n2_; have BK524 := n3_; have HB := n4_; clear n0_ n1_ n2_ n3_ n4_; (try clear hb); (try clear hb2); (try clear hk); (try clear hi)))
      go_meet
      case rel => exact ⟨_, (!t530), (by first | rfl | (simp; done) | (simp [*]; done)), H', ⟨by first | omega | exact Nat.le_refl _⟩, ⟨by (with_reducible repeat (first | apply Kd.V_alloc | apply Kd.V_drewN | apply Kd.V_drew)); exact Kd.V_mono HO0.out (fun _ hk => ⟨hk.1.1, hk.1.2⟩)⟩, ⟨by (with_reducible repeat (first | apply Kd.V_alloc | apply Kd.V_drewN | apply Kd.V_drew)); exact Kd.V_mono HO1_2.out (fun _ hk => ⟨hk.1.1, hk.1.2⟩)⟩, ⟨by (with_reducible repeat (first | refine blk_drewN ?_ _ | refine blk_drew ?_ | refine blk_alloc ?_ _)); exact BK524.out⟩, ⟨by repeat (first | (with_reducible first | exact HB.out | apply below_alloc | apply pw_below_drewN | apply below_drew1 | refine below_set ?_ GE524.out) | exact HB.out)⟩⟩
    · replace c12 := Bool.eq_false_iff.mpr c12
      subst c12
      have H1 : (wageofficelaw28_TaxMatchesReference.j0 k l0 a2 a3 a4 a5 t525 true a1_0 a1_1 l1_2) = some r := by rw [if_neg (show ¬ (false = true) by decide)] at H; exact H
      clear H
      have H := H1
      clear H1
      have H' := Aside0.mk H
      clear H
      go_wp2_with (first | ((with_reducible refine gate_callee (f := 28) rfl ?_); refine goesL_ (some 28) rfl rfl Try.func28 (by kernel_rfl) rfl #[.slice A0 l0.length c0] rfl (by (try simp only [List.map_toArray, List.map_cons, List.map_nil]); first | done | rfl | (simp only [List.length_drop, List.length_take]; rfl)) ?_; (with_reducible refine (wageofficelaw28_short.calls k _ _ l0 false _ ?side1 ?side2 A11.out).mono ?_); (case side1 => repeat (first | exact (Kd.V_reads' HO0.out).2.2 | (with_reducible refine Kd.C_alloc ?_ _) | (with_reducible refine Kd.C_drewN ?_ _) | (with_reducible refine Kd.C_drew ?_))); (case side2 => exact (Kd.V_reads' HO0.out).2.1); rintro e w20 ⟨rfl, hb⟩; refine ⟨_, rfl, ?_⟩; have n0_ := Aside0.mk (Kd.V_below (by (with_reducible repeat (first | apply Kd.V_alloc | apply Kd.V_drewN | apply Kd.V_drew)); exact HO0.out) hb); have n1_ := Aside0.mk (Kd.V_below (by (with_reducible repeat (first | apply Kd.V_alloc | apply Kd.V_drewN | apply Kd.V_drew)); exact HO1_2.out) hb); have n2_ := Aside0.mk (blk_below (g := gb524) (o := .cells #[.int .i64 a1_0, .int .i64 a1_1, .slice A1_2 l1_2.length c1_2] 44 (0, 0)) (by (with_reducible repeat (first | refine blk_drewN ?_ _ | refine blk_drew ?_ | refine blk_alloc ?_ _)); exact BK524.out) hb); have n3_ := Aside0.mk (below_step (by repeat (first | (with_reducible first | exact HB.out | apply below_alloc | apply pw_below_drewN | apply below_drew1 | refine below_set ?_ GE524.out) | exact HB.out)) hb); clear HO0; clear HO1_2; clear BK524; clear HB; have HO0 := n0_; have HO1_2 := n1_; have BK524 := n2_; have HB := n3_; clear n0_ n1_ n2_ n3_; (try clear hb); (try clear hb2); (try clear hk); (try clear hi)))
      go_meet
      case rel => exact ⟨_, (true), (by first | rfl | (simp; done) | (simp [*]; done)), H', ⟨by first | omega | exact Nat.le_refl _⟩, ⟨by (with_reducible repeat (first | apply Kd.V_alloc | apply Kd.V_drewN | apply Kd.V_drew)); exact HO0.out⟩, ⟨by (with_reducible repeat (first | apply Kd.V_alloc | apply Kd.V_drewN | apply Kd.V_drew)); exact HO1_2.out⟩, ⟨by (with_reducible repeat (first | refine blk_drewN ?_ _ | refine blk_drew ?_ | refine blk_alloc ?_ _)); exact BK524.out⟩, ⟨by repeat (first | (with_reducible first | exact HB.out | apply below_alloc | apply pw_below_drewN | apply below_drew1 | refine below_set ?_ GE524.out) | exact HB.out)⟩⟩
  case rest =>
    clear HC8
    try clear c1
    try clear c2
    try clear p2
    try clear c3
    try clear c8
    try clear c12
    try clear hcz15_0
    try clear hcz15_1
    try clear hcz15_2
    try clear hfz15_0
    try clear hfz15_1
    try clear hfz15_2
    obtain ⟨kq, x35_7, rfl, HA, HJ7, HO_0, HO_525002, BK524, HB⟩ := hcut
    cases kq with
    | zero => exact absurd HA.out (by simp [wageofficelaw28_TaxMatchesReference.j0])
    | succ kj7 =>
      have H := HA.out
      clear HA
      simp only [wageofficelaw28_TaxMatchesReference.j0] at H
      by_cases c21 : x35_7 = true
      · subst c21
        have H1 : (some t525) = some r := by rw [if_pos rfl] at H; exact H
        clear H
        have H := H1
        clear H1
        obtain rfl := Option.some.inj H
        go_wp2
        go_ret
        exact ⟨by first | rfl | (simp [errW_none, errW_some] <;> rfl) | (simp [*, errW_none, errW_some] <;> rfl), by repeat (first | (with_reducible first | exact HB.out | apply below_alloc | apply pw_below_drewN | apply below_drew1 | refine below_set ?_ GE524.out) | exact HB.out)⟩
      · replace c21 := Bool.eq_false_iff.mpr c21
        subst c21
        have H1 : ((tax_Find.f l0 a2).bind fun bt531 => ((wageofficeref28_Find.f kj7 l0 a2).bind fun bt538 => ((tax_Year.f kj7 a1_0 a1_1 l1_2 a5).bind fun bt545 => ((wageofficeref28_Year.f kj7 a1_0 a1_1 l1_2 a5).bind fun bt547 => ((tax_Month.f kj7 a1_0 a1_1 l1_2 a3 a4 a5).bind fun bt549 => ((wageofficeref28_Month.f kj7 a1_0 a1_1 l1_2 a3 a4 a5).bind fun bt551 => (if t525 = true then (if (bt531.2.2.2 == bt538.2.2.2) = true then ((wageofficeref28_Same.f kj7 bt531.1 bt531.2.1 bt531.2.2.1 bt538.1 bt538.2.1 bt538.2.2.1).bind fun t553 => (if t553 = true then (if bt545.1 = bt547.1 then (if bt545.2 = bt547.2 then (if bt549.1 = bt551.1 then (some (bt549.2 == bt551.2)) else (some false)) else (some false)) else (some false)) else (some false))) else (some false)) else (some false)))))))) = some r := by rw [if_neg (show ¬ (false = true) by decide)] at H; exact H
        clear H
        have H := H1
        clear H1
        replace H := Option.bind_eq_some_iff.mp H
        obtain ⟨⟨t531, t532, t533, t536⟩, A220, H⟩ := H
        replace H : ((wageofficeref28_Find.f kj7 l0 a2).bind fun bt538 => ((tax_Year.f kj7 a1_0 a1_1 l1_2 a5).bind fun bt545 => ((wageofficeref28_Year.f kj7 a1_0 a1_1 l1_2 a5).bind fun bt547 => ((tax_Month.f kj7 a1_0 a1_1 l1_2 a3 a4 a5).bind fun bt549 => ((wageofficeref28_Month.f kj7 a1_0 a1_1 l1_2 a3 a4 a5).bind fun bt551 => (if t525 = true then (if (t536 == bt538.2.2.2) = true then ((wageofficeref28_Same.f kj7 t531 t532 t533 bt538.1 bt538.2.1 bt538.2.2.1).bind fun t553 => (if t553 = true then (if bt545.1 = bt547.1 then (if bt545.2 = bt547.2 then (if bt549.1 = bt551.1 then (some (bt549.2 == bt551.2)) else (some false)) else (some false)) else (some false)) else (some false))) else (some false)) else (some false))))))) = some r := H
        have A22 := Aside0.mk A220
        clear A220
        replace H := Option.bind_eq_some_iff.mp H
        obtain ⟨⟨t538, t539, t540, t543⟩, A230, H⟩ := H
        replace H : ((tax_Year.f kj7 a1_0 a1_1 l1_2 a5).bind fun bt545 => ((wageofficeref28_Year.f kj7 a1_0 a1_1 l1_2 a5).bind fun bt547 => ((tax_Month.f kj7 a1_0 a1_1 l1_2 a3 a4 a5).bind fun bt549 => ((wageofficeref28_Month.f kj7 a1_0 a1_1 l1_2 a3 a4 a5).bind fun bt551 => (if t525 = true then (if (t536 == t543) = true then ((wageofficeref28_Same.f kj7 t531 t532 t533 t538 t539 t540).bind fun t553 => (if t553 = true then (if bt545.1 = bt547.1 then (if bt545.2 = bt547.2 then (if bt549.1 = bt551.1 then (some (bt549.2 == bt551.2)) else (some false)) else (some false)) else (some false)) else (some false))) else (some false)) else (some false)))))) = some r := H
        have A23 := Aside0.mk A230
        clear A230
        replace H := Option.bind_eq_some_iff.mp H
        obtain ⟨⟨t545, t546⟩, A240, H⟩ := H
        replace H : ((wageofficeref28_Year.f kj7 a1_0 a1_1 l1_2 a5).bind fun bt547 => ((tax_Month.f kj7 a1_0 a1_1 l1_2 a3 a4 a5).bind fun bt549 => ((wageofficeref28_Month.f kj7 a1_0 a1_1 l1_2 a3 a4 a5).bind fun bt551 => (if t525 = true then (if (t536 == t543) = true then ((wageofficeref28_Same.f kj7 t531 t532 t533 t538 t539 t540).bind fun t553 => (if t553 = true then (if t545 = bt547.1 then (if t546 = bt547.2 then (if bt549.1 = bt551.1 then (some (bt549.2 == bt551.2)) else (some false)) else (some false)) else (some false)) else (some false))) else (some false)) else (some false))))) = some r := H
        have A24 := Aside0.mk A240
        clear A240
        replace H := Option.bind_eq_some_iff.mp H
        obtain ⟨⟨t547, t548⟩, A250, H⟩ := H
        replace H : ((tax_Month.f kj7 a1_0 a1_1 l1_2 a3 a4 a5).bind fun bt549 => ((wageofficeref28_Month.f kj7 a1_0 a1_1 l1_2 a3 a4 a5).bind fun bt551 => (if t525 = true then (if (t536 == t543) = true then ((wageofficeref28_Same.f kj7 t531 t532 t533 t538 t539 t540).bind fun t553 => (if t553 = true then (if t545 = t547 then (if t546 = t548 then (if bt549.1 = bt551.1 then (some (bt549.2 == bt551.2)) else (some false)) else (some false)) else (some false)) else (some false))) else (some false)) else (some false)))) = some r := H
        have A25 := Aside0.mk A250
        clear A250
        replace H := Option.bind_eq_some_iff.mp H
        obtain ⟨⟨t549, t550⟩, A260, H⟩ := H
        replace H : ((wageofficeref28_Month.f kj7 a1_0 a1_1 l1_2 a3 a4 a5).bind fun bt551 => (if t525 = true then (if (t536 == t543) = true then ((wageofficeref28_Same.f kj7 t531 t532 t533 t538 t539 t540).bind fun t553 => (if t553 = true then (if t545 = t547 then (if t546 = t548 then (if t549 = bt551.1 then (some (t550 == bt551.2)) else (some false)) else (some false)) else (some false)) else (some false))) else (some false)) else (some false))) = some r := H
        have A26 := Aside0.mk A260
        clear A260
        replace H := Option.bind_eq_some_iff.mp H
        obtain ⟨⟨t551, t552⟩, A270, H⟩ := H
        replace H : (if t525 = true then (if (t536 == t543) = true then ((wageofficeref28_Same.f kj7 t531 t532 t533 t538 t539 t540).bind fun t553 => (if t553 = true then (if t545 = t547 then (if t546 = t548 then (if t549 = t551 then (some (t550 == t552)) else (some false)) else (some false)) else (some false)) else (some false))) else (some false)) else (some false)) = some r := H
        have A27 := Aside0.mk A270
        clear A270
        go_wp2_with (first | ((with_reducible refine gate_callee (f := 29) rfl ?_); refine goesL_ (some 40) rfl rfl Try.func29 (by kernel_rfl) rfl #[.slice A0 l0.length c0, .int .i64 a2] rfl (by (try simp only [List.map_toArray, List.map_cons, List.map_nil]); first | done | rfl | (simp only [List.length_drop, List.length_take]; rfl)) ?_; (with_reducible refine (tax_Find.calls _ _ l0 a2 t531 t532 t533 t536 _ ?side1 ?side2 A22.out).mono ?_); (case side1 => repeat (first | exact (Kd.V_reads' HO_0.out).2.2 | (with_reducible refine Kd.C_alloc ?_ _) | (with_reducible refine Kd.C_drewN ?_ _) | (with_reducible refine Kd.C_drew ?_))); (case side2 => exact (Kd.V_reads' HO_0.out).2.1); rintro e w35 ⟨v534, rfl, ho0, hb⟩; refine ⟨_, rfl, ?_⟩; have n0_ := Aside0.mk (Kd.V_elder' (by (with_reducible repeat (first | apply Kd.V_alloc | apply Kd.V_drewN | apply Kd.V_drew)); exact HO_0.out) (Kd.R_base ho0) hb); have n1_ := Aside0.mk (Kd.V_elder' (by (with_reducible repeat (first | apply Kd.V_alloc | apply Kd.V_drewN | apply Kd.V_drew)); exact HO_525002.out) (Kd.R_base ho0) hb); have n2_ := Aside0.mk (Kd.R_lower (Kd.R_newM (M := fun k_ => (w.heap.size ≤ k_)) ho0 (below_size (by repeat (first | (with_reducible first | exact HB.out | apply below_alloc | apply pw_below_drewN | apply below_drew1 | refine below_set ?_ GE524.out) | exact HB.out))) (fun k_ h_ => h_)) (below_size (by repeat (first | (with_reducible first | exact HB.out | apply below_alloc | apply pw_below_drewN | apply below_drew1 | refine below_set ?_ GE524.out) | exact HB.out)))); have n3_ := Aside0.mk (blk_below (g := gb524) (o := .cells #[.int .i64 a1_0, .int .i64 a1_1, .slice A1_2 l1_2.length c1_2] 44 (0, 0)) (by (with_reducible repeat (first | refine blk_drewN ?_ _ | refine blk_drew ?_ | refine blk_alloc ?_ _)); exact BK524.out) hb); have n4_ := Aside0.mk (below_step (by repeat (first | (with_reducible first | exact HB.out | apply below_alloc | apply pw_below_drewN | apply below_drew1 | refine below_set ?_ GE524.out) | exact HB.out)) hb); clear HO_0; clear HO_525002; clear BK524; clear HB; have HO_0 := n0_; have HO_525002 := n1_; have HO535 := n2_; have BK524 := n3_; have HB := n4_; clear n0_ n1_ n2_ n3_ n4_; (try clear hb); (try clear hb2); (try clear hk); (try clear hi); (try clear ho0)) | ((with_reducible refine gate_dst (N := 14) rfl ?_); (try (refine gate_guard (by rfl) ?_; dsimp only)); refine box_event ?hg (N := 14) ?hd (cs := #[.int .i64 0, .int .i64 0, .slice none 0 0]) (t := 44) ?hr ?_; (case hd => rfl); (case hg => rfl); (case hr => first | (go_simp; done) | (go_simp; rfl)); intro gb537 hg w36 hbox hb; have n0_ := Aside0.mk (Kd.V_below (Kd.V_elderB (by (with_reducible repeat (first | apply Kd.V_alloc | apply Kd.V_drewN | apply Kd.V_drew)); exact HO_0.out) gb537 (Nat.le_of_eq hg.symm)) hb); have n1_ := Aside0.mk (Kd.V_below (Kd.V_elderB (by (with_reducible repeat (first | apply Kd.V_alloc | apply Kd.V_drewN | apply Kd.V_drew)); exact HO_525002.out) gb537 (Nat.le_of_eq hg.symm)) hb); have n2_ := Aside0.mk (Kd.R_below (by (with_reducible repeat (first | apply Kd.R_alloc | apply Kd.R_drewN | apply Kd.R_drew)); exact HO535.out) hb); have n3_ := Aside0.mk (blk_below (g := gb524) (o := .cells #[.int .i64 a1_0, .int .i64 a1_1, .slice A1_2 l1_2.length c1_2] 44 (0, 0)) (by (with_reducible repeat (first | refine blk_drewN ?_ _ | refine blk_drew ?_ | refine blk_alloc ?_ _)); exact BK524.out) hb); have n4_ := Aside0.mk (below_step (by repeat (first | (with_reducible first | exact HB.out | apply below_alloc | apply pw_below_drewN | apply below_drew1 | refine below_set ?_ GE524.out) | exact HB.out)) hb); have n5_ := Aside0.mk (hbox); have n6_ := Aside0.mk ((by rw [hg]; exact (below_size (by repeat (first | (with_reducible first | exact HB.out | apply below_alloc | apply pw_below_drewN | apply below_drew1 | refine below_set ?_ GE524.out) | exact HB.out))) : w.heap.size ≤ gb537)); have n7_ := Aside0.mk ((by rw [hg]; exact (below_size (by repeat (first | (with_reducible first | exact HB.out | apply below_alloc | apply pw_below_drewN | apply below_drew1 | refine below_set ?_ GE524.out) | exact HB.out))) : w.heap.size ≤ gb537)); have n8_ := Aside0.mk ((by rw [hg]; exact Nat.ne_of_lt (blk_lt (g := gb524) (o := .cells #[.int .i64 a1_0, .int .i64 a1_1, .slice A1_2 l1_2.length c1_2] 44 (0, 0)) (by (with_reducible repeat (first | refine blk_drewN ?_ _ | refine blk_drew ?_ | refine blk_alloc ?_ _)); exact BK524.out)) : gb524 ≠ gb537)); have n9_ := Aside0.mk ((by rw [hg]; exact Nat.ne_of_gt (blk_lt (g := gb524) (o := .cells #[.int .i64 a1_0, .int .i64 a1_1, .slice A1_2 l1_2.length c1_2] 44 (0, 0)) (by (with_reducible repeat (first | refine blk_drewN ?_ _ | refine blk_drew ?_ | refine blk_alloc ?_ _)); exact BK524.out)) : gb537 ≠ gb524)); clear HO_0; clear HO_525002; clear HO535; clear BK524; clear HB; have HO_0 := n0_; have HO_525002 := n1_; have HO535 := n2_; have BK524 := n3_; have HB := n4_; have BK537 := n5_; have GW537 := n6_; have GE537 := n7_; have NB524_537 := n8_; have NB537_524 := n9_; clear n0_ n1_ n2_ n3_ n4_ n5_ n6_ n7_ n8_ n9_; clear hb hbox hg; have hnb37 := NB537_524.out; have hnc37 := NB524_537.out; have hcz38_0 : w36.cell? ⟨gb537, 0, none⟩ = some (.int .i64 0) := (blk_cell BK537.out 0).trans rfl; have hcz38_1 : w36.cell? ⟨gb537, 1, none⟩ = some (.int .i64 0) := (blk_cell BK537.out 1).trans rfl; have hcz38_2 : w36.cell? ⟨gb537, 2, none⟩ = some (.slice none 0 0) := (blk_cell BK537.out 2).trans rfl; have hfz38_0 := blk_frozen BK537.out 0; have hfz38_1 := blk_frozen BK537.out 1; have hfz38_2 := blk_frozen BK537.out 2; obtain ⟨Ao39, co39, eo39⟩ := Kd.R_slice HO535.out; subst eo39) | ((with_reducible refine gate_store (t := 44) (p := 14) rfl ?_); refine store_event (t := 44) (p := 14) (v := ?vo_w40) (w1 := (((w36.setCell ⟨gb537, 0, none⟩ (.int .i64 t531)).setCell ⟨gb537, 1, none⟩ (.int .i64 t532)).setCell ⟨gb537, 2, none⟩ (.slice Ao39 t533.length co39))) ?hg ?ho ?hn ?hr ?_; (case ho => rfl); (case hg => rfl); (case hn => rfl); (case hr => first | (go_simp; done) | (go_simp; rfl)); intro w40 hw; have n0_ : Aside0 (Kd.V k44 44 w40 w.heap.size (fun k_ => ((P0_ k_ ∨ P1_2_ k_) ∨ w.heap.size ≤ k_) ∧ some k_ ≠ (.slice Ao39 t533.length co39 : Value).ownBlock ∧ k_ ≠ gb524 ∧ k_ ≠ gb537) (.slice A0 l0.length c0) l0) := ⟨(by rw [hw]; exact (by (with_reducible repeat (first | apply Kd.V_alloc | apply Kd.V_drewN | apply Kd.V_drew)); exact Kd.V_mono (Kd.V_far (p := ⟨gb537, 2, none⟩) (Kd.V_far (p := ⟨gb537, 1, none⟩) (Kd.V_far (p := ⟨gb537, 0, none⟩) (Kd.V_mono HO_0.out (fun k_ hk => (⟨hk, hk.2⟩ : _ ∧ k_ ≠ gb537))) (fun _ hk => hk.2) (.int .i64 t531)) (fun _ hk => hk.2) (.int .i64 t532)) (fun _ hk => hk.2) (.slice Ao39 t533.length co39)) (fun _ hk => ⟨hk.1.1.1.1, ⟨hk.1.1.2, ⟨hk.1.1.1.2, hk.1.2⟩⟩⟩)))⟩; have n1_ : Aside0 (Kd.V k75 75 w40 w.heap.size (fun k_ => ((P0_ k_ ∨ P1_2_ k_) ∨ w.heap.size ≤ k_) ∧ some k_ ≠ (.slice Ao39 t533.length co39 : Value).ownBlock ∧ k_ ≠ gb524 ∧ k_ ≠ gb537) (.slice A1_2 l1_2.length c1_2) l1_2) := ⟨(by rw [hw]; exact (by (with_reducible repeat (first | apply Kd.V_alloc | apply Kd.V_drewN | apply Kd.V_drew)); exact Kd.V_mono (Kd.V_far (p := ⟨gb537, 2, none⟩) (Kd.V_far (p := ⟨gb537, 1, none⟩) (Kd.V_far (p := ⟨gb537, 0, none⟩) (Kd.V_mono HO_525002.out (fun k_ hk => (⟨hk, hk.2⟩ : _ ∧ k_ ≠ gb537))) (fun _ hk => hk.2) (.int .i64 t531)) (fun _ hk => hk.2) (.int .i64 t532)) (fun _ hk => hk.2) (.slice Ao39 t533.length co39)) (fun _ hk => ⟨hk.1.1.1.1, ⟨hk.1.1.2, ⟨hk.1.1.1.2, hk.1.2⟩⟩⟩)))⟩; have n2_ : Aside0 (Kd.R k75 75 w40 w.heap.size (fun k_ => (w.heap.size ≤ k_)) (.slice Ao39 t533.length co39) t533) := ⟨(by rw [hw]; exact (by (with_reducible repeat (first | apply Kd.R_alloc | apply Kd.R_drewN | apply Kd.R_drew)); exact Kd.R_mono (Kd.R_far (p := ⟨gb537, 2, none⟩) (Kd.R_far (p := ⟨gb537, 1, none⟩) (Kd.R_far (p := ⟨gb537, 0, none⟩) (Kd.R_types HO535.out BK537.out (by decide)) (fun _ hk => hk.2) (.int .i64 t531)) (fun _ hk => hk.2) (.int .i64 t532)) (fun _ hk => hk.2) (.slice Ao39 t533.length co39)) (fun _ hk => hk.1.1)))⟩; have n3_ : Aside0 (w40.heap[gb524]? = some (.cells #[.int .i64 a1_0, .int .i64 a1_1, .slice A1_2 l1_2.length c1_2] 44 (0, 0))) := ⟨(by rw [hw]; exact (by (with_reducible repeat (first | refine blk_drewN ?_ _ | refine blk_drew ?_ | refine blk_alloc ?_ _)); refine blk_far ?_ NB524_537.out _; (with_reducible repeat (first | refine blk_drewN ?_ _ | refine blk_drew ?_ | refine blk_alloc ?_ _)); refine blk_far ?_ NB524_537.out _; (with_reducible repeat (first | refine blk_drewN ?_ _ | refine blk_drew ?_ | refine blk_alloc ?_ _)); refine blk_far ?_ NB524_537.out _; (with_reducible repeat (first | refine blk_drewN ?_ _ | refine blk_drew ?_ | refine blk_alloc ?_ _)); exact BK524.out))⟩; have n4_ : Aside0 (w40.heap[gb537]? = some (.cells #[.int .i64 t531, .int .i64 t532, .slice Ao39 t533.length co39] 44 (0, 0))) := ⟨(by rw [hw]; exact (by (with_reducible repeat (first | refine blk_drewN ?_ _ | refine blk_drew ?_ | refine blk_alloc ?_ _)); refine blk_put (cs := #[.int .i64 t531, .int .i64 t532, .slice none 0 0]) ?_ 2 _ rfl; (with_reducible repeat (first | refine blk_drewN ?_ _ | refine blk_drew ?_ | refine blk_alloc ?_ _)); refine blk_put (cs := #[.int .i64 t531, .int .i64 0, .slice none 0 0]) ?_ 1 _ rfl; (with_reducible repeat (first | refine blk_drewN ?_ _ | refine blk_drew ?_ | refine blk_alloc ?_ _)); refine blk_put (cs := #[.int .i64 0, .int .i64 0, .slice none 0 0]) ?_ 0 _ rfl; (with_reducible repeat (first | refine blk_drewN ?_ _ | refine blk_drew ?_ | refine blk_alloc ?_ _)); exact BK537.out))⟩; have n5_ : Aside0 (Below w.heap.size w w40) := ⟨(by rw [hw]; exact (by repeat (first | (with_reducible first | exact HB.out | apply below_alloc | apply pw_below_drewN | apply below_drew1 | refine below_set ?_ GE524.out | refine below_set ?_ GE537.out) | exact HB.out)))⟩; clear hw; clear HO_0; clear HO_525002; clear HO535; clear BK524; clear BK537; clear HB; have HO_0 := n0_; have HO_525002 := n1_; have HO535 := n2_; have BK524 := n3_; have BK537 := n4_; have HB := n5_; clear n0_ n1_ n2_ n3_ n4_ n5_) | ((with_reducible refine gate_callee (f := 30) rfl ?_); refine goesL_ (some 46) rfl rfl Try.func30 (by kernel_rfl) rfl #[.slice A0 l0.length c0, .int .i64 a2] rfl (by (try simp only [List.map_toArray, List.map_cons, List.map_nil]); first | done | rfl | (simp only [List.length_drop, List.length_take]; rfl)) ?_; (with_reducible refine (wageofficeref28_Find.calls kj7 (fun k_ => (((P0_ k_ ∨ P1_2_ k_) ∨ w.heap.size ≤ k_) ∧ (some k_ ≠ (.slice Ao39 t533.length co39 : Value).ownBlock ∧ (k_ ≠ gb524 ∧ k_ ≠ gb537)))) _ _ l0 a2 t538 t539 t540 t543 _ ?side1 A23.out).mono ?_); (case side1 => exact HO_0.out); rintro e w41 ⟨v541, rfl, ho0, hb⟩; refine ⟨_, rfl, ?_⟩; have n0_ := Aside0.mk (Kd.V_below (by (with_reducible repeat (first | apply Kd.V_alloc | apply Kd.V_drewN | apply Kd.V_drew)); exact HO_0.out) hb); have n1_ := Aside0.mk (Kd.V_below (by (with_reducible repeat (first | apply Kd.V_alloc | apply Kd.V_drewN | apply Kd.V_drew)); exact HO_525002.out) hb); have n2_ := Aside0.mk (Kd.R_below (by (with_reducible repeat (first | apply Kd.R_alloc | apply Kd.R_drewN | apply Kd.R_drew)); exact HO535.out) hb); have n3_ := Aside0.mk (Kd.V_lower (Kd.V_mono (ok' := fun k_ => ((P0_ k_ ∨ P1_2_ k_) ∨ w.heap.size ≤ k_) ∧ some k_ ≠ (.slice Ao39 t533.length co39 : Value).ownBlock ∧ k_ ≠ gb524 ∧ k_ ≠ gb537) ho0 (fun k_ hk_ => ⟨Or.elim hk_ (fun hs_ => hs_.1) (fun hn_ => (.inr (Nat.le_trans (below_size (by repeat (first | (with_reducible first | exact HB.out | apply below_alloc | apply pw_below_drewN | apply below_drew1 | refine below_set ?_ GE524.out | refine below_set ?_ GE537.out) | exact HB.out))) hn_))), Or.elim hk_ (fun hs_ => hs_.2.1) (fun hn_ => (Kd.fresh' (Kd.R_lt (by (with_reducible repeat (first | apply Kd.R_alloc | apply Kd.R_drewN | apply Kd.R_drew)); exact HO535.out)) k_ hn_)), Or.elim hk_ (fun hs_ => hs_.2.2.1) (fun hn_ => (Kd.freshB (g := gb524) (o := .cells #[.int .i64 a1_0, .int .i64 a1_1, .slice A1_2 l1_2.length c1_2] 44 (0, 0)) (by (with_reducible repeat (first | refine blk_drewN ?_ _ | refine blk_drew ?_ | refine blk_alloc ?_ _)); exact BK524.out) k_ hn_)), Or.elim hk_ (fun hs_ => hs_.2.2.2) (fun hn_ => (Kd.freshB (g := gb537) (o := .cells #[.int .i64 t531, .int .i64 t532, .slice Ao39 t533.length co39] 44 (0, 0)) (by (with_reducible repeat (first | refine blk_drewN ?_ _ | refine blk_drew ?_ | refine blk_alloc ?_ _)); exact BK537.out) k_ hn_))⟩)) (below_size (by repeat (first | (with_reducible first | exact HB.out | apply below_alloc | apply pw_below_drewN | apply below_drew1 | refine below_set ?_ GE524.out | refine below_set ?_ GE537.out) | exact HB.out)))); have n4_ := Aside0.mk (blk_below (g := gb524) (o := .cells #[.int .i64 a1_0, .int .i64 a1_1, .slice A1_2 l1_2.length c1_2] 44 (0, 0)) (by (with_reducible repeat (first | refine blk_drewN ?_ _ | refine blk_drew ?_ | refine blk_alloc ?_ _)); exact BK524.out) hb); have n5_ := Aside0.mk (blk_below (g := gb537) (o := .cells #[.int .i64 t531, .int .i64 t532, .slice Ao39 t533.length co39] 44 (0, 0)) (by (with_reducible repeat (first | refine blk_drewN ?_ _ | refine blk_drew ?_ | refine blk_alloc ?_ _)); exact BK537.out) hb); have n6_ := Aside0.mk (below_step (by repeat (first | (with_reducible first | exact HB.out | apply below_alloc | apply pw_below_drewN | apply below_drew1 | refine below_set ?_ GE524.out | refine below_set ?_ GE537.out) | exact HB.out)) hb); clear HO_0; clear HO_525002; clear HO535; clear BK524; clear BK537; clear HB; have HO_0 := n0_; have HO_525002 := n1_; have HO535 := n2_; have HO542 := n3_; have BK524 := n4_; have BK537 := n5_; have HB := n6_; clear n0_ n1_ n2_ n3_ n4_ n5_ n6_; (try clear hb); (try clear hb2); (try clear hk); (try clear hi); (try clear ho0)) | ((with_reducible refine gate_dst (N := 16) rfl ?_); (try (refine gate_guard (by rfl) ?_; dsimp only)); refine box_event ?hg (N := 16) ?hd (cs := #[.int .i64 0, .int .i64 0, .slice none 0 0]) (t := 44) ?hr ?_; (case hd => rfl); (case hg => rfl); (case hr => first | (go_simp; done) | (go_simp; rfl)); intro gb544 hg w42 hbox hb; have n0_ := Aside0.mk (Kd.V_below (Kd.V_elderB (by (with_reducible repeat (first | apply Kd.V_alloc | apply Kd.V_drewN | apply Kd.V_drew)); exact HO_0.out) gb544 (Nat.le_of_eq hg.symm)) hb); have n1_ := Aside0.mk (Kd.V_below (Kd.V_elderB (by (with_reducible repeat (first | apply Kd.V_alloc | apply Kd.V_drewN | apply Kd.V_drew)); exact HO_525002.out) gb544 (Nat.le_of_eq hg.symm)) hb); have n2_ := Aside0.mk (Kd.R_below (by (with_reducible repeat (first | apply Kd.R_alloc | apply Kd.R_drewN | apply Kd.R_drew)); exact HO535.out) hb); have n3_ := Aside0.mk (Kd.V_below (Kd.V_elderB (by (with_reducible repeat (first | apply Kd.V_alloc | apply Kd.V_drewN | apply Kd.V_drew)); exact HO542.out) gb544 (Nat.le_of_eq hg.symm)) hb); have n4_ := Aside0.mk (blk_below (g := gb524) (o := .cells #[.int .i64 a1_0, .int .i64 a1_1, .slice A1_2 l1_2.length c1_2] 44 (0, 0)) (by (with_reducible repeat (first | refine blk_drewN ?_ _ | refine blk_drew ?_ | refine blk_alloc ?_ _)); exact BK524.out) hb); have n5_ := Aside0.mk (blk_below (g := gb537) (o := .cells #[.int .i64 t531, .int .i64 t532, .slice Ao39 t533.length co39] 44 (0, 0)) (by (with_reducible repeat (first | refine blk_drewN ?_ _ | refine blk_drew ?_ | refine blk_alloc ?_ _)); exact BK537.out) hb); have n6_ := Aside0.mk (below_step (by repeat (first | (with_reducible first | exact HB.out | apply below_alloc | apply pw_below_drewN | apply below_drew1 | refine below_set ?_ GE524.out | refine below_set ?_ GE537.out) | exact HB.out)) hb); have n7_ := Aside0.mk (hbox); have n8_ := Aside0.mk ((by rw [hg]; exact (below_size (by repeat (first | (with_reducible first | exact HB.out | apply below_alloc | apply pw_below_drewN | apply below_drew1 | refine below_set ?_ GE524.out | refine below_set ?_ GE537.out) | exact HB.out))) : w.heap.size ≤ gb544)); have n9_ := Aside0.mk ((by rw [hg]; exact (below_size (by repeat (first | (with_reducible first | exact HB.out | apply below_alloc | apply pw_below_drewN | apply below_drew1 | refine below_set ?_ GE524.out | refine below_set ?_ GE537.out) | exact HB.out))) : w.heap.size ≤ gb544)); have n10_ := Aside0.mk ((by rw [hg]; exact Nat.ne_of_lt (blk_lt (g := gb524) (o := .cells #[.int .i64 a1_0, .int .i64 a1_1, .slice A1_2 l1_2.length c1_2] 44 (0, 0)) (by (with_reducible repeat (first | refine blk_drewN ?_ _ | refine blk_drew ?_ | refine blk_alloc ?_ _)); exact BK524.out)) : gb524 ≠ gb544)); have n11_ := Aside0.mk ((by rw [hg]; exact Nat.ne_of_gt (blk_lt (g := gb524) (o := .cells #[.int .i64 a1_0, .int .i64 a1_1, .slice A1_2 l1_2.length c1_2] 44 (0, 0)) (by (with_reducible repeat (first | refine blk_drewN ?_ _ | refine blk_drew ?_ | refine blk_alloc ?_ _)); exact BK524.out)) : gb544 ≠ gb524)); have n12_ := Aside0.mk ((by rw [hg]; exact Nat.ne_of_lt (blk_lt (g := gb537) (o := .cells #[.int .i64 t531, .int .i64 t532, .slice Ao39 t533.length co39] 44 (0, 0)) (by (with_reducible repeat (first | refine blk_drewN ?_ _ | refine blk_drew ?_ | refine blk_alloc ?_ _)); exact BK537.out)) : gb537 ≠ gb544)); have n13_ := Aside0.mk ((by rw [hg]; exact Nat.ne_of_gt (blk_lt (g := gb537) (o := .cells #[.int .i64 t531, .int .i64 t532, .slice Ao39 t533.length co39] 44 (0, 0)) (by (with_reducible repeat (first | refine blk_drewN ?_ _ | refine blk_drew ?_ | refine blk_alloc ?_ _)); exact BK537.out)) : gb544 ≠ gb537)); clear HO_0; clear HO_525002; clear HO535; clear HO542; clear BK524; clear BK537; clear HB; have HO_0 := n0_; have HO_525002 := n1_; have HO535 := n2_; have HO542 := n3_; have BK524 := n4_; have BK537 := n5_; have HB := n6_; have BK544 := n7_; have GW544 := n8_; have GE544 := n9_; have NB524_544 := n10_; have NB544_524 := n11_; have NB537_544 := n12_; have NB544_537 := n13_; clear n0_ n1_ n2_ n3_ n4_ n5_ n6_ n7_ n8_ n9_ n10_ n11_ n12_ n13_; clear hb hbox hg; have hnb43 := NB544_524.out; have hnc43 := NB524_544.out; have hnb44 := NB544_537.out; have hnc44 := NB537_544.out; have hcz45_0 : w42.cell? ⟨gb544, 0, none⟩ = some (.int .i64 0) := (blk_cell BK544.out 0).trans rfl; have hcz45_1 : w42.cell? ⟨gb544, 1, none⟩ = some (.int .i64 0) := (blk_cell BK544.out 1).trans rfl; have hcz45_2 : w42.cell? ⟨gb544, 2, none⟩ = some (.slice none 0 0) := (blk_cell BK544.out 2).trans rfl; have hfz45_0 := blk_frozen BK544.out 0; have hfz45_1 := blk_frozen BK544.out 1; have hfz45_2 := blk_frozen BK544.out 2; obtain ⟨Ao46, co46, eo46⟩ := Kd.V_slice HO542.out; subst eo46; have hcz47_0 : w42.cell? ⟨gb524, 0, none⟩ = some (.int .i64 a1_0) := (blk_cell BK524.out 0).trans rfl; have hcz47_1 : w42.cell? ⟨gb524, 1, none⟩ = some (.int .i64 a1_1) := (blk_cell BK524.out 1).trans rfl; have hcz47_2 : w42.cell? ⟨gb524, 2, none⟩ = some (.slice A1_2 l1_2.length c1_2) := (blk_cell BK524.out 2).trans rfl; have hfz47_0 := blk_frozen BK524.out 0; have hfz47_1 := blk_frozen BK524.out 1; have hfz47_2 := blk_frozen BK524.out 2) | ((with_reducible refine gate_callee (f := 31) rfl ?_); refine goesL_ (some 52) rfl rfl Try.func31 (by kernel_rfl) rfl #[.agg #[.int .i64 a1_0, .int .i64 a1_1, .slice A1_2 l1_2.length c1_2], .int .i64 a5] rfl (by (try simp only [List.map_toArray, List.map_cons, List.map_nil]); first | done | rfl | (simp only [List.length_drop, List.length_take]; rfl)) ?_; (with_reducible refine (tax_Year.calls kj7 a1_0 a1_1 _ _ l1_2 a5 t545 t546 _ ?side1 ?side2 A24.out).mono ?_); (case side1 => refine (Kd.V_reads' (e := 75) (base := w.heap.size) (ok := fun k_ => ((((P0_ k_ ∨ P1_2_ k_) ∨ w.heap.size ≤ k_) ∧ (some k_ ≠ (.slice Ao39 t533.length co39 : Value).ownBlock ∧ (k_ ≠ gb524 ∧ k_ ≠ gb537))) ∧ k_ ≠ gb544)) (n := l1_2.length) (c := c1_2) ?_).2.2; exact (by (with_reducible repeat (first | apply Kd.V_alloc | apply Kd.V_drewN | apply Kd.V_drew)); exact (Kd.V_mono (Kd.V_far (p := ⟨gb544, 2, none⟩) (Kd.V_far (p := ⟨gb544, 1, none⟩) (Kd.V_far (p := ⟨gb544, 0, none⟩) (Kd.V_mono HO_525002.out (fun k_ hk => (⟨hk, hk.2⟩ : _ ∧ k_ ≠ gb544))) (fun _ hk => hk.2) (.int .i64 t538)) (fun _ hk => hk.2) (.int .i64 t539)) (fun _ hk => hk.2) (.slice Ao46 t540.length co46)) (fun _ h_ => h_.1)))); (case side2 => exact (Kd.V_reads' HO_525002.out).2.1); rintro e w48 ⟨rfl, hb⟩; refine ⟨_, rfl, ?_⟩; have n0_ := Aside0.mk (Kd.V_below (by (with_reducible repeat (first | apply Kd.V_alloc | apply Kd.V_drewN | apply Kd.V_drew)); exact (Kd.V_mono (Kd.V_far (p := ⟨gb544, 2, none⟩) (Kd.V_far (p := ⟨gb544, 1, none⟩) (Kd.V_far (p := ⟨gb544, 0, none⟩) (Kd.V_mono HO_0.out (fun k_ hk => (⟨hk, hk.2⟩ : _ ∧ k_ ≠ gb544))) (fun _ hk => hk.2) (.int .i64 t538)) (fun _ hk => hk.2) (.int .i64 t539)) (fun _ hk => hk.2) (.slice Ao46 t540.length co46)) (fun _ h_ => h_.1))) hb); have n1_ := Aside0.mk (Kd.V_below (by (with_reducible repeat (first | apply Kd.V_alloc | apply Kd.V_drewN | apply Kd.V_drew)); exact (Kd.V_mono (Kd.V_far (p := ⟨gb544, 2, none⟩) (Kd.V_far (p := ⟨gb544, 1, none⟩) (Kd.V_far (p := ⟨gb544, 0, none⟩) (Kd.V_mono HO_525002.out (fun k_ hk => (⟨hk, hk.2⟩ : _ ∧ k_ ≠ gb544))) (fun _ hk => hk.2) (.int .i64 t538)) (fun _ hk => hk.2) (.int .i64 t539)) (fun _ hk => hk.2) (.slice Ao46 t540.length co46)) (fun _ h_ => h_.1))) hb); have n2_ := Aside0.mk (Kd.R_below (by (with_reducible repeat (first | apply Kd.R_alloc | apply Kd.R_drewN | apply Kd.R_drew)); exact (Kd.R_mono (Kd.R_far (p := ⟨gb544, 2, none⟩) (Kd.R_far (p := ⟨gb544, 1, none⟩) (Kd.R_far (p := ⟨gb544, 0, none⟩) (Kd.R_types HO535.out BK544.out (by decide)) (fun _ hk => hk.2) (.int .i64 t538)) (fun _ hk => hk.2) (.int .i64 t539)) (fun _ hk => hk.2) (.slice Ao46 t540.length co46)) (fun _ h_ => h_.1))) hb); have n3_ := Aside0.mk (Kd.V_below (by (with_reducible repeat (first | apply Kd.V_alloc | apply Kd.V_drewN | apply Kd.V_drew)); exact (Kd.V_mono (Kd.V_far (p := ⟨gb544, 2, none⟩) (Kd.V_far (p := ⟨gb544, 1, none⟩) (Kd.V_far (p := ⟨gb544, 0, none⟩) (Kd.V_mono HO542.out (fun k_ hk => (⟨hk, hk.2⟩ : _ ∧ k_ ≠ gb544))) (fun _ hk => hk.2) (.int .i64 t538)) (fun _ hk => hk.2) (.int .i64 t539)) (fun _ hk => hk.2) (.slice Ao46 t540.length co46)) (fun _ h_ => h_.1))) hb); have n4_ := Aside0.mk (blk_below (g := gb524) (o := .cells #[.int .i64 a1_0, .int .i64 a1_1, .slice A1_2 l1_2.length c1_2] 44 (0, 0)) (by (with_reducible repeat (first | refine blk_drewN ?_ _ | refine blk_drew ?_ | refine blk_alloc ?_ _)); refine blk_far ?_ NB524_544.out _; (with_reducible repeat (first | refine blk_drewN ?_ _ | refine blk_drew ?_ | refine blk_alloc ?_ _)); refine blk_far ?_ NB524_544.out _; (with_reducible repeat (first | refine blk_drewN ?_ _ | refine blk_drew ?_ | refine blk_alloc ?_ _)); refine blk_far ?_ NB524_544.out _; (with_reducible repeat (first | refine blk_drewN ?_ _ | refine blk_drew ?_ | refine blk_alloc ?_ _)); exact BK524.out) hb); have n5_ := Aside0.mk (blk_below (g := gb537) (o := .cells #[.int .i64 t531, .int .i64 t532, .slice Ao39 t533.length co39] 44 (0, 0)) (by (with_reducible repeat (first | refine blk_drewN ?_ _ | refine blk_drew ?_ | refine blk_alloc ?_ _)); refine blk_far ?_ NB537_544.out _; (with_reducible repeat (first | refine blk_drewN ?_ _ | refine blk_drew ?_ | refine blk_alloc ?_ _)); refine blk_far ?_ NB537_544.out _; (with_reducible repeat (first | refine blk_drewN ?_ _ | refine blk_drew ?_ | refine blk_alloc ?_ _)); refine blk_far ?_ NB537_544.out _; (with_reducible repeat (first | refine blk_drewN ?_ _ | refine blk_drew ?_ | refine blk_alloc ?_ _)); exact BK537.out) hb); have n6_ := Aside0.mk (blk_below (g := gb544) (o := .cells #[.int .i64 t538, .int .i64 t539, .slice Ao46 t540.length co46] 44 (0, 0)) (by (with_reducible repeat (first | refine blk_drewN ?_ _ | refine blk_drew ?_ | refine blk_alloc ?_ _)); refine blk_put (cs := #[.int .i64 t538, .int .i64 t539, .slice none 0 0]) ?_ 2 _ rfl; (with_reducible repeat (first | refine blk_drewN ?_ _ | refine blk_drew ?_ | refine blk_alloc ?_ _)); refine blk_put (cs := #[.int .i64 t538, .int .i64 0, .slice none 0 0]) ?_ 1 _ rfl; (with_reducible repeat (first | refine blk_drewN ?_ _ | refine blk_drew ?_ | refine blk_alloc ?_ _)); refine blk_put (cs := #[.int .i64 0, .int .i64 0, .slice none 0 0]) ?_ 0 _ rfl; (with_reducible repeat (first | refine blk_drewN ?_ _ | refine blk_drew ?_ | refine blk_alloc ?_ _)); exact BK544.out) hb); have n7_ := Aside0.mk (below_step (by repeat (first | (with_reducible first | exact HB.out | apply below_alloc | apply pw_below_drewN | apply below_drew1 | refine below_set ?_ GE524.out | refine below_set ?_ GE537.out | refine below_set ?_ GE544.out) | exact HB.out)) hb); clear HO_0; clear HO_525002; clear HO535; clear HO542; clear BK524; clear BK537; clear BK544; clear HB; have HO_0 := n0_; have HO_525002 := n1_; have HO535 := n2_; have HO542 := n3_; have BK524 := n4_; have BK537 := n5_; have BK544 := n6_; have HB := n7_; clear n0_ n1_ n2_ n3_ n4_ n5_ n6_ n7_; (try clear hb); (try clear hb2); (try clear hk); (try clear hi); have hcz49_0 : w48.cell? ⟨gb524, 0, none⟩ = some (.int .i64 a1_0) := (blk_cell BK524.out 0).trans rfl; have hcz49_1 : w48.cell? ⟨gb524, 1, none⟩ = some (.int .i64 a1_1) := (blk_cell BK524.out 1).trans rfl; have hcz49_2 : w48.cell? ⟨gb524, 2, none⟩ = some (.slice A1_2 l1_2.length c1_2) := (blk_cell BK524.out 2).trans rfl; have hfz49_0 := blk_frozen BK524.out 0; have hfz49_1 := blk_frozen BK524.out 1; have hfz49_2 := blk_frozen BK524.out 2) | ((with_reducible refine gate_callee (f := 32) rfl ?_); refine goesL_ (some 58) rfl rfl Try.func32 (by kernel_rfl) rfl #[.agg #[.int .i64 a1_0, .int .i64 a1_1, .slice A1_2 l1_2.length c1_2], .int .i64 a5] rfl (by (try simp only [List.map_toArray, List.map_cons, List.map_nil]); first | done | rfl | (simp only [List.length_drop, List.length_take]; rfl)) ?_; (with_reducible refine (wageofficeref28_Year.calls kj7 a1_0 a1_1 _ _ l1_2 a5 t547 t548 _ ?side1 ?side2 A25.out).mono ?_); (case side1 => repeat (first | exact (Kd.V_reads' HO_525002.out).2.2 | (with_reducible refine Kd.C_alloc ?_ _) | (with_reducible refine Kd.C_drewN ?_ _) | (with_reducible refine Kd.C_drew ?_))); (case side2 => exact (Kd.V_reads' HO_525002.out).2.1); rintro e w50 ⟨rfl, hb⟩; refine ⟨_, rfl, ?_⟩; have n0_ := Aside0.mk (Kd.V_below (by (with_reducible repeat (first | apply Kd.V_alloc | apply Kd.V_drewN | apply Kd.V_drew)); exact HO_0.out) hb); have n1_ := Aside0.mk (Kd.V_below (by (with_reducible repeat (first | apply Kd.V_alloc | apply Kd.V_drewN | apply Kd.V_drew)); exact HO_525002.out) hb); have n2_ := Aside0.mk (Kd.R_below (by (with_reducible repeat (first | apply Kd.R_alloc | apply Kd.R_drewN | apply Kd.R_drew)); exact HO535.out) hb); have n3_ := Aside0.mk (Kd.V_below (by (with_reducible repeat (first | apply Kd.V_alloc | apply Kd.V_drewN | apply Kd.V_drew)); exact HO542.out) hb); have n4_ := Aside0.mk (blk_below (g := gb524) (o := .cells #[.int .i64 a1_0, .int .i64 a1_1, .slice A1_2 l1_2.length c1_2] 44 (0, 0)) (by (with_reducible repeat (first | refine blk_drewN ?_ _ | refine blk_drew ?_ | refine blk_alloc ?_ _)); exact BK524.out) hb); have n5_ := Aside0.mk (blk_below (g := gb537) (o := .cells #[.int .i64 t531, .int .i64 t532, .slice Ao39 t533.length co39] 44 (0, 0)) (by (with_reducible repeat (first | refine blk_drewN ?_ _ | refine blk_drew ?_ | refine blk_alloc ?_ _)); exact BK537.out) hb); have n6_ := Aside0.mk (blk_below (g := gb544) (o := .cells #[.int .i64 t538, .int .i64 t539, .slice Ao46 t540.length co46] 44 (0, 0)) (by (with_reducible repeat (first | refine blk_drewN ?_ _ | refine blk_drew ?_ | refine blk_alloc ?_ _)); exact BK544.out) hb); have n7_ := Aside0.mk (below_step (by repeat (first | (with_reducible first | exact HB.out | apply below_alloc | apply pw_below_drewN | apply below_drew1 | refine below_set ?_ GE524.out | refine below_set ?_ GE537.out | refine below_set ?_ GE544.out) | exact HB.out)) hb); clear HO_0; clear HO_525002; clear HO535; clear HO542; clear BK524; clear BK537; clear BK544; clear HB; have HO_0 := n0_; have HO_525002 := n1_; have HO535 := n2_; have HO542 := n3_; have BK524 := n4_; have BK537 := n5_; have BK544 := n6_; have HB := n7_; clear n0_ n1_ n2_ n3_ n4_ n5_ n6_ n7_; (try clear hb); (try clear hb2); (try clear hk); (try clear hi); have hcz51_0 : w50.cell? ⟨gb524, 0, none⟩ = some (.int .i64 a1_0) := (blk_cell BK524.out 0).trans rfl; have hcz51_1 : w50.cell? ⟨gb524, 1, none⟩ = some (.int .i64 a1_1) := (blk_cell BK524.out 1).trans rfl; have hcz51_2 : w50.cell? ⟨gb524, 2, none⟩ = some (.slice A1_2 l1_2.length c1_2) := (blk_cell BK524.out 2).trans rfl; have hfz51_0 := blk_frozen BK524.out 0; have hfz51_1 := blk_frozen BK524.out 1; have hfz51_2 := blk_frozen BK524.out 2))
        by_cases c28 : t525 = true
        · subst c28
          have H1 : (if (t536 == t543) = true then ((wageofficeref28_Same.f kj7 t531 t532 t533 t538 t539 t540).bind fun t553 => (if t553 = true then (if t545 = t547 then (if t546 = t548 then (if t549 = t551 then (some (t550 == t552)) else (some false)) else (some false)) else (some false)) else (some false))) else (some false)) = some r := by rw [if_pos rfl] at H; exact H
          clear H
          have H := H1
          clear H1
          by_cases c29 : (t536 == t543) = true
          · rw [if_pos c29] at H
            have c29b0 : (t536 == t543) = true := c29
            (try (have c29b1 : decide (t536 = t543) = true := by simpa using c29))
            (try (have c29b2 : (t536 == t543) = true := by simpa using c29))
            clear c29
            replace H := Option.bind_eq_some_iff.mp H
            obtain ⟨t553, A300, H⟩ := H
            replace H : (if t553 = true then (if t545 = t547 then (if t546 = t548 then (if t549 = t551 then (some (t550 == t552)) else (some false)) else (some false)) else (some false)) else (some false)) = some r := H
            have A30 := Aside0.mk A300
            clear A300
            (with_reducible refine (tax_Month.calls kj7 a1_0 a1_1 _ _ l1_2 a3 a4 a5 t549 t550 _ ?side1 ?side2 A26.out).mono ?_); (case side1 => repeat (first | exact (Kd.V_reads' HO_525002.out).2.2 | (with_reducible refine Kd.C_alloc ?_ _) | (with_reducible refine Kd.C_drewN ?_ _) | (with_reducible refine Kd.C_drew ?_))); (case side2 => exact (Kd.V_reads' HO_525002.out).2.1); rintro e w52 ⟨rfl, hb⟩; have n0_ := Aside0.mk (Kd.V_below (by (with_reducible repeat (first | apply Kd.V_alloc | apply Kd.V_drewN | apply Kd.V_drew)); exact HO_0.out) hb); have n1_ := Aside0.mk (Kd.V_below (by (with_reducible repeat (first | apply Kd.V_alloc | apply Kd.V_drewN | apply Kd.V_drew)); exact HO_525002.out) hb); have n2_ := Aside0.mk (Kd.R_below (by (with_reducible repeat (first | apply Kd.R_alloc | apply Kd.R_drewN | apply Kd.R_drew)); exact HO535.out) hb); have n3_ := Aside0.mk (Kd.V_below (by (with_reducible repeat (first | apply Kd.V_alloc | apply Kd.V_drewN | apply Kd.V_drew)); exact HO542.out) hb); have n4_ := Aside0.mk (blk_below (g := gb524) (o := .cells #[.int .i64 a1_0, .int .i64 a1_1, .slice A1_2 l1_2.length c1_2] 44 (0, 0)) (by (with_reducible repeat (first | refine blk_drewN ?_ _ | refine blk_drew ?_ | refine blk_alloc ?_ _)); exact BK524.out) hb); have n5_ := Aside0.mk (blk_below (g := gb537) (o := .cells #[.int .i64 t531, .int .i64 t532, .slice Ao39 t533.length co39] 44 (0, 0)) (by (with_reducible repeat (first | refine blk_drewN ?_ _ | refine blk_drew ?_ | refine blk_alloc ?_ _)); exact BK537.out) hb); have n6_ := Aside0.mk (blk_below (g := gb544) (o := .cells #[.int .i64 t538, .int .i64 t539, .slice Ao46 t540.length co46] 44 (0, 0)) (by (with_reducible repeat (first | refine blk_drewN ?_ _ | refine blk_drew ?_ | refine blk_alloc ?_ _)); exact BK544.out) hb); have n7_ := Aside0.mk (below_step (by repeat (first | (with_reducible first | exact HB.out | apply below_alloc | apply pw_below_drewN | apply below_drew1 | refine below_set ?_ GE524.out | refine below_set ?_ GE537.out | refine below_set ?_ GE544.out) | exact HB.out)) hb); clear HO_0; clear HO_525002; clear HO535; clear HO542; clear BK524; clear BK537; clear BK544; clear HB; have HO_0 := n0_; have HO_525002 := n1_; have HO535 := n2_; have HO542 := n3_; have BK524 := n4_; have BK537 := n5_; have BK544 := n6_; have HB := n7_; clear n0_ n1_ n2_ n3_ n4_ n5_ n6_ n7_; (try clear hb); (try clear hb2); (try clear hk); (try clear hi); have hcz53_0 : w52.cell? ⟨gb524, 0, none⟩ = some (.int .i64 a1_0) := (blk_cell BK524.out 0).trans rfl; have hcz53_1 : w52.cell? ⟨gb524, 1, none⟩ = some (.int .i64 a1_1) := (blk_cell BK524.out 1).trans rfl; have hcz53_2 : w52.cell? ⟨gb524, 2, none⟩ = some (.slice A1_2 l1_2.length c1_2) := (blk_cell BK524.out 2).trans rfl; have hfz53_0 := blk_frozen BK524.out 0; have hfz53_1 := blk_frozen BK524.out 1; have hfz53_2 := blk_frozen BK524.out 2
            go_wp2_with fail
            by_cases c31 : t553 = true
            · subst c31
              have H1 : (if t545 = t547 then (if t546 = t548 then (if t549 = t551 then (some (t550 == t552)) else (some false)) else (some false)) else (some false)) = some r := by rw [if_pos rfl] at H; exact H
              clear H
              have H := H1
              clear H1
              by_cases c32 : t545 = t547
              · rw [if_pos c32] at H
                have c32b0 : (t545 == t547) = true := beq_iff_eq.mpr c32
                have c32b1 : (t545 != t547) = false := bne_eq_false_iff_eq.mpr c32
                clear c32
                by_cases c33 : t546 = t548
                · rw [if_pos c33] at H
                  have c33b0 : (t546 == t548) = true := beq_iff_eq.mpr c33
                  have c33b1 : (t546 != t548) = false := bne_eq_false_iff_eq.mpr c33
                  clear c33
                  by_cases c34 : t549 = t551
                  · rw [if_pos c34] at H
                    have c34b0 : (t549 == t551) = true := beq_iff_eq.mpr c34
                    have c34b1 : (t549 != t551) = false := bne_eq_false_iff_eq.mpr c34
                    clear c34
                    obtain rfl := Option.some.inj H
                    (with_reducible refine (wageofficeref28_Month.calls kj7 a1_0 a1_1 _ _ l1_2 a3 a4 a5 t551 t552 _ ?side1 ?side2 A27.out).mono ?_); (case side1 => repeat (first | exact (Kd.V_reads' HO_525002.out).2.2 | (with_reducible refine Kd.C_alloc ?_ _) | (with_reducible refine Kd.C_drewN ?_ _) | (with_reducible refine Kd.C_drew ?_))); (case side2 => exact (Kd.V_reads' HO_525002.out).2.1); rintro e w54 ⟨rfl, hb⟩; have n0_ := Aside0.mk (Kd.V_below (by (with_reducible repeat (first | apply Kd.V_alloc | apply Kd.V_drewN | apply Kd.V_drew)); exact HO_0.out) hb); have n1_ := Aside0.mk (Kd.V_below (by (with_reducible repeat (first | apply Kd.V_alloc | apply Kd.V_drewN | apply Kd.V_drew)); exact HO_525002.out) hb); have n2_ := Aside0.mk (Kd.R_below (by (with_reducible repeat (first | apply Kd.R_alloc | apply Kd.R_drewN | apply Kd.R_drew)); exact HO535.out) hb); have n3_ := Aside0.mk (Kd.V_below (by (with_reducible repeat (first | apply Kd.V_alloc | apply Kd.V_drewN | apply Kd.V_drew)); exact HO542.out) hb); have n4_ := Aside0.mk (blk_below (g := gb524) (o := .cells #[.int .i64 a1_0, .int .i64 a1_1, .slice A1_2 l1_2.length c1_2] 44 (0, 0)) (by (with_reducible repeat (first | refine blk_drewN ?_ _ | refine blk_drew ?_ | refine blk_alloc ?_ _)); exact BK524.out) hb); have n5_ := Aside0.mk (blk_below (g := gb537) (o := .cells #[.int .i64 t531, .int .i64 t532, .slice Ao39 t533.length co39] 44 (0, 0)) (by (with_reducible repeat (first | refine blk_drewN ?_ _ | refine blk_drew ?_ | refine blk_alloc ?_ _)); exact BK537.out) hb); have n6_ := Aside0.mk (blk_below (g := gb544) (o := .cells #[.int .i64 t538, .int .i64 t539, .slice Ao46 t540.length co46] 44 (0, 0)) (by (with_reducible repeat (first | refine blk_drewN ?_ _ | refine blk_drew ?_ | refine blk_alloc ?_ _)); exact BK544.out) hb); have n7_ := Aside0.mk (below_step (by repeat (first | (with_reducible first | exact HB.out | apply below_alloc | apply pw_below_drewN | apply below_drew1 | refine below_set ?_ GE524.out | refine below_set ?_ GE537.out | refine below_set ?_ GE544.out) | exact HB.out)) hb); clear HO_0; clear HO_525002; clear HO535; clear HO542; clear BK524; clear BK537; clear BK544; clear HB; have HO_0 := n0_; have HO_525002 := n1_; have HO535 := n2_; have HO542 := n3_; have BK524 := n4_; have BK537 := n5_; have BK544 := n6_; have HB := n7_; clear n0_ n1_ n2_ n3_ n4_ n5_ n6_ n7_; (try clear hb); (try clear hb2); (try clear hk); (try clear hi); have hcz55_0 : w54.cell? ⟨gb537, 0, none⟩ = some (.int .i64 t531) := (blk_cell BK537.out 0).trans rfl; have hcz55_1 : w54.cell? ⟨gb537, 1, none⟩ = some (.int .i64 t532) := (blk_cell BK537.out 1).trans rfl; have hcz55_2 : w54.cell? ⟨gb537, 2, none⟩ = some (.slice Ao39 t533.length co39) := (blk_cell BK537.out 2).trans rfl; have hfz55_0 := blk_frozen BK537.out 0; have hfz55_1 := blk_frozen BK537.out 1; have hfz55_2 := blk_frozen BK537.out 2; have hcz56_0 : w54.cell? ⟨gb544, 0, none⟩ = some (.int .i64 t538) := (blk_cell BK544.out 0).trans rfl; have hcz56_1 : w54.cell? ⟨gb544, 1, none⟩ = some (.int .i64 t539) := (blk_cell BK544.out 1).trans rfl; have hcz56_2 : w54.cell? ⟨gb544, 2, none⟩ = some (.slice Ao46 t540.length co46) := (blk_cell BK544.out 2).trans rfl; have hfz56_0 := blk_frozen BK544.out 0; have hfz56_1 := blk_frozen BK544.out 1; have hfz56_2 := blk_frozen BK544.out 2
                    go_wp2_with (first | (go_at_call 35; (with_reducible refine (wageofficeref28_Same.calls kj7 t531 t532 _ _ t533 t538 t539 _ _ t540 true _ ?side1 ?side2 ?side3 ?side4 A30.out).mono ?_); (case side1 => repeat (first | exact (Kd.R_reads' HO535.out).2.2 | (with_reducible refine Kd.C_alloc ?_ _) | (with_reducible refine Kd.C_drewN ?_ _) | (with_reducible refine Kd.C_drew ?_))); (case side2 => exact (Kd.R_reads' HO535.out).2.1); (case side3 => repeat (first | exact (Kd.V_reads' HO542.out).2.2 | (with_reducible refine Kd.C_alloc ?_ _) | (with_reducible refine Kd.C_drewN ?_ _) | (with_reducible refine Kd.C_drew ?_))); (case side4 => exact (Kd.V_reads' HO542.out).2.1); rintro e w57 ⟨rfl, hb⟩; have n0_ := Aside0.mk (Kd.V_below (by (with_reducible repeat (first | apply Kd.V_alloc | apply Kd.V_drewN | apply Kd.V_drew)); exact HO_0.out) hb); have n1_ := Aside0.mk (Kd.V_below (by (with_reducible repeat (first | apply Kd.V_alloc | apply Kd.V_drewN | apply Kd.V_drew)); exact HO_525002.out) hb); have n2_ := Aside0.mk (Kd.R_below (by (with_reducible repeat (first | apply Kd.R_alloc | apply Kd.R_drewN | apply Kd.R_drew)); exact HO535.out) hb); have n3_ := Aside0.mk (Kd.V_below (by (with_reducible repeat (first | apply Kd.V_alloc | apply Kd.V_drewN | apply Kd.V_drew)); exact HO542.out) hb); have n4_ := Aside0.mk (blk_below (g := gb524) (o := .cells #[.int .i64 a1_0, .int .i64 a1_1, .slice A1_2 l1_2.length c1_2] 44 (0, 0)) (by (with_reducible repeat (first | refine blk_drewN ?_ _ | refine blk_drew ?_ | refine blk_alloc ?_ _)); exact BK524.out) hb); have n5_ := Aside0.mk (blk_below (g := gb537) (o := .cells #[.int .i64 t531, .int .i64 t532, .slice Ao39 t533.length co39] 44 (0, 0)) (by (with_reducible repeat (first | refine blk_drewN ?_ _ | refine blk_drew ?_ | refine blk_alloc ?_ _)); exact BK537.out) hb); have n6_ := Aside0.mk (blk_below (g := gb544) (o := .cells #[.int .i64 t538, .int .i64 t539, .slice Ao46 t540.length co46] 44 (0, 0)) (by (with_reducible repeat (first | refine blk_drewN ?_ _ | refine blk_drew ?_ | refine blk_alloc ?_ _)); exact BK544.out) hb); have n7_ := Aside0.mk (below_step (by repeat (first | (with_reducible first | exact HB.out | apply below_alloc | apply pw_below_drewN | apply below_drew1 | refine below_set ?_ GE524.out | refine below_set ?_ GE537.out | refine below_set ?_ GE544.out) | exact HB.out)) hb); clear HO_0; clear HO_525002; clear HO535; clear HO542; clear BK524; clear BK537; clear BK544; clear HB; have HO_0 := n0_; have HO_525002 := n1_; have HO535 := n2_; have HO542 := n3_; have BK524 := n4_; have BK537 := n5_; have BK544 := n6_; have HB := n7_; clear n0_ n1_ n2_ n3_ n4_ n5_ n6_ n7_; (try clear hb); (try clear hb2); (try clear hk); (try clear hi)))
                    go_ret
                    exact ⟨by first | rfl | (simp [errW_none, errW_some] <;> rfl) | (simp [*, errW_none, errW_some] <;> rfl), by repeat (first | (with_reducible first | exact HB.out | apply below_alloc | apply pw_below_drewN | apply below_drew1 | refine below_set ?_ GE524.out | refine below_set ?_ GE537.out | refine below_set ?_ GE544.out) | exact HB.out)⟩
                  · rw [if_neg c34] at H
                    have c34b0 : (t549 == t551) = false := beq_eq_false_iff_ne.mpr c34
                    have c34b1 : (t549 != t551) = true := bne_iff_ne.mpr c34
                    obtain rfl := Option.some.inj H
                    (with_reducible refine (wageofficeref28_Month.calls kj7 a1_0 a1_1 _ _ l1_2 a3 a4 a5 t551 t552 _ ?side1 ?side2 A27.out).mono ?_); (case side1 => repeat (first | exact (Kd.V_reads' HO_525002.out).2.2 | (with_reducible refine Kd.C_alloc ?_ _) | (with_reducible refine Kd.C_drewN ?_ _) | (with_reducible refine Kd.C_drew ?_))); (case side2 => exact (Kd.V_reads' HO_525002.out).2.1); rintro e w54 ⟨rfl, hb⟩; have n0_ := Aside0.mk (Kd.V_below (by (with_reducible repeat (first | apply Kd.V_alloc | apply Kd.V_drewN | apply Kd.V_drew)); exact HO_0.out) hb); have n1_ := Aside0.mk (Kd.V_below (by (with_reducible repeat (first | apply Kd.V_alloc | apply Kd.V_drewN | apply Kd.V_drew)); exact HO_525002.out) hb); have n2_ := Aside0.mk (Kd.R_below (by (with_reducible repeat (first | apply Kd.R_alloc | apply Kd.R_drewN | apply Kd.R_drew)); exact HO535.out) hb); have n3_ := Aside0.mk (Kd.V_below (by (with_reducible repeat (first | apply Kd.V_alloc | apply Kd.V_drewN | apply Kd.V_drew)); exact HO542.out) hb); have n4_ := Aside0.mk (blk_below (g := gb524) (o := .cells #[.int .i64 a1_0, .int .i64 a1_1, .slice A1_2 l1_2.length c1_2] 44 (0, 0)) (by (with_reducible repeat (first | refine blk_drewN ?_ _ | refine blk_drew ?_ | refine blk_alloc ?_ _)); exact BK524.out) hb); have n5_ := Aside0.mk (blk_below (g := gb537) (o := .cells #[.int .i64 t531, .int .i64 t532, .slice Ao39 t533.length co39] 44 (0, 0)) (by (with_reducible repeat (first | refine blk_drewN ?_ _ | refine blk_drew ?_ | refine blk_alloc ?_ _)); exact BK537.out) hb); have n6_ := Aside0.mk (blk_below (g := gb544) (o := .cells #[.int .i64 t538, .int .i64 t539, .slice Ao46 t540.length co46] 44 (0, 0)) (by (with_reducible repeat (first | refine blk_drewN ?_ _ | refine blk_drew ?_ | refine blk_alloc ?_ _)); exact BK544.out) hb); have n7_ := Aside0.mk (below_step (by repeat (first | (with_reducible first | exact HB.out | apply below_alloc | apply pw_below_drewN | apply below_drew1 | refine below_set ?_ GE524.out | refine below_set ?_ GE537.out | refine below_set ?_ GE544.out) | exact HB.out)) hb); clear HO_0; clear HO_525002; clear HO535; clear HO542; clear BK524; clear BK537; clear BK544; clear HB; have HO_0 := n0_; have HO_525002 := n1_; have HO535 := n2_; have HO542 := n3_; have BK524 := n4_; have BK537 := n5_; have BK544 := n6_; have HB := n7_; clear n0_ n1_ n2_ n3_ n4_ n5_ n6_ n7_; (try clear hb); (try clear hb2); (try clear hk); (try clear hi); have hcz55_0 : w54.cell? ⟨gb537, 0, none⟩ = some (.int .i64 t531) := (blk_cell BK537.out 0).trans rfl; have hcz55_1 : w54.cell? ⟨gb537, 1, none⟩ = some (.int .i64 t532) := (blk_cell BK537.out 1).trans rfl; have hcz55_2 : w54.cell? ⟨gb537, 2, none⟩ = some (.slice Ao39 t533.length co39) := (blk_cell BK537.out 2).trans rfl; have hfz55_0 := blk_frozen BK537.out 0; have hfz55_1 := blk_frozen BK537.out 1; have hfz55_2 := blk_frozen BK537.out 2; have hcz56_0 : w54.cell? ⟨gb544, 0, none⟩ = some (.int .i64 t538) := (blk_cell BK544.out 0).trans rfl; have hcz56_1 : w54.cell? ⟨gb544, 1, none⟩ = some (.int .i64 t539) := (blk_cell BK544.out 1).trans rfl; have hcz56_2 : w54.cell? ⟨gb544, 2, none⟩ = some (.slice Ao46 t540.length co46) := (blk_cell BK544.out 2).trans rfl; have hfz56_0 := blk_frozen BK544.out 0; have hfz56_1 := blk_frozen BK544.out 1; have hfz56_2 := blk_frozen BK544.out 2
                    go_wp2_with (first | (go_at_call 35; (with_reducible refine (wageofficeref28_Same.calls kj7 t531 t532 _ _ t533 t538 t539 _ _ t540 true _ ?side1 ?side2 ?side3 ?side4 A30.out).mono ?_); (case side1 => repeat (first | exact (Kd.R_reads' HO535.out).2.2 | (with_reducible refine Kd.C_alloc ?_ _) | (with_reducible refine Kd.C_drewN ?_ _) | (with_reducible refine Kd.C_drew ?_))); (case side2 => exact (Kd.R_reads' HO535.out).2.1); (case side3 => repeat (first | exact (Kd.V_reads' HO542.out).2.2 | (with_reducible refine Kd.C_alloc ?_ _) | (with_reducible refine Kd.C_drewN ?_ _) | (with_reducible refine Kd.C_drew ?_))); (case side4 => exact (Kd.V_reads' HO542.out).2.1); rintro e w57 ⟨rfl, hb⟩; have n0_ := Aside0.mk (Kd.V_below (by (with_reducible repeat (first | apply Kd.V_alloc | apply Kd.V_drewN | apply Kd.V_drew)); exact HO_0.out) hb); have n1_ := Aside0.mk (Kd.V_below (by (with_reducible repeat (first | apply Kd.V_alloc | apply Kd.V_drewN | apply Kd.V_drew)); exact HO_525002.out) hb); have n2_ := Aside0.mk (Kd.R_below (by (with_reducible repeat (first | apply Kd.R_alloc | apply Kd.R_drewN | apply Kd.R_drew)); exact HO535.out) hb); have n3_ := Aside0.mk (Kd.V_below (by (with_reducible repeat (first | apply Kd.V_alloc | apply Kd.V_drewN | apply Kd.V_drew)); exact HO542.out) hb); have n4_ := Aside0.mk (blk_below (g := gb524) (o := .cells #[.int .i64 a1_0, .int .i64 a1_1, .slice A1_2 l1_2.length c1_2] 44 (0, 0)) (by (with_reducible repeat (first | refine blk_drewN ?_ _ | refine blk_drew ?_ | refine blk_alloc ?_ _)); exact BK524.out) hb); have n5_ := Aside0.mk (blk_below (g := gb537) (o := .cells #[.int .i64 t531, .int .i64 t532, .slice Ao39 t533.length co39] 44 (0, 0)) (by (with_reducible repeat (first | refine blk_drewN ?_ _ | refine blk_drew ?_ | refine blk_alloc ?_ _)); exact BK537.out) hb); have n6_ := Aside0.mk (blk_below (g := gb544) (o := .cells #[.int .i64 t538, .int .i64 t539, .slice Ao46 t540.length co46] 44 (0, 0)) (by (with_reducible repeat (first | refine blk_drewN ?_ _ | refine blk_drew ?_ | refine blk_alloc ?_ _)); exact BK544.out) hb); have n7_ := Aside0.mk (below_step (by repeat (first | (with_reducible first | exact HB.out | apply below_alloc | apply pw_below_drewN | apply below_drew1 | refine below_set ?_ GE524.out | refine below_set ?_ GE537.out | refine below_set ?_ GE544.out) | exact HB.out)) hb); clear HO_0; clear HO_525002; clear HO535; clear HO542; clear BK524; clear BK537; clear BK544; clear HB; have HO_0 := n0_; have HO_525002 := n1_; have HO535 := n2_; have HO542 := n3_; have BK524 := n4_; have BK537 := n5_; have BK544 := n6_; have HB := n7_; clear n0_ n1_ n2_ n3_ n4_ n5_ n6_ n7_; (try clear hb); (try clear hb2); (try clear hk); (try clear hi)))
                    go_ret
                    exact ⟨by first | rfl | (simp [errW_none, errW_some] <;> rfl) | (simp [*, errW_none, errW_some] <;> rfl), by repeat (first | (with_reducible first | exact HB.out | apply below_alloc | apply pw_below_drewN | apply below_drew1 | refine below_set ?_ GE524.out | refine below_set ?_ GE537.out | refine below_set ?_ GE544.out) | exact HB.out)⟩
                · rw [if_neg c33] at H
                  have c33b0 : (t546 == t548) = false := beq_eq_false_iff_ne.mpr c33
                  have c33b1 : (t546 != t548) = true := bne_iff_ne.mpr c33
                  obtain rfl := Option.some.inj H
                  (with_reducible refine (wageofficeref28_Month.calls kj7 a1_0 a1_1 _ _ l1_2 a3 a4 a5 t551 t552 _ ?side1 ?side2 A27.out).mono ?_); (case side1 => repeat (first | exact (Kd.V_reads' HO_525002.out).2.2 | (with_reducible refine Kd.C_alloc ?_ _) | (with_reducible refine Kd.C_drewN ?_ _) | (with_reducible refine Kd.C_drew ?_))); (case side2 => exact (Kd.V_reads' HO_525002.out).2.1); rintro e w54 ⟨rfl, hb⟩; have n0_ := Aside0.mk (Kd.V_below (by (with_reducible repeat (first | apply Kd.V_alloc | apply Kd.V_drewN | apply Kd.V_drew)); exact HO_0.out) hb); have n1_ := Aside0.mk (Kd.V_below (by (with_reducible repeat (first | apply Kd.V_alloc | apply Kd.V_drewN | apply Kd.V_drew)); exact HO_525002.out) hb); have n2_ := Aside0.mk (Kd.R_below (by (with_reducible repeat (first | apply Kd.R_alloc | apply Kd.R_drewN | apply Kd.R_drew)); exact HO535.out) hb); have n3_ := Aside0.mk (Kd.V_below (by (with_reducible repeat (first | apply Kd.V_alloc | apply Kd.V_drewN | apply Kd.V_drew)); exact HO542.out) hb); have n4_ := Aside0.mk (blk_below (g := gb524) (o := .cells #[.int .i64 a1_0, .int .i64 a1_1, .slice A1_2 l1_2.length c1_2] 44 (0, 0)) (by (with_reducible repeat (first | refine blk_drewN ?_ _ | refine blk_drew ?_ | refine blk_alloc ?_ _)); exact BK524.out) hb); have n5_ := Aside0.mk (blk_below (g := gb537) (o := .cells #[.int .i64 t531, .int .i64 t532, .slice Ao39 t533.length co39] 44 (0, 0)) (by (with_reducible repeat (first | refine blk_drewN ?_ _ | refine blk_drew ?_ | refine blk_alloc ?_ _)); exact BK537.out) hb); have n6_ := Aside0.mk (blk_below (g := gb544) (o := .cells #[.int .i64 t538, .int .i64 t539, .slice Ao46 t540.length co46] 44 (0, 0)) (by (with_reducible repeat (first | refine blk_drewN ?_ _ | refine blk_drew ?_ | refine blk_alloc ?_ _)); exact BK544.out) hb); have n7_ := Aside0.mk (below_step (by repeat (first | (with_reducible first | exact HB.out | apply below_alloc | apply pw_below_drewN | apply below_drew1 | refine below_set ?_ GE524.out | refine below_set ?_ GE537.out | refine below_set ?_ GE544.out) | exact HB.out)) hb); clear HO_0; clear HO_525002; clear HO535; clear HO542; clear BK524; clear BK537; clear BK544; clear HB; have HO_0 := n0_; have HO_525002 := n1_; have HO535 := n2_; have HO542 := n3_; have BK524 := n4_; have BK537 := n5_; have BK544 := n6_; have HB := n7_; clear n0_ n1_ n2_ n3_ n4_ n5_ n6_ n7_; (try clear hb); (try clear hb2); (try clear hk); (try clear hi); have hcz55_0 : w54.cell? ⟨gb537, 0, none⟩ = some (.int .i64 t531) := (blk_cell BK537.out 0).trans rfl; have hcz55_1 : w54.cell? ⟨gb537, 1, none⟩ = some (.int .i64 t532) := (blk_cell BK537.out 1).trans rfl; have hcz55_2 : w54.cell? ⟨gb537, 2, none⟩ = some (.slice Ao39 t533.length co39) := (blk_cell BK537.out 2).trans rfl; have hfz55_0 := blk_frozen BK537.out 0; have hfz55_1 := blk_frozen BK537.out 1; have hfz55_2 := blk_frozen BK537.out 2; have hcz56_0 : w54.cell? ⟨gb544, 0, none⟩ = some (.int .i64 t538) := (blk_cell BK544.out 0).trans rfl; have hcz56_1 : w54.cell? ⟨gb544, 1, none⟩ = some (.int .i64 t539) := (blk_cell BK544.out 1).trans rfl; have hcz56_2 : w54.cell? ⟨gb544, 2, none⟩ = some (.slice Ao46 t540.length co46) := (blk_cell BK544.out 2).trans rfl; have hfz56_0 := blk_frozen BK544.out 0; have hfz56_1 := blk_frozen BK544.out 1; have hfz56_2 := blk_frozen BK544.out 2
                  go_wp2_with (first | (go_at_call 35; (with_reducible refine (wageofficeref28_Same.calls kj7 t531 t532 _ _ t533 t538 t539 _ _ t540 true _ ?side1 ?side2 ?side3 ?side4 A30.out).mono ?_); (case side1 => repeat (first | exact (Kd.R_reads' HO535.out).2.2 | (with_reducible refine Kd.C_alloc ?_ _) | (with_reducible refine Kd.C_drewN ?_ _) | (with_reducible refine Kd.C_drew ?_))); (case side2 => exact (Kd.R_reads' HO535.out).2.1); (case side3 => repeat (first | exact (Kd.V_reads' HO542.out).2.2 | (with_reducible refine Kd.C_alloc ?_ _) | (with_reducible refine Kd.C_drewN ?_ _) | (with_reducible refine Kd.C_drew ?_))); (case side4 => exact (Kd.V_reads' HO542.out).2.1); rintro e w57 ⟨rfl, hb⟩; have n0_ := Aside0.mk (Kd.V_below (by (with_reducible repeat (first | apply Kd.V_alloc | apply Kd.V_drewN | apply Kd.V_drew)); exact HO_0.out) hb); have n1_ := Aside0.mk (Kd.V_below (by (with_reducible repeat (first | apply Kd.V_alloc | apply Kd.V_drewN | apply Kd.V_drew)); exact HO_525002.out) hb); have n2_ := Aside0.mk (Kd.R_below (by (with_reducible repeat (first | apply Kd.R_alloc | apply Kd.R_drewN | apply Kd.R_drew)); exact HO535.out) hb); have n3_ := Aside0.mk (Kd.V_below (by (with_reducible repeat (first | apply Kd.V_alloc | apply Kd.V_drewN | apply Kd.V_drew)); exact HO542.out) hb); have n4_ := Aside0.mk (blk_below (g := gb524) (o := .cells #[.int .i64 a1_0, .int .i64 a1_1, .slice A1_2 l1_2.length c1_2] 44 (0, 0)) (by (with_reducible repeat (first | refine blk_drewN ?_ _ | refine blk_drew ?_ | refine blk_alloc ?_ _)); exact BK524.out) hb); have n5_ := Aside0.mk (blk_below (g := gb537) (o := .cells #[.int .i64 t531, .int .i64 t532, .slice Ao39 t533.length co39] 44 (0, 0)) (by (with_reducible repeat (first | refine blk_drewN ?_ _ | refine blk_drew ?_ | refine blk_alloc ?_ _)); exact BK537.out) hb); have n6_ := Aside0.mk (blk_below (g := gb544) (o := .cells #[.int .i64 t538, .int .i64 t539, .slice Ao46 t540.length co46] 44 (0, 0)) (by (with_reducible repeat (first | refine blk_drewN ?_ _ | refine blk_drew ?_ | refine blk_alloc ?_ _)); exact BK544.out) hb); have n7_ := Aside0.mk (below_step (by repeat (first | (with_reducible first | exact HB.out | apply below_alloc | apply pw_below_drewN | apply below_drew1 | refine below_set ?_ GE524.out | refine below_set ?_ GE537.out | refine below_set ?_ GE544.out) | exact HB.out)) hb); clear HO_0; clear HO_525002; clear HO535; clear HO542; clear BK524; clear BK537; clear BK544; clear HB; have HO_0 := n0_; have HO_525002 := n1_; have HO535 := n2_; have HO542 := n3_; have BK524 := n4_; have BK537 := n5_; have BK544 := n6_; have HB := n7_; clear n0_ n1_ n2_ n3_ n4_ n5_ n6_ n7_; (try clear hb); (try clear hb2); (try clear hk); (try clear hi)))
                  go_ret
                  exact ⟨by first | rfl | (simp [errW_none, errW_some] <;> rfl) | (simp [*, errW_none, errW_some] <;> rfl), by repeat (first | (with_reducible first | exact HB.out | apply below_alloc | apply pw_below_drewN | apply below_drew1 | refine below_set ?_ GE524.out | refine below_set ?_ GE537.out | refine below_set ?_ GE544.out) | exact HB.out)⟩
              · rw [if_neg c32] at H
                have c32b0 : (t545 == t547) = false := beq_eq_false_iff_ne.mpr c32
                have c32b1 : (t545 != t547) = true := bne_iff_ne.mpr c32
                obtain rfl := Option.some.inj H
                (with_reducible refine (wageofficeref28_Month.calls kj7 a1_0 a1_1 _ _ l1_2 a3 a4 a5 t551 t552 _ ?side1 ?side2 A27.out).mono ?_); (case side1 => repeat (first | exact (Kd.V_reads' HO_525002.out).2.2 | (with_reducible refine Kd.C_alloc ?_ _) | (with_reducible refine Kd.C_drewN ?_ _) | (with_reducible refine Kd.C_drew ?_))); (case side2 => exact (Kd.V_reads' HO_525002.out).2.1); rintro e w54 ⟨rfl, hb⟩; have n0_ := Aside0.mk (Kd.V_below (by (with_reducible repeat (first | apply Kd.V_alloc | apply Kd.V_drewN | apply Kd.V_drew)); exact HO_0.out) hb); have n1_ := Aside0.mk (Kd.V_below (by (with_reducible repeat (first | apply Kd.V_alloc | apply Kd.V_drewN | apply Kd.V_drew)); exact HO_525002.out) hb); have n2_ := Aside0.mk (Kd.R_below (by (with_reducible repeat (first | apply Kd.R_alloc | apply Kd.R_drewN | apply Kd.R_drew)); exact HO535.out) hb); have n3_ := Aside0.mk (Kd.V_below (by (with_reducible repeat (first | apply Kd.V_alloc | apply Kd.V_drewN | apply Kd.V_drew)); exact HO542.out) hb); have n4_ := Aside0.mk (blk_below (g := gb524) (o := .cells #[.int .i64 a1_0, .int .i64 a1_1, .slice A1_2 l1_2.length c1_2] 44 (0, 0)) (by (with_reducible repeat (first | refine blk_drewN ?_ _ | refine blk_drew ?_ | refine blk_alloc ?_ _)); exact BK524.out) hb); have n5_ := Aside0.mk (blk_below (g := gb537) (o := .cells #[.int .i64 t531, .int .i64 t532, .slice Ao39 t533.length co39] 44 (0, 0)) (by (with_reducible repeat (first | refine blk_drewN ?_ _ | refine blk_drew ?_ | refine blk_alloc ?_ _)); exact BK537.out) hb); have n6_ := Aside0.mk (blk_below (g := gb544) (o := .cells #[.int .i64 t538, .int .i64 t539, .slice Ao46 t540.length co46] 44 (0, 0)) (by (with_reducible repeat (first | refine blk_drewN ?_ _ | refine blk_drew ?_ | refine blk_alloc ?_ _)); exact BK544.out) hb); have n7_ := Aside0.mk (below_step (by repeat (first | (with_reducible first | exact HB.out | apply below_alloc | apply pw_below_drewN | apply below_drew1 | refine below_set ?_ GE524.out | refine below_set ?_ GE537.out | refine below_set ?_ GE544.out) | exact HB.out)) hb); clear HO_0; clear HO_525002; clear HO535; clear HO542; clear BK524; clear BK537; clear BK544; clear HB; have HO_0 := n0_; have HO_525002 := n1_; have HO535 := n2_; have HO542 := n3_; have BK524 := n4_; have BK537 := n5_; have BK544 := n6_; have HB := n7_; clear n0_ n1_ n2_ n3_ n4_ n5_ n6_ n7_; (try clear hb); (try clear hb2); (try clear hk); (try clear hi); have hcz55_0 : w54.cell? ⟨gb537, 0, none⟩ = some (.int .i64 t531) := (blk_cell BK537.out 0).trans rfl; have hcz55_1 : w54.cell? ⟨gb537, 1, none⟩ = some (.int .i64 t532) := (blk_cell BK537.out 1).trans rfl; have hcz55_2 : w54.cell? ⟨gb537, 2, none⟩ = some (.slice Ao39 t533.length co39) := (blk_cell BK537.out 2).trans rfl; have hfz55_0 := blk_frozen BK537.out 0; have hfz55_1 := blk_frozen BK537.out 1; have hfz55_2 := blk_frozen BK537.out 2; have hcz56_0 : w54.cell? ⟨gb544, 0, none⟩ = some (.int .i64 t538) := (blk_cell BK544.out 0).trans rfl; have hcz56_1 : w54.cell? ⟨gb544, 1, none⟩ = some (.int .i64 t539) := (blk_cell BK544.out 1).trans rfl; have hcz56_2 : w54.cell? ⟨gb544, 2, none⟩ = some (.slice Ao46 t540.length co46) := (blk_cell BK544.out 2).trans rfl; have hfz56_0 := blk_frozen BK544.out 0; have hfz56_1 := blk_frozen BK544.out 1; have hfz56_2 := blk_frozen BK544.out 2
                go_wp2_with (first | (go_at_call 35; (with_reducible refine (wageofficeref28_Same.calls kj7 t531 t532 _ _ t533 t538 t539 _ _ t540 true _ ?side1 ?side2 ?side3 ?side4 A30.out).mono ?_); (case side1 => repeat (first | exact (Kd.R_reads' HO535.out).2.2 | (with_reducible refine Kd.C_alloc ?_ _) | (with_reducible refine Kd.C_drewN ?_ _) | (with_reducible refine Kd.C_drew ?_))); (case side2 => exact (Kd.R_reads' HO535.out).2.1); (case side3 => repeat (first | exact (Kd.V_reads' HO542.out).2.2 | (with_reducible refine Kd.C_alloc ?_ _) | (with_reducible refine Kd.C_drewN ?_ _) | (with_reducible refine Kd.C_drew ?_))); (case side4 => exact (Kd.V_reads' HO542.out).2.1); rintro e w57 ⟨rfl, hb⟩; have n0_ := Aside0.mk (Kd.V_below (by (with_reducible repeat (first | apply Kd.V_alloc | apply Kd.V_drewN | apply Kd.V_drew)); exact HO_0.out) hb); have n1_ := Aside0.mk (Kd.V_below (by (with_reducible repeat (first | apply Kd.V_alloc | apply Kd.V_drewN | apply Kd.V_drew)); exact HO_525002.out) hb); have n2_ := Aside0.mk (Kd.R_below (by (with_reducible repeat (first | apply Kd.R_alloc | apply Kd.R_drewN | apply Kd.R_drew)); exact HO535.out) hb); have n3_ := Aside0.mk (Kd.V_below (by (with_reducible repeat (first | apply Kd.V_alloc | apply Kd.V_drewN | apply Kd.V_drew)); exact HO542.out) hb); have n4_ := Aside0.mk (blk_below (g := gb524) (o := .cells #[.int .i64 a1_0, .int .i64 a1_1, .slice A1_2 l1_2.length c1_2] 44 (0, 0)) (by (with_reducible repeat (first | refine blk_drewN ?_ _ | refine blk_drew ?_ | refine blk_alloc ?_ _)); exact BK524.out) hb); have n5_ := Aside0.mk (blk_below (g := gb537) (o := .cells #[.int .i64 t531, .int .i64 t532, .slice Ao39 t533.length co39] 44 (0, 0)) (by (with_reducible repeat (first | refine blk_drewN ?_ _ | refine blk_drew ?_ | refine blk_alloc ?_ _)); exact BK537.out) hb); have n6_ := Aside0.mk (blk_below (g := gb544) (o := .cells #[.int .i64 t538, .int .i64 t539, .slice Ao46 t540.length co46] 44 (0, 0)) (by (with_reducible repeat (first | refine blk_drewN ?_ _ | refine blk_drew ?_ | refine blk_alloc ?_ _)); exact BK544.out) hb); have n7_ := Aside0.mk (below_step (by repeat (first | (with_reducible first | exact HB.out | apply below_alloc | apply pw_below_drewN | apply below_drew1 | refine below_set ?_ GE524.out | refine below_set ?_ GE537.out | refine below_set ?_ GE544.out) | exact HB.out)) hb); clear HO_0; clear HO_525002; clear HO535; clear HO542; clear BK524; clear BK537; clear BK544; clear HB; have HO_0 := n0_; have HO_525002 := n1_; have HO535 := n2_; have HO542 := n3_; have BK524 := n4_; have BK537 := n5_; have BK544 := n6_; have HB := n7_; clear n0_ n1_ n2_ n3_ n4_ n5_ n6_ n7_; (try clear hb); (try clear hb2); (try clear hk); (try clear hi)))
                go_ret
                exact ⟨by first | rfl | (simp [errW_none, errW_some] <;> rfl) | (simp [*, errW_none, errW_some] <;> rfl), by repeat (first | (with_reducible first | exact HB.out | apply below_alloc | apply pw_below_drewN | apply below_drew1 | refine below_set ?_ GE524.out | refine below_set ?_ GE537.out | refine below_set ?_ GE544.out) | exact HB.out)⟩
            · replace c31 := Bool.eq_false_iff.mpr c31
              subst c31
              have H1 : (some false) = some r := by rw [if_neg (show ¬ (false = true) by decide)] at H; exact H
              clear H
              have H := H1
              clear H1
              obtain rfl := Option.some.inj H
              (with_reducible refine (wageofficeref28_Month.calls kj7 a1_0 a1_1 _ _ l1_2 a3 a4 a5 t551 t552 _ ?side1 ?side2 A27.out).mono ?_); (case side1 => repeat (first | exact (Kd.V_reads' HO_525002.out).2.2 | (with_reducible refine Kd.C_alloc ?_ _) | (with_reducible refine Kd.C_drewN ?_ _) | (with_reducible refine Kd.C_drew ?_))); (case side2 => exact (Kd.V_reads' HO_525002.out).2.1); rintro e w54 ⟨rfl, hb⟩; have n0_ := Aside0.mk (Kd.V_below (by (with_reducible repeat (first | apply Kd.V_alloc | apply Kd.V_drewN | apply Kd.V_drew)); exact HO_0.out) hb); have n1_ := Aside0.mk (Kd.V_below (by (with_reducible repeat (first | apply Kd.V_alloc | apply Kd.V_drewN | apply Kd.V_drew)); exact HO_525002.out) hb); have n2_ := Aside0.mk (Kd.R_below (by (with_reducible repeat (first | apply Kd.R_alloc | apply Kd.R_drewN | apply Kd.R_drew)); exact HO535.out) hb); have n3_ := Aside0.mk (Kd.V_below (by (with_reducible repeat (first | apply Kd.V_alloc | apply Kd.V_drewN | apply Kd.V_drew)); exact HO542.out) hb); have n4_ := Aside0.mk (blk_below (g := gb524) (o := .cells #[.int .i64 a1_0, .int .i64 a1_1, .slice A1_2 l1_2.length c1_2] 44 (0, 0)) (by (with_reducible repeat (first | refine blk_drewN ?_ _ | refine blk_drew ?_ | refine blk_alloc ?_ _)); exact BK524.out) hb); have n5_ := Aside0.mk (blk_below (g := gb537) (o := .cells #[.int .i64 t531, .int .i64 t532, .slice Ao39 t533.length co39] 44 (0, 0)) (by (with_reducible repeat (first | refine blk_drewN ?_ _ | refine blk_drew ?_ | refine blk_alloc ?_ _)); exact BK537.out) hb); have n6_ := Aside0.mk (blk_below (g := gb544) (o := .cells #[.int .i64 t538, .int .i64 t539, .slice Ao46 t540.length co46] 44 (0, 0)) (by (with_reducible repeat (first | refine blk_drewN ?_ _ | refine blk_drew ?_ | refine blk_alloc ?_ _)); exact BK544.out) hb); have n7_ := Aside0.mk (below_step (by repeat (first | (with_reducible first | exact HB.out | apply below_alloc | apply pw_below_drewN | apply below_drew1 | refine below_set ?_ GE524.out | refine below_set ?_ GE537.out | refine below_set ?_ GE544.out) | exact HB.out)) hb); clear HO_0; clear HO_525002; clear HO535; clear HO542; clear BK524; clear BK537; clear BK544; clear HB; have HO_0 := n0_; have HO_525002 := n1_; have HO535 := n2_; have HO542 := n3_; have BK524 := n4_; have BK537 := n5_; have BK544 := n6_; have HB := n7_; clear n0_ n1_ n2_ n3_ n4_ n5_ n6_ n7_; (try clear hb); (try clear hb2); (try clear hk); (try clear hi); have hcz55_0 : w54.cell? ⟨gb537, 0, none⟩ = some (.int .i64 t531) := (blk_cell BK537.out 0).trans rfl; have hcz55_1 : w54.cell? ⟨gb537, 1, none⟩ = some (.int .i64 t532) := (blk_cell BK537.out 1).trans rfl; have hcz55_2 : w54.cell? ⟨gb537, 2, none⟩ = some (.slice Ao39 t533.length co39) := (blk_cell BK537.out 2).trans rfl; have hfz55_0 := blk_frozen BK537.out 0; have hfz55_1 := blk_frozen BK537.out 1; have hfz55_2 := blk_frozen BK537.out 2; have hcz56_0 : w54.cell? ⟨gb544, 0, none⟩ = some (.int .i64 t538) := (blk_cell BK544.out 0).trans rfl; have hcz56_1 : w54.cell? ⟨gb544, 1, none⟩ = some (.int .i64 t539) := (blk_cell BK544.out 1).trans rfl; have hcz56_2 : w54.cell? ⟨gb544, 2, none⟩ = some (.slice Ao46 t540.length co46) := (blk_cell BK544.out 2).trans rfl; have hfz56_0 := blk_frozen BK544.out 0; have hfz56_1 := blk_frozen BK544.out 1; have hfz56_2 := blk_frozen BK544.out 2
              go_wp2_with (first | (go_at_call 35; (with_reducible refine (wageofficeref28_Same.calls kj7 t531 t532 _ _ t533 t538 t539 _ _ t540 false _ ?side1 ?side2 ?side3 ?side4 A30.out).mono ?_); (case side1 => repeat (first | exact (Kd.R_reads' HO535.out).2.2 | (with_reducible refine Kd.C_alloc ?_ _) | (with_reducible refine Kd.C_drewN ?_ _) | (with_reducible refine Kd.C_drew ?_))); (case side2 => exact (Kd.R_reads' HO535.out).2.1); (case side3 => repeat (first | exact (Kd.V_reads' HO542.out).2.2 | (with_reducible refine Kd.C_alloc ?_ _) | (with_reducible refine Kd.C_drewN ?_ _) | (with_reducible refine Kd.C_drew ?_))); (case side4 => exact (Kd.V_reads' HO542.out).2.1); rintro e w57 ⟨rfl, hb⟩; have n0_ := Aside0.mk (Kd.V_below (by (with_reducible repeat (first | apply Kd.V_alloc | apply Kd.V_drewN | apply Kd.V_drew)); exact HO_0.out) hb); have n1_ := Aside0.mk (Kd.V_below (by (with_reducible repeat (first | apply Kd.V_alloc | apply Kd.V_drewN | apply Kd.V_drew)); exact HO_525002.out) hb); have n2_ := Aside0.mk (Kd.R_below (by (with_reducible repeat (first | apply Kd.R_alloc | apply Kd.R_drewN | apply Kd.R_drew)); exact HO535.out) hb); have n3_ := Aside0.mk (Kd.V_below (by (with_reducible repeat (first | apply Kd.V_alloc | apply Kd.V_drewN | apply Kd.V_drew)); exact HO542.out) hb); have n4_ := Aside0.mk (blk_below (g := gb524) (o := .cells #[.int .i64 a1_0, .int .i64 a1_1, .slice A1_2 l1_2.length c1_2] 44 (0, 0)) (by (with_reducible repeat (first | refine blk_drewN ?_ _ | refine blk_drew ?_ | refine blk_alloc ?_ _)); exact BK524.out) hb); have n5_ := Aside0.mk (blk_below (g := gb537) (o := .cells #[.int .i64 t531, .int .i64 t532, .slice Ao39 t533.length co39] 44 (0, 0)) (by (with_reducible repeat (first | refine blk_drewN ?_ _ | refine blk_drew ?_ | refine blk_alloc ?_ _)); exact BK537.out) hb); have n6_ := Aside0.mk (blk_below (g := gb544) (o := .cells #[.int .i64 t538, .int .i64 t539, .slice Ao46 t540.length co46] 44 (0, 0)) (by (with_reducible repeat (first | refine blk_drewN ?_ _ | refine blk_drew ?_ | refine blk_alloc ?_ _)); exact BK544.out) hb); have n7_ := Aside0.mk (below_step (by repeat (first | (with_reducible first | exact HB.out | apply below_alloc | apply pw_below_drewN | apply below_drew1 | refine below_set ?_ GE524.out | refine below_set ?_ GE537.out | refine below_set ?_ GE544.out) | exact HB.out)) hb); clear HO_0; clear HO_525002; clear HO535; clear HO542; clear BK524; clear BK537; clear BK544; clear HB; have HO_0 := n0_; have HO_525002 := n1_; have HO535 := n2_; have HO542 := n3_; have BK524 := n4_; have BK537 := n5_; have BK544 := n6_; have HB := n7_; clear n0_ n1_ n2_ n3_ n4_ n5_ n6_ n7_; (try clear hb); (try clear hb2); (try clear hk); (try clear hi)))
              go_ret
              exact ⟨by first | rfl | (simp [errW_none, errW_some] <;> rfl) | (simp [*, errW_none, errW_some] <;> rfl), by repeat (first | (with_reducible first | exact HB.out | apply below_alloc | apply pw_below_drewN | apply below_drew1 | refine below_set ?_ GE524.out | refine below_set ?_ GE537.out | refine below_set ?_ GE544.out) | exact HB.out)⟩
          · rw [if_neg c29] at H
            have c29b0 : (t536 == t543) = false := by simpa using c29
            (try (have c29b1 : decide (t536 = t543) = false := by simpa using c29))
            (try (have c29b2 : (t536 == t543) = false := by simpa using c29))
            (try (have c29b3 : ¬ (t536 = t543) := by simpa using c29))
            clear c29
            obtain rfl := Option.some.inj H
            (with_reducible refine (tax_Month.calls kj7 a1_0 a1_1 _ _ l1_2 a3 a4 a5 t549 t550 _ ?side1 ?side2 A26.out).mono ?_); (case side1 => repeat (first | exact (Kd.V_reads' HO_525002.out).2.2 | (with_reducible refine Kd.C_alloc ?_ _) | (with_reducible refine Kd.C_drewN ?_ _) | (with_reducible refine Kd.C_drew ?_))); (case side2 => exact (Kd.V_reads' HO_525002.out).2.1); rintro e w52 ⟨rfl, hb⟩; have n0_ := Aside0.mk (Kd.V_below (by (with_reducible repeat (first | apply Kd.V_alloc | apply Kd.V_drewN | apply Kd.V_drew)); exact HO_0.out) hb); have n1_ := Aside0.mk (Kd.V_below (by (with_reducible repeat (first | apply Kd.V_alloc | apply Kd.V_drewN | apply Kd.V_drew)); exact HO_525002.out) hb); have n2_ := Aside0.mk (Kd.R_below (by (with_reducible repeat (first | apply Kd.R_alloc | apply Kd.R_drewN | apply Kd.R_drew)); exact HO535.out) hb); have n3_ := Aside0.mk (Kd.V_below (by (with_reducible repeat (first | apply Kd.V_alloc | apply Kd.V_drewN | apply Kd.V_drew)); exact HO542.out) hb); have n4_ := Aside0.mk (blk_below (g := gb524) (o := .cells #[.int .i64 a1_0, .int .i64 a1_1, .slice A1_2 l1_2.length c1_2] 44 (0, 0)) (by (with_reducible repeat (first | refine blk_drewN ?_ _ | refine blk_drew ?_ | refine blk_alloc ?_ _)); exact BK524.out) hb); have n5_ := Aside0.mk (blk_below (g := gb537) (o := .cells #[.int .i64 t531, .int .i64 t532, .slice Ao39 t533.length co39] 44 (0, 0)) (by (with_reducible repeat (first | refine blk_drewN ?_ _ | refine blk_drew ?_ | refine blk_alloc ?_ _)); exact BK537.out) hb); have n6_ := Aside0.mk (blk_below (g := gb544) (o := .cells #[.int .i64 t538, .int .i64 t539, .slice Ao46 t540.length co46] 44 (0, 0)) (by (with_reducible repeat (first | refine blk_drewN ?_ _ | refine blk_drew ?_ | refine blk_alloc ?_ _)); exact BK544.out) hb); have n7_ := Aside0.mk (below_step (by repeat (first | (with_reducible first | exact HB.out | apply below_alloc | apply pw_below_drewN | apply below_drew1 | refine below_set ?_ GE524.out | refine below_set ?_ GE537.out | refine below_set ?_ GE544.out) | exact HB.out)) hb); clear HO_0; clear HO_525002; clear HO535; clear HO542; clear BK524; clear BK537; clear BK544; clear HB; have HO_0 := n0_; have HO_525002 := n1_; have HO535 := n2_; have HO542 := n3_; have BK524 := n4_; have BK537 := n5_; have BK544 := n6_; have HB := n7_; clear n0_ n1_ n2_ n3_ n4_ n5_ n6_ n7_; (try clear hb); (try clear hb2); (try clear hk); (try clear hi); have hcz53_0 : w52.cell? ⟨gb524, 0, none⟩ = some (.int .i64 a1_0) := (blk_cell BK524.out 0).trans rfl; have hcz53_1 : w52.cell? ⟨gb524, 1, none⟩ = some (.int .i64 a1_1) := (blk_cell BK524.out 1).trans rfl; have hcz53_2 : w52.cell? ⟨gb524, 2, none⟩ = some (.slice A1_2 l1_2.length c1_2) := (blk_cell BK524.out 2).trans rfl; have hfz53_0 := blk_frozen BK524.out 0; have hfz53_1 := blk_frozen BK524.out 1; have hfz53_2 := blk_frozen BK524.out 2
            go_wp2_with (first | ((with_reducible refine gate_callee (f := 34) rfl ?_); refine goesL_ (some 74) rfl rfl Try.func34 (by kernel_rfl) rfl #[.agg #[.int .i64 a1_0, .int .i64 a1_1, .slice A1_2 l1_2.length c1_2], .int .i64 a3, .int .i64 a4, .int .i64 a5] rfl (by (try simp only [List.map_toArray, List.map_cons, List.map_nil]); first | done | rfl | (simp only [List.length_drop, List.length_take]; rfl)) ?_; (with_reducible refine (wageofficeref28_Month.calls kj7 a1_0 a1_1 _ _ l1_2 a3 a4 a5 t551 t552 _ ?side1 ?side2 A27.out).mono ?_); (case side1 => repeat (first | exact (Kd.V_reads' HO_525002.out).2.2 | (with_reducible refine Kd.C_alloc ?_ _) | (with_reducible refine Kd.C_drewN ?_ _) | (with_reducible refine Kd.C_drew ?_))); (case side2 => exact (Kd.V_reads' HO_525002.out).2.1); rintro e w169 ⟨rfl, hb⟩; refine ⟨_, rfl, ?_⟩; have n0_ := Aside0.mk (Kd.V_below (by (with_reducible repeat (first | apply Kd.V_alloc | apply Kd.V_drewN | apply Kd.V_drew)); exact HO_0.out) hb); have n1_ := Aside0.mk (Kd.V_below (by (with_reducible repeat (first | apply Kd.V_alloc | apply Kd.V_drewN | apply Kd.V_drew)); exact HO_525002.out) hb); have n2_ := Aside0.mk (Kd.R_below (by (with_reducible repeat (first | apply Kd.R_alloc | apply Kd.R_drewN | apply Kd.R_drew)); exact HO535.out) hb); have n3_ := Aside0.mk (Kd.V_below (by (with_reducible repeat (first | apply Kd.V_alloc | apply Kd.V_drewN | apply Kd.V_drew)); exact HO542.out) hb); have n4_ := Aside0.mk (blk_below (g := gb524) (o := .cells #[.int .i64 a1_0, .int .i64 a1_1, .slice A1_2 l1_2.length c1_2] 44 (0, 0)) (by (with_reducible repeat (first | refine blk_drewN ?_ _ | refine blk_drew ?_ | refine blk_alloc ?_ _)); exact BK524.out) hb); have n5_ := Aside0.mk (blk_below (g := gb537) (o := .cells #[.int .i64 t531, .int .i64 t532, .slice Ao39 t533.length co39] 44 (0, 0)) (by (with_reducible repeat (first | refine blk_drewN ?_ _ | refine blk_drew ?_ | refine blk_alloc ?_ _)); exact BK537.out) hb); have n6_ := Aside0.mk (blk_below (g := gb544) (o := .cells #[.int .i64 t538, .int .i64 t539, .slice Ao46 t540.length co46] 44 (0, 0)) (by (with_reducible repeat (first | refine blk_drewN ?_ _ | refine blk_drew ?_ | refine blk_alloc ?_ _)); exact BK544.out) hb); have n7_ := Aside0.mk (below_step (by repeat (first | (with_reducible first | exact HB.out | apply below_alloc | apply pw_below_drewN | apply below_drew1 | refine below_set ?_ GE524.out | refine below_set ?_ GE537.out | refine below_set ?_ GE544.out) | exact HB.out)) hb); clear HO_0; clear HO_525002; clear HO535; clear HO542; clear BK524; clear BK537; clear BK544; clear HB; have HO_0 := n0_; have HO_525002 := n1_; have HO535 := n2_; have HO542 := n3_; have BK524 := n4_; have BK537 := n5_; have BK544 := n6_; have HB := n7_; clear n0_ n1_ n2_ n3_ n4_ n5_ n6_ n7_; (try clear hb); (try clear hb2); (try clear hk); (try clear hi)))
            go_ret
            exact ⟨by first | rfl | (simp [errW_none, errW_some] <;> rfl) | (simp [*, errW_none, errW_some] <;> rfl), by repeat (first | (with_reducible first | exact HB.out | apply below_alloc | apply pw_below_drewN | apply below_drew1 | refine below_set ?_ GE524.out | refine below_set ?_ GE537.out | refine below_set ?_ GE544.out) | exact HB.out)⟩
        · replace c28 := Bool.eq_false_iff.mpr c28
          subst c28
          have H1 : (some false) = some r := by rw [if_neg (show ¬ (false = true) by decide)] at H; exact H
          clear H
          have H := H1
          clear H1
          obtain rfl := Option.some.inj H
          (with_reducible refine (tax_Month.calls kj7 a1_0 a1_1 _ _ l1_2 a3 a4 a5 t549 t550 _ ?side1 ?side2 A26.out).mono ?_); (case side1 => repeat (first | exact (Kd.V_reads' HO_525002.out).2.2 | (with_reducible refine Kd.C_alloc ?_ _) | (with_reducible refine Kd.C_drewN ?_ _) | (with_reducible refine Kd.C_drew ?_))); (case side2 => exact (Kd.V_reads' HO_525002.out).2.1); rintro e w52 ⟨rfl, hb⟩; have n0_ := Aside0.mk (Kd.V_below (by (with_reducible repeat (first | apply Kd.V_alloc | apply Kd.V_drewN | apply Kd.V_drew)); exact HO_0.out) hb); have n1_ := Aside0.mk (Kd.V_below (by (with_reducible repeat (first | apply Kd.V_alloc | apply Kd.V_drewN | apply Kd.V_drew)); exact HO_525002.out) hb); have n2_ := Aside0.mk (Kd.R_below (by (with_reducible repeat (first | apply Kd.R_alloc | apply Kd.R_drewN | apply Kd.R_drew)); exact HO535.out) hb); have n3_ := Aside0.mk (Kd.V_below (by (with_reducible repeat (first | apply Kd.V_alloc | apply Kd.V_drewN | apply Kd.V_drew)); exact HO542.out) hb); have n4_ := Aside0.mk (blk_below (g := gb524) (o := .cells #[.int .i64 a1_0, .int .i64 a1_1, .slice A1_2 l1_2.length c1_2] 44 (0, 0)) (by (with_reducible repeat (first | refine blk_drewN ?_ _ | refine blk_drew ?_ | refine blk_alloc ?_ _)); exact BK524.out) hb); have n5_ := Aside0.mk (blk_below (g := gb537) (o := .cells #[.int .i64 t531, .int .i64 t532, .slice Ao39 t533.length co39] 44 (0, 0)) (by (with_reducible repeat (first | refine blk_drewN ?_ _ | refine blk_drew ?_ | refine blk_alloc ?_ _)); exact BK537.out) hb); have n6_ := Aside0.mk (blk_below (g := gb544) (o := .cells #[.int .i64 t538, .int .i64 t539, .slice Ao46 t540.length co46] 44 (0, 0)) (by (with_reducible repeat (first | refine blk_drewN ?_ _ | refine blk_drew ?_ | refine blk_alloc ?_ _)); exact BK544.out) hb); have n7_ := Aside0.mk (below_step (by repeat (first | (with_reducible first | exact HB.out | apply below_alloc | apply pw_below_drewN | apply below_drew1 | refine below_set ?_ GE524.out | refine below_set ?_ GE537.out | refine below_set ?_ GE544.out) | exact HB.out)) hb); clear HO_0; clear HO_525002; clear HO535; clear HO542; clear BK524; clear BK537; clear BK544; clear HB; have HO_0 := n0_; have HO_525002 := n1_; have HO535 := n2_; have HO542 := n3_; have BK524 := n4_; have BK537 := n5_; have BK544 := n6_; have HB := n7_; clear n0_ n1_ n2_ n3_ n4_ n5_ n6_ n7_; (try clear hb); (try clear hb2); (try clear hk); (try clear hi); have hcz53_0 : w52.cell? ⟨gb524, 0, none⟩ = some (.int .i64 a1_0) := (blk_cell BK524.out 0).trans rfl; have hcz53_1 : w52.cell? ⟨gb524, 1, none⟩ = some (.int .i64 a1_1) := (blk_cell BK524.out 1).trans rfl; have hcz53_2 : w52.cell? ⟨gb524, 2, none⟩ = some (.slice A1_2 l1_2.length c1_2) := (blk_cell BK524.out 2).trans rfl; have hfz53_0 := blk_frozen BK524.out 0; have hfz53_1 := blk_frozen BK524.out 1; have hfz53_2 := blk_frozen BK524.out 2
          go_wp2_with (first | ((with_reducible refine gate_callee (f := 34) rfl ?_); refine goesL_ (some 74) rfl rfl Try.func34 (by kernel_rfl) rfl #[.agg #[.int .i64 a1_0, .int .i64 a1_1, .slice A1_2 l1_2.length c1_2], .int .i64 a3, .int .i64 a4, .int .i64 a5] rfl (by (try simp only [List.map_toArray, List.map_cons, List.map_nil]); first | done | rfl | (simp only [List.length_drop, List.length_take]; rfl)) ?_; (with_reducible refine (wageofficeref28_Month.calls kj7 a1_0 a1_1 _ _ l1_2 a3 a4 a5 t551 t552 _ ?side1 ?side2 A27.out).mono ?_); (case side1 => repeat (first | exact (Kd.V_reads' HO_525002.out).2.2 | (with_reducible refine Kd.C_alloc ?_ _) | (with_reducible refine Kd.C_drewN ?_ _) | (with_reducible refine Kd.C_drew ?_))); (case side2 => exact (Kd.V_reads' HO_525002.out).2.1); rintro e w189 ⟨rfl, hb⟩; refine ⟨_, rfl, ?_⟩; have n0_ := Aside0.mk (Kd.V_below (by (with_reducible repeat (first | apply Kd.V_alloc | apply Kd.V_drewN | apply Kd.V_drew)); exact HO_0.out) hb); have n1_ := Aside0.mk (Kd.V_below (by (with_reducible repeat (first | apply Kd.V_alloc | apply Kd.V_drewN | apply Kd.V_drew)); exact HO_525002.out) hb); have n2_ := Aside0.mk (Kd.R_below (by (with_reducible repeat (first | apply Kd.R_alloc | apply Kd.R_drewN | apply Kd.R_drew)); exact HO535.out) hb); have n3_ := Aside0.mk (Kd.V_below (by (with_reducible repeat (first | apply Kd.V_alloc | apply Kd.V_drewN | apply Kd.V_drew)); exact HO542.out) hb); have n4_ := Aside0.mk (blk_below (g := gb524) (o := .cells #[.int .i64 a1_0, .int .i64 a1_1, .slice A1_2 l1_2.length c1_2] 44 (0, 0)) (by (with_reducible repeat (first | refine blk_drewN ?_ _ | refine blk_drew ?_ | refine blk_alloc ?_ _)); exact BK524.out) hb); have n5_ := Aside0.mk (blk_below (g := gb537) (o := .cells #[.int .i64 t531, .int .i64 t532, .slice Ao39 t533.length co39] 44 (0, 0)) (by (with_reducible repeat (first | refine blk_drewN ?_ _ | refine blk_drew ?_ | refine blk_alloc ?_ _)); exact BK537.out) hb); have n6_ := Aside0.mk (blk_below (g := gb544) (o := .cells #[.int .i64 t538, .int .i64 t539, .slice Ao46 t540.length co46] 44 (0, 0)) (by (with_reducible repeat (first | refine blk_drewN ?_ _ | refine blk_drew ?_ | refine blk_alloc ?_ _)); exact BK544.out) hb); have n7_ := Aside0.mk (below_step (by repeat (first | (with_reducible first | exact HB.out | apply below_alloc | apply pw_below_drewN | apply below_drew1 | refine below_set ?_ GE524.out | refine below_set ?_ GE537.out | refine below_set ?_ GE544.out) | exact HB.out)) hb); clear HO_0; clear HO_525002; clear HO535; clear HO542; clear BK524; clear BK537; clear BK544; clear HB; have HO_0 := n0_; have HO_525002 := n1_; have HO535 := n2_; have HO542 := n3_; have BK524 := n4_; have BK537 := n5_; have BK544 := n6_; have HB := n7_; clear n0_ n1_ n2_ n3_ n4_ n5_ n6_ n7_; (try clear hb); (try clear hb2); (try clear hk); (try clear hi)))
          go_ret
          exact ⟨by first | rfl | (simp [errW_none, errW_some] <;> rfl) | (simp [*, errW_none, errW_some] <;> rfl), by repeat (first | (with_reducible first | exact HB.out | apply below_alloc | apply pw_below_drewN | apply below_drew1 | refine below_set ?_ GE524.out | refine below_set ?_ GE537.out | refine below_set ?_ GE544.out) | exact HB.out)⟩

end Go.Proofs.Ytnadfkhllfgoiaa.My
end
section
/- Plain lemmas on functions with a number of rounds: what they come to with enough rounds. -/

namespace Go.Proofs.Ytnadfkhllfgoiaa.EvA
open Go.RowKit Go.Proofs.YtnadfkhllfgoiaaW.PrintWords Go.Proofs.YtnadfkhllfgoiaaW.PrintLast Go.Proofs.YtnadfkhllfgoiaaW.PrintMore Go.Proofs.Ytnadfkhllfgoiaa.Aid
set_option linter.unusedVariables false
set_option linter.unusedSimpArgs false

theorem ev_ret {α : Type} (r : α) : Ev (fun _ => some r) r := ⟨0, fun _ _ => rfl⟩
theorem ev_lift {α : Type} {o : Option α} {r : α} (h : o = some r) : Ev (fun _ => o) r := ⟨0, fun _ _ => h⟩
theorem ev_bnd {α β : Type} {g : Nat → Option α} {a : α} {f : Nat → α → Option β} {r : β} (h : Ev g a) (h2 : Ev (fun k => f k a) r) : Ev (fun k => (g k).bind (f k)) r := by
  obtain ⟨K, hK⟩ := h
  obtain ⟨L, hL⟩ := h2
  refine ⟨K + L, fun k hk => ?_⟩
  show (g k).bind (f k) = some r
  rw [hK k (by omega)]
  exact hL k (by omega)
theorem ev_up {α : Type} {g : Nat → Option α} {r : α} (h : Ev (fun k => g (k + 1)) r) : Ev g r := by
  obtain ⟨K, hK⟩ := h
  refine ⟨K + 1, fun k hk => ?_⟩
  obtain ⟨m, rfl⟩ : ∃ m, k = m + 1 := ⟨k - 1, by omega⟩
  exact hK m (by omega)
theorem ev_yes {α : Type} {c : Prop} [Decidable c] {A B : Nat → Option α} {r : α} (hc : c) (h : Ev A r) : Ev (fun k => if c then A k else B k) r := by
  simp only [if_pos hc]; exact h
theorem ev_no {α : Type} {c : Prop} [Decidable c] {A B : Nat → Option α} {r : α} (hc : ¬ c) (h : Ev B r) : Ev (fun k => if c then A k else B k) r := by
  simp only [if_neg hc]; exact h
theorem ev_ite {α : Type} {c : Prop} [Decidable c] {A B : Nat → Option α} {r : α} (h1 : c → Ev A r) (h2 : ¬ c → Ev B r) : Ev (fun k => if c then A k else B k) r := by
  by_cases hc : c
  · exact ev_yes hc (h1 hc)
  · exact ev_no hc (h2 hc)
theorem ev_ex {α : Type} {g : Nat → Option α} {r : α} (h : Ev g r) : ∃ k, g k = some r := by
  obtain ⟨K, hK⟩ := h
  exact ⟨K, hK K (Nat.le_refl _)⟩
theorem ev_eq {α : Type} {g : Nat → Option α} {r r' : α} (h : Ev g r) (e : r = r') : Ev g r' := e ▸ h
theorem ev_fn {α : Type} {g g' : Nat → Option α} {r : α} (h : Ev g r) (e : ∀ k, g' k = g k) : Ev g' r := by
  obtain ⟨K, hK⟩ := h
  exact ⟨K, fun k hk => (e k).trans (hK k hk)⟩
theorem ev_unique {α : Type} {g : Nat → Option α} {r r' : α} (h : Ev g r) (h' : Ev g r') : r = r' := by
  obtain ⟨K, hK⟩ := h
  obtain ⟨L, hL⟩ := h'
  have a := hK (K + L) (by omega)
  have b := hL (K + L) (by omega)
  rw [a] at b; exact Option.some.inj b
theorem wf64 {x : Int} (h : (Lit.int .i64 x).wf = true) : -9223372036854775808 ≤ x ∧ x ≤ 9223372036854775807 := by
  simp only [Lit.wf, Bool.and_eq_true, decide_eq_true_eq] at h
  have h1 : IntKind.i64.min = -9223372036854775808 := by decide
  have h2 : IntKind.i64.max = 9223372036854775807 := by decide
  rw [h1, h2] at h
  exact h
end Go.Proofs.Ytnadfkhllfgoiaa.EvA
end
section
/- What the functions of piecewise come to on numbers and lists: validity, the piece of an argument, the value, rounding down. -/







namespace Go.Proofs.Ytnadfkhllfgoiaa.PwE
open Go.RowKit Go.Proofs.Ytnadfkhllfgoiaa.My Go.Proofs.Ytnadfkhllfgoiaa.Aid Go.Proofs.Ytnadfkhllfgoiaa.EvA Go.Proofs.YtnadfkhllfgoiaaW.PrintWords Go.Proofs.YtnadfkhllfgoiaaW.PrintLast Go.Proofs.YtnadfkhllfgoiaaW.PrintMore
set_option linter.unusedVariables false
set_option linter.unusedSimpArgs false

abbrev Pc := S75
def fr (l : List Pc) (i : Nat) : Int := (rd_T75 l i).f0
def at' (l : List Pc) (i : Nat) : Int := (rd_T75 l i).f1
def sp (l : List Pc) (i : Nat) : Int := (rd_T75 l i).f2
structure Good (l : List Pc) (i : Nat) : Prop where
  hi : fr l i ≤ 1000000000000
  sl : -1000000 ≤ sp l i ∧ sp l i ≤ 1000000
  a : -1000000000000000000 ≤ at' l i ∧ at' l i ≤ 1000000000000000000
structure Vld (den : Int) (l : List Pc) : Prop where
  d1 : 1 ≤ den
  d2 : den ≤ 1000000
  n1 : 1 ≤ l.length
  n2 : l.length ≤ 64
  z : fr l 0 = 0
  inc : ∀ i, i + 1 < l.length → fr l i < fr l (i + 1)
  good : ∀ i, i < l.length → Good l i
theorem within_eval (a : Int) {m : Int} (h0 : 0 ≤ m) (h1 : m ≤ 9223372036854775807) : piecewise_within.f a m = some (decide (-m ≤ a ∧ a ≤ m)) := by
  unfold piecewise_within.f
  rw [w64 (by omega) (by omega)]
  split
  · rename_i h
    congr 1
    rw [Bool.eq_iff_iff]; simp; omega
  · rw [decide_eq_false (by omega)]
theorem rwithin_eval (a : Int) {m : Int} (h0 : 0 ≤ m) (h1 : m ≤ 9223372036854775807) : wageofficeref05_within.f a m = some (decide (-m ≤ a ∧ a ≤ m)) := by
  unfold wageofficeref05_within.f
  rw [w64 (by omega) (by omega)]
  split
  · rename_i h
    congr 1
    rw [Bool.eq_iff_iff]; simp; omega
  · rw [decide_eq_false (by omega)]
def lastf (l : List Pc) (i : Nat) : Int := if i = 0 then -1 else fr l (i - 1)
theorem valid_loop (den : Int) (l : List Pc) (hd : 1 ≤ den ∧ den ≤ 1000000) (hn : 1 ≤ l.length ∧ l.length ≤ 64) (hz : fr l 0 = 0) (d : Nat) : ∀ i : Nat, i + d = l.length → (∀ j, j < i → Good l j) → (∀ j, j + 1 < i → fr l j < fr l (j + 1)) →
    ∃ b, Ev (fun k => piecewise_Valid.l0 k (lastf l i) l (l.length : Int) (i : Int)) b ∧ (b = true ↔ Vld den l) := by
  induction d with
  | zero =>
    intro i hi hg hinc
    obtain rfl : i = l.length := by omega
    refine ⟨true, ?_, by simp; exact ⟨hd.1, hd.2, hn.1, hn.2, hz, hinc, hg⟩⟩
    refine ev_up ?_
    simp only [piecewise_Valid.l0]
    exact ev_no (by omega) (ev_ret _)
  | succ d ih =>
    intro i hi hg hinc
    have hlt : i < l.length := by omega
    have hlast : Vld den l → lastf l i < fr l i := fun h => by
      unfold lastf
      split
      · rename_i e; subst e; rw [hz]; omega
      · have := h.inc (i - 1) (by omega)
        rw [show i - 1 + 1 = i from by omega] at this; exact this
    have e0 : (rd_T75 l (i : Int)).f0 = fr l i := rfl
    have e1 : (rd_T75 l (i : Int)).f1 = at' l i := rfl
    have e2 : (rd_T75 l (i : Int)).f2 = sp l i := rfl
    by_cases c1 : fr l i ≤ lastf l i
    · refine ⟨false, ?_, by simp; exact fun h => by have := hlast h; omega⟩
      refine ev_up ?_
      simp only [piecewise_Valid.l0, e0, e1, e2]
      exact ev_yes (by omega) (ev_yes (by omega) (ev_yes (by omega) (ev_yes c1 (ev_ret _))))
    · by_cases c2 : fr l i > 1000000000000
      · refine ⟨false, ?_, by simp; exact fun h => by have := (h.good i hlt).hi; omega⟩
        refine ev_up ?_
        simp only [piecewise_Valid.l0, e0, e1, e2]
        exact ev_yes (by omega) (ev_yes (by omega) (ev_yes (by omega) (ev_no c1 (ev_yes c2 (ev_ret _)))))
      · by_cases c3 : -1000000 ≤ sp l i ∧ sp l i ≤ 1000000
        · by_cases c4 : -1000000000000000000 ≤ at' l i ∧ at' l i ≤ 1000000000000000000
          · obtain ⟨b, hb1, hb2⟩ := ih (i + 1) (by omega) (fun j hj => by
              by_cases e : j = i
              · subst e; exact ⟨by omega, c3, c4⟩
              · exact hg j (by omega)) (fun j hj => by
              by_cases e : j + 1 = i
              · subst e
                unfold lastf at c1
                rw [if_neg (by omega)] at c1
                simpa using c1
              · exact hinc j (by omega))
            refine ⟨b, ?_, hb2⟩
            refine ev_up ?_
            simp only [piecewise_Valid.l0, e0, e1, e2]
            refine ev_yes (by omega) (ev_yes (by omega) (ev_yes (by omega) (ev_no c1 (ev_no c2 ?_))))
            rw [within_eval _ (by omega) (by omega), within_eval _ (by omega) (by omega), decide_eq_true c3, decide_eq_true c4]
            simp only [Option.bind_some]
            refine ev_yes (by simp) (ev_yes (by simp) ?_)
            rw [w64 (by omega) (by omega), show (i : Int) + 1 = ((i + 1 : Nat) : Int) from by omega]
            have e : lastf l (i + 1) = fr l i := by unfold lastf; rw [if_neg (by omega)]; rfl
            rw [e] at hb1
            exact hb1
          · refine ⟨false, ?_, by simp; exact fun h => c4 (h.good i hlt).a⟩
            refine ev_up ?_
            simp only [piecewise_Valid.l0, e0, e1, e2]
            refine ev_yes (by omega) (ev_yes (by omega) (ev_yes (by omega) (ev_no c1 (ev_no c2 ?_))))
            rw [within_eval _ (by omega) (by omega), within_eval _ (by omega) (by omega), decide_eq_true c3, decide_eq_false c4]
            simp only [Option.bind_some]
            exact ev_yes (by simp) (ev_no (by simp) (ev_ret _))
        · refine ⟨false, ?_, by simp; exact fun h => c3 (h.good i hlt).sl⟩
          refine ev_up ?_
          simp only [piecewise_Valid.l0, e0, e1, e2]
          refine ev_yes (by omega) (ev_yes (by omega) (ev_yes (by omega) (ev_no c1 (ev_no c2 ?_))))
          rw [within_eval _ (by omega) (by omega), decide_eq_false c3]
          simp only [Option.bind_some]
          exact ev_no (by simp) (ev_ret _)
theorem valid_ev (den : Int) (l : List Pc) : ∃ b, Ev (fun k => piecewise_Valid.f k den l) b ∧ (b = true ↔ Vld den l) := by
  have hj : ∀ {P : Prop}, ¬ P → ∃ b, Ev (fun k => piecewise_Valid.j0 k true den l) b ∧ (b = true ↔ P) := fun hP => by
    refine ⟨false, ?_, by simp; exact hP⟩
    refine ev_up ?_
    simp only [piecewise_Valid.j0]
    exact ev_yes (by simp) (ev_ret _)
  unfold piecewise_Valid.f
  by_cases c1 : den < 1
  · simp only [if_pos c1]; exact hj fun h => by have := h.d1; omega
  · by_cases c2 : den > 1000000
    · simp only [if_neg c1, if_pos c2]; exact hj fun h => by have := h.d2; omega
    · by_cases c3 : (l.length : Int) < 1
      · simp only [if_neg c1, if_neg c2, if_pos c3]; exact hj fun h => by have := h.n1; omega
      · by_cases c4 : (l.length : Int) > 64
        · simp only [if_neg c1, if_neg c2, if_neg c3, if_pos c4]; exact hj fun h => by have := h.n2; omega
        · have c5 : 0 < (l.length : Int) := by omega
          simp only [if_neg c1, if_neg c2, if_neg c3, if_neg c4, if_pos c5]
          have e0 : (rd_T75 l 0).f0 = fr l 0 := rfl
          by_cases c6 : fr l 0 = 0
          · obtain ⟨b, hb1, hb2⟩ := valid_loop den l (by omega) (by omega) c6 l.length 0 (by omega) (fun j hj => by omega) (fun j hj => by omega)
            refine ⟨b, ?_, hb2⟩
            refine ev_up ?_
            simp only [piecewise_Valid.j0, e0]
            exact ev_no (by simp [c6]) hb1
          · refine ⟨false, ?_, by simp; exact fun h => c6 h.z⟩
            refine ev_up ?_
            simp only [piecewise_Valid.j0, e0]
            exact ev_yes (by simpa using c6) (ev_ret _)
theorem rvalid_loop (den : Int) (l : List Pc) (hd : 1 ≤ den ∧ den ≤ 1000000) (hn : 1 ≤ l.length ∧ l.length ≤ 64) (d : Nat) : ∀ i : Nat, i + d = l.length → (0 < i → fr l 0 = 0) → (∀ j, j < i → Good l j) → (∀ j, j + 1 < i → fr l j < fr l (j + 1)) →
    ∃ b, Ev (fun k => wageofficeref05_Valid.l0 k (i : Int) den l) b ∧ (b = true ↔ Vld den l) := by
  induction d with
  | zero =>
    intro i hi hz hg hinc
    obtain rfl : i = l.length := by omega
    refine ⟨true, ?_, by simp; exact ⟨hd.1, hd.2, hn.1, hn.2, hz (by omega), hinc, hg⟩⟩
    refine ev_up ?_
    simp only [wageofficeref05_Valid.l0]
    exact ev_no (by omega) (ev_ret _)
  | succ d ih =>
    intro i hi hz hg hinc
    have hlt : i < l.length := by omega
    have e0 : (rd_T75 l (i : Int)).f0 = fr l i := rfl
    have e1 : (rd_T75 l (i : Int)).f1 = at' l i := rfl
    have e2 : (rd_T75 l (i : Int)).f2 = sp l i := rfl
    by_cases c3 : -1000000 ≤ sp l i ∧ sp l i ≤ 1000000
    · by_cases c4 : -1000000000000000000 ≤ at' l i ∧ at' l i ≤ 1000000000000000000
      · by_cases c2 : fr l i > 1000000000000
        · refine ⟨false, ?_, by simp; exact fun h => by have := (h.good i hlt).hi; omega⟩
          refine ev_up ?_
          simp only [wageofficeref05_Valid.l0, e0, e1, e2]
          refine ev_yes (by omega) (ev_yes (by omega) ?_)
          rw [rwithin_eval _ (by omega) (by omega), rwithin_eval _ (by omega) (by omega), decide_eq_true c3, decide_eq_true c4]
          simp only [Option.bind_some]
          exact ev_yes (by simp) (ev_yes (by simp) (ev_yes c2 (ev_ret _)))
        · by_cases ci : i = 0
          · subst ci
            by_cases c0 : fr l 0 = 0
            · obtain ⟨b, hb1, hb2⟩ := ih 1 (by omega) (fun _ => c0) (fun j hj => by
                obtain rfl : j = 0 := by omega
                exact ⟨by omega, c3, c4⟩) (fun j hj => by omega)
              refine ⟨b, ?_, hb2⟩
              refine ev_up ?_
              simp only [wageofficeref05_Valid.l0, e0, e1, e2]
              refine ev_yes (by omega) (ev_yes (by omega) ?_)
              rw [rwithin_eval _ (by omega) (by omega), rwithin_eval _ (by omega) (by omega), decide_eq_true c3, decide_eq_true c4]
              simp only [Option.bind_some]
              refine ev_yes (by simp) (ev_yes (by simp) (ev_no c2 (ev_yes (by simp) (ev_yes c0 (ev_no (by simp) ?_)))))
              rw [w64 (by omega) (by omega)]
              exact hb1
            · refine ⟨false, ?_, by simp; exact fun h => c0 h.z⟩
              refine ev_up ?_
              simp only [wageofficeref05_Valid.l0, e0, e1, e2]
              refine ev_yes (by omega) (ev_yes (by omega) ?_)
              rw [rwithin_eval _ (by omega) (by omega), rwithin_eval _ (by omega) (by omega), decide_eq_true c3, decide_eq_true c4]
              simp only [Option.bind_some]
              exact ev_yes (by simp) (ev_yes (by simp) (ev_no c2 (ev_yes (by simp) (ev_no c0 (ev_ret _)))))
          · have ew : wrap64 ((i : Int) - 1) = ((i - 1 : Nat) : Int) := by rw [w64 (by omega) (by omega)]; omega
            have e3 : (rd_T75 l ((i - 1 : Nat) : Int)).f0 = fr l (i - 1) := rfl
            by_cases c1 : fr l i ≤ fr l (i - 1)
            · refine ⟨false, ?_, by simp; exact fun h => by have := h.inc (i - 1) (by omega); rw [show i - 1 + 1 = i from by omega] at this; omega⟩
              refine ev_up ?_
              simp only [wageofficeref05_Valid.l0, ew, e0, e1, e2, e3]
              refine ev_yes (by omega) (ev_yes (by omega) ?_)
              rw [rwithin_eval _ (by omega) (by omega), rwithin_eval _ (by omega) (by omega), decide_eq_true c3, decide_eq_true c4]
              simp only [Option.bind_some]
              exact ev_yes (by simp) (ev_yes (by simp) (ev_no c2 (ev_no (by omega) (ev_yes (by omega) (ev_yes (by omega) (ev_yes (by omega) (ev_yes c1 (ev_ret _))))))))
            · obtain ⟨b, hb1, hb2⟩ := ih (i + 1) (by omega) (fun _ => hz (by omega)) (fun j hj => by
                by_cases e : j = i
                · subst e; exact ⟨by omega, c3, c4⟩
                · exact hg j (by omega)) (fun j hj => by
                by_cases e : j + 1 = i
                · subst e; simpa using c1
                · exact hinc j (by omega))
              refine ⟨b, ?_, hb2⟩
              refine ev_up ?_
              simp only [wageofficeref05_Valid.l0, ew, e0, e1, e2, e3]
              refine ev_yes (by omega) (ev_yes (by omega) ?_)
              rw [rwithin_eval _ (by omega) (by omega), rwithin_eval _ (by omega) (by omega), decide_eq_true c3, decide_eq_true c4]
              simp only [Option.bind_some]
              refine ev_yes (by simp) (ev_yes (by simp) (ev_no c2 (ev_no (by omega) (ev_yes (by omega) (ev_yes (by omega) (ev_yes (by omega) (ev_no c1 ?_)))))))
              rw [w64 (by omega) (by omega), show (i : Int) + 1 = ((i + 1 : Nat) : Int) from by omega]
              exact hb1
      · refine ⟨false, ?_, by simp; exact fun h => c4 (h.good i hlt).a⟩
        refine ev_up ?_
        simp only [wageofficeref05_Valid.l0, e0, e1, e2]
        refine ev_yes (by omega) (ev_yes (by omega) ?_)
        rw [rwithin_eval _ (by omega) (by omega), rwithin_eval _ (by omega) (by omega), decide_eq_true c3, decide_eq_false c4]
        simp only [Option.bind_some]
        exact ev_yes (by simp) (ev_no (by simp) (ev_ret _))
    · refine ⟨false, ?_, by simp; exact fun h => c3 (h.good i hlt).sl⟩
      refine ev_up ?_
      simp only [wageofficeref05_Valid.l0, e0, e1, e2]
      refine ev_yes (by omega) (ev_yes (by omega) ?_)
      rw [rwithin_eval _ (by omega) (by omega), rwithin_eval _ (by omega) (by omega), decide_eq_false c3]
      simp only [Option.bind_some]
      exact ev_no (by simp) (ev_ret _)
theorem rvalid_ev (den : Int) (l : List Pc) : ∃ b, Ev (fun k => wageofficeref05_Valid.f k den l) b ∧ (b = true ↔ Vld den l) := by
  have hj : ∀ {P : Prop}, ¬ P → ∃ b, Ev (fun k => wageofficeref05_Valid.j0 k true den l) b ∧ (b = true ↔ P) := fun hP => by
    refine ⟨false, ?_, by simp; exact hP⟩
    refine ev_up ?_
    simp only [wageofficeref05_Valid.j0]
    exact ev_yes (by simp) (ev_ret _)
  unfold wageofficeref05_Valid.f
  by_cases c1 : den < 1
  · simp only [if_pos c1]; exact hj fun h => by have := h.d1; omega
  · by_cases c2 : den > 1000000
    · simp only [if_neg c1, if_pos c2]; exact hj fun h => by have := h.d2; omega
    · by_cases c3 : (l.length : Int) < 1
      · simp only [if_neg c1, if_neg c2, if_pos c3]; exact hj fun h => by have := h.n1; omega
      · simp only [if_neg c1, if_neg c2, if_neg c3]
        by_cases c4 : (l.length : Int) > 64
        · rw [decide_eq_true c4]; exact hj fun h => by have := h.n2; omega
        · rw [decide_eq_false c4]
          obtain ⟨b, hb1, hb2⟩ := rvalid_loop den l (by omega) (by omega) l.length 0 (by omega) (fun h => by omega) (fun j hj => by omega) (fun j hj => by omega)
          refine ⟨b, ?_, hb2⟩
          refine ev_up ?_
          simp only [wageofficeref05_Valid.j0]
          exact ev_no (by simp) hb1

/-! the piece of an argument -/
theorem Vld.mono {den : Int} {l : List Pc} (h : Vld den l) : ∀ (d i : Nat), i + d < l.length → fr l i ≤ fr l (i + d) := by
  intro d
  induction d with
  | zero => intro i _; exact Int.le_refl _
  | succ d ih =>
    intro i hi
    have h1 := ih i (by omega)
    have h2 := h.inc (i + d) (by omega)
    rw [show i + (d + 1) = i + d + 1 from by omega]; omega
theorem Vld.le {den : Int} {l : List Pc} (h : Vld den l) {i j : Nat} (hij : i ≤ j) (hj : j < l.length) : fr l i ≤ fr l j := by
  have := h.mono (j - i) i (by omega)
  rwa [show i + (j - i) = j from by omega] at this
theorem Vld.lt {den : Int} {l : List Pc} (h : Vld den l) {i j : Nat} (hij : i < j) (hj : j < l.length) : fr l i < fr l j := by
  have h1 := h.inc i (by omega)
  have h2 := h.le (i := i + 1) (j := j) (by omega) hj
  omega
theorem Vld.fr0 {den : Int} {l : List Pc} (h : Vld den l) {i : Nat} (hi : i < l.length) : 0 ≤ fr l i := by
  have := h.le (Nat.zero_le i) hi
  rw [h.z] at this; exact this
structure At (l : List Pc) (x : Int) (q : Nat) : Prop where
  lt : q < l.length
  le : fr l q ≤ x
  nx : ∀ j, q < j → j < l.length → x < fr l j
theorem At.unique {l : List Pc} {x : Int} {p q : Nat} (hp : At l x p) (hq : At l x q) : p = q := by
  rcases Nat.lt_trichotomy p q with h | h | h
  · have := hp.nx q h hq.lt; have := hq.le; omega
  · exact h
  · have := hq.nx p h hp.lt; have := hp.le; omega
theorem frm_fr (l : List Pc) (i : Nat) : frm l (i : Int) = fr l i := rfl
theorem bsk_at {den : Int} {l : List Pc} (h : Vld den l) {x : Int} (h0 : 0 ≤ x) : ∃ q : Nat, bsk l x = ((q + 1 : Nat) : Int) ∧ At l x q := by
  have hb := bs_spec (fun i => decide (x < frm l i)) (l.length : Int) 64 0 (l.length : Int) (by omega) (by omega) (by omega) (by have := h.n2; omega) (fun h => by omega) (fun h => by omega)
  change 0 ≤ bsk l x ∧ bsk l x ≤ _ ∧ (0 < bsk l x → _) ∧ (bsk l x < _ → _) at hb
  obtain ⟨b1, b2, b3, b4⟩ := hb
  obtain ⟨m, hm⟩ := Int.eq_ofNat_of_zero_le b1
  have b4 : bsk l x < (l.length : Int) → decide (x < frm l (bsk l x)) = true := b4
  have b3 : 0 < bsk l x → decide (x < frm l (bsk l x - 1)) = false := b3
  rw [hm] at b2 b3 b4 ⊢
  have hn1 := h.n1
  have hm0 : m ≠ 0 := by
    rintro rfl
    have := b4 (by omega)
    rw [frm_fr, h.z] at this
    simp at this; omega
  refine ⟨m - 1, by omega, by omega, ?_, fun j hj hjl => ?_⟩
  · have := b3 (by omega)
    rw [show (m : Int) - 1 = ((m - 1 : Nat) : Int) from by omega, frm_fr] at this
    simpa using this
  · have := b4 (by omega)
    rw [frm_fr] at this
    have h2 := h.le (i := m) (j := j) (by omega) hjl
    simp at this; omega
theorem at_ex {den : Int} {l : List Pc} (h : Vld den l) {x : Int} (h0 : 0 ≤ x) : ∃ q, At l x q := by
  obtain ⟨q, _, hq⟩ := bsk_at h h0
  exact ⟨q, hq⟩
def num (l : List Pc) (q : Nat) (x : Int) : Int := at' l q + sp l q * (x - fr l q)
theorem mul_bd {s d S D : Int} (h0 : -S ≤ s) (h1 : s ≤ S) (h2 : 0 ≤ d) (h3 : d ≤ D) (hS : 0 ≤ S) : -(S * D) ≤ s * d ∧ s * d ≤ S * D := by
  have a1 : s * d ≤ S * d := Int.mul_le_mul_of_nonneg_right h1 h2
  have a2 : S * d ≤ S * D := Int.mul_le_mul_of_nonneg_left h3 hS
  have a3 : -S * d ≤ s * d := Int.mul_le_mul_of_nonneg_right h0 h2
  rw [Int.neg_mul] at a3
  omega
theorem num_bd {den : Int} {l : List Pc} (h : Vld den l) {x : Int} {q : Nat} (hq : At l x q) (h1 : x ≤ 1000000000000) :
    (-1000000000000000000 ≤ sp l q * (x - fr l q) ∧ sp l q * (x - fr l q) ≤ 1000000000000000000) ∧ -2000000000000000000 ≤ num l q x ∧ num l q x ≤ 2000000000000000000 := by
  have g := h.good q hq.lt
  have f0 := h.fr0 hq.lt
  have := mul_bd g.sl.1 g.sl.2 (d := x - fr l q) (D := 1000000000000) (by have := hq.le; omega) (by omega) (by omega)
  have ga := g.a
  unfold num
  omega
theorem num_wrap {den : Int} {l : List Pc} (h : Vld den l) {x : Int} {q : Nat} (hq : At l x q) (h0 : 0 ≤ x) (h1 : x ≤ 1000000000000) : wrap64 (at' l q + wrap64 (sp l q * wrap64 (x - fr l q))) = num l q x := by
  have hb := num_bd h hq h1
  have f0 := h.fr0 hq.lt
  have f1 := (h.good q hq.lt).hi
  unfold num at hb ⊢
  rw [w64 (n := x - fr l q) (by omega) (by omega), w64 (n := sp l q * (x - fr l q)) (by omega) (by omega), w64 (by omega) (by omega)]
theorem eval_ok {den : Int} {l : List Pc} (h : Vld den l) {x : Int} {q : Nat} (hq : At l x q) (h0 : 0 ≤ x) (h1 : x ≤ 1000000000000) : Ev (fun k => piecewise_Eval.f k den l x) (num l q x, den, 0) := by
  obtain ⟨b, hb1, hb2⟩ := valid_ev den l
  obtain rfl := hb2.2 h
  unfold piecewise_Eval.f
  refine ev_bnd hb1 (ev_yes (by simp) ?_)
  have ea : piecewise_isArgument.f x = some true := by unfold piecewise_isArgument.f; rw [if_pos (by omega), decide_eq_true h1]
  rw [ea]
  simp only [Option.bind_some]
  refine ev_up ?_
  simp only [piecewise_Eval.j0]
  refine ev_no (by simp) ?_
  obtain ⟨q', hq1, hq2⟩ := bsk_at h h0
  obtain rfl := hq2.unique hq
  have eb : piecewise_belongs.f den l x = some (fr l q', at' l q', sp l q') := by
    unfold piecewise_belongs.f
    rw [if_pos (by have := h.n2; omega), if_pos (by omega), hq1, show ((q' + 1 : Nat) : Int) - 1 = (q' : Int) from by omega]
    rfl
  rw [eb]
  simp only [Option.bind_some, piecewise_numerator.f]
  rw [num_wrap h hq h0 h1]
  exact ev_ret _
theorem eval_no {den : Int} {l : List Pc} {x : Int} (h : ¬ (Vld den l ∧ 0 ≤ x ∧ x ≤ 1000000000000)) : Ev (fun k => piecewise_Eval.f k den l x) (0, 0, 1) := by
  obtain ⟨b, hb1, hb2⟩ := valid_ev den l
  have hj : Ev (fun k => piecewise_Eval.j0 k x true den l) (0, 0, 1) := by
    refine ev_up ?_
    simp only [piecewise_Eval.j0]
    exact ev_yes (by simp) (ev_ret _)
  unfold piecewise_Eval.f
  refine ev_bnd hb1 (ev_ite (fun e => ?_) (fun _ => hj))
  have hv := hb2.1 e
  have ea : piecewise_isArgument.f x = some false := by
    unfold piecewise_isArgument.f
    split
    · rw [decide_eq_false (fun h2 => h ⟨hv, by omega, h2⟩)]
    · rfl
  rw [ea]
  simp only [Option.bind_some]
  exact hj
theorem rpiece_loop {den : Int} {l : List Pc} (h : Vld den l) {x : Int} {q : Nat} (hq : At l x q) (d : Nat) : ∀ i : Nat, i + d = l.length → ∀ kk : Nat, kk = (min i (q + 1)) - 1 → Ev (fun k => wageofficeref05_Piece.l0 k x (kk : Int) (i : Int) den l) (q : Int) := by
  have hlt := hq.lt
  induction d with
  | zero =>
    intro i hi kk hk
    refine ev_up ?_
    simp only [wageofficeref05_Piece.l0]
    refine ev_no (by omega) (ev_eq (ev_ret _) ?_)
    omega
  | succ d ih =>
    intro i hi kk hk
    have hn := h.n2
    refine ev_up ?_
    simp only [wageofficeref05_Piece.l0]
    have e0 : (rd_T75 l (i : Int)).f0 = fr l i := rfl
    rw [e0, w64 (by omega) (by omega), show (i : Int) + 1 = ((i + 1 : Nat) : Int) from by omega]
    refine ev_yes (by omega) (ev_yes (by omega) (ev_ite (fun c => ?_) (fun c => ?_)))
    · have : i ≤ q := by
        rcases Nat.lt_or_ge q i with h1 | h1
        · have := hq.nx i h1 (by omega); omega
        · exact h1
      exact ih (i + 1) (by omega) i (by omega)
    · have : q < i := by
        rcases Nat.lt_or_ge q i with h1 | h1
        · exact h1
        · have := h.le h1 hq.lt; have := hq.le; omega
      exact ih (i + 1) (by omega) kk (by omega)
theorem rat_ev {den : Int} {l : List Pc} (h : Vld den l) {x : Int} {q : Nat} (hq : At l x q) (h0 : 0 ≤ x) (h1 : x ≤ 1000000000000) : Ev (fun k => wageofficeref05_At.f k den l x) (num l q x) := by
  unfold wageofficeref05_At.f wageofficeref05_Piece.f
  refine ev_bnd (rpiece_loop h hq l.length 0 (by omega) 0 (by omega)) ?_
  have hlt := hq.lt
  refine ev_yes (by omega) (ev_yes (by omega) ?_)
  rw [show wrap64 ((rd_T75 l (q : Int)).f1 + wrap64 ((rd_T75 l (q : Int)).f2 * wrap64 (x - (rd_T75 l (q : Int)).f0))) = num l q x from num_wrap h hq h0 h1]
  exact ev_ret _
theorem reval_ok {den : Int} {l : List Pc} (h : Vld den l) {x : Int} {q : Nat} (hq : At l x q) (h0 : 0 ≤ x) (h1 : x ≤ 1000000000000) : Ev (fun k => wageofficeref05_Eval.f k den l x) (num l q x, den, 0) := by
  obtain ⟨b, hb1, hb2⟩ := rvalid_ev den l
  obtain rfl := hb2.2 h
  unfold wageofficeref05_Eval.f
  exact ev_bnd hb1 (ev_yes (by simp) (ev_no (by omega) (ev_no (by omega) (ev_bnd (rat_ev h hq h0 h1) (ev_ret _)))))
theorem reval_no {den : Int} {l : List Pc} {x : Int} (h : ¬ (Vld den l ∧ 0 ≤ x ∧ x ≤ 1000000000000)) : Ev (fun k => wageofficeref05_Eval.f k den l x) (0, 0, 1) := by
  obtain ⟨b, hb1, hb2⟩ := rvalid_ev den l
  unfold wageofficeref05_Eval.f
  refine ev_bnd hb1 (ev_ite (fun e => ev_ite (fun _ => ev_ret _) (fun c1 => ev_ite (fun _ => ev_ret _) (fun c2 => ?_))) (fun _ => ev_ret _))
  exact absurd ⟨hb2.1 e, by omega, by omega⟩ h
/-! rounding down -/
theorem divide_eval {n d : Int} (hd : 0 < d) (h0 : -9223372036854775807 ≤ n) (h1 : n ≤ 9223372036854775807) (hd1 : d ≤ 1000000000000) : piecewise_divide.f n d = some (n / d, n % d) := by
  have m0 := Int.emod_nonneg n (show d ≠ 0 by omega)
  have m1 := Int.emod_lt_of_pos n hd
  have key := Int.mul_ediv_add_emod n d
  have hq : -9223372036854775807 ≤ n / d ∧ n / d ≤ 9223372036854775807 := by
    refine ⟨?_, ?_⟩
    · have : (-9223372036854775807 : Int) ≤ n / d := by
        rw [Int.le_ediv_iff_mul_le hd]
        have : (-9223372036854775807 : Int) * d ≤ -9223372036854775807 * 1 := by
          rw [Int.neg_mul, Int.neg_mul]
          have := Int.mul_le_mul_of_nonneg_left (show (1 : Int) ≤ d by omega) (show (0 : Int) ≤ 9223372036854775807 by omega)
          omega
        omega
      exact this
    · have : n / d < 9223372036854775807 + 1 := by
        rw [Int.ediv_lt_iff_lt_mul hd]
        have := Int.mul_le_mul_of_nonneg_left (show (1 : Int) ≤ d by omega) (show (0 : Int) ≤ 9223372036854775807 + 1 by omega)
        omega
      omega
  unfold piecewise_divide.f
  rw [if_neg (by omega), Int.tmod_eq_emod, Int.tdiv_eq_ediv]
  have hna : ((d.natAbs : Nat) : Int) = d := by omega
  by_cases c : 0 ≤ n ∨ d ∣ n
  · simp only [if_pos c]
    rw [if_neg (by omega), w64 (by omega) (by omega)]
    simp
  · simp only [if_neg c, hna, Int.sign_eq_one_of_pos hd]
    have hr : 0 < n % d := by
      rcases Int.lt_or_le 0 (n % d) with h | h
      · exact h
      · exact absurd (Int.dvd_of_emod_eq_zero (by omega)) (fun h => c (.inr h))
    have hn : n < 0 := by omega
    have hqn : n / d < 0 := Int.ediv_neg_of_neg_of_pos hn hd
    rw [if_pos (by omega), w64 (n := n / d + 1) (by omega) (by omega), w64 (by omega) (by omega), w64 (by omega) (by omega)]
    congr 2 <;> omega
def rdown (n d : Int) : Int × Int := if -1000000000000 ≤ n / d ∧ n / d ≤ 1000000000000 then (n / d, 0) else (0, 3)
theorem round_ok {den : Int} {l : List Pc} (h : Vld den l) {x : Int} {q : Nat} (hq : At l x q) (h0 : 0 ≤ x) (h1 : x ≤ 1000000000000) : Ev (fun k => piecewise_Round.f k den l x 0) (rdown (num l q x) den) := by
  have hb := (num_bd h hq h1).2
  have d1 := h.d1
  have d2 := h.d2
  unfold piecewise_Round.f
  refine ev_bnd (eval_ok h hq h0 h1) (ev_yes (by simp) (ev_no (by omega) ?_))
  refine ev_up ?_
  simp only [piecewise_Round.j0]
  refine ev_no (by simp) ?_
  rw [divide_eval (by omega) (by omega) (by omega) (by omega)]
  simp only [Option.bind_some]
  have fin : ∀ up : Bool, Ev (fun k => piecewise_Round.j1 k 0 (num l q x / den) up) (rdown (num l q x) den) := by
    intro up
    have h2 : Ev (fun k => piecewise_Round.j2 k (num l q x / den) false) (rdown (num l q x) den) := by
      refine ev_up ?_
      simp only [piecewise_Round.j2]
      refine ev_no (by simp) ?_
      rw [within_eval _ (by omega) (by omega)]
      simp only [Option.bind_some, decide_eq_true_eq]
      unfold rdown
      exact ev_ite (fun c => by rw [if_pos c]; exact ev_ret _) (fun c => by rw [if_neg c]; exact ev_ret _)
    refine ev_up ?_
    simp only [piecewise_Round.j1]
    exact ev_ite (fun _ => h2) (fun _ => h2)
  exact ev_ite (fun _ => ev_no (by omega) (ev_no (by omega) (fin _))) (fun _ => fin _)
theorem round_no {den : Int} {l : List Pc} {x m : Int} (h : ¬ (Vld den l ∧ 0 ≤ x ∧ x ≤ 1000000000000)) : Ev (fun k => piecewise_Round.f k den l x m) (0, 1) := by
  unfold piecewise_Round.f
  refine ev_bnd (eval_no h) (ev_no (by simp) ?_)
  refine ev_up ?_
  simp only [piecewise_Round.j0]
  exact ev_yes (by simp) (ev_ret _)
end Go.Proofs.Ytnadfkhllfgoiaa.PwE
end
section
-- Written by a program of this session (wip/myprint.py), which drives the kit's print over hand-written fragments. Not trusted: Lean checks it.


namespace Go.Proofs.Ytnadfkhllfgoiaa.My
open Go.Proofs.Ytnadfkhllfgoiaa.Aid Go.Proofs.Ytnadfkhllfgoiaa.KdX
open Go.RowKit Go.Proofs.YtnadfkhllfgoiaaW.PrintWords Go.Proofs.YtnadfkhllfgoiaaW.PrintLast Go.Proofs.YtnadfkhllfgoiaaW.PrintMore
attribute [local go_sem] max2_int min2_int max_two min_two max_three min_three max_four min_four   -- for this text's walks alone
set_option linter.unusedVariables false
set_option linter.unusedSimpArgs false

/-! ### wageofficelaw28_withheld: function 36 -/
def wageofficelaw28_withheld.l0 : Nat → Int → Int → List Int → Int → Int → Int → Int → List (S75) → Option (Int × Int × Bool)
  | 0, _, _, _, _, _, _, _, _ => none
  | k + 1, x1, x2, x15, x16, x17, x569000, x569001, x569002 => if x17 < x16 then (if 0 ≤ x17 then (if x17 < (x15.length : Int) then ((tax_Month.f k x569000 x569001 x569002 x1 x2 (rd x15 x17)).bind fun bt570 => (if bt570.2 = 0 then (wageofficelaw28_withheld.l0 k (wrap64 (x1 + (rd x15 x17))) (wrap64 (x2 + bt570.1)) x15 x16 (wrap64 (x17 + 1)) x569000 x569001 x569002) else (some (0, 0, false)))) else (none)) else (none)) else (some (x1, x2, true))
def wageofficelaw28_withheld.f (k : Nat) (a0_0 : Int) (a0_1 : Int) (l0_2 : List (S75)) (a1 : Int) (a2 : Int) (l3 : List Int) : Option (Int × Int × Bool) := wageofficelaw28_withheld.l0 k a1 a2 l3 (l3.length : Int) 0 a0_0 a0_1 l0_2
theorem wageofficelaw28_withheld.mono_l : ∀ k, (∀ y0 y1 y2 y3 y4 y5 y6 y7, LeO (wageofficelaw28_withheld.l0 k y0 y1 y2 y3 y4 y5 y6 y7) (wageofficelaw28_withheld.l0 (k + 1) y0 y1 y2 y3 y4 y5 y6 y7))
  | 0 => fun _ _ _ _ _ _ _ _ r h => by simp [wageofficelaw28_withheld.l0] at h
  | k + 1 => by
    have ih0 := wageofficelaw28_withheld.mono_l k
    · intro y0 y1 y2 y3 y4 y5 y6 y7
      unfold wageofficelaw28_withheld.l0
      repeat' first
      | (with_reducible exact ih0 _ _ _ _ _ _ _ _)
      | (with_reducible exact tax_Month.mono _ _ _ _ _ _ _)
      | (with_reducible exact LeO.refl _)
      | (with_reducible exact LeO.none _)
      | (with_reducible refine LeO.ite ?_ ?_)
      | (with_reducible refine LeO.bind ?_ (fun _ => ?_))
      | exact ih0 _ _ _ _ _ _ _ _
      | exact tax_Month.mono _ _ _ _ _ _ _
      | exact LeO.none _
      | refine LeO.ite ?_ ?_
      | refine LeO.bind ?_ (fun _ => ?_)
theorem wageofficelaw28_withheld.mono : ∀ a0 a1 a2 a3 a4 a5 k, LeO (wageofficelaw28_withheld.f k a0 a1 a2 a3 a4 a5) (wageofficelaw28_withheld.f (k + 1) a0 a1 a2 a3 a4 a5) := by
  intro a0 a1 a2 a3 a4 a5 k
  have ih0 := wageofficelaw28_withheld.mono_l k
  unfold wageofficelaw28_withheld.f
  repeat' first
      | (with_reducible exact ih0 _ _ _ _ _ _ _ _)
      | (with_reducible exact tax_Month.mono _ _ _ _ _ _ _)
      | (with_reducible exact LeO.refl _)
      | (with_reducible exact LeO.none _)
      | (with_reducible refine LeO.ite ?_ ?_)
      | (with_reducible refine LeO.bind ?_ (fun _ => ?_))
      | exact ih0 _ _ _ _ _ _ _ _
      | exact tax_Month.mono _ _ _ _ _ _ _
      | exact LeO.none _
      | refine LeO.ite ?_ ?_
      | refine LeO.bind ?_ (fun _ => ?_)
set_option maxHeartbeats 8000000 in
set_option maxRecDepth 100000 in
theorem wageofficelaw28_withheld.calls (k : Nat) (a0_0 : Int) (a0_1 : Int) (A0_2 : Option Addr) (c0_2 : Nat) (l0_2 : List (S75)) (a1 : Int) (a2 : Int) (A3 : Option Addr) (c3 : Nat) (l3 : List Int) (r1 : Int) (r2 : Int) (r3 : Bool) (w : World) (hr0_2 : Kd.C k75 w A0_2 l0_2.length l0_2) (hc0_2 : l0_2.length ≤ c0_2) (hr3 : Kd.C (Kd.int .i64) w A3 l3.length l3) (hc3 : l3.length ≤ c3) (h : wageofficelaw28_withheld.f k a0_0 a0_1 l0_2 a1 a2 l3 = some (r1, r2, r3)) :
    Calls Try.prog 36 #[.agg #[.int .i64 a0_0, .int .i64 a0_1, .slice A0_2 l0_2.length c0_2], .int .i64 a1, .int .i64 a2, .slice A3 l3.length c3] w fun e w' => e = .returned (.tuple #[.int .i64 r1, .int .i64 r2, .bool r3]) ∧ Below w.heap.size w w' := by
  have hu44 := Try.underlying44
  have HR0_2 := Aside0.mk hr0_2
  have HC0_2 := Aside0.mk hc0_2
  clear hr0_2 hc0_2
  have HR3 := Aside0.mk hr3
  have HC3 := Aside0.mk hc3
  clear hr3 hc3
  have HB := Aside0.mk (Below.refl w.heap.size w)
  have H : (wageofficelaw28_withheld.l0 k a1 a2 l3 (l3.length : Int) 0 a0_0 a0_1 l0_2) = some (r1, r2, r3) := h
  clear h
  have H' := Aside0.mk H
  clear H
  go_enter Try.func36, Try.ntmps36
  go_wp2_with (first | ((with_reducible refine gate_dst (N := 4) rfl ?_); refine box_event ?hg (N := 4) ?hd (cs := #[.int .i64 a0_0, .int .i64 a0_1, .slice A0_2 l0_2.length c0_2]) (t := 44) ?hr ?_; (case hd => rfl); (case hg => rfl); (case hr => first | (go_simp; done) | (go_simp; rfl)); intro gb568 hg w5 hbox hb; have n0_ := Aside0.mk (below_step (by repeat (first | (with_reducible first | exact HB.out | apply below_alloc | apply pw_below_drewN | apply below_drew1) | exact HB.out)) hb); have n1_ := Aside0.mk (hbox); have n2_ := Aside0.mk ((by rw [hg]; exact (below_size (by repeat (first | (with_reducible first | exact HB.out | apply below_alloc | apply pw_below_drewN | apply below_drew1) | exact HB.out))) : w.heap.size ≤ gb568)); have n3_ := Aside0.mk ((by rw [hg]; exact (below_size (by repeat (first | (with_reducible first | exact HB.out | apply below_alloc | apply pw_below_drewN | apply below_drew1) | exact HB.out))) : w.heap.size ≤ gb568)); clear HB; have HB := n0_; have BK568 := n1_; have GW568 := n2_; have GE568 := n3_; clear n0_ n1_ n2_ n3_; clear hb hbox hg))
  go_loopg [1, 2, 17] k (fun kq v1 v2 v17 w' => ∃ (x1_1 : Int) (x2_1 : Int) (x17_1 : Int), v1 = .int .i64 x1_1 ∧ v2 = .int .i64 x2_1 ∧ v17 = .int .i64 x17_1 ∧ Aside0 (wageofficelaw28_withheld.l0 kq x1_1 x2_1 l3 (l3.length : Int) x17_1 a0_0 a0_1 l0_2 = some (r1, r2, r3)) ∧ Aside0 (kq ≤ k) ∧ Aside0 (w'.heap[gb568]? = some (.cells #[.int .i64 a0_0, .int .i64 a0_1, (.slice A0_2 l0_2.length c0_2)] 44 (0, 0))) ∧ Aside0 (Below w.heap.size w w'))
  case atStart => exact ⟨(a1), (a2), (0), (by first | rfl | (simp; done) | (simp [*]; done)), (by first | rfl | (simp; done) | (simp [*]; done)), (by first | rfl | (simp; done) | (simp [*]; done)), H', ⟨Nat.le_refl _⟩, ⟨by (with_reducible repeat (first | refine blk_drewN ?_ _ | refine blk_drew ?_ | refine blk_alloc ?_ _)); exact BK568.out⟩, ⟨by repeat (first | (with_reducible first | exact HB.out | apply below_alloc | apply pw_below_drewN | apply below_drew1 | refine below_set ?_ GE568.out) | exact HB.out)⟩⟩
  case round =>
    clear H'
    try clear p2
    try clear c3
    obtain ⟨x1_1, x2_1, x17_1, rfl, rfl, rfl, HA, HK1, BK568, HB⟩ := hrel
    cases gk with
    | zero => exact absurd HA.out (by simp [wageofficelaw28_withheld.l0])
    | succ k1 =>
      have H := HA.out
      clear HA
      simp only [wageofficelaw28_withheld.l0] at H
      by_cases c6 : x17_1 < (l3.length : Int)
      · rw [if_pos c6] at H
        have c6b0 : decide (x17_1 < (l3.length : Int)) = true := decide_eq_true c6
        clear c6
        by_cases c7 : 0 ≤ x17_1
        · rw [if_pos c7] at H
          have c7b0 : decide (0 ≤ x17_1) = true := decide_eq_true c7
          clear c7
          by_cases c8 : x17_1 < (l3.length : Int)
          · rw [if_pos c8] at H
            have c8b0 : decide (x17_1 < (l3.length : Int)) = true := decide_eq_true c8
            clear c8
            replace H := Option.bind_eq_some_iff.mp H
            obtain ⟨⟨t570, t571⟩, A90, H⟩ := H
            replace H : (if t571 = 0 then (wageofficelaw28_withheld.l0 k1 (wrap64 (x1_1 + (rd l3 x17_1))) (wrap64 (x2_1 + t570)) l3 (l3.length : Int) (wrap64 (x17_1 + 1)) a0_0 a0_1 l0_2) else (some (0, 0, false))) = some (r1, r2, r3) := H
            have A9 := Aside0.mk A90
            clear A90
            by_cases c10 : t571 = 0
            · rw [if_pos c10] at H
              have c10b0 : (t571 == 0) = true := beq_iff_eq.mpr c10
              have c10b1 : (t571 != 0) = false := bne_eq_false_iff_eq.mpr c10
              clear c10
              have H' := Aside0.mk H
              clear H
              have p569 : 0 ≤ (x17_1 : Int) := of_decide_eq_true (by first | (with_reducible assumption) | assumption)
              have q569 : x17_1 < (l3.length : Int) := of_decide_eq_true (by first | (with_reducible assumption) | assumption)
              obtain ⟨ad569, e569, hx569_0⟩ := Kd.at_int HR3.out x17_1 p569 q569
              cases e569
              replace hx569_0 := (HB.out.cell (World.block_lt_of_cell? w _ hx569_0)).trans hx569_0
              replace p569 := eq_true p569
              replace q569 := eq_true q569
              have hcz11_0 : wr.cell? ⟨gb568, 0, none⟩ = some (.int .i64 a0_0) := (blk_cell BK568.out 0).trans rfl
              have hcz11_1 : wr.cell? ⟨gb568, 1, none⟩ = some (.int .i64 a0_1) := (blk_cell BK568.out 1).trans rfl
              have hcz11_2 : wr.cell? ⟨gb568, 2, none⟩ = some (.slice A0_2 l0_2.length c0_2) := (blk_cell BK568.out 2).trans rfl
              have hfz11_0 := blk_frozen BK568.out 0
              have hfz11_1 := blk_frozen BK568.out 1
              have hfz11_2 := blk_frozen BK568.out 2
              go_wp2_with (first | ((with_reducible refine gate_callee (f := 33) rfl ?_); refine goesL_ (some 26) rfl rfl Try.func33 (by kernel_rfl) rfl #[.agg #[.int .i64 a0_0, .int .i64 a0_1, .slice A0_2 l0_2.length c0_2], .int .i64 x1_1, .int .i64 x2_1, .int .i64 (rd l3 x17_1)] rfl (by (try simp only [List.map_toArray, List.map_cons, List.map_nil]); first | done | rfl | (simp only [List.length_drop, List.length_take]; rfl)) ?_; (with_reducible refine (tax_Month.calls k1 a0_0 a0_1 _ _ l0_2 x1_1 x2_1 (rd l3 x17_1) t570 t571 _ ?side1 ?side2 A9.out).mono ?_); (case side1 => repeat (first | exact (Kd.C_below HR0_2.out HB.out) | (with_reducible refine Kd.C_alloc ?_ _) | (with_reducible refine Kd.C_drewN ?_ _) | (with_reducible refine Kd.C_drew ?_))); (case side2 => exact HC0_2.out); rintro e w12 ⟨rfl, hb⟩; refine ⟨_, rfl, ?_⟩; have n0_ := Aside0.mk (blk_below (g := gb568) (o := .cells #[.int .i64 a0_0, .int .i64 a0_1, .slice A0_2 l0_2.length c0_2] 44 (0, 0)) (by (with_reducible repeat (first | refine blk_drewN ?_ _ | refine blk_drew ?_ | refine blk_alloc ?_ _)); exact BK568.out) hb); have n1_ := Aside0.mk (below_step (by repeat (first | (with_reducible first | exact HB.out | apply below_alloc | apply pw_below_drewN | apply below_drew1 | refine below_set ?_ GE568.out) | exact HB.out)) hb); clear BK568; clear HB; have BK568 := n0_; have HB := n1_; clear n0_ n1_; (try clear hb); (try clear hb2); (try clear hk); (try clear hi)))
              go_roundg k1
              case measure => have := HK1.out; omega
              case rel => exact ⟨(wrap64 (x1_1 + (rd l3 x17_1))), (wrap64 (x2_1 + t570)), (wrap64 (x17_1 + 1)), (by first | rfl | (simp; done) | (simp [*]; done)), (by first | rfl | (simp; done) | (simp [*]; done)), (by first | rfl | (simp; done) | (simp [*]; done)), H', ⟨by have := HK1.out; omega⟩, ⟨by (with_reducible repeat (first | refine blk_drewN ?_ _ | refine blk_drew ?_ | refine blk_alloc ?_ _)); exact BK568.out⟩, ⟨by repeat (first | (with_reducible first | exact HB.out | apply below_alloc | apply pw_below_drewN | apply below_drew1 | refine below_set ?_ GE568.out) | exact HB.out)⟩⟩
            · rw [if_neg c10] at H
              have c10b0 : (t571 == 0) = false := beq_eq_false_iff_ne.mpr c10
              have c10b1 : (t571 != 0) = true := bne_iff_ne.mpr c10
              simp only [Option.some.injEq, Prod.mk.injEq] at H
              obtain ⟨rfl, rfl, rfl⟩ := H
              have p569 : 0 ≤ (x17_1 : Int) := of_decide_eq_true (by first | (with_reducible assumption) | assumption)
              have q569 : x17_1 < (l3.length : Int) := of_decide_eq_true (by first | (with_reducible assumption) | assumption)
              obtain ⟨ad569, e569, hx569_0⟩ := Kd.at_int HR3.out x17_1 p569 q569
              cases e569
              replace hx569_0 := (HB.out.cell (World.block_lt_of_cell? w _ hx569_0)).trans hx569_0
              replace p569 := eq_true p569
              replace q569 := eq_true q569
              have hcz13_0 : wr.cell? ⟨gb568, 0, none⟩ = some (.int .i64 a0_0) := (blk_cell BK568.out 0).trans rfl
              have hcz13_1 : wr.cell? ⟨gb568, 1, none⟩ = some (.int .i64 a0_1) := (blk_cell BK568.out 1).trans rfl
              have hcz13_2 : wr.cell? ⟨gb568, 2, none⟩ = some (.slice A0_2 l0_2.length c0_2) := (blk_cell BK568.out 2).trans rfl
              have hfz13_0 := blk_frozen BK568.out 0
              have hfz13_1 := blk_frozen BK568.out 1
              have hfz13_2 := blk_frozen BK568.out 2
              go_wp2_with (first | ((with_reducible refine gate_callee (f := 33) rfl ?_); refine goesL_ (some 26) rfl rfl Try.func33 (by kernel_rfl) rfl #[.agg #[.int .i64 a0_0, .int .i64 a0_1, .slice A0_2 l0_2.length c0_2], .int .i64 x1_1, .int .i64 x2_1, .int .i64 (rd l3 x17_1)] rfl (by (try simp only [List.map_toArray, List.map_cons, List.map_nil]); first | done | rfl | (simp only [List.length_drop, List.length_take]; rfl)) ?_; (with_reducible refine (tax_Month.calls k1 a0_0 a0_1 _ _ l0_2 x1_1 x2_1 (rd l3 x17_1) t570 t571 _ ?side1 ?side2 A9.out).mono ?_); (case side1 => repeat (first | exact (Kd.C_below HR0_2.out HB.out) | (with_reducible refine Kd.C_alloc ?_ _) | (with_reducible refine Kd.C_drewN ?_ _) | (with_reducible refine Kd.C_drew ?_))); (case side2 => exact HC0_2.out); rintro e w14 ⟨rfl, hb⟩; refine ⟨_, rfl, ?_⟩; have n0_ := Aside0.mk (blk_below (g := gb568) (o := .cells #[.int .i64 a0_0, .int .i64 a0_1, .slice A0_2 l0_2.length c0_2] 44 (0, 0)) (by (with_reducible repeat (first | refine blk_drewN ?_ _ | refine blk_drew ?_ | refine blk_alloc ?_ _)); exact BK568.out) hb); have n1_ := Aside0.mk (below_step (by repeat (first | (with_reducible first | exact HB.out | apply below_alloc | apply pw_below_drewN | apply below_drew1 | refine below_set ?_ GE568.out) | exact HB.out)) hb); clear BK568; clear HB; have BK568 := n0_; have HB := n1_; clear n0_ n1_; (try clear hb); (try clear hb2); (try clear hk); (try clear hi)))
              go_ret3
              exact ⟨by first | rfl | (simp [errW_none, errW_some] <;> rfl) | (simp [*, errW_none, errW_some] <;> rfl), by repeat (first | (with_reducible first | exact HB.out | apply below_alloc | apply pw_below_drewN | apply below_drew1 | refine below_set ?_ GE568.out) | exact HB.out)⟩
          · rw [if_neg c8] at H
            exact absurd H (by simp)
        · rw [if_neg c7] at H
          exact absurd H (by simp)
      · rw [if_neg c6] at H
        have c6b0 : decide (x17_1 < (l3.length : Int)) = false := decide_eq_false c6
        clear c6
        simp only [Option.some.injEq, Prod.mk.injEq] at H
        obtain ⟨rfl, rfl, rfl⟩ := H
        go_wp2
        go_ret3
        exact ⟨by first | rfl | (simp [errW_none, errW_some] <;> rfl) | (simp [*, errW_none, errW_some] <;> rfl), by repeat (first | (with_reducible first | exact HB.out | apply below_alloc | apply pw_below_drewN | apply below_drew1 | refine below_set ?_ GE568.out) | exact HB.out)⟩

end Go.Proofs.Ytnadfkhllfgoiaa.My
end
section
-- Written by a program of this session (wip/myprint.py), which drives the kit's print over hand-written fragments. Not trusted: Lean checks it.

namespace Go.Proofs.Ytnadfkhllfgoiaa.My
open Go.Proofs.Ytnadfkhllfgoiaa.Aid Go.Proofs.Ytnadfkhllfgoiaa.KdX
open Go.RowKit Go.Proofs.YtnadfkhllfgoiaaW.PrintWords Go.Proofs.YtnadfkhllfgoiaaW.PrintLast Go.Proofs.YtnadfkhllfgoiaaW.PrintMore
attribute [local go_sem] max2_int min2_int max_two min_two max_three min_three max_four min_four   -- for this text's walks alone
set_option linter.unusedVariables false
set_option linter.unusedSimpArgs false

/-! ### wageofficelaw28_total: function 37 -/
def wageofficelaw28_total.l0 : Nat → Int → List Int → Int → Int → Option (Int)
  | 0, _, _, _, _ => none
  | k + 1, x3, x6, x7, x8 => if x8 < x7 then (if 0 ≤ x8 then (if x8 < (x6.length : Int) then (wageofficelaw28_total.l0 k (wrap64 (x3 + (rd x6 x8))) x6 x7 (wrap64 (x8 + 1))) else (none)) else (none)) else (some x3)
def wageofficelaw28_total.f (k : Nat) (l0 : List Int) : Option (Int) := wageofficelaw28_total.l0 k 0 l0 (l0.length : Int) 0
theorem wageofficelaw28_total.mono_l : ∀ k, (∀ y0 y1 y2 y3, LeO (wageofficelaw28_total.l0 k y0 y1 y2 y3) (wageofficelaw28_total.l0 (k + 1) y0 y1 y2 y3))
  | 0 => fun _ _ _ _ r h => by simp [wageofficelaw28_total.l0] at h
  | k + 1 => by
    have ih0 := wageofficelaw28_total.mono_l k
    · intro y0 y1 y2 y3
      unfold wageofficelaw28_total.l0
      repeat' first
      | (with_reducible exact ih0 _ _ _ _)
      | (with_reducible exact LeO.refl _)
      | (with_reducible exact LeO.none _)
      | (with_reducible refine LeO.ite ?_ ?_)
      | (with_reducible refine LeO.bind ?_ (fun _ => ?_))
      | exact ih0 _ _ _ _
      | exact LeO.none _
      | refine LeO.ite ?_ ?_
      | refine LeO.bind ?_ (fun _ => ?_)
theorem wageofficelaw28_total.mono : ∀ a0 k, LeO (wageofficelaw28_total.f k a0) (wageofficelaw28_total.f (k + 1) a0) := by
  intro a0 k
  have ih0 := wageofficelaw28_total.mono_l k
  unfold wageofficelaw28_total.f
  repeat' first
      | (with_reducible exact ih0 _ _ _ _)
      | (with_reducible exact LeO.refl _)
      | (with_reducible exact LeO.none _)
      | (with_reducible refine LeO.ite ?_ ?_)
      | (with_reducible refine LeO.bind ?_ (fun _ => ?_))
      | exact ih0 _ _ _ _
      | exact LeO.none _
      | refine LeO.ite ?_ ?_
      | refine LeO.bind ?_ (fun _ => ?_)
set_option maxHeartbeats 8000000 in
set_option maxRecDepth 100000 in
theorem wageofficelaw28_total.calls (k : Nat) (A0 : Option Addr) (c0 : Nat) (l0 : List Int) (r : Int) (w : World) (hr0 : Kd.C (Kd.int .i64) w A0 l0.length l0) (hc0 : l0.length ≤ c0) (h : wageofficelaw28_total.f k l0 = some r) :
    Calls Try.prog 37 #[.slice A0 l0.length c0] w fun e w' => e = .returned (.int .i64 r) ∧ Drawn0 w w' := by
  have HR0 := Aside0.mk hr0
  have HC0 := Aside0.mk hc0
  clear hr0 hc0
  have H : (wageofficelaw28_total.l0 k 0 l0 (l0.length : Int) 0) = some r := h
  clear h
  have H' := Aside0.mk H
  clear H
  go_enter Try.func37, Try.ntmps37
  go_wp2
  go_loopg [3, 8] k (fun kq v3 v8 w' => ∃ (x3_1 : Int) (x8_1 : Int), v3 = .int .i64 x3_1 ∧ v8 = .int .i64 x8_1 ∧ Aside0 (wageofficelaw28_total.l0 kq x3_1 l0 (l0.length : Int) x8_1 = some r) ∧ Aside0 (kq ≤ k) ∧ Drawn0 w w')
  case atStart => exact ⟨(0), (0), (by first | rfl | (simp; done) | (simp [*]; done)), (by first | rfl | (simp; done) | (simp [*]; done)), H', ⟨Nat.le_refl _⟩, by repeat (first | exact Drawn0.refl _ | apply Drawn0.step)⟩
  case round =>
    clear H'
    obtain ⟨x3_1, x8_1, rfl, rfl, HA, HK1, ⟨m1, rfl⟩⟩ := hrel
    cases gk with
    | zero => exact absurd HA.out (by simp [wageofficelaw28_total.l0])
    | succ k1 =>
      have H := HA.out
      clear HA
      simp only [wageofficelaw28_total.l0] at H
      by_cases c2 : x8_1 < (l0.length : Int)
      · rw [if_pos c2] at H
        have c2b0 : decide (x8_1 < (l0.length : Int)) = true := decide_eq_true c2
        clear c2
        by_cases c3 : 0 ≤ x8_1
        · rw [if_pos c3] at H
          have c3b0 : decide (0 ≤ x8_1) = true := decide_eq_true c3
          clear c3
          by_cases c4 : x8_1 < (l0.length : Int)
          · rw [if_pos c4] at H
            have c4b0 : decide (x8_1 < (l0.length : Int)) = true := decide_eq_true c4
            clear c4
            have H' := Aside0.mk H
            clear H
            have p605 : 0 ≤ (x8_1 : Int) := of_decide_eq_true (by first | (with_reducible assumption) | assumption)
            have q605 : x8_1 < (l0.length : Int) := of_decide_eq_true (by first | (with_reducible assumption) | assumption)
            obtain ⟨ad605, e605, hx605_0⟩ := Kd.at_int HR0.out x8_1 p605 q605
            cases e605
            replace p605 := eq_true p605
            replace q605 := eq_true q605
            go_wp2
            go_roundg k1
            case measure => have := HK1.out; omega
            case rel => exact ⟨(wrap64 (x3_1 + (rd l0 x8_1))), (wrap64 (x8_1 + 1)), (by first | rfl | (simp; done) | (simp [*]; done)), (by first | rfl | (simp; done) | (simp [*]; done)), H', ⟨by have := HK1.out; omega⟩, by repeat (first | exact Drawn0.refl _ | apply Drawn0.step)⟩
          · rw [if_neg c4] at H
            exact absurd H (by simp)
        · rw [if_neg c3] at H
          exact absurd H (by simp)
      · rw [if_neg c2] at H
        have c2b0 : decide (x8_1 < (l0.length : Int)) = false := decide_eq_false c2
        clear c2
        obtain rfl := Option.some.inj H
        go_wp2
        go_ret
        exact ⟨by first | rfl | (simp; done) | (simp [*]; done), by repeat (first | exact Drawn0.refl _ | apply Drawn0.step)⟩

end Go.Proofs.Ytnadfkhllfgoiaa.My
end
section
/- What the functions of tax and of its laws come to on numbers and lists. -/







namespace Go.Proofs.Ytnadfkhllfgoiaa.TaxE
open Go.RowKit Go.Proofs.Ytnadfkhllfgoiaa.My Go.Proofs.Ytnadfkhllfgoiaa.Aid Go.Proofs.Ytnadfkhllfgoiaa.EvA Go.Proofs.Ytnadfkhllfgoiaa.PwE Go.Proofs.YtnadfkhllfgoiaaW.PrintWords Go.Proofs.YtnadfkhllfgoiaaW.PrintLast Go.Proofs.YtnadfkhllfgoiaaW.PrintMore
set_option linter.unusedVariables false
set_option linter.unusedSimpArgs false

def inR (n : Int) : Prop := -1000000000000 ≤ n ∧ n ≤ 1000000000000
theorem in1_eval (a : Int) : tax_in.f [a] = some (decide (-1000000000000 ≤ a ∧ a ≤ 1000000000000)) := by
  unfold tax_in.f
  congr 1
  rw [Bool.eq_iff_iff]; simp
theorem in3_eval (a b c : Int) : tax_in.f [a, b, c] = some (decide ((-1000000000000 ≤ a ∧ a ≤ 1000000000000) ∧ (-1000000000000 ≤ b ∧ b ≤ 1000000000000) ∧ (-1000000000000 ≤ c ∧ c ≤ 1000000000000))) := by
  unfold tax_in.f
  congr 1
  rw [Bool.eq_iff_iff]; simp
/-- The tax on an amount: a value and no error, or no value and an error. -/
def Tax (den : Int) (l : List Pc) (g : Int) (r : Int × Int) : Prop :=
  (Vld den l ∧ inR g ∧ ∃ q, At l (max g 0) q ∧ r = rdown (num l q (max g 0)) den) ∨ (¬ (Vld den l ∧ inR g) ∧ r = (0, 1))
theorem Tax.ex (den : Int) (l : List Pc) (g : Int) : ∃ r, Tax den l g r := by
  rcases Classical.em (Vld den l ∧ inR g) with h | h
  · obtain ⟨q, hq⟩ := at_ex h.1 (x := max g 0) (by omega)
    exact ⟨_, .inl ⟨h.1, h.2, q, hq, rfl⟩⟩
  · exact ⟨_, .inr ⟨h, rfl⟩⟩
theorem Tax.unique {den : Int} {l : List Pc} {g : Int} {r r' : Int × Int} (h : Tax den l g r) (h' : Tax den l g r') : r = r' := by
  rcases h with ⟨h1, h2, q, h3, rfl⟩ | ⟨h1, rfl⟩ <;> rcases h' with ⟨k1, k2, q', k3, rfl⟩ | ⟨k1, rfl⟩
  · rw [h3.unique k3]
  · exact absurd ⟨h1, h2⟩ k1
  · exact absurd ⟨k1, k2⟩ h1
  · rfl
theorem rdown_ok {n d : Int} (h : (rdown n d).2 = 0) : (rdown n d).1 = n / d ∧ inR (n / d) := by
  unfold rdown at *
  split at h
  · rename_i c; rw [if_pos c]; exact ⟨rfl, c⟩
  · simp at h
theorem rdown_err (n d : Int) : (rdown n d).2 = 0 ∨ ((rdown n d).2 = 3 ∧ (rdown n d).1 = 0) := by
  unfold rdown; split <;> simp
theorem year_ev {den y : Int} {l : List Pc} {g : Int} {r : Int × Int} (h : Tax den l g r) : Ev (fun k => tax_Year.f k y den l g) r := by
  obtain ⟨b, hb1, hb2⟩ := valid_ev den l
  unfold tax_Year.f
  rcases h with ⟨h1, h2, q, hq, rfl⟩ | ⟨h1, rfl⟩
  · obtain rfl := hb2.2 h1
    unfold inR at h2
    refine ev_bnd hb1 (ev_yes (by simp) ?_)
    rw [in1_eval, decide_eq_true h2]
    simp only [Option.bind_some]
    rw [mx_max]
    exact ev_yes (by simp) (ev_bnd (round_ok h1 hq (by omega) (by omega)) (ev_ret _))
  · refine ev_bnd hb1 (ev_ite (fun e => ?_) (fun _ => ev_ret _))
    rw [in1_eval, decide_eq_false (p := -1000000000000 ≤ g ∧ g ≤ 1000000000000) (fun h => h1 ⟨hb2.1 e, h⟩)]
    simp only [Option.bind_some]
    exact ev_no (by simp) (ev_ret _)
/-- What is withheld in a month. -/
def Mon (den : Int) (l : List Pc) (before wh g : Int) (r : Int × Int) : Prop :=
  (∃ t, Vld den l ∧ inR before ∧ inR wh ∧ inR g ∧ inR (before + g) ∧ Tax den l (before + g) (t, 0) ∧ inR (t - wh) ∧ r = (t - wh, 0)) ∨
  ((¬ ∃ t, Vld den l ∧ inR before ∧ inR wh ∧ inR g ∧ inR (before + g) ∧ Tax den l (before + g) (t, 0) ∧ inR (t - wh)) ∧ r.2 ≠ 0)
theorem month_ev {den y : Int} {l : List Pc} (before wh g : Int) : ∃ r, Ev (fun k => tax_Month.f k y den l before wh g) r ∧ Mon den l before wh g r := by
  obtain ⟨b, hb1, hb2⟩ := valid_ev den l
  have hj : (¬ ∃ t, Vld den l ∧ inR before ∧ inR wh ∧ inR g ∧ inR (before + g) ∧ Tax den l (before + g) (t, 0) ∧ inR (t - wh)) → ∃ r, Ev (fun k => tax_Month.j0 k before wh g true y den l) r ∧ Mon den l before wh g r := fun hn => by
    refine ⟨(0, 1), ?_, .inr ⟨hn, by simp⟩⟩
    refine ev_up ?_
    simp only [tax_Month.j0]
    exact ev_yes (by simp) (ev_ret _)
  unfold tax_Month.f
  by_cases hv : b = true
  · subst hv
    have h1 := hb2.1 rfl
    by_cases h3 : (-1000000000000 ≤ before ∧ before ≤ 1000000000000) ∧ (-1000000000000 ≤ wh ∧ wh ≤ 1000000000000) ∧ (-1000000000000 ≤ g ∧ g ≤ 1000000000000)
    · by_cases h4 : -1000000000000 ≤ before + g ∧ before + g ≤ 1000000000000
      · obtain ⟨⟨t, e⟩, ht⟩ := Tax.ex den l (before + g)
        have hy := year_ev (y := y) ht
        have hgo : ∀ {r}, Ev (fun k => (tax_Year.f k y den l (before + g)).bind fun bt467 => (if bt467.2 = 0 then ((tax_in.f (([wrap64 (bt467.1 - wh)] : List Int))).bind fun t472 => (if t472 = true then (some (wrap64 (bt467.1 - wh), 0)) else (some (0, 3)))) else (some (0, bt467.2)))) r →
            Ev (fun k => (piecewise_Valid.f k den l).bind fun t458 => (if t458 = true then ((tax_in.f (([before, wh, g] : List Int))).bind fun t462 => (tax_Month.j0 k before wh g (!t462) y den l)) else (tax_Month.j0 k before wh g true y den l))) r := by
          intro r hr
          refine ev_bnd hb1 (ev_yes (by simp) ?_)
          rw [in3_eval, decide_eq_true h3]
          simp only [Option.bind_some]
          refine ev_up ?_
          simp only [tax_Month.j0]
          refine ev_no (by simp) ?_
          rw [w64 (n := before + g) (by omega) (by omega), in1_eval, decide_eq_true h4]
          simp only [Option.bind_some]
          exact ev_yes (by simp) hr
        by_cases he : e = 0
        · subst he
          have ht2 : inR t := by
            rcases ht with ⟨_, _, q, hq, hr⟩ | ⟨_, hr⟩
            · have h5 : (rdown (num l q (max (before + g) 0)) den).2 = 0 := by rw [← hr]
              have h6 := rdown_ok h5
              rw [← hr] at h6
              rw [show t = num l q (max (before + g) 0) / den from h6.1]; exact h6.2
            · simp at hr
          unfold inR at ht2
          by_cases h5 : -1000000000000 ≤ t - wh ∧ t - wh ≤ 1000000000000
          · refine ⟨(t - wh, 0), hgo (ev_bnd hy (ev_yes (by simp) ?_)), .inl ⟨t, h1, h3.1, h3.2.1, h3.2.2, h4, ht, h5, rfl⟩⟩
            rw [w64 (n := t - wh) (by omega) (by omega), in1_eval, decide_eq_true h5]
            simp only [Option.bind_some]
            exact ev_yes (by simp) (ev_ret _)
          · refine ⟨(0, 3), hgo (ev_bnd hy (ev_yes (by simp) ?_)), .inr ⟨?_, by simp⟩⟩
            · rw [w64 (n := t - wh) (by omega) (by omega), in1_eval, decide_eq_false h5]
              simp only [Option.bind_some]
              exact ev_no (by simp) (ev_ret _)
            · rintro ⟨t', _, _, _, _, _, h6, h7⟩
              have := ht.unique h6
              simp at this
              subst this
              exact h5 h7
        · refine ⟨(0, e), hgo (ev_bnd hy (ev_no (by simpa using he) (ev_ret _))), .inr ⟨?_, by simpa using he⟩⟩
          rintro ⟨t', _, _, _, _, _, h6, h7⟩
          have := ht.unique h6
          simp at this
          exact he this.2
      · refine ⟨(0, 3), ?_, .inr ⟨?_, by simp⟩⟩
        · refine ev_bnd hb1 (ev_yes (by simp) ?_)
          rw [in3_eval, decide_eq_true h3]
          simp only [Option.bind_some]
          refine ev_up ?_
          simp only [tax_Month.j0]
          refine ev_no (by simp) ?_
          rw [w64 (n := before + g) (by omega) (by omega), in1_eval, decide_eq_false h4]
          simp only [Option.bind_some]
          exact ev_no (by simp) (ev_ret _)
        · rintro ⟨t', _, _, _, _, h6, _⟩
          exact h4 h6
    · obtain ⟨r, hr1, hr2⟩ := hj (by
        rintro ⟨t', _, h6, h7, h8, _⟩
        exact h3 ⟨h6, h7, h8⟩)
      refine ⟨r, ?_, hr2⟩
      refine ev_bnd hb1 (ev_yes (by simp) ?_)
      rw [in3_eval, decide_eq_false h3]
      simp only [Option.bind_some]
      exact hr1
  · obtain ⟨r, hr1, hr2⟩ := hj (by
      rintro ⟨t', h6, _⟩
      exact hv (hb2.2 h6))
    refine ⟨r, ?_, hr2⟩
    exact ev_bnd hb1 (ev_no hv hr1)
theorem head_ok : wageofficelaw28_head.f = some true := rfl
theorem short_ev (a b : Int) (l : List Pc) (hl : l.length ≤ 9223372036854775807) : Ev (fun k => wageofficelaw28_short.f k [⟨a, ⟨b, l⟩⟩]) (decide (l.length ≤ 66)) := by
  unfold wageofficelaw28_short.f
  refine ev_up ?_
  simp only [wageofficelaw28_short.l0]
  refine ev_yes (by simp) (ev_yes (by simp) (ev_yes (by simp) ?_))
  have e : (rd_T44 [(⟨a, ⟨b, l⟩⟩ : S44)] 0).f1.f1 = l := rfl
  rw [e]
  refine ev_ite (fun c => ev_eq (ev_ret _) (decide_eq_false (by omega)).symm) (fun c => ?_)
  refine ev_up ?_
  simp only [wageofficelaw28_short.l0]
  refine ev_no (by rw [w64 (by omega) (by omega)]; simp) (ev_eq (ev_ret _) ?_)
  rw [decide_eq_true (by omega : l.length ≤ 66)]; simp
/-- What is withheld month by month. -/
inductive Wh (den : Int) (l : List Pc) : Int → Int → List Int → Int × Int × Bool → Prop where
  | nil (b t : Int) : Wh den l b t [] (b, t, true)
  | cons {b t g u : Int} {gs : List Int} {r : Int × Int × Bool} (hm : Mon den l b t g (u - t, 0)) (hu : Tax den l (b + g) (u, 0)) (hr : Wh den l (b + g) u gs r) : Wh den l b t (g :: gs) r
  | stop {b t g : Int} {gs : List Int} {m : Int × Int} (hm : Mon den l b t g m) (he : m.2 ≠ 0) : Wh den l b t (g :: gs) (0, 0, false)
theorem wh_loop {den y : Int} {l : List Pc} (ms : List Int) (hms : ms.length ≤ 1000000) (d : Nat) : ∀ (i : Nat) (b t : Int), i + d = ms.length → ∃ r, Ev (fun k => wageofficelaw28_withheld.l0 k b t ms (ms.length : Int) (i : Int) y den l) r ∧ Wh den l b t (ms.drop i) r := by
  induction d with
  | zero =>
    intro i b t hi
    refine ⟨(b, t, true), ?_, by rw [List.drop_eq_nil_of_le (by omega)]; exact .nil b t⟩
    refine ev_up ?_
    simp only [wageofficelaw28_withheld.l0]
    exact ev_no (by omega) (ev_ret _)
  | succ d ih =>
    intro i b t hi
    have hlt : i < ms.length := by omega
    obtain ⟨m, hm1, hm2⟩ := month_ev (y := y) (den := den) (l := l) b t ms[i]
    rw [List.drop_eq_getElem_cons hlt]
    by_cases he : m.2 = 0
    · rcases hm2 with ⟨u, h1, h2, h3, h4, h5, h6, h7, rfl⟩ | ⟨_, h⟩
      · obtain ⟨r, hr1, hr2⟩ := ih (i + 1) (b + ms[i]) u (by omega)
        refine ⟨r, ?_, .cons (.inl ⟨u, h1, h2, h3, h4, h5, h6, h7, rfl⟩) h6 hr2⟩
        refine ev_up ?_
        simp only [wageofficelaw28_withheld.l0]
        refine ev_yes (by omega) (ev_yes (by omega) (ev_yes (by omega) ?_))
        rw [rd_nat hlt]
        refine ev_bnd hm1 (ev_yes (by simp) ?_)
        unfold inR at *
        rw [w64 (n := b + ms[i]) (by omega) (by omega), w64 (n := t + (u - t, (0 : Int)).1) (by simp; omega) (by simp; omega), w64 (n := (i : Int) + 1) (by omega) (by omega), show (i : Int) + 1 = ((i + 1 : Nat) : Int) from by omega, show t + (u - t, (0 : Int)).1 = u from by simp; omega]
        exact hr1
      · exact absurd he h
    · refine ⟨(0, 0, false), ?_, .stop hm2 he⟩
      refine ev_up ?_
      simp only [wageofficelaw28_withheld.l0]
      refine ev_yes (by omega) (ev_yes (by omega) (ev_yes (by omega) ?_))
      rw [rd_nat hlt]
      exact ev_bnd hm1 (ev_no he (ev_ret _))
theorem wh_ev {den y : Int} {l : List Pc} (b t : Int) (ms : List Int) (hms : ms.length ≤ 1000000) : ∃ r, Ev (fun k => wageofficelaw28_withheld.f k y den l b t ms) r ∧ Wh den l b t ms r := by
  obtain ⟨r, h1, h2⟩ := wh_loop (y := y) (den := den) (l := l) ms hms ms.length 0 b t (by omega)
  exact ⟨r, h1, by simpa using h2⟩
theorem Mon.unique0 {den : Int} {l : List Pc} {b t g : Int} {r r' : Int × Int} (h : Mon den l b t g r) (h' : Mon den l b t g r') (e : r.2 = 0) : r = r' := by
  rcases h with ⟨u, h1, h2, h3, h4, h5, h6, h7, rfl⟩ | ⟨_, h⟩
  · rcases h' with ⟨u', k1, k2, k3, k4, k5, k6, k7, rfl⟩ | ⟨k, _⟩
    · have := h6.unique k6
      simp at this
      rw [this]
    · exact absurd ⟨u, h1, h2, h3, h4, h5, h6, h7⟩ k
  · exact absurd e h
/-- Where all went well: the sum; and the tax on it. -/
theorem Wh.sum {den : Int} {l : List Pc} {b t : Int} {ms : List Int} {r : Int × Int × Bool} (h : Wh den l b t ms r) (hr : r.2.2 = true) : r.1 = b + ms.sum ∧ (ms = [] → r.2.1 = t) ∧ (ms ≠ [] → Tax den l r.1 (r.2.1, 0)) ∧ ∀ g ∈ ms, inR g := by
  induction h with
  | nil b t => simp
  | @cons b t g u gs r hm hu hw ih =>
    obtain ⟨i1, i2, i3, i4⟩ := ih hr
    refine ⟨by rw [i1, List.sum_cons]; omega, fun h => by simp at h, fun _ => ?_, fun x hx => ?_⟩
    · by_cases e : gs = []
      · subst e
        rw [i2 rfl, i1]; simpa using hu
      · exact i3 e
    · rcases List.mem_cons.1 hx with rfl | hx
      · rcases hm with ⟨u', h1, h2, h3, h4, _⟩ | ⟨_, h⟩
        · exact h4
        · simp at h
      · exact i4 x hx
  | stop hm he => simp at hr
theorem Wh.unique {den : Int} {l : List Pc} {b t : Int} {ms : List Int} {r r' : Int × Int × Bool} (h : Wh den l b t ms r) (h' : Wh den l b t ms r') : r = r' := by
  induction h generalizing r' with
  | nil b t => cases h'; rfl
  | @cons b t g u gs r hm hu hw ih =>
    cases h' with
    | @cons _ _ _ u' _ _ hm' hu' hw' =>
      have := hu.unique hu'
      simp at this
      subst this
      exact ih hw'
    | stop hm' he => have := hm.unique0 hm' rfl; rw [← this] at he; simp at he
  | @stop b t g gs m hm he =>
    cases h' with
    | @cons _ _ _ u' _ _ hm' hu' hw' => have := hm'.unique0 hm rfl; rw [← this] at he; simp at he
    | stop hm' he' => rfl
/-- One list of months behind another. -/
theorem Wh.append {den : Int} {l : List Pc} {b t : Int} {ms ns : List Int} {r : Int × Int × Bool} (h : Wh den l b t ms r) (hr : r.2.2 = true) {q : Int × Int × Bool} (h' : Wh den l r.1 r.2.1 ns q) : Wh den l b t (ms ++ ns) q := by
  induction h with
  | nil b t => exact h'
  | cons hm hu hw ih => exact .cons hm hu (ih hr h')
  | stop hm he => simp at hr
end Go.Proofs.Ytnadfkhllfgoiaa.TaxE
end
section
/- The reference functions of tax, and that the functions of tax come to the same. -/









namespace Go.Proofs.Ytnadfkhllfgoiaa.TaxR
open Go.RowKit Go.Proofs.Ytnadfkhllfgoiaa.My Go.Proofs.Ytnadfkhllfgoiaa.Aid Go.Proofs.Ytnadfkhllfgoiaa.EvA Go.Proofs.Ytnadfkhllfgoiaa.PwE Go.Proofs.Ytnadfkhllfgoiaa.TaxE Go.Proofs.YtnadfkhllfgoiaaW.PrintWords Go.Proofs.YtnadfkhllfgoiaaW.PrintLast Go.Proofs.YtnadfkhllfgoiaaW.PrintMore
set_option linter.unusedVariables false
set_option linter.unusedSimpArgs false

theorem rin_eval (a : Int) : wageofficeref28_In.f a = some (decide (-1000000000000 ≤ a ∧ a ≤ 1000000000000)) := by
  unfold wageofficeref28_In.f
  split
  · congr 1; rw [Bool.eq_iff_iff]; simp; omega
  · rw [decide_eq_false (by omega)]
theorem tdiv_floor {n d : Int} (hd : 0 < d) : (if Int.tdiv n d * d > n then Int.tdiv n d - 1 else Int.tdiv n d) = n / d := by
  have m0 := Int.emod_nonneg n (show d ≠ 0 by omega)
  have m1 := Int.emod_lt_of_pos n hd
  have key := Int.mul_ediv_add_emod n d
  have hcomm : (n / d) * d = d * (n / d) := Int.mul_comm _ _
  rw [Int.tdiv_eq_ediv]
  by_cases c : 0 ≤ n ∨ d ∣ n
  · simp only [if_pos c, Int.add_zero]
    rw [if_neg (by omega)]
  · have hr : 0 < n % d := by
      rcases Int.lt_or_le 0 (n % d) with h | h
      · exact h
      · exact absurd (Int.dvd_of_emod_eq_zero (by omega)) (fun h => c (.inr h))
    simp only [if_neg c, Int.sign_eq_one_of_pos hd]
    have : (n / d + 1) * d = d * (n / d) + d := by rw [Int.add_mul, hcomm, Int.one_mul]
    rw [if_pos (by omega)]; omega
theorem tdiv_bd {n d M : Int} (hd : 0 < d) (h0 : -M ≤ n) (h1 : n ≤ M) : -M ≤ Int.tdiv n d ∧ Int.tdiv n d ≤ M := by
  have h : (Int.tdiv n d).natAbs = n.natAbs / d.natAbs := Int.natAbs_tdiv n d
  have h2 : n.natAbs / d.natAbs ≤ n.natAbs := Nat.div_le_self _ _
  omega
theorem tdiv_mul_bd {n d M : Int} (hd : 0 < d) (h0 : -M ≤ n) (h1 : n ≤ M) : -M ≤ Int.tdiv n d * d ∧ Int.tdiv n d * d ≤ M := by
  have h := Int.natAbs_tdiv n d
  have h2 : (Int.tdiv n d * d).natAbs = (Int.tdiv n d).natAbs * d.natAbs := Int.natAbs_mul _ _
  have h3 : n.natAbs / d.natAbs * d.natAbs ≤ n.natAbs := Nat.div_mul_le_self _ _
  rw [h] at h2
  change _ = n.natAbs / d.natAbs * d.natAbs at h2
  omega
theorem rround_ok {den : Int} {l : List Pc} (h : Vld den l) {x : Int} {q : Nat} (hq : At l x q) (h0 : 0 ≤ x) (h1 : x ≤ 1000000000000) : Ev (fun k => wageofficeref05_Round.f k den l x 0) (rdown (num l q x) den) := by
  have hb := (num_bd h hq h1).2
  have d1 := h.d1
  have d2 := h.d2
  unfold wageofficeref05_Round.f
  refine ev_bnd (reval_ok h hq h0 h1) (ev_yes (by simp) (ev_yes (by simp) ?_))
  have hm := tdiv_mul_bd (n := num l q x) (d := den) (M := 2000000000000000000) (by omega) (by omega) (by omega)
  have hv := tdiv_bd (n := num l q x) (d := den) (M := 2000000000000000000) (by omega) (by omega) (by omega)
  have fin : ∀ a b c : Int, Ev (fun k => wageofficeref05_Round.j3 k 0 a (num l q x / den) b c) (rdown (num l q x) den) := by
    intro a b c
    have h4 : Ev (fun k => wageofficeref05_Round.j4 k (num l q x / den) false) (rdown (num l q x) den) := by
      refine ev_up ?_
      simp only [wageofficeref05_Round.j4]
      refine ev_no (by simp) ?_
      rw [rwithin_eval _ (by omega) (by omega)]
      simp only [Option.bind_some, decide_eq_true_eq]
      unfold rdown
      exact ev_ite (fun c => by rw [if_pos c]; exact ev_ret _) (fun c => by rw [if_neg c]; exact ev_ret _)
    refine ev_up ?_
    simp only [wageofficeref05_Round.j3]
    exact ev_ite (fun _ => ev_no (by simp) (ev_no (by simp) h4)) (fun _ => h4)
  have fl := tdiv_floor (n := num l q x) (d := den) (by omega)
  have j1 : Ev (fun k => wageofficeref05_Round.j1 k 0 (num l q x) den (num l q x / den)) (rdown (num l q x) den) := by
    refine ev_up ?_
    simp only [wageofficeref05_Round.j1]
    refine ev_yes (by simp) ?_
    refine ev_up ?_
    simp only [wageofficeref05_Round.j2]
    exact ev_no (by simp) (fin _ _ _)
  refine ev_up ?_
  simp only [wageofficeref05_Round.j0]
  refine ev_no (by simp) (ev_no (by omega) ?_)
  rw [w64 (n := Int.tdiv (num l q x) den) (by omega) (by omega), w64 (n := Int.tdiv (num l q x) den * den) (by omega) (by omega), w64 (n := Int.tdiv (num l q x) den - 1) (by omega) (by omega)]
  refine ev_ite (fun c => ?_) (fun c => ?_)
  · rw [if_pos c] at fl; rw [fl]; exact j1
  · rw [if_neg c] at fl; rw [fl]; exact j1
theorem ryear_ev {den y : Int} {l : List Pc} {g : Int} {r : Int × Int} (h : Tax den l g r) : Ev (fun k => wageofficeref28_Year.f k y den l g) r := by
  obtain ⟨b, hb1, hb2⟩ := rvalid_ev den l
  unfold wageofficeref28_Year.f
  rcases h with ⟨h1, h2, q, hq, rfl⟩ | ⟨h1, rfl⟩
  · obtain rfl := hb2.2 h1
    unfold inR at h2
    refine ev_bnd hb1 (ev_yes (by simp) ?_)
    rw [rin_eval, decide_eq_true h2]
    simp only [Option.bind_some]
    rw [mx_max]
    exact ev_yes (by simp) (ev_bnd (rround_ok h1 hq (by omega) (by omega)) (ev_ret _))
  · refine ev_bnd hb1 (ev_ite (fun e => ?_) (fun _ => ev_ret _))
    rw [rin_eval, decide_eq_false (p := -1000000000000 ≤ g ∧ g ≤ 1000000000000) (fun h => h1 ⟨hb2.1 e, h⟩)]
    simp only [Option.bind_some]
    exact ev_no (by simp) (ev_ret _)
/-- What is withheld in a month, with its errors. -/
def MonR (den : Int) (l : List Pc) (b t g : Int) (r : Int × Int) : Prop :=
  (¬ (Vld den l ∧ inR b ∧ inR t ∧ inR g) ∧ r = (0, 1)) ∨
  ((Vld den l ∧ inR b ∧ inR t ∧ inR g) ∧ ((¬ inR (b + g) ∧ r = (0, 3)) ∨
    (inR (b + g) ∧ ∃ u e, Tax den l (b + g) (u, e) ∧ ((e ≠ 0 ∧ r = (0, e)) ∨ (e = 0 ∧ inR u ∧ ((inR (u - t) ∧ r = (u - t, 0)) ∨ (¬ inR (u - t) ∧ r = (0, 3))))))))
theorem Tax.inR0 {den : Int} {l : List Pc} {g u : Int} (h : Tax den l g (u, 0)) : inR u := by
  rcases h with ⟨_, _, q, hq, hr⟩ | ⟨_, hr⟩
  · have h5 : (rdown (num l q (max g 0)) den).2 = 0 := by rw [← hr]
    have h6 := rdown_ok h5
    rw [← hr] at h6
    rw [show u = num l q (max g 0) / den from h6.1]; exact h6.2
  · simp at hr
theorem MonR.ex (den : Int) (l : List Pc) (b t g : Int) : ∃ r, MonR den l b t g r := by
  rcases Classical.em (Vld den l ∧ inR b ∧ inR t ∧ inR g) with h | h
  rotate_left
  · exact ⟨_, .inl ⟨h, rfl⟩⟩
  rcases Classical.em (inR (b + g)) with h1 | h1
  rotate_left
  · exact ⟨_, .inr ⟨h, .inl ⟨h1, rfl⟩⟩⟩
  obtain ⟨⟨u, e⟩, hu⟩ := Tax.ex den l (b + g)
  by_cases he : e = 0
  · subst he
    rcases Classical.em (inR (u - t)) with h2 | h2
    · exact ⟨_, .inr ⟨h, .inr ⟨h1, u, 0, hu, .inr ⟨rfl, Tax.inR0 hu, .inl ⟨h2, rfl⟩⟩⟩⟩⟩
    · exact ⟨_, .inr ⟨h, .inr ⟨h1, u, 0, hu, .inr ⟨rfl, Tax.inR0 hu, .inr ⟨h2, rfl⟩⟩⟩⟩⟩
  · exact ⟨_, .inr ⟨h, .inr ⟨h1, u, e, hu, .inl ⟨he, rfl⟩⟩⟩⟩
theorem monthR {den y : Int} {l : List Pc} {b t g : Int} {r : Int × Int} (h : MonR den l b t g r) : Ev (fun k => tax_Month.f k y den l b t g) r := by
  obtain ⟨v, hv1, hv2⟩ := valid_ev den l
  unfold tax_Month.f
  rcases h with ⟨h, rfl⟩ | ⟨⟨h0, h1, h2, h3⟩, h⟩
  · have hj : Ev (fun k => tax_Month.j0 k b t g true y den l) (0, 1) := by
      refine ev_up ?_
      simp only [tax_Month.j0]
      exact ev_yes (by simp) (ev_ret _)
    refine ev_bnd hv1 (ev_ite (fun c => ?_) (fun _ => hj))
    rw [in3_eval, decide_eq_false (fun hh => h ⟨hv2.1 c, hh.1, hh.2.1, hh.2.2⟩)]
    simp only [Option.bind_some]
    exact hj
  · unfold inR at h1 h2 h3
    obtain rfl := hv2.2 h0
    refine ev_bnd hv1 (ev_yes (by simp) ?_)
    rw [in3_eval, decide_eq_true ⟨h1, h2, h3⟩]
    simp only [Option.bind_some]
    refine ev_up ?_
    simp only [tax_Month.j0]
    refine ev_no (by simp) ?_
    rw [w64 (n := b + g) (by omega) (by omega), in1_eval]
    simp only [Option.bind_some]
    rcases h with ⟨h4, rfl⟩ | ⟨h4, u, e, hu, h⟩
    · unfold inR at h4
      rw [decide_eq_false h4]
      exact ev_no (by simp) (ev_ret _)
    · unfold inR at h4
      rw [decide_eq_true h4]
      refine ev_yes (by simp) (ev_bnd (year_ev hu) ?_)
      rcases h with ⟨he, rfl⟩ | ⟨rfl, hi, h⟩
      · exact ev_no (by simpa using he) (ev_ret _)
      · unfold inR at hi
        refine ev_yes (by simp) ?_
        rw [w64 (n := (u, (0 : Int)).1 - t) (by simp; omega) (by simp; omega), in1_eval]
        simp only [Option.bind_some]
        rcases h with ⟨h5, rfl⟩ | ⟨h5, rfl⟩ <;> unfold inR at h5
        · rw [decide_eq_true h5]; exact ev_yes (by simp) (ev_ret _)
        · rw [decide_eq_false h5]; exact ev_no (by simp) (ev_ret _)
theorem rmonthR {den y : Int} {l : List Pc} {b t g : Int} {r : Int × Int} (h : MonR den l b t g r) : Ev (fun k => wageofficeref28_Month.f k y den l b t g) r := by
  obtain ⟨v, hv1, hv2⟩ := rvalid_ev den l
  unfold wageofficeref28_Month.f
  rcases h with ⟨h, rfl⟩ | ⟨⟨h0, h1, h2, h3⟩, h⟩
  · have hj : Ev (fun k => wageofficeref28_Month.j0 k b t g true y den l) (0, 1) := by
      refine ev_up ?_
      simp only [wageofficeref28_Month.j0]
      exact ev_yes (by simp) (ev_ret _)
    refine ev_bnd hv1 (ev_ite (fun c => ?_) (fun _ => hj))
    rw [rin_eval]
    simp only [Option.bind_some]
    refine ev_ite (fun c1 => ?_) (fun _ => hj)
    rw [rin_eval]
    simp only [Option.bind_some]
    refine ev_ite (fun c2 => ?_) (fun _ => hj)
    have k1 := of_decide_eq_true c1
    have k2 := of_decide_eq_true c2
    rw [rin_eval, decide_eq_false (p := -1000000000000 ≤ g ∧ g ≤ 1000000000000) (fun hh => h ⟨hv2.1 c, k1, k2, hh⟩)]
    simp only [Option.bind_some]
    exact hj
  · unfold inR at h1 h2 h3
    obtain rfl := hv2.2 h0
    refine ev_bnd hv1 (ev_yes (by simp) ?_)
    rw [rin_eval, decide_eq_true h1]
    simp only [Option.bind_some]
    refine ev_yes (by simp) ?_
    rw [rin_eval, decide_eq_true h2]
    simp only [Option.bind_some]
    refine ev_yes (by simp) ?_
    rw [rin_eval, decide_eq_true h3]
    simp only [Option.bind_some]
    refine ev_up ?_
    simp only [wageofficeref28_Month.j0]
    refine ev_no (by simp) ?_
    rw [w64 (n := b + g) (by omega) (by omega), rin_eval]
    simp only [Option.bind_some]
    rcases h with ⟨h4, rfl⟩ | ⟨h4, u, e, hu, h⟩
    · unfold inR at h4
      rw [decide_eq_false h4]
      exact ev_no (by simp) (ev_ret _)
    · unfold inR at h4
      rw [decide_eq_true h4]
      refine ev_yes (by simp) (ev_bnd (ryear_ev hu) ?_)
      rcases h with ⟨he, rfl⟩ | ⟨rfl, hi, h⟩
      · exact ev_no (by simpa using he) (ev_ret _)
      · unfold inR at hi
        refine ev_yes (by simp) ?_
        rw [w64 (n := (u, (0 : Int)).1 - t) (by simp; omega) (by simp; omega), rin_eval]
        simp only [Option.bind_some]
        rcases h with ⟨h5, rfl⟩ | ⟨h5, rfl⟩ <;> unfold inR at h5
        · rw [decide_eq_true h5]; exact ev_yes (by simp) (ev_ret _)
        · rw [decide_eq_false h5]; exact ev_no (by simp) (ev_ret _)
/-! the bracket that applies -/
theorem rfind_loop (l : List S44) (y : Int) (hl : l.length ≤ 9223372036854775807) (d : Nat) : ∀ i : Nat, i + d = l.length → ∀ r, (if lat l y l.length < 0 then r = (0, 0, ([] : List Pc), false) else r = ((rd_T44 l (lat l y l.length)).f0, (rd_T44 l (lat l y l.length)).f1.f0, (rd_T44 l (lat l y l.length)).f1.f1, true)) → Ev (fun k => wageofficeref28_Find.l0 k l y (lat l y i) (i : Int)) r := by
  induction d with
  | zero =>
    intro i hi r hr
    obtain rfl : i = l.length := by omega
    have hb := lat_bd l y l.length
    refine ev_up ?_
    simp only [wageofficeref28_Find.l0]
    refine ev_no (by omega) (ev_ite (fun c => ?_) (fun c => ?_))
    · rw [if_pos c] at hr; exact ev_eq (ev_ret _) hr.symm
    · rw [if_neg c] at hr
      exact ev_yes (by omega) (ev_yes (by omega) (ev_eq (ev_ret _) hr.symm))
  | succ d ih =>
    intro i hi r hr
    have hb := lat_bd l y i
    have hn := ih (i + 1) (by omega) r hr
    rw [lat_succ] at hn
    unfold lstep at hn
    refine ev_up ?_
    simp only [wageofficeref28_Find.l0]
    rw [w64 (n := (i : Int) + 1) (by omega) (by omega), show (i : Int) + 1 = ((i + 1 : Nat) : Int) from by omega]
    refine ev_yes (by omega) (ev_yes (by omega) (ev_ite (fun c1 => ?_) (fun c1 => ?_)))
    · refine ev_ite (fun c2 => ?_) (fun c2 => ?_)
      · rw [if_pos ⟨c1, .inl c2⟩] at hn; exact hn
      · refine ev_yes (by omega) (ev_yes (by omega) (ev_ite (fun c3 => ?_) (fun c3 => ?_)))
        · rw [if_pos ⟨c1, .inr c3⟩] at hn; exact hn
        · rw [if_neg (fun h => h.2.elim c2 c3)] at hn; exact hn
    · rw [if_neg (fun h => c1 h.1)] at hn; exact hn
theorem same_loop (a b : Int) (l : List Pc) (hl : l.length ≤ 9223372036854775807) (d : Nat) : ∀ i : Nat, i + d = l.length → Ev (fun k => wageofficeref28_Same.l0 k (i : Int) a b l a b l) true := by
  induction d with
  | zero =>
    intro i hi
    refine ev_up ?_
    simp only [wageofficeref28_Same.l0]
    exact ev_no (by omega) (ev_ret _)
  | succ d ih =>
    intro i hi
    refine ev_up ?_
    simp only [wageofficeref28_Same.l0]
    refine ev_yes (by omega) (ev_yes (by omega) (ev_yes (by omega) (ev_no (by simp) ?_)))
    rw [w64 (by omega) (by omega), show (i : Int) + 1 = ((i + 1 : Nat) : Int) from by omega]
    exact ih (i + 1) (by omega)
theorem same_refl (a b : Int) (l : List Pc) (hl : l.length ≤ 9223372036854775807) : Ev (fun k => wageofficeref28_Same.f k a b l a b l) true := by
  unfold wageofficeref28_Same.f
  refine ev_yes rfl (ev_yes rfl ?_)
  rw [show ((l.length : Int) != (l.length : Int)) = false from by simp]
  refine ev_up ?_
  simp only [wageofficeref28_Same.j0]
  exact ev_no (by simp) (same_loop a b l hl l.length 0 (by omega))
theorem shorts_loop (l : List S44) (hl : l.length ≤ 9223372036854775807) (d : Nat) : ∀ i : Nat, i + d = l.length → ∃ b, Ev (fun k => wageofficelaw28_short.l0 k l l (l.length : Int) (i : Int)) b ∧ (b = true → ∀ j : Nat, i ≤ j → j < l.length → (rd_T44 l (j : Int)).f1.f1.length ≤ 66) := by
  induction d with
  | zero =>
    intro i hi
    refine ⟨decide ((l.length : Int) ≤ 40), ?_, fun _ j h1 h2 => by omega⟩
    refine ev_up ?_
    simp only [wageofficelaw28_short.l0]
    exact ev_no (by omega) (ev_ret _)
  | succ d ih =>
    intro i hi
    by_cases c : ((rd_T44 l (i : Int)).f1.f1.length : Int) > 66
    · refine ⟨false, ?_, by simp⟩
      refine ev_up ?_
      simp only [wageofficelaw28_short.l0]
      exact ev_yes (by omega) (ev_yes (by omega) (ev_yes (by omega) (ev_yes c (ev_ret _))))
    · obtain ⟨b, hb1, hb2⟩ := ih (i + 1) (by omega)
      refine ⟨b, ?_, fun h j h1 h2 => ?_⟩
      · refine ev_up ?_
        simp only [wageofficelaw28_short.l0]
        refine ev_yes (by omega) (ev_yes (by omega) (ev_yes (by omega) (ev_no c ?_)))
        rw [w64 (by omega) (by omega), show (i : Int) + 1 = ((i + 1 : Nat) : Int) from by omega]
        exact hb1
      · by_cases e : j = i
        · subst e; omega
        · exact hb2 h j (by omega) h2
theorem shorts_ev (l : List S44) (hl : l.length ≤ 9223372036854775807) : ∃ b, Ev (fun k => wageofficelaw28_short.f k l) b ∧ (b = true → ∀ j : Nat, j < l.length → (rd_T44 l (j : Int)).f1.f1.length ≤ 66) := by
  unfold wageofficelaw28_short.f
  obtain ⟨b, h1, h2⟩ := shorts_loop l hl l.length 0 (by omega)
  exact ⟨b, h1, fun h j hj => h2 h j (by omega) hj⟩
/-- Find: the same bracket as the reference's. -/
theorem find_eval (l : List S44) (y : Int) (hs : ∀ j : Nat, j < l.length → (rd_T44 l (j : Int)).f1.f1.length ≤ 66) (hl : l.length ≤ 9223372036854775807) : ∃ r, tax_Find.f l y = some r ∧ Ev (fun k => wageofficeref28_Find.f k l y) r ∧ r.2.2.1.length ≤ 66 := by
  have hb := lat_bd l y l.length
  unfold tax_Find.f wageofficeref28_Find.f
  have h0 : (-1 : Int) = lat l y 0 := rfl
  by_cases c : lat l y l.length < 0
  · rw [if_pos c]
    refine ⟨_, rfl, ?_, by simp⟩
    rw [h0]
    exact rfind_loop l y hl l.length 0 (by omega) _ (by rw [if_pos c])
  · rw [if_neg c]
    obtain ⟨j, hj⟩ := Int.eq_ofNat_of_zero_le (show 0 ≤ lat l y l.length by omega)
    have hlen : (rd_T44 l (lat l y l.length)).f1.f1.length ≤ 66 := by rw [hj]; exact hs j (by omega)
    refine ⟨((rd_T44 l (lat l y l.length)).f0, (rd_T44 l (lat l y l.length)).f1.f0, (rd_T44 l (lat l y l.length)).f1.f1, true), ?_, ?_, hlen⟩
    · unfold api_Piece.f
      first
      | rfl
      | (rw [if_pos (by omega)]; rfl)
      | (simp; omega)
    · rw [h0]
      exact rfind_loop l y hl l.length 0 (by omega) _ (by rw [if_neg c])
end Go.Proofs.Ytnadfkhllfgoiaa.TaxR
end
section
/- A value that can be read as data is a value of the print's kinds: numbers, bools, strings, slices, structs, to any depth. -/





namespace Go.Proofs.Ytnadfkhllfgoiaa.Opn
open Go Go.RowKit Go.Proofs.YtnadfkhllfgoiaaW.PrintWords Go.Proofs.YtnadfkhllfgoiaaW.PrintLast Go.Proofs.YtnadfkhllfgoiaaW.PrintMore
set_option linter.unusedVariables false
set_option linter.unusedSimpArgs false

def Opn (P : Program) (t : TypeId) {α : Type} (d : Kd α) (B : α → Prop) : Prop :=
  ∀ {H : Type} (enc : TypeId × Value → H) (w : World) (base : Nat) (spare : Nat → Bool) (held : Bool) (fuel : Nat) (cs : List Value) (x : DataW H × List MemPlace),
    DataW.trod enc P w base spare held fuel t cs = some x → ∃ a : α, Kd.FK d w (fun _ => True) a cs ∧ B a
theorem Opn.int {P : Program} {t : TypeId} {k : IntKind} (ht : P.underlying t = some (.int k)) : Opn P t (Kd.int k) (fun n => (Lit.int k n).wf = true) := by
  intro H enc w base spare held fuel cs x h
  obtain ⟨n, rfl, _, hw⟩ := DataW.trod_int ht h
  exact ⟨n, fun _ _ => rfl, hw⟩
theorem Opn.bool {P : Program} {t : TypeId} (ht : P.underlying t = some .bool) : Opn P t Kd.bool (fun _ => True) := by
  intro H enc w base spare held fuel cs x h
  obtain ⟨n, rfl, _⟩ := DataW.trod_bool ht h
  exact ⟨n, fun _ _ => rfl, trivial⟩
theorem Opn.string {P : Program} {t : TypeId} (ht : P.underlying t = some .string) : Opn P t Kd.string (fun s => s.size ≤ maxLen) := by
  intro H enc w base spare held fuel cs x h
  obtain ⟨s, rfl, _, hs⟩ := DataW.trod_string ht h
  exact ⟨s, fun _ _ => rfl, hs⟩
theorem cell_same {w W : World} {a : Addr} {v : Value} (h : w.cell? a = some v) (hW : ∀ k, True → k < w.heap.size → W.heap[k]? = w.heap[k]?) : W.cell? a = w.cell? a := by
  have := hW a.block trivial (World.block_lt_of_cell? w a h)
  unfold World.cell?
  rw [this]
theorem list_of {α : Type} {n : Nat} {p : Nat → α → Prop} (h : ∀ i, i < n → ∃ x, p i x) : ∃ xs : List α, xs.length = n ∧ ∀ i (hi : i < xs.length), p i xs[i] := by
  induction n with
  | zero => exact ⟨[], rfl, fun i hi => absurd hi (by simp)⟩
  | succ n ih =>
    obtain ⟨xs, hl, hx⟩ := ih fun i hi => h i (by omega)
    obtain ⟨x, hp⟩ := h n (by omega)
    refine ⟨xs ++ [x], by simp [hl], fun i hi => ?_⟩
    rw [List.length_append] at hi
    by_cases e : i < xs.length
    · rw [List.getElem_append_left e]; exact hx i e
    · have : i = n := by simp at hi; omega
      subst this
      rw [List.getElem_append_right (by omega)]
      simp [hl]; exact hp
theorem Opn.slice {P : Program} {t e : TypeId} {α : Type} {d : Kd α} {B : α → Prop} (ht : P.underlying t = some (.slice e)) (hc : P.cellsOf e = d.sz) (he : Opn P e d B) :
    Opn P t (Kd.slice e d) (fun l => l.length ≤ maxLen ∧ ∀ x ∈ l, B x) := by
  intro H enc w base spare held fuel cs x h
  rcases DataW.trod_slice ht h with ⟨rfl, _⟩ | ⟨a, len, cap, elems, rest, n, _, rfl, _, hb, hl, hm, hlen, hel, _⟩
  · exact ⟨[], fun _ _ => ⟨none, 0, rfl, Nat.le_refl _, ⟨rfl, by simp, fun h => absurd h (by simp)⟩⟩, by simp, fun x hx => by simp at hx⟩
  · have hx : ∀ i, i < len → ∃ y : α, (∃ ci, w.cells? base (a.add (i * P.cellsOf e)) (P.cellsOf e) = some ci ∧ Kd.FK d w (fun _ => True) y ci) ∧ B y := by
      intro i hi
      have h1 := hel i hi
      rw [List.getElem?_eq_getElem (by omega)] at h1
      obtain ⟨ci, hci, hy⟩ := Option.bind_eq_some_iff.1 h1
      obtain ⟨y, hK, hB⟩ := he enc w base spare held n ci _ hy
      exact ⟨y, ⟨ci, hci, hK⟩, hB⟩
    obtain ⟨xs, hxl, hxs⟩ := list_of hx
    subst hxl
    refine ⟨xs, fun W' hW' => ⟨some a, cap, rfl, hl, ⟨rfl, by unfold maxLen at hm; omega, fun _ => ⟨a, rfl, fun j p hj => ?_⟩⟩⟩, by omega, fun x hx => ?_⟩
    · obtain ⟨hjl, rfl⟩ := List.getElem?_eq_some_iff.1 hj
      obtain ⟨⟨ci, hci, hK⟩, _⟩ := hxs j hjl
      refine ⟨ci, d.K_len (hK W' hW'), hK W' hW', fun i u hu => ?_⟩
      unfold World.cells? at hci
      split at hci
      · have hcl := mapM_some_length hci
        have hi : i < ci.length := (List.getElem?_eq_some_iff.1 hu).1
        have hg := mapM_some_get hci i i (by rw [List.getElem?_range (by simpa [hcl] using hi)])
        rw [hu] at hg
        rw [← hc, ← Go.Deep.add_add]
        exact (cell_same hg hW').trans hg
      · cases hci
    · obtain ⟨i, hi, rfl⟩ := List.getElem_of_mem hx
      exact (hxs i hi).2

def OpnFs (P : Program) (fs : List Field) (off : Nat) {α : Type} (d : Kd α) (B : α → Prop) : Prop :=
  ∀ {H : Type} (enc : TypeId × Value → H) (w : World) (base : Nat) (spare : Nat → Bool) (held : Bool) (n : Nat) (cs : List Value),
    (∀ (i : Nat) (f : Field), fs[i]? = some f → ∃ y, DataW.trod enc P w base spare held n f.type ((cs.drop f.offset).take (P.cellsOf f.type)) = some y) → cs.length = off + d.sz → ∃ a : α, Kd.FK d w (fun _ => True) a (cs.drop off) ∧ B a
theorem OpnFs.one {P : Program} {f : Field} {off : Nat} {α : Type} {d : Kd α} {B : α → Prop} (ho : f.offset = off) (hc : P.cellsOf f.type = d.sz) (h : Opn P f.type d B) : OpnFs P [f] off d B := by
  intro H enc w base spare held n cs hf hl
  obtain ⟨y, hy⟩ := hf 0 f rfl
  rw [ho, List.take_of_length_le (by rw [List.length_drop]; omega)] at hy
  exact h enc w base spare held n _ _ hy
theorem OpnFs.cons {P : Program} {f : Field} {fs : List Field} {off : Nat} {α β : Type} {a : Kd α} {b : Kd β} {Ba : α → Prop} {Bb : β → Prop} (ho : f.offset = off) (hc : P.cellsOf f.type = a.sz) (h : Opn P f.type a Ba)
    (hs : OpnFs P fs (off + a.sz) b Bb) : OpnFs P (f :: fs) off (Kd.pair a b) (fun x => Ba x.1 ∧ Bb x.2) := by
  intro H enc w base spare held n cs hf hl
  have hl' : cs.length = off + (a.sz + b.sz) := hl
  obtain ⟨y, hy⟩ := hf 0 f rfl
  obtain ⟨x1, hK1, hB1⟩ := h enc w base spare held n _ _ hy
  obtain ⟨x2, hK2, hB2⟩ := hs enc w base spare held n cs (fun i g hg => hf (i + 1) g (by simpa using hg)) (by omega)
  refine ⟨(x1, x2), fun W' hW' => ⟨(cs.drop off).take a.sz, cs.drop (off + a.sz), ?_, ?_, hK2 W' hW'⟩, hB1, hB2⟩
  · rw [← List.drop_drop, List.take_append_drop]
  · rw [ho, hc] at hK1; exact hK1 W' hW'
theorem OpnFs.iso {P : Program} {fs : List Field} {off : Nat} {α β : Type} {d : Kd α} {B : α → Prop} (f : β → α) (g : α → β) (hg : ∀ a, f (g a) = a) (h : OpnFs P fs off d B) : OpnFs P fs off (Kd.iso d f) (fun x => B (f x)) := by
  intro H enc w base spare held n cs hf hl
  obtain ⟨a, hK, hB⟩ := h enc w base spare held n cs hf hl
  exact ⟨g a, fun W' hW' => show d.K W' (f (g a)) _ from (hg a).symm ▸ hK W' hW', show B (f (g a)) from (hg a).symm ▸ hB⟩
theorem Opn.struct {P : Program} {t : TypeId} {fs : Array Field} {α : Type} {d : Kd α} {B : α → Prop} (ht : P.underlying t = some (.struct fs)) (hc : P.cellsOf t = d.sz) (h : OpnFs P fs.toList 0 d B) : Opn P t d B := by
  intro H enc w base spare held fuel cs x hx
  obtain ⟨xs, n, _, _, hl, hxl, hf⟩ := DataW.trod_struct ht hx
  obtain ⟨a, hK, hB⟩ := h enc w base spare held n cs (fun i f hi => by
    have hi' : fs[i]? = some f := by simpa using hi
    have h1 := hf i f hi'
    have hlt : i < xs.length := by rw [hxl]; exact (Array.getElem?_eq_some_iff.1 hi').1
    rw [List.getElem?_eq_getElem hlt] at h1
    exact ⟨_, h1⟩) (by omega)
  exact ⟨a, hK, hB⟩
theorem Opn.mono {P : Program} {t : TypeId} {α : Type} {d : Kd α} {B B' : α → Prop} (h : Opn P t d B) (hB : ∀ a, B a → B' a) : Opn P t d B' := by
  intro H enc w base spare held fuel cs x hx
  obtain ⟨a, hK, hb⟩ := h enc w base spare held fuel cs x hx
  exact ⟨a, hK, hB a hb⟩
theorem arr_of {cs : Array Value} {l : List Value} (h : cs.toList = l) : cs = l.toArray := by subst h; simp
end Go.Proofs.Ytnadfkhllfgoiaa.Opn
end
section
-- Written by a program of this session (wip/myprint.py), which drives the kit's print over hand-written fragments. Not trusted: Lean checks it.


namespace Go.Proofs.Ytnadfkhllfgoiaa.My
open Go.RowKit Go.Proofs.Ytnadfkhllfgoiaa.My Go.Proofs.YtnadfkhllfgoiaaW.PrintWords Go.Proofs.YtnadfkhllfgoiaaW.PrintLast Go.Proofs.YtnadfkhllfgoiaaW.PrintMore Go.Proofs.Ytnadfkhllfgoiaa.Opn
set_option linter.unusedVariables false
set_option linter.unusedSimpArgs false
def B75 (x : S75) : Prop := ((Lit.int .i64 x.f0).wf = true) ∧ ((Lit.int .i64 x.f1).wf = true) ∧ ((Lit.int .i64 x.f2).wf = true)
theorem opn75 : Opn Try.prog 75 k75 B75 :=
  Opn.mono (Opn.struct Try.underlying75 (by kernel_rfl) (OpnFs.iso (fun x : S75 => (x.f0, x.f1, x.f2)) (fun a => (⟨a.1, a.2.1, a.2.2⟩ : S75)) (fun _ => rfl) (OpnFs.cons rfl (by kernel_rfl) (Opn.int Try.underlying3) (OpnFs.cons rfl (by kernel_rfl) (Opn.int Try.underlying3) (OpnFs.one rfl (by kernel_rfl) (Opn.int Try.underlying3)))))) (fun _ h => h)
def B42 (x : S42) : Prop := ((Lit.int .i64 x.f0).wf = true) ∧ ((x.f1.length ≤ maxLen ∧ ∀ y ∈ x.f1, B75 y))
theorem opn42 : Opn Try.prog 42 k42 B42 :=
  Opn.mono (Opn.struct Try.underlying42 (by kernel_rfl) (OpnFs.iso (fun x : S42 => (x.f0, x.f1)) (fun a => (⟨a.1, a.2⟩ : S42)) (fun _ => rfl) (OpnFs.cons rfl (by kernel_rfl) (Opn.int Try.underlying3) (OpnFs.one rfl (by kernel_rfl) (Opn.slice Try.underlying40 (by kernel_rfl) opn75))))) (fun _ h => h)
def B44 (x : S44) : Prop := ((Lit.int .i64 x.f0).wf = true) ∧ (B42 x.f1)
theorem opn44 : Opn Try.prog 44 k44 B44 :=
  Opn.mono (Opn.struct Try.underlying44 (by kernel_rfl) (OpnFs.iso (fun x : S44 => (x.f0, x.f1)) (fun a => (⟨a.1, a.2⟩ : S44)) (fun _ => rfl) (OpnFs.cons rfl (by kernel_rfl) (Opn.int Try.underlying3) (OpnFs.one rfl (by kernel_rfl) opn42)))) (fun _ h => h)
end Go.Proofs.Ytnadfkhllfgoiaa.My
end
section
-- Written by a program of this session (wip/myprint.py), which drives the kit's print over hand-written fragments. Not trusted: Lean checks it.


namespace Go.Proofs.Ytnadfkhllfgoiaa.My
open Go.RowKit Go.Proofs.Ytnadfkhllfgoiaa.My Go.Proofs.YtnadfkhllfgoiaaW.PrintWords Go.Proofs.YtnadfkhllfgoiaaW.PrintLast Go.Proofs.YtnadfkhllfgoiaaW.PrintMore Go.Proofs.Ytnadfkhllfgoiaa.Opn
set_option linter.unusedVariables false
set_option linter.unusedSimpArgs false
def wageofficelaw28_TaxMatchesReference.Pure : Prop := ∀ (l0 : List (S44)) (a1_0 : Int) (a1_1 : Int) (l1_2 : List (S75)) (a2 : Int) (a3 : Int) (a4 : Int) (a5 : Int), ((l0.length ≤ maxLen ∧ ∀ y ∈ l0, B44 y)) → ((Lit.int .i64 a1_0).wf = true) → ((Lit.int .i64 a1_1).wf = true) → ((l1_2.length ≤ maxLen ∧ ∀ y ∈ l1_2, B75 y)) → ((Lit.int .i64 a2).wf = true) → ((Lit.int .i64 a3).wf = true) → ((Lit.int .i64 a4).wf = true) → ((Lit.int .i64 a5).wf = true) → ∃ k, wageofficelaw28_TaxMatchesReference.f k l0 a1_0 a1_1 l1_2 a2 a3 a4 a5 = some true
theorem wageofficelaw28_TaxMatchesReference.truth (P : wageofficelaw28_TaxMatchesReference.Pure) (A0 : Option Addr) (c0 : Nat) (l0 : List (S44)) (a1_0 : Int) (a1_1 : Int) (A1_2 : Option Addr) (c1_2 : Nat) (l1_2 : List (S75)) (a2 : Int) (a3 : Int) (a4 : Int) (a5 : Int) (w : World) (hr0 : Kd.F k44 w (fun _ => True) A0 l0.length l0) (hc0 : l0.length ≤ c0) (hr1_2 : Kd.F k75 w (fun _ => True) A1_2 l1_2.length l1_2) (hc1_2 : l1_2.length ≤ c1_2) (hb0 : (l0.length ≤ maxLen ∧ ∀ y ∈ l0, B44 y)) (hb1_0 : (Lit.int .i64 a1_0).wf = true) (hb1_1 : (Lit.int .i64 a1_1).wf = true) (hb1_2 : (l1_2.length ≤ maxLen ∧ ∀ y ∈ l1_2, B75 y)) (hb2 : (Lit.int .i64 a2).wf = true) (hb3 : (Lit.int .i64 a3).wf = true) (hb4 : (Lit.int .i64 a4).wf = true) (hb5 : (Lit.int .i64 a5).wf = true) :
    Calls Try.prog 8 #[.slice A0 l0.length c0, .agg #[.int .i64 a1_0, .int .i64 a1_1, .slice A1_2 l1_2.length c1_2], .int .i64 a2, .int .i64 a3, .int .i64 a4, .int .i64 a5] w fun e w' => e = .returned (.bool true) ∧ Below w.heap.size w w' := by
  obtain ⟨k, h⟩ := P l0 a1_0 a1_1 l1_2 a2 a3 a4 a5 hb0 hb1_0 hb1_1 hb1_2 hb2 hb3 hb4 hb5
  exact (wageofficelaw28_TaxMatchesReference.calls k (fun _ => True) A0 c0 l0 a1_0 a1_1 (fun _ => True) A1_2 c1_2 l1_2 a2 a3 a4 a5 true w (Kd.V_mk hc0 hr0) (Kd.V_mk hc1_2 hr1_2) h).mono (fun e w' he => ⟨he.1, he.2⟩)
end Go.Proofs.Ytnadfkhllfgoiaa.My
end
section
/- The functions of tax come to what the reference's come to. -/


namespace Go.Proofs.Ytnadfkhllfgoiaa.Pure
set_option linter.unusedVariables false
set_option linter.unusedSimpArgs false
open Go.RowKit Go.Proofs.Ytnadfkhllfgoiaa.My Go.Proofs.Ytnadfkhllfgoiaa.Aid Go.Proofs.Ytnadfkhllfgoiaa.EvA Go.Proofs.Ytnadfkhllfgoiaa.PwE Go.Proofs.Ytnadfkhllfgoiaa.TaxE Go.Proofs.Ytnadfkhllfgoiaa.TaxR Go.Proofs.YtnadfkhllfgoiaaW.PrintWords Go.Proofs.YtnadfkhllfgoiaaW.PrintLast Go.Proofs.YtnadfkhllfgoiaaW.PrintMore

theorem TaxMatchesReference : wageofficelaw28_TaxMatchesReference.Pure := by
  intro L y den l year before wh gross hL hy hd hl _ _ _ _
  apply ev_ex
  have hj : Ev (fun k => wageofficelaw28_TaxMatchesReference.j0 k L year before wh gross true true y den l) true := by
    refine ev_up ?_
    simp only [wageofficelaw28_TaxMatchesReference.j0]
    exact ev_yes (by simp) (ev_ret _)
  unfold wageofficelaw28_TaxMatchesReference.f
  rw [head_ok]
  simp only [Option.bind_some]
  have hLn : L.length ≤ 9223372036854775807 := by have := hL.1; simp only [maxLen] at this; omega
  obtain ⟨v, hv1, hv2⟩ := shorts_ev L hLn
  refine ev_bnd hv1 (ev_ite (fun c1 => ?_) (fun _ => hj))
  refine ev_bnd (short_ev y den l (by have := hl.1; simp only [maxLen] at this; omega)) ?_
  by_cases c2 : l.length ≤ 66
  rotate_left
  · rw [decide_eq_false c2]; exact hj
  rw [decide_eq_true c2]
  obtain ⟨f, hf1, hf2, hf3⟩ := find_eval L year (hv2 c1) hLn
  obtain ⟨t, ht⟩ := Tax.ex den l gross
  obtain ⟨m, hm⟩ := MonR.ex den l before wh gross
  refine ev_up ?_
  simp only [wageofficelaw28_TaxMatchesReference.j0]
  refine ev_no (by simp) ?_
  rw [hf1]
  simp only [Option.bind_some]
  refine ev_bnd hf2 (ev_bnd (year_ev ht) (ev_bnd (ryear_ev ht) (ev_bnd (monthR hm) (ev_bnd (rmonthR hm) ?_))))
  refine ev_yes (by simp) (ev_yes (by simp) (ev_bnd (same_refl _ _ _ (by omega)) ?_))
  exact ev_yes (by simp) (ev_yes (by simp) (ev_yes (by simp) (ev_yes (by simp) (ev_eq (ev_ret _) (by simp)))))
end Go.Proofs.Ytnadfkhllfgoiaa.Pure
end
