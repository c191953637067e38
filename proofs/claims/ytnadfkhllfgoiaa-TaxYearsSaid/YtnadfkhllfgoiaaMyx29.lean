-- Written by a program of this session (wip/myprint.py), which drives the kit's print over hand-written fragments. Not trusted: Lean checks it.
import Derived.Test.YtnadfkhllfgoiaaMyx0
import Derived.Test.YtnadfkhllfgoiaaMyx48
import Derived.Test.YtnadfkhllfgoiaaMyx50
namespace Go.Proofs.Ytnadfkhllfgoiaa.My
open Go.Proofs.Ytnadfkhllfgoiaa.Aid Go.Proofs.Ytnadfkhllfgoiaa.KdX
open Go.RowKit Go.Proofs.YtnadfkhllfgoiaaW.PrintWords Go.Proofs.YtnadfkhllfgoiaaW.PrintLast Go.Proofs.YtnadfkhllfgoiaaW.PrintMore
attribute [local go_sem] max2_int min2_int max_two min_two max_three min_three max_four min_four   -- for this text's walks alone
set_option linter.unusedVariables false
set_option linter.unusedSimpArgs false

/-! ### tax_Find: function 29 (by hand) -/
def tax_Find.f (l0 : List (S44)) (a1 : Int) : Option (Int × Int × List S75 × Bool) :=
  if lat l0 a1 l0.length < 0 then some (0, 0, [], false)
  else (api_Piece.f (rd_T44 l0 (lat l0 a1 l0.length)).f1.f1).bind fun c => some ((rd_T44 l0 (lat l0 a1 l0.length)).f0, (rd_T44 l0 (lat l0 a1 l0.length)).f1.f0, c, true)
set_option maxHeartbeats 1000000 in
theorem tax_Find.calls (A0 : Option Addr) (c0 : Nat) (l0 : List (S44)) (a1 : Int) (r1 r2 : Int) (r3 : List S75) (r4 : Bool) (w : World) (hr0 : Kd.C k44 w A0 l0.length l0) (hc0 : l0.length ≤ c0) (h : tax_Find.f l0 a1 = some (r1, r2, r3, r4)) :
    Calls Try.prog 29 #[.slice A0 l0.length c0, .int .i64 a1] w fun e w' => ∃ v2_ : Value, e = .returned (.tuple #[.agg #[.int .i64 r1, .int .i64 r2, v2_], .bool r4]) ∧ Kd.R k75 75 w' w.heap.size (fun _ => True) v2_ r3 ∧ Below w.heap.size w w' := by
  have hu44 := Try.underlying44
  have hu42 := Try.underlying42
  unfold tax_Find.f at h
  have hlb := lat_bd l0 a1 l0.length
  obtain ⟨W, hW⟩ : ∃ W, W = w.alloc (.cells #[.int .i64 0, .int .i64 0, .slice none 0 0] 44) := ⟨_, rfl⟩
  have hB : Below w.heap.size w W := by subst hW; exact below_alloc (Below.refl _ _) _
  have hBK : W.heap[w.heap.size]? = some (.cells #[.int .i64 0, .int .i64 0, .slice none 0 0] 44 (0, 0)) := by subst hW; exact blk_new w _
  have HL := Aside0.mk (api_Bracket.calls A0 c0 l0 a1 W (Kd.C_below hr0 hB))
  have HR := Aside0.mk hr0
  clear hr0
  by_cases hneg : lat l0 a1 l0.length < 0
  · rw [if_pos hneg] at h
    simp only [Option.some.injEq, Prod.mk.injEq] at h
    obtain ⟨rfl, rfl, rfl, rfl⟩ := h
    generalize lat l0 a1 l0.length = q at *
    go_enter Try.func29, Try.ntmps29
    go_wp2_with fail
    rw [← hW]
    have HX := Aside0.mk hW
    have HBK := Aside0.mk hBK
    have HB := Aside0.mk hB
    clear hW hBK hB
    refine HL.out.mono ?_
    rintro e w2 ⟨rfl, hb2⟩
    have hbk2 := (hb2.block w.heap.size (blk_lt HBK.out)).trans HBK.out
    have b0 := blk_cell hbk2 0
    have b1 := blk_cell hbk2 1
    have b2 := blk_cell hbk2 2
    have f0 := blk_frozen hbk2 0
    have f1 := blk_frozen hbk2 1
    have f2 := blk_frozen hbk2 2
    simp at b0 b1 b2
    have HB2 := Aside0.mk (below_step HB.out hb2)
    have HBK2 := Aside0.mk hbk2
    clear hb2 hbk2 HX HL
    go_wp2
    refine bodyPost_ret (results_ct rfl _ _ w.heap.size 44 #[.int .i64 0, .int .i64 0, .slice none 0 0] (0, 0) _ rfl (by
      refine blk_put (cs := #[.int .i64 0, .int .i64 0, .slice none 0 0]) ?_ 2 _ rfl
      refine blk_put (cs := #[.int .i64 0, .int .i64 0, .slice none 0 0]) ?_ 1 _ rfl
      refine blk_put (cs := #[.int .i64 0, .int .i64 0, .slice none 0 0]) ?_ 0 _ rfl
      exact HBK2.out) hu44 rfl (by kernel_rfl)) rfl ?_
    exact ⟨_, rfl, Kd.R_nil _ _ _ _ _, below_set (below_set (below_set HB2.out (Nat.le_refl _)) (Nat.le_refl _)) (Nat.le_refl _)⟩
  · rw [if_neg hneg] at h
    obtain ⟨c, hc, hr⟩ := Option.bind_eq_some_iff.1 h
    simp only [Option.some.injEq, Prod.mk.injEq] at hr
    obtain ⟨e1, e2, rfl, rfl⟩ := hr
    obtain ⟨ad, A2, c2, rfl, h1, h2, h3, hc2, hC2⟩ := at_T44 HR.out (lat l0 a1 l0.length) (by omega) (by omega)
    rw [e1] at h1
    rw [e2] at h2
    clear e1 e2 h
    have hcl := hc
    generalize lat l0 a1 l0.length = q at *
    generalize (rd_T44 l0 q).f1.f1 = ps at *
    have HCL := Aside0.mk hcl
    have HC2 := Aside0.mk hC2
    clear hc hC2 hcl
    go_enter Try.func29, Try.ntmps29
    go_wp2_with fail
    rw [← hW]
    have HX := Aside0.mk hW
    have HBK := Aside0.mk hBK
    have HB := Aside0.mk hB
    clear hW hBK hB
    refine HL.out.mono ?_
    rintro e w2 ⟨rfl, hb2⟩
    have hbk2 := (hb2.block w.heap.size (blk_lt HBK.out)).trans HBK.out
    have b0 := blk_cell hbk2 0
    have b1 := blk_cell hbk2 1
    have b2 := blk_cell hbk2 2
    have f0 := blk_frozen hbk2 0
    have f1 := blk_frozen hbk2 1
    have f2 := blk_frozen hbk2 2
    simp at b0 b1 b2
    have HB2 := Aside0.mk (below_step HB.out hb2)
    have HBK2 := Aside0.mk hbk2
    replace h1 := (HB2.out.cell (World.block_lt_of_cell? w _ h1)).trans h1
    replace h2 := (HB2.out.cell (World.block_lt_of_cell? w _ h2)).trans h2
    replace h3 := (HB2.out.cell (World.block_lt_of_cell? w _ h3)).trans h3
    clear hb2 hbk2 HX HL
    go_wp2_with fail
    have hbb := blk_new w2 (.cells #[.int .i64 r1, .int .i64 r2, .slice A2 ps.length c2] 44)
    have hal := below_alloc (Below.refl w2.heap.size w2) (.cells #[.int .i64 r1, .int .i64 r2, .slice A2 ps.length c2] 44)
    refine (api_Piece.calls A2 c2 ps c _ (Kd.C_below HC2.out (below_step HB2.out hal)) hc2 HCL.out).mono ?_
    rintro e w3 ⟨v3, rfl, hv3, hb3⟩
    obtain ⟨A3, c3, rfl⟩ := Kd.R_slice hv3
    have hbb3 := (hb3.block w2.heap.size (blk_lt hbb)).trans hbb
    have hr3 := (hb3.block w.heap.size (by have := HB2.out.size; have := blk_lt HBK2.out; simp; omega)).trans ((hal.block w.heap.size (blk_lt HBK2.out)).trans HBK2.out)
    have hlt3 : w.heap.size < w2.heap.size := blk_lt HBK2.out
    have hne : w.heap.size ≠ w2.heap.size := by omega
    have p0 := blk_cell hbb3 0
    have p1 := blk_cell hbb3 1
    have p2 := blk_cell hbb3 2
    have k2 := blk_frozen hbb3 2
    have s0 := blk_cell hr3 0
    have s1 := blk_cell hr3 1
    have s2 := blk_cell hr3 2
    have g0 := blk_frozen hr3 0
    have g1 := blk_frozen hr3 1
    have g2 := blk_frozen hr3 2
    simp at p0 p1 p2 s0 s1 s2
    have HB3 := Aside0.mk (below_step (below_step HB2.out hal) hb3)
    have HR3 := Aside0.mk hr3
    have HV3 := Aside0.mk hv3
    have HBB3 := Aside0.mk hbb3
    clear hb3 hr3 hv3 hbb3 hal hbb h1 h2 h3 b0 b1 b2 f0 f1 f2
    go_wp2
    refine bodyPost_ret (results_ct rfl _ _ w.heap.size 44 #[.int .i64 r1, .int .i64 r2, .slice A3 c.length c3] (0, 0) _ rfl (by
      refine blk_put (cs := #[.int .i64 r1, .int .i64 r2, .slice none 0 0]) ?_ 2 _ rfl
      refine blk_put (cs := #[.int .i64 r1, .int .i64 0, .slice none 0 0]) ?_ 1 _ rfl
      refine blk_put (cs := #[.int .i64 0, .int .i64 0, .slice none 0 0]) ?_ 0 _ rfl
      exact blk_far HR3.out hne _) hu44 rfl (by kernel_rfl)) rfl ?_
    have hR := Kd.R_mono (ok' := fun k => w2.heap.size < k) (Kd.R_bound HV3.out) (fun k hk => by have := hk.2.1; simp at this; omega)
    refine ⟨_, rfl, Kd.R_lower (Kd.R_mono (ok' := fun _ => True) (Kd.R_far (Kd.R_far (Kd.R_far (Kd.R_far hR ?_ _) ?_ _) ?_ _) ?_ _) (fun _ _ => trivial)) ?_,
      below_set (below_set (below_set (below_set HB3.out (Nat.le_of_lt hlt3)) (Nat.le_refl _)) (Nat.le_refl _)) (Nat.le_refl _)⟩
    · intro k hk; show k ≠ w2.heap.size; omega
    · intro k hk; show k ≠ w.heap.size; omega
    · intro k hk; show k ≠ w.heap.size; omega
    · intro k hk; show k ≠ w.heap.size; omega
    · simp; omega


end Go.Proofs.Ytnadfkhllfgoiaa.My
