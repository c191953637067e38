-- Written by a program of this session (wip/myprint.py), which drives the kit's print over hand-written fragments. Not trusted: Lean checks it.
import Derived.Test.YteapeglolkfimaaMyx0
import Derived.Test.YteapeglolkfimaaMyx74
namespace Go.Proofs.Yteapeglolkfimaa.My
open Go.Proofs.Yteapeglolkfimaa.Aid Go.Proofs.Yteapeglolkfimaa.KdX
open Go.RowKit Go.Proofs.YteapeglolkfimaaW.PrintWords Go.Proofs.YteapeglolkfimaaW.PrintLast Go.Proofs.YteapeglolkfimaaW.PrintMore
attribute [local go_sem] max2_int min2_int max_two min_two max_three min_three max_four min_four   -- for this text's walks alone
set_option linter.unusedVariables false
set_option linter.unusedSimpArgs false

/-! ### piecewise_belongs: function 67 (by hand) -/
def frm (l : List S39) (i : Int) : Int := (rd_T39 l i).f0
def bsk (l : List S39) (x : Int) : Int := bs (fun i => decide (x < frm l i)) 64 0 (l.length : Int)
def piecewise_belongs.f (a0_0 : Int) (l0_1 : List S39) (a1 : Int) : Option (Int × Int × Int) :=
  if (l0_1.length : Int) < 4611686018427387904 then (if 1 ≤ bsk l0_1 a1 then some ((rd_T39 l0_1 (bsk l0_1 a1 - 1)).f0, (rd_T39 l0_1 (bsk l0_1 a1 - 1)).f1, (rd_T39 l0_1 (bsk l0_1 a1 - 1)).f2) else none) else none
theorem piecewise_belongs.enter1 : ∀ args w1, (callFunc 75 args).run Try.prog w1 = .ok (.enter 75 args) w1 := by
  intro args w1
  go_simp
set_option maxHeartbeats 400000 in
theorem piecewise_belongs.calls1 (i x : Int) (A : Option Addr) (c : Nat) (l : List S39) (gf gx : Nat) (w : World) (h0 : 0 ≤ i) (h1 : i < (l.length : Int)) (hr : Kd.C k39 w A l.length l)
    (hf : w.cell? ⟨gf, 1, none⟩ = some (.slice A l.length c)) (hx : w.cell? ⟨gx, 0, none⟩ = some (.int .i64 x)) :
    Calls Try.prog 75 #[.int .i64 i, .pointer (some ⟨gf, 0, none⟩), .pointer (some ⟨gx, 0, none⟩)] w fun e w2 => e = .returned (.bool (decide (x < frm l i))) ∧ Drawn0 w w2 := by
  have hu42 := Try.underlying24
  have hu75 := Try.underlying39
  obtain ⟨ad, rfl, hc0, _⟩ := at_T39 hr i h0 h1
  change _ = some (Value.int .i64 (frm l i)) at hc0
  generalize frm l i = fi at hc0 ⊢
  clear hr
  go_enter Try.func75, Try.ntmps75
  go_wp2
  repeat (go_quiet (fail); try go_wp2)
  go_ret
  exact ⟨rfl, ⟨_, rfl⟩⟩
set_option maxHeartbeats 800000 in
theorem piecewise_belongs.calls (a0_0 : Int) (A0_1 : Option Addr) (c0_1 : Nat) (l0_1 : List S39) (a1 : Int) (r1 r2 r3 : Int) (w : World) (hr0_1 : Kd.C k39 w A0_1 l0_1.length l0_1) (hc0_1 : l0_1.length ≤ c0_1)
    (h : piecewise_belongs.f a0_0 l0_1 a1 = some (r1, r2, r3)) :
    Calls Try.prog 67 #[.agg #[.int .i64 a0_0, .slice A0_1 l0_1.length c0_1], .int .i64 a1] w fun e w' => e = .returned (.agg #[.int .i64 r1, .int .i64 r2, .int .i64 r3]) ∧ Below w.heap.size w w' := by
  have hu42 := Try.underlying24
  have hu75 := Try.underlying39
  unfold piecewise_belongs.f at h
  by_cases hn : (l0_1.length : Int) < 4611686018427387904
  · rw [if_pos hn] at h
    have hbs := bs_spec (fun i => decide (a1 < frm l0_1 i)) (l0_1.length : Int) 64 0 (l0_1.length : Int) (by omega) (by omega) (by omega) (by omega) (fun h => by omega) (fun h => by omega)
    change 0 ≤ bsk l0_1 a1 ∧ bsk l0_1 a1 ≤ _ ∧ _ at hbs
    have hb2 := hbs.2.1
    clear hbs
    by_cases hk : 1 ≤ bsk l0_1 a1
    · rw [if_pos hk] at h
      have HR := Aside0.mk hr0_1
      clear hr0_1
      obtain ⟨W, hW⟩ : ∃ W, W = ((w.alloc (.cells #[.int .i64 a0_0, .slice A0_1 l0_1.length c0_1] 24)).alloc (.cells #[.int .i64 a1] 3)).alloc (.cells #[.int .i64 0, .int .i64 0, .int .i64 0] 39) := ⟨_, rfl⟩
      have hf1 : W.cell? ⟨w.heap.size, 1, none⟩ = some (.slice A0_1 l0_1.length c0_1) := by subst hW; go_simp
      have hx1 : W.cell? ⟨w.heap.size + 1, 0, none⟩ = some (.int .i64 a1) := by subst hW; go_simp
      have hBK : W.heap[w.heap.size + 1 + 1]? = some (.cells #[.int .i64 0, .int .i64 0, .int .i64 0] 39 (0, 0)) := by subst hW; simpa using blk_new ((w.alloc (.cells #[.int .i64 a0_0, .slice A0_1 l0_1.length c0_1] 24)).alloc (.cells #[.int .i64 a1] 3)) (.cells #[.int .i64 0, .int .i64 0, .int .i64 0] 39)
      have hB : Below w.heap.size w W := by subst hW; exact below_alloc (below_alloc (below_alloc (Below.refl _ _) _) _) _
      have HS := Aside0.mk (sort_Search.calls 75 #[.pointer (some ⟨w.heap.size, 0, none⟩), .pointer (some ⟨w.heap.size + 1, 0, none⟩)] (l0_1.length : Int) (fun i => decide (a1 < frm l0_1 i))
        (fun W2 => Drawn0 W W2) W piecewise_belongs.enter1 hn (Drawn0.refl _) (fun x W2 hx0 hx1' hW2 =>
          (piecewise_belongs.calls1 x a1 A0_1 c0_1 l0_1 _ _ W2 hx0 hx1' (Kd.C_below (Kd.C_below HR.out hB) hW2.below) ((hW2.below.cell (World.block_lt_of_cell? W _ hf1)).trans hf1) ((hW2.below.cell (World.block_lt_of_cell? W _ hx1)).trans hx1)).mono
            fun e w2 h => ⟨h.1, by obtain ⟨n, rfl⟩ := h.2; exact hW2.step n⟩))
      change Aside0 (Calls _ _ _ _ fun e w' => e = .returned (.int .i64 (bsk l0_1 a1)) ∧ _) at HS
      obtain ⟨ad, rfl, q0, q1, q2⟩ := at_T39 HR.out (bsk l0_1 a1 - 1) (by omega) (by omega)
      rw [Option.some.injEq, Prod.mk.injEq, Prod.mk.injEq] at h
      obtain ⟨e1, e2, e3⟩ := h
      rw [e1] at q0
      rw [e2] at q1
      rw [e3] at q2
      clear e1 e2 e3
      generalize bsk l0_1 a1 = q at *
      have HN := Aside0.mk hn
      clear hn
      go_enter Try.func67, Try.ntmps67
      go_wp2_with fail
      rw [← hW]
      have HB := Aside0.mk hB
      have HX := Aside0.mk hW
      clear hB hW
      refine HS.out.mono ?_
      rintro e w2 ⟨rfl, ⟨nd, rfl⟩⟩
      have q0' := (HB.out.cell (World.block_lt_of_cell? w _ q0)).trans q0
      have q1' := (HB.out.cell (World.block_lt_of_cell? w _ q1)).trans q1
      have q2' := (HB.out.cell (World.block_lt_of_cell? w _ q2)).trans q2
      rw [show (q - 1).toNat = q.toNat - 1 from by omega] at q0' q1' q2'
      have b0 := blk_cell hBK 0
      have b1 := blk_cell hBK 1
      have b2 := blk_cell hBK 2
      have f0 := blk_frozen hBK 0
      have f1 := blk_frozen hBK 1
      have f2 := blk_frozen hBK 2
      simp at b0 b1 b2
      have HBK := Aside0.mk hBK
      clear hBK q0 q1 q2 HS HX HR
      have hq3 : q ≤ 4611686018427387904 := by have := HN.out; omega
      go_wp2
      refine bodyPost_ret (results_cell_row rfl _ _ (w.heap.size + 1 + 1) 39 #[.int .i64 r1, .int .i64 r2, .int .i64 r3] (0, 0) _ rfl (by
        refine blk_put (cs := #[.int .i64 r1, .int .i64 r2, .int .i64 0]) ?_ 2 _ rfl
        refine blk_put (cs := #[.int .i64 r1, .int .i64 0, .int .i64 0]) ?_ 1 _ rfl
        refine blk_put (cs := #[.int .i64 0, .int .i64 0, .int .i64 0]) ?_ 0 _ rfl
        exact blk_drewN HBK.out nd) hu75 rfl (by kernel_rfl)) rfl ?_
      exact ⟨rfl, below_set (below_set (below_set (pw_below_drewN HB.out nd) (by omega)) (by omega)) (by omega)⟩
    · rw [if_neg hk] at h; cases h
  · rw [if_neg hn] at h; cases h

end Go.Proofs.Yteapeglolkfimaa.My
