-- Merged by a program of this session (wip/sh/merge.py) from texts of mine.
import Derived.Test.YteapeglolkfimaaMyx0
import Derived.Test.YteapeglolkfimaaMyx30
import Derived.Test.YteapeglolkfimaaRgc
import Derived.RangeFuncNested
import Derived.RangeFuncBound
import Derived.RangeFuncCalls
import Derived.RangeFuncLeaves
import Derived.Shelf.Abstract
import Derived.Shelf.RegionOpen
import Derived.OwnWalkIn
import Derived.TacticsInMore
import Derived.LoopNIn
import Derived.LoopIn
import Derived.Outline
import Derived.Test.YteapeglolkfimaaMyx47
import Derived.Test.YteapeglolkfimaaMyx69
import Derived.Test.YteapeglolkfimaaMyx35
import Derived.Test.YteapeglolkfimaaPwE
import Derived.Test.YteapeglolkfimaaKdF
import Derived.RangeFuncBox
import Derived.Sort.QuietTacIn
section
-- Written by a program of this session (wip/myprint.py), which drives the kit's print over hand-written fragments. Not trusted: Lean checks it.














namespace Go.Proofs.Yteapeglolkfimaa.My
open Go.Proofs.Yteapeglolkfimaa.Aid Go.Proofs.Yteapeglolkfimaa.KdX
open Go.RowKit Go.Proofs.YteapeglolkfimaaW.PrintWords Go.Proofs.YteapeglolkfimaaW.PrintLast Go.Proofs.YteapeglolkfimaaW.PrintMore
attribute [local go_sem] max2_int min2_int max_two min_two max_three min_three max_four min_four   -- for this text's walks alone
set_option linter.unusedVariables false
set_option linter.unusedSimpArgs false

/-! ### grossup_stretches: function 29 (by hand) -/
-- (calls grossup_cut)
theorem grossup_taxed_cellT (w2 : World) (g t : Nat) (cs : Array Value) (h : w2.heap[g]? = some (.cells cs t (0, 0))) (i : Nat) : w2.cell? ⟨g, i, none⟩ = cs[i]? := blk_cell h i
set_option maxHeartbeats 1000000 in
theorem grossup_taxed.calls (F : Nat) (cs : Array Value) (low high : Int) (g : Int → Int) (tf nf : Bool) (N : Value) (w : World) (hF : ∀ args w1, (callFunc F args).run Try.prog w1 = .ok (.enter F args) w1)
    (h0 : 0 ≤ low) (h1 : high < 4611686018427387904) (h2 : low < 4611686018427387904) (hN : N.oneCell' = true)
    (hp : ∀ x w1, low ≤ x → x ≤ high → Below w.heap.size w w1 → Calls Try.prog F (#[.int .i64 x] ++ cs) w1 fun e w2 => e = .returned (.int .i64 (g x)) ∧ ∃ m, w2 = w1.drewN m) :
    Calls Try.prog 52 #[.agg #[.int .i64 low, .int .i64 high, .func (.func F) #[] cs, N, .bool tf, .bool nf]] w fun e w' =>
      e = .returned (.agg #[.int .i64 (cutL low high g tf (-1000000000000) 1000000000000), .int .i64 (cutH low high g tf (-1000000000000) 1000000000000), .func (.func F) #[] cs, N, .bool tf, .bool nf]) ∧ Below w.heap.size w w' := by
  have hu := Try.underlying53
  obtain ⟨W, hW⟩ : ∃ W, W = (w.alloc (.cells #[.int .i64 low, .int .i64 high, .func (.func F) #[] cs, N, .bool tf, .bool nf] 53)).alloc (.cells #[.int .i64 0, .int .i64 0, Value.nilFunc, Value.nilFunc, .bool false, .bool false] 53) := ⟨_, rfl⟩
  have hB : Below w.heap.size w W := by subst hW; exact below_alloc (below_alloc (Below.refl _ _) _) _
  have k1 : W.heap[w.heap.size]? = some (.cells #[.int .i64 low, .int .i64 high, .func (.func F) #[] cs, N, .bool tf, .bool nf] 53 (0, 0)) := by subst hW; exact blk_alloc (blk_new _ _) _
  have k2 : W.heap[w.heap.size + 1]? = some (.cells #[.int .i64 0, .int .i64 0, Value.nilFunc, Value.nilFunc, .bool false, .bool false] 53 (0, 0)) := by subst hW; simpa using blk_new (w.alloc (.cells #[.int .i64 low, .int .i64 high, .func (.func F) #[] cs, N, .bool tf, .bool nf] 53)) _
  have CC := Aside0.mk (grossup_cut.calls F cs low high g tf (-1000000000000) 1000000000000 W hF h0 h1 h2 (fun x w1 hx hy hb => hp x w1 hx hy (below_step hB hb)))
  generalize cutL low high g tf (-1000000000000) 1000000000000 = rl at *
  generalize cutH low high g tf (-1000000000000) 1000000000000 = rh at *
  have HB := Aside0.mk hB
  have HX := Aside0.mk hW
  have K1 := Aside0.mk k1
  have K2 := Aside0.mk k2
  clear hB hW k1 k2 hp
  go_enter Try.func52, Try.ntmps52
  go_wp2_with fail
  rw [← HX.out]
  refine CC.out.mono ?_
  rintro e w2 ⟨rfl, hb⟩
  have hlt : w.heap.size + 1 < w2.heap.size := blk_lt (blk_below K2.out hb)
  have k1 := blk_below K1.out hb
  have k2 := blk_below K2.out hb
  have s0 := (blk_cell k1 0).trans rfl
  have s1 := (blk_cell k1 1).trans rfl
  have s2 := (blk_cell k1 2).trans rfl
  have s3 := (blk_cell k1 3).trans rfl
  have s4 := (blk_cell k1 4).trans rfl
  have s5 := (blk_cell k1 5).trans rfl
  have t0 := (blk_cell k2 0).trans rfl
  have t1 := (blk_cell k2 1).trans rfl
  have t2 := (blk_cell k2 2).trans rfl
  have t3 := (blk_cell k2 3).trans rfl
  have t4 := (blk_cell k2 4).trans rfl
  have t5 := (blk_cell k2 5).trans rfl
  have f1 := fun i => blk_frozen k1 i
  have f2 := fun i => blk_frozen k2 i
  have HB2 := Aside0.mk (below_step HB.out hb)
  have K3 := Aside0.mk k1
  have K4 := Aside0.mk k2
  clear hb k1 k2 HX CC K1 K2 HB
  have hV : (Value.func (Fn.func F) #[] cs).oneCell' = true := rfl
  generalize hVe : Value.func (Fn.func F) #[] cs = V at *
  have HVE := Aside0.mk hVe
  clear hVe
  have rV := fun (X : World) (a : Addr) => run_store Try.prog X a V .plain hV
  have rN := fun (X : World) (a : Addr) => run_store Try.prog X a N .plain hN
  go_wp2
  refine bodyPost_ret (results_cell_row rfl _ _ (w.heap.size + 1) 53 #[.int .i64 rl, .int .i64 rh, V, N, .bool tf, .bool nf] (0, 0) _ rfl (by
    refine blk_put (cs := #[.int .i64 rl, .int .i64 rh, V, N, .bool tf, .bool false]) ?_ 5 _ rfl
    refine blk_put (cs := #[.int .i64 rl, .int .i64 rh, V, N, .bool false, .bool false]) ?_ 4 _ rfl
    refine blk_put (cs := #[.int .i64 rl, .int .i64 rh, V, Value.nilFunc, .bool false, .bool false]) ?_ 3 _ rfl
    refine blk_put (cs := #[.int .i64 rl, .int .i64 rh, Value.nilFunc, Value.nilFunc, .bool false, .bool false]) ?_ 2 _ rfl
    refine blk_put (cs := #[.int .i64 rl, .int .i64 0, Value.nilFunc, Value.nilFunc, .bool false, .bool false]) ?_ 1 _ rfl
    refine blk_put (cs := #[.int .i64 0, .int .i64 0, Value.nilFunc, Value.nilFunc, .bool false, .bool false]) ?_ 0 _ rfl
    rw [Below.heap_setCell _ _ _ _ (by show w.heap.size + 1 ≠ w.heap.size; omega), Below.heap_setCell _ _ _ _ (by show w.heap.size + 1 ≠ w.heap.size; omega)]
    exact K4.out) hu rfl (by kernel_rfl)) rfl ?_
  exact ⟨by rw [HVE.out], below_set (below_set (below_set (below_set (below_set (below_set (below_set (below_set HB2.out (by omega)) (by omega)) (by omega)) (by omega)) (by omega)) (by omega)) (by omega)) (by omega)⟩
-- the closures of a stretch
def gtax (p : S39) (d x : Int) : Int := (p.f1 + p.f2 * (x - p.f0)) / d
theorem floor_neg (a b : Int) (hb : 1 ≤ b) (ha : a < 0) : (a.tmod b < 0 → a.tdiv b - 1 = a / b) ∧ (0 ≤ a.tmod b → a.tdiv b = a / b) ∧ a / b ≤ a.tdiv b ∧ a.tdiv b ≤ 0 := by
  have h1 := Int.tdiv_eq_ediv (a := a) (b := b)
  have h2 := Int.tmod_eq_emod (a := a) (b := b)
  have h3 := Int.emod_nonneg a (show b ≠ 0 by omega)
  have h4 := Int.emod_lt_of_pos a (show 0 < b by omega)
  have h5 : a / b < 0 := Int.ediv_neg_of_neg_of_pos ha (by omega)
  have h6 : b.sign = 1 := Int.sign_eq_one_of_pos (by omega)
  have h7 : (b.natAbs : Int) = b := by omega
  rw [h6] at h1
  by_cases hd : b ∣ a
  · rw [if_pos (.inr hd)] at h1 h2
    exact ⟨fun h => by omega, fun _ => by omega, by omega, by omega⟩
  · have hn : ¬ (0 ≤ a ∨ b ∣ a) := fun h => h.elim (fun h => by omega) hd
    rw [if_neg hn] at h1 h2
    exact ⟨fun _ => by omega, fun h => by omega, by omega, by omega⟩
set_option maxHeartbeats 400000 in
theorem grossup_floor (a b : Int) (w : World) (hb : 1 ≤ b) (hb2 : b ≤ 1000000) (ha : -2000000000000000000 ≤ a) (ha2 : a ≤ 2000000000000000000) :
    Calls Try.prog 50 #[.int .i64 a, .int .i64 b] w fun e w' => e = .returned (.int .i64 (a / b)) ∧ w' = w := by
  have hne : ¬ b = 0 := by omega
  by_cases h0 : 0 ≤ a
  · have h1 : ¬ a % b < 0 := by have := Int.emod_nonneg a hne; omega
    go_enter Try.func50, Try.ntmps50
    go_wp2
    go_ret
    exact ⟨rfl, rfl⟩
  · have hf := floor_neg a b hb (by omega)
    have hl : -2000000000000000000 ≤ a / b := by have := Int.natAbs_ediv_le_natAbs a b; omega
    go_enter Try.func50, Try.ntmps50
    have HF := Aside0.mk hf
    clear hf
    go_wp2
    · go_ret
      have h := HF.out
      have hq : a.tmod b < 0 := by assumption
      exact ⟨congrArg (fun z => Ending.returned (Value.int .i64 z)) (by rw [w64 (by omega) (by omega), h.1 hq]), rfl⟩
    · go_ret
      have h := HF.out
      have hq : 0 ≤ a.tmod b := by assumption
      exact ⟨congrArg (fun z => Ending.returned (Value.int .i64 z)) (h.2.1 hq), rfl⟩
theorem gtax_bd {p : S39} {d x : Int} (hd : 1 ≤ d) (h1 : -1000000000000000000 ≤ p.f1) (h2 : p.f1 ≤ 1000000000000000000) (h3 : -1000000 ≤ p.f2) (h4 : p.f2 ≤ 1000000) (h5 : 0 ≤ x - p.f0) (h6 : x - p.f0 ≤ 1000000000000) :
    -1000000000000000000 ≤ p.f2 * (x - p.f0) ∧ p.f2 * (x - p.f0) ≤ 1000000000000000000 ∧ -2000000000000000000 ≤ gtax p d x ∧ gtax p d x ≤ 2000000000000000000 := by
  have e1 : -1000000000000000000 ≤ p.f2 * (x - p.f0) ∧ p.f2 * (x - p.f0) ≤ 1000000000000000000 := by
    have a1 := Int.mul_le_mul_of_nonneg_right h3 h5
    have a2 := Int.mul_le_mul_of_nonneg_right h4 h5
    omega
  refine ⟨e1.1, e1.2, ?_⟩
  have := Int.natAbs_ediv_le_natAbs (p.f1 + p.f2 * (x - p.f0)) d
  unfold gtax
  omega
/-- What a piece of a valid function keeps to. -/
def GP (p : S39) : Prop := -1000000000000000000 ≤ p.f1 ∧ p.f1 ≤ 1000000000000000000 ∧ -1000000 ≤ p.f2 ∧ p.f2 ≤ 1000000 ∧ 0 ≤ p.f0 ∧ p.f0 ≤ 1000000000000
theorem gtax_enter : ∀ args w1, (callFunc 49 args).run Try.prog w1 = .ok (.enter 49 args) w1 := by
  intro args w1
  go_simp
theorem gnet_enter : ∀ args w1, (callFunc 51 args).run Try.prog w1 = .ok (.enter 51 args) w1 := by
  intro args w1
  go_simp
set_option maxHeartbeats 400000 in
theorem gtax_calls (Bp Bf : Nat) (p : S39) (d x : Int) (fs : Value) (w : World) (hg : GP p) (hd : 1 ≤ d) (hd2 : d ≤ 1000000) (hx : p.f0 ≤ x) (hx2 : x ≤ 1000000000000)
    (hBp : w.heap[Bp]? = some (.cells #[.int .i64 p.f0, .int .i64 p.f1, .int .i64 p.f2] 39 (0, 0))) (hBf : w.heap[Bf]? = some (.cells #[.int .i64 d, fs] 24 (0, 0))) :
    Calls Try.prog 49 #[.int .i64 x, .pointer (some ⟨Bp, 0, none⟩), .pointer (some ⟨Bf, 0, none⟩)] w fun e w2 => e = .returned (.int .i64 (gtax p d x)) ∧ ∃ m, w2 = w.drewN m := by
  obtain ⟨g1, g2, g3, g4, g5, g6⟩ := hg
  have hb := gtax_bd (p := p) (d := d) (x := x) hd g1 g2 g3 g4 (by omega) (by omega)
  obtain ⟨b1, b2, b3, b4⟩ := hb
  have c0 := (blk_cell hBp 0).trans rfl
  have c1 := (blk_cell hBp 1).trans rfl
  have c2 := (blk_cell hBp 2).trans rfl
  have d0 := (blk_cell hBf 0).trans rfl
  have HC := Aside0.mk (grossup_floor (p.f1 + p.f2 * (x - p.f0)) d w hd hd2 (by omega) (by omega))
  change Aside0 (Calls _ _ _ _ fun e w' => e = .returned (.int .i64 (gtax p d x)) ∧ _) at HC
  generalize gtax p d x = y at *
  clear hBp hBf
  go_enter Try.func49, Try.ntmps49
  go_wp2_with fail
  refine HC.out.mono ?_
  rintro e w2 ⟨rfl, rfl⟩
  go_wp2
  go_ret
  exact ⟨rfl, 0, rfl⟩
set_option maxHeartbeats 400000 in
theorem gnet_calls (Bs Bp Bf : Nat) (p : S39) (d x : Int) (fs v0 v1 v3 v4 v5 : Value) (w : World) (hg : GP p) (hd : 1 ≤ d) (hd2 : d ≤ 1000000) (hx : p.f0 ≤ x) (hx2 : x ≤ 1000000000000)
    (hBs : w.heap[Bs]? = some (.cells #[v0, v1, .func (.func 49) #[] #[.pointer (some ⟨Bp, 0, none⟩), .pointer (some ⟨Bf, 0, none⟩)], v3, v4, v5] 53 (0, 0)))
    (hBp : w.heap[Bp]? = some (.cells #[.int .i64 p.f0, .int .i64 p.f1, .int .i64 p.f2] 39 (0, 0))) (hBf : w.heap[Bf]? = some (.cells #[.int .i64 d, fs] 24 (0, 0))) :
    Calls Try.prog 51 #[.int .i64 x, .pointer (some ⟨Bs, 0, none⟩)] w fun e w2 => e = .returned (.int .i64 (x - gtax p d x)) ∧ ∃ m, w2 = w.drewN m := by
  have HC := Aside0.mk (gtax_calls Bp Bf p d x fs w hg hd hd2 hx hx2 hBp hBf)
  obtain ⟨g1, g2, g3, g4, g5, g6⟩ := hg
  have hb := gtax_bd (p := p) (d := d) (x := x) hd g1 g2 g3 g4 (by omega) (by omega)
  obtain ⟨b1, b2, b3, b4⟩ := hb
  have c2 := (blk_cell hBs 2).trans rfl
  generalize gtax p d x = y at *
  clear hBp hBf hBs b1 b2
  go_enter Try.func51, Try.ntmps51
  go_wp2_with fail
  refine HC.out.mono ?_
  rintro e w2 ⟨rfl, m, rfl⟩
  go_wp2
  go_ret
  exact ⟨rfl, m, rfl⟩
-- IMPORT Derived.Test.YteapeglolkfimaaRgc
-- IMPORT Derived.RangeFuncNested
-- IMPORT Derived.RangeFuncBound
-- IMPORT Derived.RangeFuncCalls
-- IMPORT Derived.RangeFuncLeaves
-- IMPORT Derived.Shelf.Abstract
-- IMPORT Derived.Shelf.RegionOpen
-- IMPORT Derived.OwnWalkIn
-- IMPORT Derived.TacticsInMore
-- IMPORT Derived.LoopNIn
-- IMPORT Derived.LoopIn
-- IMPORT Derived.Outline
attribute [local go_sem] Oper.semAt_some
def ghi (l : List S39) (k : Nat) : Int := if k + 1 < l.length then (rd_T39 l ((k + 1 : Nat) : Int)).f0 - 1 else 1000000000000
def glow (d : Int) (l : List S39) (k : Nat) : Int := cutL (rd_T39 l (k : Int)).f0 (ghi l k) (gtax (rd_T39 l (k : Int)) d) (decide ((rd_T39 l (k : Int)).f2 < 0)) (-1000000000000) 1000000000000
def ghigh (d : Int) (l : List S39) (k : Nat) : Int := cutH (rd_T39 l (k : Int)).f0 (ghi l k) (gtax (rd_T39 l (k : Int)) d) (decide ((rd_T39 l (k : Int)).f2 < 0)) (-1000000000000) 1000000000000
/-- What is handed over at round k, and what lies in memory then. -/
def CS (d : Int) (l : List S39) (Bf : Nat) (fs : Value) (k : Nat) (x : Array Value) (W : World) : Prop :=
  ∃ Bp Bs : Nat, x = #[.agg #[.int .i64 (glow d l k), .int .i64 (ghigh d l k), .func (.func 49) #[] #[.pointer (some ⟨Bp, 0, none⟩), .pointer (some ⟨Bf, 0, none⟩)], .func (.func 51) #[] #[.pointer (some ⟨Bs, 0, none⟩)], .bool (decide ((rd_T39 l (k : Int)).f2 < 0)), .bool (decide (d < (rd_T39 l (k : Int)).f2))]] ∧
    W.heap[Bp]? = some (.cells #[.int .i64 (rd_T39 l (k : Int)).f0, .int .i64 (rd_T39 l (k : Int)).f1, .int .i64 (rd_T39 l (k : Int)).f2] 39 (0, 0)) ∧
    W.heap[Bs]? = some (.cells #[.int .i64 (rd_T39 l (k : Int)).f0, .int .i64 (ghi l k), .func (.func 49) #[] #[.pointer (some ⟨Bp, 0, none⟩), .pointer (some ⟨Bf, 0, none⟩)], .func (.func 51) #[] #[.pointer (some ⟨Bs, 0, none⟩)], .bool (decide ((rd_T39 l (k : Int)).f2 < 0)), .bool (decide (d < (rd_T39 l (k : Int)).f2))] 53 (0, 0)) ∧
    W.heap[Bf]? = some (.cells #[.int .i64 d, fs] 24 (0, 0))
set_option maxRecDepth 100000 in
set_option maxHeartbeats 1000000 in
/-- One stretch: the part of it where there is a tax. -/
theorem str_tax (wr : World) (Bf : Nat) (d : Int) (fs : Value) (y : S39) (hi : Int) (hg : GP y) (hd : 1 ≤ d) (hd2 : d ≤ 1000000) (h1 : hi ≤ 1000000000000) (hBf : wr.heap[Bf]? = some (.cells #[.int .i64 d, fs] 24 (0, 0))) :
    Calls Try.prog 52 #[.agg #[.int .i64 y.f0, .int .i64 hi, .func (.func 49) #[] #[.pointer (some ⟨wr.heap.size, 0, none⟩), .pointer (some ⟨Bf, 0, none⟩)], .func (.func 51) #[] #[.pointer (some ⟨wr.heap.size + 1, 0, none⟩)], .bool (decide (y.f2 < 0)), .bool (decide (d < y.f2))]]
      ((wr.alloc (.cells #[.int .i64 y.f0, .int .i64 y.f1, .int .i64 y.f2] 39)).alloc (.cells #[.int .i64 y.f0, .int .i64 hi, .func (.func 49) #[] #[.pointer (some ⟨wr.heap.size, 0, none⟩), .pointer (some ⟨Bf, 0, none⟩)], .func (.func 51) #[] #[.pointer (some ⟨wr.heap.size + 1, 0, none⟩)], .bool (decide (y.f2 < 0)), .bool (decide (d < y.f2))] 53))
      fun e w2 => e = .returned (.agg #[.int .i64 (cutL y.f0 hi (gtax y d) (decide (y.f2 < 0)) (-1000000000000) 1000000000000), .int .i64 (cutH y.f0 hi (gtax y d) (decide (y.f2 < 0)) (-1000000000000) 1000000000000), .func (.func 49) #[] #[.pointer (some ⟨wr.heap.size, 0, none⟩), .pointer (some ⟨Bf, 0, none⟩)], .func (.func 51) #[] #[.pointer (some ⟨wr.heap.size + 1, 0, none⟩)], .bool (decide (y.f2 < 0)), .bool (decide (d < y.f2))]) ∧
        Below wr.heap.size wr w2 ∧ w2.heap[wr.heap.size]? = some (.cells #[.int .i64 y.f0, .int .i64 y.f1, .int .i64 y.f2] 39 (0, 0)) ∧
        w2.heap[wr.heap.size + 1]? = some (.cells #[.int .i64 y.f0, .int .i64 hi, .func (.func 49) #[] #[.pointer (some ⟨wr.heap.size, 0, none⟩), .pointer (some ⟨Bf, 0, none⟩)], .func (.func 51) #[] #[.pointer (some ⟨wr.heap.size + 1, 0, none⟩)], .bool (decide (y.f2 < 0)), .bool (decide (d < y.f2))] 53 (0, 0)) ∧
        w2.heap[Bf]? = some (.cells #[.int .i64 d, fs] 24 (0, 0)) := by
  obtain ⟨W, hW⟩ : ∃ W, W = (wr.alloc (.cells #[.int .i64 y.f0, .int .i64 y.f1, .int .i64 y.f2] 39)).alloc (.cells #[.int .i64 y.f0, .int .i64 hi, .func (.func 49) #[] #[.pointer (some ⟨wr.heap.size, 0, none⟩), .pointer (some ⟨Bf, 0, none⟩)], .func (.func 51) #[] #[.pointer (some ⟨wr.heap.size + 1, 0, none⟩)], .bool (decide (y.f2 < 0)), .bool (decide (d < y.f2))] 53) := ⟨_, rfl⟩
  have k1 : W.heap[wr.heap.size]? = some (.cells #[.int .i64 y.f0, .int .i64 y.f1, .int .i64 y.f2] 39 (0, 0)) := by subst hW; exact blk_alloc (blk_new _ _) _
  have k2 : W.heap[wr.heap.size + 1]? = some (.cells #[.int .i64 y.f0, .int .i64 hi, .func (.func 49) #[] #[.pointer (some ⟨wr.heap.size, 0, none⟩), .pointer (some ⟨Bf, 0, none⟩)], .func (.func 51) #[] #[.pointer (some ⟨wr.heap.size + 1, 0, none⟩)], .bool (decide (y.f2 < 0)), .bool (decide (d < y.f2))] 53 (0, 0)) := by
    subst hW; have := blk_new (wr.alloc (.cells #[.int .i64 y.f0, .int .i64 y.f1, .int .i64 y.f2] 39)) (.cells #[.int .i64 y.f0, .int .i64 hi, .func (.func 49) #[] #[.pointer (some ⟨wr.heap.size, 0, none⟩), .pointer (some ⟨Bf, 0, none⟩)], .func (.func 51) #[] #[.pointer (some ⟨wr.heap.size + 1, 0, none⟩)], .bool (decide (y.f2 < 0)), .bool (decide (d < y.f2))] 53); rwa [World.size_alloc] at this
  have k3 : W.heap[Bf]? = some (.cells #[.int .i64 d, fs] 24 (0, 0)) := by subst hW; exact blk_alloc (blk_alloc hBf _) _
  have hB : Below wr.heap.size wr W := by subst hW; exact below_alloc (below_alloc (Below.refl _ _) _) _
  rw [← hW]
  obtain ⟨g1, g2, g3, g4, g5, g6⟩ := id hg
  refine (grossup_taxed.calls 49 #[.pointer (some ⟨wr.heap.size, 0, none⟩), .pointer (some ⟨Bf, 0, none⟩)] y.f0 hi (gtax y d) (decide (y.f2 < 0)) (decide (d < y.f2)) (.func (.func 51) #[] #[.pointer (some ⟨wr.heap.size + 1, 0, none⟩)]) W gtax_enter g5 (by omega) (by omega) rfl (fun x w1 hx hy hb =>
    gtax_calls wr.heap.size Bf y d x fs w1 hg hd hd2 hx (by omega) (blk_below k1 hb) (blk_below k3 hb))).mono ?_
  rintro e w2 ⟨rfl, hb⟩
  exact ⟨rfl, below_step hB hb, blk_below k1 hb, blk_below k2 hb, blk_below k3 hb⟩
set_option maxRecDepth 100000 in
set_option maxHeartbeats 4000000 in
theorem str_seq (Bf : Nat) (d : Int) (A : Option Addr) (c : Nat) (l : List S39) (w0 w : World) (hd : 1 ≤ d) (hd2 : d ≤ 1000000) (hg : ∀ k, k < l.length → GP (rd_T39 l (k : Int)))
    (hBf : w.heap[Bf]? = some (.cells #[.int .i64 d, .slice A l.length c] 24 (0, 0))) (hC : Kd.C k39 w0 A l.length l) (hW : Below w0.heap.size w0 w) :
    Rgc.Seq Fence.wide 3 Try.prog 48 #[.pointer (some ⟨Bf, 0, none⟩)] (CS d l Bf (.slice A l.length c)) (fun X Y => Below w0.heap.size X Y ∧ Y.heap[Bf]? = X.heap[Bf]?) l.length w := by
  intro lp J Jx W hWW hJ hY h0
  have huF := Try.underlying24
  have huP := Try.underlying39
  have huS := Try.underlying22
  have huT := Try.underlying53
  have hm0 : l.length ≤ 9223372036854775807 := hC.2.1
  have HC := Aside0.mk hC
  have HJ := Aside0.mk hJ
  have HYY := Aside0.mk hY
  have HBF := Aside0.mk ((hWW.block _ (blk_lt hBf)).trans hBf)
  have HW := Aside0.mk (hW.trans (hWW.mono hW.size))
  have H0 := Aside0.mk h0
  have HG := Aside0.mk hg
  clear hC hJ hY hBf hW h0 hg
  refine callsIn_of_wp Try.func48 rfl trivial ?_ rfl
  simp only [Try.ntmps48, List.size_toArray, List.length_cons, List.length_nil, Nat.reduceAdd, Nat.reduceSub, Array.replicate_succ, Array.replicate_zero, List.push_toArray, List.append_toArray, List.nil_append, List.cons_append]
  have q0 := (blk_cell HBF.out 0).trans rfl
  have q1 := (blk_cell HBF.out 1).trans rfl
  gi_wp2
  gi_loopw [9] (fun i wr => ∃ k : Nat, k ≤ l.length ∧ i = .int .i64 k ∧ Aside0 (J k wr) ∧ Aside0 (Below w0.heap.size w0 wr) ∧ Aside0 (wr.heap[Bf]? = some (.cells #[.int .i64 d, .slice A l.length c] 24 (0, 0))))
    (fun i _ => l.length - (intOf i).toNat)
  case atStart => exact ⟨0, Nat.zero_le _, rfl, H0, HW, HBF⟩
  case round =>
    obtain ⟨k, hk, rfl, HJk, HB, HQ⟩ := hrel
    clear q0 q1
    have q0 := (blk_cell HQ.out 0).trans rfl
    have q1 := (blk_cell HQ.out 1).trans rfl
    have hBl : Bf < wr.heap.size := blk_lt HQ.out
    have rN := fun (X : World) (a : Addr) => run_store Try.prog X a Value.nilFunc .plain rfl
    have rF := fun (X : World) (a : Addr) (f : Fn) (x y : Array Value) => run_store Try.prog X a (Value.func f x y) .plain rfl
    by_cases hlt : k < l.length
    · obtain ⟨ad, rfl, g0, g1, g2⟩ := at_T39 HC.out (k : Int) (by omega) (by omega)
      rw [Int.toNat_natCast] at g0 g1 g2
      have HGP := Aside0.mk (HG.out k hlt)
      obtain ⟨y, hy⟩ : ∃ y, rd_T39 l (k : Int) = y := ⟨_, rfl⟩
      rw [hy] at g0 g1 g2 HGP
      have HY := Aside0.mk hy
      clear hy
      replace g0 := (HB.out.cell (World.block_lt_of_cell? w0 _ g0)).trans g0
      replace g1 := (HB.out.cell (World.block_lt_of_cell? w0 _ g1)).trans g1
      replace g2 := (HB.out.cell (World.block_lt_of_cell? w0 _ g2)).trans g2
      by_cases hnx : k + 1 < l.length
      · obtain ⟨ad', e', j0, _, _⟩ := at_T39 HC.out ((k + 1 : Nat) : Int) (by omega) (by omega)
        obtain rfl := Option.some.inj e'
        rw [Int.toNat_natCast] at j0
        replace j0 := (HB.out.cell (World.block_lt_of_cell? w0 _ j0)).trans j0
        obtain ⟨nx, hnxe⟩ : ∃ nx, (rd_T39 l ((k + 1 : Nat) : Int)).f0 = nx := ⟨_, rfl⟩
        have HNG := (HG.out (k + 1) hnx).2.2.2.2
        rw [hnxe] at j0 HNG
        obtain ⟨n1, n2⟩ := HNG
        have hAl := World.block_lt_of_cell? wr _ j0
        have HNX := Aside0.mk hnxe
        clear hnxe e'
        have hHI : ghi l k = nx - 1 := by unfold ghi; rw [if_pos hnx, HNX.out]
        have HHI := Aside0.mk hHI
        have HN := Aside0.mk hnx
        clear hHI
        gi_wp2_with fail
        refine ⟨trivial, ?_⟩
        refine (callsIn_wide.2 (str_tax wr Bf d _ y (nx - 1) HGP.out hd hd2 (by omega) HQ.out)).mono ?_
        rintro e w2 ⟨rfl, hb2, k1, k2, k3⟩
        have HB2 := Aside0.mk (below_step HB.out hb2)
        have HJ2 := Aside0.mk (HJ.out k wr w2 none HJk.out ⟨hb2.os, hb2.tape, hb2.output, hb2.size, fun j hj _ => hb2.block j hj⟩ (fun r e => by cases e))
        obtain ⟨fn, tmps, assign, body, hyy, hR⟩ := HYY.out k _ w2 HJ2.out hlt ⟨wr.heap.size, wr.heap.size + 1, by unfold glow ghigh; rw [HHI.out, HY.out], by rw [HY.out]; exact k1, by rw [HHI.out, HY.out]; exact k2, k3⟩
        have HK3 := Aside0.mk k3
        clear hb2 k1 k2 k3 g0 g1 g2 j0 hAl q0 q1
        gi_wp2
        refine hR.mono ?_
        rintro e W3 (⟨rfl, hJ3, hk3, hk4⟩ | ⟨rfl, hJx3⟩)
        · have HJ3 := Aside0.mk hJ3
          have HB3 := Aside0.mk (HB2.out.trans hk3)
          have HQ3 := Aside0.mk (hk4.trans HK3.out)
          clear hJ3 hk3 hk4
          gi_wp2
          go_roundw
          case rel => exact ⟨k + 1, by omega, by go_num, HJ3, HB3, HQ3⟩
          case measure => simp [intOf]; omega
        · gi_wp2
          refine bodyPost_ret (results_none rfl _ _ _) rfl ?_
          exact ⟨⟨_, rfl⟩, .inr ⟨k, hlt, hJx3⟩⟩
      · have hHI : ghi l k = 1000000000000 := by unfold ghi; rw [if_neg hnx]
        have HHI := Aside0.mk hHI
        have HN := Aside0.mk hnx
        clear hHI
        gi_wp2_with fail
        refine ⟨trivial, ?_⟩
        refine (callsIn_wide.2 (str_tax wr Bf d _ y 1000000000000 HGP.out hd hd2 (by omega) HQ.out)).mono ?_
        rintro e w2 ⟨rfl, hb2, k1, k2, k3⟩
        have HB2 := Aside0.mk (below_step HB.out hb2)
        have HJ2 := Aside0.mk (HJ.out k wr w2 none HJk.out ⟨hb2.os, hb2.tape, hb2.output, hb2.size, fun j hj _ => hb2.block j hj⟩ (fun r e => by cases e))
        obtain ⟨fn, tmps, assign, body, hyy, hR⟩ := HYY.out k _ w2 HJ2.out hlt ⟨wr.heap.size, wr.heap.size + 1, by unfold glow ghigh; rw [HHI.out, HY.out], by rw [HY.out]; exact k1, by rw [HHI.out, HY.out]; exact k2, k3⟩
        have HK3 := Aside0.mk k3
        clear hb2 k1 k2 k3 g0 g1 g2 q0 q1
        gi_wp2
        refine hR.mono ?_
        rintro e W3 (⟨rfl, hJ3, hk3, hk4⟩ | ⟨rfl, hJx3⟩)
        · have HJ3 := Aside0.mk hJ3
          have HB3 := Aside0.mk (HB2.out.trans hk3)
          have HQ3 := Aside0.mk (hk4.trans HK3.out)
          clear hJ3 hk3 hk4
          gi_wp2
          go_roundw
          case rel => exact ⟨k + 1, by omega, by go_num, HJ3, HB3, HQ3⟩
          case measure => simp [intOf]; omega
        · gi_wp2
          refine bodyPost_ret (results_none rfl _ _ _) rfl ?_
          exact ⟨⟨_, rfl⟩, .inr ⟨k, hlt, hJx3⟩⟩
    · have hkl : k = l.length := by omega
      subst hkl
      gi_wp2
      go_end0
      exact ⟨⟨_, rfl⟩, .inl HJk.out⟩


end Go.Proofs.Yteapeglolkfimaa.My
end
section
-- Written by a program of this session (wip/myprint.py), which drives the kit's print over hand-written fragments. Not trusted: Lean checks it.


namespace Go.Proofs.Yteapeglolkfimaa.My
open Go.Proofs.Yteapeglolkfimaa.Aid Go.Proofs.Yteapeglolkfimaa.KdX
open Go.RowKit Go.Proofs.YteapeglolkfimaaW.PrintWords Go.Proofs.YteapeglolkfimaaW.PrintLast Go.Proofs.YteapeglolkfimaaW.PrintMore
attribute [local go_sem] max2_int min2_int max_two min_two max_three min_three max_four min_four   -- for this text's walks alone
set_option linter.unusedVariables false
set_option linter.unusedSimpArgs false

/-! ### grossup_check: function 28 -/
def grossup_check.f (k : Nat) (a0_0 : Int) (l0_1 : List (S39)) (a1 : Int) : Option (Int) := (piecewise_Valid.f k a0_0 l0_1).bind fun t127 => (if t127 = true then (if a1 < (-1000000000000) then (some 3) else (if a1 > 1000000000000 then (some 3) else (some 0))) else (some 1))
theorem grossup_check.mono : ∀ a0 a1 a2 k, LeO (grossup_check.f k a0 a1 a2) (grossup_check.f (k + 1) a0 a1 a2) := by
  intro a0 a1 a2 k
  unfold grossup_check.f
  repeat' first
      | (with_reducible exact piecewise_Valid.mono _ _ _)
      | (with_reducible exact LeO.refl _)
      | (with_reducible exact LeO.none _)
      | (with_reducible refine LeO.ite ?_ ?_)
      | (with_reducible refine LeO.bind ?_ (fun _ => ?_))
      | exact piecewise_Valid.mono _ _ _
      | exact LeO.none _
      | refine LeO.ite ?_ ?_
      | refine LeO.bind ?_ (fun _ => ?_)
set_option maxHeartbeats 8000000 in
set_option maxRecDepth 100000 in
theorem grossup_check.calls (k : Nat) (a0_0 : Int) (A0_1 : Option Addr) (c0_1 : Nat) (l0_1 : List (S39)) (a1 : Int) (r : Int) (w : World) (hr0_1 : Kd.C k39 w A0_1 l0_1.length l0_1) (hc0_1 : l0_1.length ≤ c0_1) (h : grossup_check.f k a0_0 l0_1 a1 = some r) :
    Calls Try.prog 28 #[.agg #[.int .i64 a0_0, .slice A0_1 l0_1.length c0_1], .int .i64 a1] w fun e w' => e = .returned (.int .i64 r) ∧ Below w.heap.size w w' := by
  have hu24 := Try.underlying24
  have HR0_1 := Aside0.mk hr0_1
  have HC0_1 := Aside0.mk hc0_1
  clear hr0_1 hc0_1
  have HB := Aside0.mk (Below.refl w.heap.size w)
  have H : ((piecewise_Valid.f k a0_0 l0_1).bind fun t127 => (if t127 = true then (if a1 < (-1000000000000) then (some 3) else (if a1 > 1000000000000 then (some 3) else (some 0))) else (some 1))) = some r := h
  clear h
  replace H := Option.bind_eq_some_iff.mp H
  obtain ⟨t127, A30, H⟩ := H
  replace H : (if t127 = true then (if a1 < (-1000000000000) then (some 3) else (if a1 > 1000000000000 then (some 3) else (some 0))) else (some 1)) = some r := H
  have A3 := Aside0.mk A30
  clear A30
  by_cases c4 : t127 = true
  · subst c4
    have H1 : (if a1 < (-1000000000000) then (some 3) else (if a1 > 1000000000000 then (some 3) else (some 0))) = some r := by rw [if_pos rfl] at H; exact H
    clear H
    have H := H1
    clear H1
    by_cases c5 : a1 < (-1000000000000)
    · rw [if_pos c5] at H
      have c5b0 : decide (a1 < (-1000000000000)) = true := decide_eq_true c5
      clear c5
      obtain rfl := Option.some.inj H
      go_enter Try.func28, Try.ntmps28
      go_wp2_with (first | ((with_reducible refine gate_dst (N := 2) rfl ?_); refine box_event ?hg (N := 2) ?hd (cs := #[.int .i64 a0_0, .slice A0_1 l0_1.length c0_1]) (t := 24) ?hr ?_; (case hd => rfl); (case hg => rfl); (case hr => first | (go_simp; done) | (go_simp; rfl)); intro gb126 hg w6 hbox hb; have n0_ := Aside0.mk (below_step (by repeat (first | (with_reducible first | exact HB.out | apply below_alloc | apply pw_below_drewN | apply below_drew1) | exact HB.out)) hb); have n1_ := Aside0.mk (hbox); have n2_ := Aside0.mk ((by rw [hg]; exact (below_size (by repeat (first | (with_reducible first | exact HB.out | apply below_alloc | apply pw_below_drewN | apply below_drew1) | exact HB.out))) : w.heap.size ≤ gb126)); have n3_ := Aside0.mk ((by rw [hg]; exact (below_size (by repeat (first | (with_reducible first | exact HB.out | apply below_alloc | apply pw_below_drewN | apply below_drew1) | exact HB.out))) : w.heap.size ≤ gb126)); clear HB; have HB := n0_; have BK126 := n1_; have GW126 := n2_; have GE126 := n3_; clear n0_ n1_ n2_ n3_; clear hb hbox hg; have hcz7_0 : w6.cell? ⟨gb126, 0, none⟩ = some (.int .i64 a0_0) := (blk_cell BK126.out 0).trans rfl; have hcz7_1 : w6.cell? ⟨gb126, 1, none⟩ = some (.slice A0_1 l0_1.length c0_1) := (blk_cell BK126.out 1).trans rfl; have hfz7_0 := blk_frozen BK126.out 0; have hfz7_1 := blk_frozen BK126.out 1) | ((with_reducible refine gate_callee (f := 47) rfl ?_); refine goesL_ (some 7) rfl rfl Try.func47 (by kernel_rfl) rfl #[.agg #[.int .i64 a0_0, .slice A0_1 l0_1.length c0_1]] rfl (by (try simp only [List.map_toArray, List.map_cons, List.map_nil]); first | done | rfl | (simp only [List.length_drop, List.length_take]; rfl)) ?_; (with_reducible refine (piecewise_Valid.calls k a0_0 _ _ l0_1 true _ ?side1 ?side2 A3.out).mono ?_); (case side1 => repeat (first | exact (Kd.C_below HR0_1.out HB.out) | (with_reducible refine Kd.C_alloc ?_ _) | (with_reducible refine Kd.C_drewN ?_ _) | (with_reducible refine Kd.C_drew ?_))); (case side2 => exact HC0_1.out); rintro e w8 ⟨rfl, hb⟩; refine ⟨_, rfl, ?_⟩; have n0_ := Aside0.mk (blk_below (g := gb126) (o := .cells #[.int .i64 a0_0, .slice A0_1 l0_1.length c0_1] 24 (0, 0)) (by (with_reducible repeat (first | refine blk_drewN ?_ _ | refine blk_drew ?_ | refine blk_alloc ?_ _)); exact BK126.out) hb); have n1_ := Aside0.mk (below_step (by repeat (first | (with_reducible first | exact HB.out | apply below_alloc | apply pw_below_drewN | apply below_drew1 | refine below_set ?_ GE126.out) | exact HB.out)) hb); clear BK126; clear HB; have BK126 := n0_; have HB := n1_; clear n0_ n1_; (try clear hb); (try clear hb2); (try clear hk); (try clear hi)))
      go_ret
      exact ⟨by first | rfl | (simp [errW_none, errW_some] <;> rfl) | (simp [*, errW_none, errW_some] <;> rfl), by repeat (first | (with_reducible first | exact HB.out | apply below_alloc | apply pw_below_drewN | apply below_drew1 | refine below_set ?_ GE126.out) | exact HB.out)⟩
    · rw [if_neg c5] at H
      have c5b0 : decide (a1 < (-1000000000000)) = false := decide_eq_false c5
      clear c5
      by_cases c9 : a1 > 1000000000000
      · rw [if_pos c9] at H
        have c9b0 : decide (1000000000000 < a1) = true := decide_eq_true c9
        clear c9
        obtain rfl := Option.some.inj H
        go_enter Try.func28, Try.ntmps28
        go_wp2_with (first | ((with_reducible refine gate_dst (N := 2) rfl ?_); refine box_event ?hg (N := 2) ?hd (cs := #[.int .i64 a0_0, .slice A0_1 l0_1.length c0_1]) (t := 24) ?hr ?_; (case hd => rfl); (case hg => rfl); (case hr => first | (go_simp; done) | (go_simp; rfl)); intro gb126 hg w10 hbox hb; have n0_ := Aside0.mk (below_step (by repeat (first | (with_reducible first | exact HB.out | apply below_alloc | apply pw_below_drewN | apply below_drew1) | exact HB.out)) hb); have n1_ := Aside0.mk (hbox); have n2_ := Aside0.mk ((by rw [hg]; exact (below_size (by repeat (first | (with_reducible first | exact HB.out | apply below_alloc | apply pw_below_drewN | apply below_drew1) | exact HB.out))) : w.heap.size ≤ gb126)); have n3_ := Aside0.mk ((by rw [hg]; exact (below_size (by repeat (first | (with_reducible first | exact HB.out | apply below_alloc | apply pw_below_drewN | apply below_drew1) | exact HB.out))) : w.heap.size ≤ gb126)); clear HB; have HB := n0_; have BK126 := n1_; have GW126 := n2_; have GE126 := n3_; clear n0_ n1_ n2_ n3_; clear hb hbox hg; have hcz11_0 : w10.cell? ⟨gb126, 0, none⟩ = some (.int .i64 a0_0) := (blk_cell BK126.out 0).trans rfl; have hcz11_1 : w10.cell? ⟨gb126, 1, none⟩ = some (.slice A0_1 l0_1.length c0_1) := (blk_cell BK126.out 1).trans rfl; have hfz11_0 := blk_frozen BK126.out 0; have hfz11_1 := blk_frozen BK126.out 1) | ((with_reducible refine gate_callee (f := 47) rfl ?_); refine goesL_ (some 7) rfl rfl Try.func47 (by kernel_rfl) rfl #[.agg #[.int .i64 a0_0, .slice A0_1 l0_1.length c0_1]] rfl (by (try simp only [List.map_toArray, List.map_cons, List.map_nil]); first | done | rfl | (simp only [List.length_drop, List.length_take]; rfl)) ?_; (with_reducible refine (piecewise_Valid.calls k a0_0 _ _ l0_1 true _ ?side1 ?side2 A3.out).mono ?_); (case side1 => repeat (first | exact (Kd.C_below HR0_1.out HB.out) | (with_reducible refine Kd.C_alloc ?_ _) | (with_reducible refine Kd.C_drewN ?_ _) | (with_reducible refine Kd.C_drew ?_))); (case side2 => exact HC0_1.out); rintro e w12 ⟨rfl, hb⟩; refine ⟨_, rfl, ?_⟩; have n0_ := Aside0.mk (blk_below (g := gb126) (o := .cells #[.int .i64 a0_0, .slice A0_1 l0_1.length c0_1] 24 (0, 0)) (by (with_reducible repeat (first | refine blk_drewN ?_ _ | refine blk_drew ?_ | refine blk_alloc ?_ _)); exact BK126.out) hb); have n1_ := Aside0.mk (below_step (by repeat (first | (with_reducible first | exact HB.out | apply below_alloc | apply pw_below_drewN | apply below_drew1 | refine below_set ?_ GE126.out) | exact HB.out)) hb); clear BK126; clear HB; have BK126 := n0_; have HB := n1_; clear n0_ n1_; (try clear hb); (try clear hb2); (try clear hk); (try clear hi)))
        go_ret
        exact ⟨by first | rfl | (simp [errW_none, errW_some] <;> rfl) | (simp [*, errW_none, errW_some] <;> rfl), by repeat (first | (with_reducible first | exact HB.out | apply below_alloc | apply pw_below_drewN | apply below_drew1 | refine below_set ?_ GE126.out) | exact HB.out)⟩
      · rw [if_neg c9] at H
        have c9b0 : decide (1000000000000 < a1) = false := decide_eq_false c9
        clear c9
        obtain rfl := Option.some.inj H
        go_enter Try.func28, Try.ntmps28
        go_wp2_with (first | ((with_reducible refine gate_dst (N := 2) rfl ?_); refine box_event ?hg (N := 2) ?hd (cs := #[.int .i64 a0_0, .slice A0_1 l0_1.length c0_1]) (t := 24) ?hr ?_; (case hd => rfl); (case hg => rfl); (case hr => first | (go_simp; done) | (go_simp; rfl)); intro gb126 hg w13 hbox hb; have n0_ := Aside0.mk (below_step (by repeat (first | (with_reducible first | exact HB.out | apply below_alloc | apply pw_below_drewN | apply below_drew1) | exact HB.out)) hb); have n1_ := Aside0.mk (hbox); have n2_ := Aside0.mk ((by rw [hg]; exact (below_size (by repeat (first | (with_reducible first | exact HB.out | apply below_alloc | apply pw_below_drewN | apply below_drew1) | exact HB.out))) : w.heap.size ≤ gb126)); have n3_ := Aside0.mk ((by rw [hg]; exact (below_size (by repeat (first | (with_reducible first | exact HB.out | apply below_alloc | apply pw_below_drewN | apply below_drew1) | exact HB.out))) : w.heap.size ≤ gb126)); clear HB; have HB := n0_; have BK126 := n1_; have GW126 := n2_; have GE126 := n3_; clear n0_ n1_ n2_ n3_; clear hb hbox hg; have hcz14_0 : w13.cell? ⟨gb126, 0, none⟩ = some (.int .i64 a0_0) := (blk_cell BK126.out 0).trans rfl; have hcz14_1 : w13.cell? ⟨gb126, 1, none⟩ = some (.slice A0_1 l0_1.length c0_1) := (blk_cell BK126.out 1).trans rfl; have hfz14_0 := blk_frozen BK126.out 0; have hfz14_1 := blk_frozen BK126.out 1) | ((with_reducible refine gate_callee (f := 47) rfl ?_); refine goesL_ (some 7) rfl rfl Try.func47 (by kernel_rfl) rfl #[.agg #[.int .i64 a0_0, .slice A0_1 l0_1.length c0_1]] rfl (by (try simp only [List.map_toArray, List.map_cons, List.map_nil]); first | done | rfl | (simp only [List.length_drop, List.length_take]; rfl)) ?_; (with_reducible refine (piecewise_Valid.calls k a0_0 _ _ l0_1 true _ ?side1 ?side2 A3.out).mono ?_); (case side1 => repeat (first | exact (Kd.C_below HR0_1.out HB.out) | (with_reducible refine Kd.C_alloc ?_ _) | (with_reducible refine Kd.C_drewN ?_ _) | (with_reducible refine Kd.C_drew ?_))); (case side2 => exact HC0_1.out); rintro e w15 ⟨rfl, hb⟩; refine ⟨_, rfl, ?_⟩; have n0_ := Aside0.mk (blk_below (g := gb126) (o := .cells #[.int .i64 a0_0, .slice A0_1 l0_1.length c0_1] 24 (0, 0)) (by (with_reducible repeat (first | refine blk_drewN ?_ _ | refine blk_drew ?_ | refine blk_alloc ?_ _)); exact BK126.out) hb); have n1_ := Aside0.mk (below_step (by repeat (first | (with_reducible first | exact HB.out | apply below_alloc | apply pw_below_drewN | apply below_drew1 | refine below_set ?_ GE126.out) | exact HB.out)) hb); clear BK126; clear HB; have BK126 := n0_; have HB := n1_; clear n0_ n1_; (try clear hb); (try clear hb2); (try clear hk); (try clear hi)))
        go_ret
        exact ⟨by first | rfl | (simp [errW_none, errW_some] <;> rfl) | (simp [*, errW_none, errW_some] <;> rfl), by repeat (first | (with_reducible first | exact HB.out | apply below_alloc | apply pw_below_drewN | apply below_drew1 | refine below_set ?_ GE126.out) | exact HB.out)⟩
  · replace c4 := Bool.eq_false_iff.mpr c4
    subst c4
    have H1 : (some 1) = some r := by rw [if_neg (show ¬ (false = true) by decide)] at H; exact H
    clear H
    have H := H1
    clear H1
    obtain rfl := Option.some.inj H
    go_enter Try.func28, Try.ntmps28
    go_wp2_with (first | ((with_reducible refine gate_dst (N := 2) rfl ?_); refine box_event ?hg (N := 2) ?hd (cs := #[.int .i64 a0_0, .slice A0_1 l0_1.length c0_1]) (t := 24) ?hr ?_; (case hd => rfl); (case hg => rfl); (case hr => first | (go_simp; done) | (go_simp; rfl)); intro gb126 hg w16 hbox hb; have n0_ := Aside0.mk (below_step (by repeat (first | (with_reducible first | exact HB.out | apply below_alloc | apply pw_below_drewN | apply below_drew1) | exact HB.out)) hb); have n1_ := Aside0.mk (hbox); have n2_ := Aside0.mk ((by rw [hg]; exact (below_size (by repeat (first | (with_reducible first | exact HB.out | apply below_alloc | apply pw_below_drewN | apply below_drew1) | exact HB.out))) : w.heap.size ≤ gb126)); have n3_ := Aside0.mk ((by rw [hg]; exact (below_size (by repeat (first | (with_reducible first | exact HB.out | apply below_alloc | apply pw_below_drewN | apply below_drew1) | exact HB.out))) : w.heap.size ≤ gb126)); clear HB; have HB := n0_; have BK126 := n1_; have GW126 := n2_; have GE126 := n3_; clear n0_ n1_ n2_ n3_; clear hb hbox hg; have hcz17_0 : w16.cell? ⟨gb126, 0, none⟩ = some (.int .i64 a0_0) := (blk_cell BK126.out 0).trans rfl; have hcz17_1 : w16.cell? ⟨gb126, 1, none⟩ = some (.slice A0_1 l0_1.length c0_1) := (blk_cell BK126.out 1).trans rfl; have hfz17_0 := blk_frozen BK126.out 0; have hfz17_1 := blk_frozen BK126.out 1) | ((with_reducible refine gate_callee (f := 47) rfl ?_); refine goesL_ (some 7) rfl rfl Try.func47 (by kernel_rfl) rfl #[.agg #[.int .i64 a0_0, .slice A0_1 l0_1.length c0_1]] rfl (by (try simp only [List.map_toArray, List.map_cons, List.map_nil]); first | done | rfl | (simp only [List.length_drop, List.length_take]; rfl)) ?_; (with_reducible refine (piecewise_Valid.calls k a0_0 _ _ l0_1 false _ ?side1 ?side2 A3.out).mono ?_); (case side1 => repeat (first | exact (Kd.C_below HR0_1.out HB.out) | (with_reducible refine Kd.C_alloc ?_ _) | (with_reducible refine Kd.C_drewN ?_ _) | (with_reducible refine Kd.C_drew ?_))); (case side2 => exact HC0_1.out); rintro e w18 ⟨rfl, hb⟩; refine ⟨_, rfl, ?_⟩; have n0_ := Aside0.mk (blk_below (g := gb126) (o := .cells #[.int .i64 a0_0, .slice A0_1 l0_1.length c0_1] 24 (0, 0)) (by (with_reducible repeat (first | refine blk_drewN ?_ _ | refine blk_drew ?_ | refine blk_alloc ?_ _)); exact BK126.out) hb); have n1_ := Aside0.mk (below_step (by repeat (first | (with_reducible first | exact HB.out | apply below_alloc | apply pw_below_drewN | apply below_drew1 | refine below_set ?_ GE126.out) | exact HB.out)) hb); clear BK126; clear HB; have BK126 := n0_; have HB := n1_; clear n0_ n1_; (try clear hb); (try clear hb2); (try clear hk); (try clear hi)))
    go_ret
    exact ⟨by first | rfl | (simp [errW_none, errW_some] <;> rfl) | (simp [*, errW_none, errW_some] <;> rfl), by repeat (first | (with_reducible first | exact HB.out | apply below_alloc | apply pw_below_drewN | apply below_drew1 | refine below_set ?_ GE126.out) | exact HB.out)⟩

end Go.Proofs.Yteapeglolkfimaa.My
end
section
-- Written by a program of this session (wip/myprint.py), which drives the kit's print over hand-written fragments. Not trusted: Lean checks it.


namespace Go.Proofs.Yteapeglolkfimaa.My
open Go.Proofs.Yteapeglolkfimaa.Aid Go.Proofs.Yteapeglolkfimaa.KdX
open Go.RowKit Go.Proofs.YteapeglolkfimaaW.PrintWords Go.Proofs.YteapeglolkfimaaW.PrintLast Go.Proofs.YteapeglolkfimaaW.PrintMore
attribute [local go_sem] max2_int min2_int max_two min_two max_three min_three max_four min_four   -- for this text's walks alone
set_option linter.unusedVariables false
set_option linter.unusedSimpArgs false

/-! ### span_Union: function 57 (by hand) -/
-- (after span_combine)
set_option maxHeartbeats 400000 in
theorem span_Union.calls (A0 : Option Addr) (c0 : Nat) (l0 : List S36) (w : World) (hr0 : Kd.C k36 w A0 l0.length l0) (hc0 : l0.length ≤ c0) (hs : sdB l0 = true) (hl : l0.length ≤ 1000000) :
    Calls Try.prog 57 #[.slice A0 l0.length c0, .slice none 0 0] w fun e w' => ∃ v : Value, e = .returned v ∧ Kd.R k36 36 w' w.heap.size (fun _ => True) v (joinL l0) ∧ Below w.heap.size w w' := by
  obtain ⟨W, hW⟩ : ∃ W, W = w.alloc (.cells #[.slice A0 l0.length c0, .slice none 0 0] 30) := ⟨_, rfl⟩
  have hB : Below w.heap.size w W := by subst hW; exact below_alloc (Below.refl _ _) _
  have k0 : W.heap[w.heap.size]? = some (.cells #[.slice A0 l0.length c0, .slice none 0 0] 30 (0, 0)) := by subst hW; exact blk_new _ _
  have HC := Aside0.mk (span_combine.calls A0 c0 l0 w.heap.size W (Kd.C_below hr0 hB) hc0 hs hl k0)
  have HB := Aside0.mk hB
  have HX := Aside0.mk hW
  clear hr0 hB hW k0
  go_enter Try.func57, Try.ntmps57
  go_wp2_with fail
  rw [← HX.out]
  refine HC.out.mono ?_
  rintro e w2 ⟨v, rfl, hR, hb⟩
  obtain ⟨A2, c2, rfl, hcap, _⟩ := Kd.R_reads hR
  have HB2 := Aside0.mk (below_step HB.out hb)
  have HR := Aside0.mk (Kd.R_lower hR HB.out.size)
  clear hb hR
  go_wp2
  go_ret
  exact ⟨_, rfl, HR.out, HB2.out⟩


end Go.Proofs.Yteapeglolkfimaa.My
end
section
-- Written by a program of this session (wip/myprint.py), which drives the kit's print over hand-written fragments. Not trusted: Lean checks it.



namespace Go.Proofs.Yteapeglolkfimaa.My
open Go.Proofs.Yteapeglolkfimaa.Aid Go.Proofs.Yteapeglolkfimaa.KdX
open Go.RowKit Go.Proofs.YteapeglolkfimaaW.PrintWords Go.Proofs.YteapeglolkfimaaW.PrintLast Go.Proofs.YteapeglolkfimaaW.PrintMore
attribute [local go_sem] max2_int min2_int max_two min_two max_three min_three max_four min_four   -- for this text's walks alone
set_option linter.unusedVariables false
set_option linter.unusedSimpArgs false

/-! ### span_Normal: function 31 (by hand) -/
-- (the words and the contract of span_combine span_Union)
/-- Spans that are proper, in order and do not overlap: the normal form joins neighbours that touch. -/
def span_Normal.f (l0 : List S36) : Option (List S36) := if sdB l0 = true ∧ l0.length ≤ 1000000 then some (joinL l0) else none
set_option maxHeartbeats 400000 in
theorem span_Normal.calls (A0 : Option Addr) (c0 : Nat) (l0 : List S36) (r : List S36) (w : World) (hr0 : Kd.C k36 w A0 l0.length l0) (hc0 : l0.length ≤ c0) (h : span_Normal.f l0 = some r) :
    Calls Try.prog 31 #[.slice A0 l0.length c0] w fun e w' => ∃ v : Value, e = .returned v ∧ Kd.R k36 36 w' w.heap.size (fun _ => True) v r ∧ Below w.heap.size w w' := by
  unfold span_Normal.f at h
  by_cases hc : sdB l0 = true ∧ l0.length ≤ 1000000
  · rw [if_pos hc] at h
    have hj := Option.some.inj h
    have HC := Aside0.mk (span_Union.calls A0 c0 l0 w hr0 hc0 hc.1 hc.2)
    rw [hj] at HC
    clear hr0 hc h hj
    go_enter Try.func31, Try.ntmps31
    go_wp2_with fail
    refine HC.out.mono ?_
    rintro e w2 ⟨v, rfl, hR, hb⟩
    obtain ⟨A2, c2, rfl, hcap, _⟩ := Kd.R_reads hR
    have HB2 := Aside0.mk hb
    have HR := Aside0.mk hR
    clear hb hR
    go_wp2
    go_ret
    exact ⟨_, rfl, HR.out, HB2.out⟩
  · rw [if_neg hc] at h; cases h


end Go.Proofs.Yteapeglolkfimaa.My
end
section
-- Written by a program of this session (wip/myprint.py), which drives the kit's print over hand-written fragments. Not trusted: Lean checks it.






















namespace Go.Proofs.Yteapeglolkfimaa.My
open Go.Proofs.Yteapeglolkfimaa.Aid Go.Proofs.Yteapeglolkfimaa.KdX
open Go.RowKit Go.Proofs.YteapeglolkfimaaW.PrintWords Go.Proofs.YteapeglolkfimaaW.PrintLast Go.Proofs.YteapeglolkfimaaW.PrintMore
attribute [local go_sem] max2_int min2_int max_two min_two max_three min_three max_four min_four   -- for this text's walks alone
set_option linter.unusedVariables false
set_option linter.unusedSimpArgs false

/-! ### grossup_Solve: function 14 (by hand) -/
-- (after grossup_stretches span_Normal)
-- IMPORT Derived.Test.YteapeglolkfimaaPwE
-- IMPORT Derived.Test.YteapeglolkfimaaKdF
-- IMPORT Derived.Test.YteapeglolkfimaaRgc
-- IMPORT Derived.RangeFuncNested
-- IMPORT Derived.RangeFuncBound
-- IMPORT Derived.RangeFuncCalls
-- IMPORT Derived.RangeFuncLeaves
-- IMPORT Derived.RangeFuncBox
-- IMPORT Derived.Shelf.Abstract
-- IMPORT Derived.Shelf.RegionOpen
-- IMPORT Derived.OwnWalkIn
-- IMPORT Derived.TacticsInMore
-- IMPORT Derived.LoopNIn
-- IMPORT Derived.LoopIn
-- IMPORT Derived.Outline
attribute [local go_sem] Oper.semAt_some
def gnet (p : S39) (d x : Int) : Int := x - gtax p d x
def solLow (d : Int) (l : List S39) (net : Int) (k : Nat) : Int := cutL (glow d l k) (ghigh d l k) (gnet (rd_T39 l (k : Int)) d) (decide (d < (rd_T39 l (k : Int)).f2)) net net
def solHigh (d : Int) (l : List S39) (net : Int) (k : Nat) : Int := cutH (glow d l k) (ghigh d l k) (gnet (rd_T39 l (k : Int)) d) (decide (d < (rd_T39 l (k : Int)).f2)) net net
def solP (d : Int) (l : List S39) (net : Int) (k : Nat) : List S36 := if solLow d l net k ≤ solHigh d l net k then [⟨solLow d l net k, solHigh d l net k + 1⟩] else []
def solL (d : Int) (l : List S39) (net : Int) (n : Nat) : List S36 := (List.range n).flatMap (solP d l net)
def grossup_Solve.f (k : Nat) (a0_0 : Int) (l0_1 : List S39) (a1 : Int) : Option (List S36 × Int) :=
  (grossup_check.f k a0_0 l0_1 a1).bind fun e => if e = 0 then (span_Normal.f (solL a0_0 l0_1 a1 l0_1.length)).bind fun r => some (r, 0) else some ([], e)
theorem grossup_Solve.mono : ∀ a0 a1 a2 k, LeO (grossup_Solve.f k a0 a1 a2) (grossup_Solve.f (k + 1) a0 a1 a2) := by
  intro a0 a1 a2 k
  unfold grossup_Solve.f
  exact LeO.bind (grossup_check.mono _ _ _ _) (fun _ => LeO.refl _)
theorem solL_succ (d : Int) (l : List S39) (net : Int) (k : Nat) : solL d l net (k + 1) = solL d l net k ++ solP d l net k := by
  unfold solL; rw [List.range_succ, List.flatMap_append, List.flatMap_cons, List.flatMap_nil, List.append_nil]
theorem solL_len (d : Int) (l : List S39) (net : Int) : ∀ k, (solL d l net k).length ≤ k
  | 0 => by simp [solL]
  | k + 1 => by
    rw [solL_succ, List.length_append]
    have h1 := solL_len d l net k
    have h2 : (solP d l net k).length ≤ 1 := by unfold solP; split <;> simp
    omega
/-- Within a piece: where its part with a tax begins and ends. -/
theorem str_bd {d : Int} {l : List S39} {k : Nat} (hg : GP (rd_T39 l (k : Int))) (hn : k + 1 < l.length → GP (rd_T39 l ((k + 1 : Nat) : Int))) :
    (rd_T39 l (k : Int)).f0 ≤ glow d l k ∧ glow d l k ≤ 1000000000001 ∧ -1 ≤ ghigh d l k ∧ ghigh d l k ≤ 1000000000000 := by
  obtain ⟨g1, g2, g3, g4, g5, g6⟩ := hg
  have hh : ghi l k ≤ 1000000000000 := by
    unfold ghi
    split
    · rename_i h; have := (hn h).2.2.2.2.2; omega
    · omega
  have h1 := firstB_bd (fun x => if decide ((rd_T39 l (k : Int)).f2 < 0) = true then decide (gtax (rd_T39 l (k : Int)) d x ≤ 1000000000000) else decide (-1000000000000 ≤ gtax (rd_T39 l (k : Int)) d x)) 64 (rd_T39 l (k : Int)).f0 (ghi l k)
  have h2 := firstB_bd (fun x => if decide ((rd_T39 l (k : Int)).f2 < 0) = true then decide (gtax (rd_T39 l (k : Int)) d x < -1000000000000) else decide (1000000000000 < gtax (rd_T39 l (k : Int)) d x)) 64 (rd_T39 l (k : Int)).f0 (ghi l k)
  unfold glow ghigh cutL cutH
  refine ⟨h1.1, ?_, ?_, ?_⟩ <;> omega
theorem check_ok {k : Nat} {d net : Int} {l : List S39} (h : grossup_check.f k d l net = some 0) : PwE.Vld d l ∧ -1000000000000 ≤ net ∧ net ≤ 1000000000000 := by
  unfold grossup_check.f at h
  obtain ⟨b, hb, h⟩ := Option.bind_eq_some_iff.1 h
  obtain ⟨b', hev, hiff⟩ := PwE.valid_ev d l
  have hbb : b = b' := EvA.ev_unique (Ev.of (fun k => piecewise_Valid.mono _ _ k) hb) hev
  subst hbb
  cases b with
  | false => simp at h
  | true =>
    rw [if_pos rfl] at h
    split at h
    · simp at h
    · split at h
      · simp at h
      · exact ⟨hiff.1 rfl, by omega, by omega⟩
theorem vld_gp {d : Int} {l : List S39} (h : PwE.Vld d l) : ∀ k, k < l.length → GP (rd_T39 l (k : Int)) := fun k hk =>
  ⟨(h.good k hk).a.1, (h.good k hk).a.2, (h.good k hk).sl.1, (h.good k hk).sl.2, h.fr0 hk, (h.good k hk).hi⟩
def encS (x : S36) : List Value := [.int .i64 x.f0, .int .i64 x.f1]
set_option maxHeartbeats 400000 in
theorem str_call (d : Int) (fs : Value) (hfs : fs.oneCell' = true) (w : World) : Calls Try.prog 29 #[.agg #[.int .i64 d, fs]] w fun e w' => e = .returned (.func (.func 48) #[] #[.pointer (some ⟨w.heap.size, 0, none⟩)]) ∧ w' = w.alloc (.cells #[.int .i64 d, fs] 24) := by
  go_enter Try.func29, Try.ntmps29
  go_wp2
  go_ret
  exact ⟨rfl, rfl⟩
/-- What holds between two rounds. -/
def SolI (d : Int) (l : List S39) (net : Int) (w : World) (Bo Bn : Nat) (k : Nat) (W : World) : Prop :=
  ((∃ v, Boxed W Bo 30 v ∧ W.ownsRow w.heap.size 36 2 v (solL d l net k).length ((solL d l net k).flatMap encS) ∧ True) ∧ Boxed W Bn 3 (.int .i64 net)) ∧ (Below w.heap.size w W ∧ Bo + 2 ≤ W.heap.size)
theorem solI_own (d : Int) (l : List S39) (net : Int) (w : World) (Bo Bn B : Nat) (hB : w.heap.size ≤ B) : OwnFrom B (SolI d l net w Bo Bn) :=
  OwnFrom.and (OwnFrom.and (Own.from (holdsRow_own w.heap.size Bo 30 36 2 (fun k => (solL d l net k).length) (fun k => (solL d l net k).flatMap encS) (fun _ _ => True)) _) (Own.from (boxed_own Bn 3 (fun _ : Nat => Value.int .i64 net)) _))
    (OwnFrom.and (ownFrom_below (Nat.le_refl _) hB) (fun _ _ _ _ hs hg _ => Nat.le_trans hs hg.size))
set_option maxRecDepth 100000 in
set_option maxHeartbeats 8000000 in
theorem grossup_Solve.calls (k : Nat) (a0_0 : Int) (A0_1 : Option Addr) (c0_1 : Nat) (l0_1 : List S39) (a1 : Int) (r1 : List S36) (r2 : Int) (w : World) (hr0_1 : Kd.C k39 w A0_1 l0_1.length l0_1) (hc0_1 : l0_1.length ≤ c0_1) (h : grossup_Solve.f k a0_0 l0_1 a1 = some (r1, r2)) :
    Calls Try.prog 14 #[.agg #[.int .i64 a0_0, .slice A0_1 l0_1.length c0_1], .int .i64 a1] w fun e w' => ∃ v0_ : Value, e = .returned (.tuple #[v0_, .int .i64 r2]) ∧ Kd.R k36 36 w' w.heap.size (fun _ => True) v0_ r1 ∧ Below w.heap.size w w' := by
  unfold grossup_Solve.f at h
  obtain ⟨e0, he0, h⟩ := Option.bind_eq_some_iff.1 h
  have hu24 := Try.underlying24
  have hu36 := Try.underlying36
  have hu30 := Try.underlying30
  have hu53 := Try.underlying53
  obtain ⟨W1, hW1⟩ : ∃ W1, W1 = (w.alloc (.cells #[.int .i64 a0_0, .slice A0_1 l0_1.length c0_1] 24)).alloc (.cells #[.int .i64 a1] 3) := ⟨_, rfl⟩
  have hB1 : Below w.heap.size w W1 := by subst hW1; exact below_alloc (below_alloc (Below.refl _ _) _) _
  have hk0 : W1.heap[w.heap.size]? = some (.cells #[.int .i64 a0_0, .slice A0_1 l0_1.length c0_1] 24 (0, 0)) := by subst hW1; exact blk_alloc (blk_new _ _) _
  have hk1 : W1.heap[w.heap.size + 1]? = some (.cells #[.int .i64 a1] 3 (0, 0)) := by subst hW1; have := blk_new (w.alloc (.cells #[.int .i64 a0_0, .slice A0_1 l0_1.length c0_1] 24)) (.cells #[.int .i64 a1] 3); rwa [World.size_alloc] at this
  have HCH := Aside0.mk (grossup_check.calls k a0_0 A0_1 c0_1 l0_1 a1 e0 W1 (Kd.C_below hr0_1 hB1) hc0_1 he0)
  have HE0 := Aside0.mk he0
  have HR := Aside0.mk hr0_1
  have HC := Aside0.mk hc0_1
  have HB1 := Aside0.mk hB1
  have HK0 := Aside0.mk hk0
  have HK1 := Aside0.mk hk1
  have HH := Aside0.mk h
  clear hr0_1 hc0_1 h he0 hB1 hk0 hk1
  by_cases hz : e0 = 0
  · subst hz
    obtain ⟨hv, hn1, hn2⟩ := check_ok HE0.out
    have HG := Aside0.mk (vld_gp hv)
    have hd1 := hv.d1
    have hd2 := hv.d2
    have hl64 := hv.n2
    clear hv
    have HN : Aside0 (∃ q, span_Normal.f (solL a0_0 l0_1 a1 l0_1.length) = some q ∧ q = r1 ∧ 0 = r2) := by
      obtain ⟨q, hq, he⟩ := Option.bind_eq_some_iff.1 (by have := HH.out; rwa [if_pos rfl] at this)
      simp only [Option.some.injEq, Prod.mk.injEq] at he
      exact ⟨⟨q, hq, he.1, he.2⟩⟩
    refine (callsIn_wide (n := 4)).1 ?_
    refine callsIn_of_wp_marks Try.func14 rfl trivial ?_ rfl
    simp only [Try.ntmps14, List.size_toArray, List.length_cons, List.length_nil, Nat.reduceAdd, Nat.reduceSub, Array.replicate_succ, Array.replicate_zero, List.push_toArray, List.append_toArray, List.nil_append, List.cons_append]
    gi_wp2_with fail
    rw [← hW1]
    clear hW1
    refine ⟨trivial, ?_⟩
    refine (callsIn_wide.2 HCH.out).mono ?_
    rintro e w2 ⟨rfl, hb2⟩
    have HB2 := Aside0.mk (below_step HB1.out hb2)
    have HK0 := Aside0.mk (blk_below HK0.out hb2)
    have HK1 := Aside0.mk (blk_below HK1.out hb2)
    have hlt1 : w.heap.size + 1 < w2.heap.size := blk_lt HK1.out
    have hlt0 : w.heap.size < w2.heap.size := blk_lt HK0.out
    have q0 := (blk_cell HK0.out 0).trans rfl
    have q1 := (blk_cell HK0.out 1).trans rfl
    have q2 := (blk_cell HK1.out 0).trans rfl
    clear hb2 HB1 HCH
    gi_wp2_with fail
    refine ⟨trivial, ?_⟩
    refine (callsIn_wide.2 (str_call a0_0 (.slice A0_1 l0_1.length c0_1) rfl _)).mono ?_
    rintro e w3 ⟨rfl, rfl⟩
    clear q0 q1 q2
    gi_wp2_with fail
    obtain ⟨WL, hWL⟩ : ∃ WL, WL = (w2.alloc (.cells #[.slice none 0 0] 30)).alloc (.cells #[.int .i64 a0_0, .slice A0_1 l0_1.length c0_1] 24) := ⟨_, rfl⟩
    have hsz : WL.heap.size = w2.heap.size + 2 := by subst hWL; simp
    have hBL : Below w.heap.size w WL := by subst hWL; exact below_alloc (below_alloc HB2.out _) _
    have bO : Boxed WL w2.heap.size 30 (.slice none 0 0) := by subst hWL; exact blk_alloc (blk_new _ _) _
    have bN : Boxed WL (w.heap.size + 1) 3 (.int .i64 a1) := by subst hWL; exact blk_alloc (blk_alloc HK1.out _) _
    have kF : WL.heap[w2.heap.size + 1]? = some (.cells #[.int .i64 a0_0, .slice A0_1 l0_1.length c0_1] 24 (0, 0)) := by subst hWL; have := blk_new (w2.alloc (.cells #[.slice none 0 0] 30)) (.cells #[.int .i64 a0_0, .slice A0_1 l0_1.length c0_1] 24); rwa [World.size_alloc] at this
    rw [← hWL]
    clear hWL
    refine Rgc.range_counted rfl (by omega) (gf := 48) (lb := #[.pointer (some ⟨w2.heap.size + 1, 0, none⟩)]) rfl trivial (enters_of Try.func48 (by kernel_rfl) rfl)
      (str_seq (w2.heap.size + 1) a0_0 A0_1 c0_1 l0_1 w WL hd1 hd2 HG.out kF HR.out hBL) (Below.refl _ _)
      (fun h k => ⟨h.1.trans k.1, k.2.trans h.2⟩)
      (fun W l o o' hl h i1 i2 => ⟨belowK_b (w := w) (Nat.le_refl _) W l o o' (by omega) h i1 i2, World.putObj_heap_other (by omega)⟩)
      (fun k x W hx => by obtain ⟨_, _, rfl, _⟩ := hx; rfl)
      (SolI a0_0 l0_1 a1 w w2.heap.size (w.heap.size + 1)) (fun _ _ _ => False) (solI_own _ _ _ _ _ _ _ (by omega)) (fun _ _ _ _ _ hs _ _ => hs)
      ⟨⟨⟨_, bO, World.ownsRow_nil _ _ _ _, trivial⟩, bN⟩, hBL, by omega⟩
      (fun k x a' W => ∃ Bx Bp Bs : Nat, w2.heap.size + 2 ≤ Bx ∧ W.heap[Bx]? = some (.cells #[.int .i64 (glow a0_0 l0_1 k), .int .i64 (ghigh a0_0 l0_1 k), .func (.func 49) #[] #[.pointer (some ⟨Bp, 0, none⟩), .pointer (some ⟨w2.heap.size + 1, 0, none⟩)], .func (.func 51) #[] #[.pointer (some ⟨Bs, 0, none⟩)], .bool (decide ((rd_T39 l0_1 (k : Int)).f2 < 0)), .bool (decide (a0_0 < (rd_T39 l0_1 (k : Int)).f2))] 53 (0, 0)) ∧
        W.heap[Bp]? = some (.cells #[.int .i64 (rd_T39 l0_1 (k : Int)).f0, .int .i64 (rd_T39 l0_1 (k : Int)).f1, .int .i64 (rd_T39 l0_1 (k : Int)).f2] 39 (0, 0)) ∧
        W.heap[Bs]? = some (.cells #[.int .i64 (rd_T39 l0_1 (k : Int)).f0, .int .i64 (ghi l0_1 k), .func (.func 49) #[] #[.pointer (some ⟨Bp, 0, none⟩), .pointer (some ⟨w2.heap.size + 1, 0, none⟩)], .func (.func 51) #[] #[.pointer (some ⟨Bs, 0, none⟩)], .bool (decide ((rd_T39 l0_1 (k : Int)).f2 < 0)), .bool (decide (a0_0 < (rd_T39 l0_1 (k : Int)).f2))] 53 (0, 0)) ∧
        W.heap[w2.heap.size + 1]? = some (.cells #[.int .i64 a0_0, .slice A0_1 l0_1.length c0_1] 24 (0, 0)) ∧
        a' = { tmps := #[.agg #[.int .i64 a0_0, .slice A0_1 l0_1.length c0_1], .int .i64 a1, .pointer (some ⟨w.heap.size, 0, none⟩), .pointer (some ⟨w.heap.size + 1, 0, none⟩), .slice none 0 0, .int .i64 0, .int .i64 0, .pointer (some ⟨w2.heap.size, 0, none⟩), .pointer (some ⟨Bx, 0, none⟩), undef, undef, .agg #[.int .i64 a0_0, .slice A0_1 l0_1.length c0_1], .int .i64 a1, .int .i64 0, .int .i64 0, .bool false, undef, .agg #[.int .i64 a0_0, .slice A0_1 l0_1.length c0_1], .func (.func 48) #[] #[.pointer (some ⟨w2.heap.size + 1, 0, none⟩)], .agg #[.int .i64 (glow a0_0 l0_1 k), .int .i64 (ghigh a0_0 l0_1 k), .func (.func 49) #[] #[.pointer (some ⟨Bp, 0, none⟩), .pointer (some ⟨w2.heap.size + 1, 0, none⟩)], .func (.func 51) #[] #[.pointer (some ⟨Bs, 0, none⟩)], .bool (decide ((rd_T39 l0_1 (k : Int)).f2 < 0)), .bool (decide (a0_0 < (rd_T39 l0_1 (k : Int)).f2))], undef, undef, undef, undef, undef, undef, undef, undef, undef, undef, undef, undef, undef, undef, undef, undef, undef, undef, undef, undef, undef, undef, undef, undef, undef, undef], defers := [] })
      ?hAx ?assign ?body ?done ?stop
    case assign =>
      rintro l kk x W K ⟨⟨⟨v1, bO1, hO1, _⟩, bN1⟩, hB1, hz1⟩ ⟨Bp, Bs, rfl, k1, k2, k3⟩ hkN hK
      have rN := fun (X : World) (a : Addr) => run_store Try.prog X a Value.nilFunc .plain rfl
      have rF := fun (X : World) (a : Addr) (f : Fn) (x y : Array Value) => run_store Try.prog X a (Value.func f x y) .plain rfl
      gi_wp2_with fail
      exact hK _ _ ((KeepsOthers.alloc _ _).from _) ⟨(Below.refl _ W).alloc hB1.size _, Below.heap_alloc W _ _ (blk_lt k3)⟩ ((solI_own a0_0 l0_1 a1 w w2.heap.size (w.heap.size + 1) w.heap.size (Nat.le_refl _)).alloc _ ⟨⟨⟨v1, bO1, hO1, trivial⟩, bN1⟩, hB1, hz1⟩) ⟨W.heap.size, Bp, Bs, hz1, blk_new W _, blk_alloc k1 _, blk_alloc k2 _, blk_alloc k3 _, rfl⟩
    case hAx =>
      rintro kk x a' s X Y row ⟨Bx, Bp, Bs, hx, e1, e2, e3, e4, e5⟩ hg hr
      have keep : ∀ {b : Nat} {cs : Array Value} {t : TypeId}, X.heap[b]? = some (.cells cs t (0, 0)) → Y.heap[b]? = some (.cells cs t (0, 0)) := fun {b cs t} e =>
        (hg.block b (blk_lt e) (fun e' => by obtain ⟨_, o, ho, hc⟩ := hr b e'.symm; rw [e] at ho; cases ho; cases hc)).trans e
      exact ⟨Bx, Bp, Bs, hx, keep e1, keep e2, keep e3, keep e4, e5⟩
    case body =>
      rintro lq kk x a' W hlq ⟨⟨⟨v1, bO1, hO1, _⟩, bN1⟩, hB1, hz1⟩ ⟨Bx, Bp, Bs, hx, e1, e2, e3, e4, rfl⟩ hkN
      have c0 := (blk_cell e1 0).trans rfl
      have c1 := (blk_cell e1 1).trans rfl
      have c3 := (blk_cell e1 3).trans rfl
      have c5 := (blk_cell e1 5).trans rfl
      have cN := bN1.cell
      have hgp := HG.out kk hkN
      obtain ⟨sb1, sb2, sb3, sb4⟩ := str_bd (d := a0_0) hgp (fun h => HG.out (kk + 1) h)
      have HCUT := Aside0.mk (grossup_cut.calls 51 #[.pointer (some ⟨Bs, 0, none⟩)] (glow a0_0 l0_1 kk) (ghigh a0_0 l0_1 kk) (gnet (rd_T39 l0_1 (kk : Int)) a0_0) (decide (a0_0 < (rd_T39 l0_1 (kk : Int)).f2)) a1 a1 W gnet_enter (by have := hgp.2.2.2.2.1; omega) (by omega) (by omega)
        (fun x w1 hx hy hb => gnet_calls Bs Bp (w2.heap.size + 1) (rd_T39 l0_1 (kk : Int)) a0_0 x _ _ _ _ _ _ w1 hgp hd1 hd2 (by omega) (by omega) (blk_below e3 hb) (blk_below e2 hb) (blk_below e4 hb)))
      have HSL : Aside0 (cutL (glow a0_0 l0_1 kk) (ghigh a0_0 l0_1 kk) (gnet (rd_T39 l0_1 (kk : Int)) a0_0) (decide (a0_0 < (rd_T39 l0_1 (kk : Int)).f2)) a1 a1 = solLow a0_0 l0_1 a1 kk ∧ cutH (glow a0_0 l0_1 kk) (ghigh a0_0 l0_1 kk) (gnet (rd_T39 l0_1 (kk : Int)) a0_0) (decide (a0_0 < (rd_T39 l0_1 (kk : Int)).f2)) a1 a1 = solHigh a0_0 l0_1 a1 kk) := ⟨⟨rfl, rfl⟩⟩
      rw [HSL.out.1, HSL.out.2] at HCUT
      have HO1 := Aside0.mk hO1
      have HBO := Aside0.mk bO1
      have HBN := Aside0.mk bN1
      have HB1 := Aside0.mk hB1
      have HZ1 := Aside0.mk hz1
      have HGP := Aside0.mk hgp
      have HE4W := Aside0.mk e4
      clear hO1 bO1 bN1 hB1 hz1 e1 e2 e3 e4 hgp bO bN kF hBL
      gi_wp2_with fail
      refine ⟨trivial, ?_⟩
      refine ((callsIn_wide.2 HCUT.out).inRound lq).mono ?_
      rintro e W3 ⟨rfl, hb3⟩
      have hg3 : W.grownBy W3 none := ⟨hb3.os, hb3.tape, hb3.output, hb3.size, fun j hj _ => hb3.block j hj⟩
      have bO3 : Boxed W3 w2.heap.size 30 v1 := blk_below (show W.heap[w2.heap.size]? = _ from HBO.out) hb3
      have bN3 : Boxed W3 (w.heap.size + 1) 3 (.int .i64 a1) := blk_below (show W.heap[w.heap.size + 1]? = _ from HBN.out) hb3
      have hO3 := HO1.out.kept hg3 (by cases hv : v1.ownBlock <;> simp)
      have hlow : ∀ b, b < w2.heap.size + 2 → b < W3.heap.size := fun b hb => by have := HZ1.out; have := hb3.size; omega
      have sq := firstB_bd (fun x => if decide (a0_0 < (rd_T39 l0_1 (kk : Int)).f2) = true then decide (gnet (rd_T39 l0_1 (kk : Int)) a0_0 x < a1) else decide (a1 < gnet (rd_T39 l0_1 (kk : Int)) a0_0 x)) 64 (glow a0_0 l0_1 kk) (ghigh a0_0 l0_1 kk)
      have sh : -2 ≤ solHigh a0_0 l0_1 a1 kk ∧ solHigh a0_0 l0_1 a1 kk ≤ 1000000000001 := by
        have e : solHigh a0_0 l0_1 a1 kk = firstB (fun x => if decide (a0_0 < (rd_T39 l0_1 (kk : Int)).f2) = true then decide (gnet (rd_T39 l0_1 (kk : Int)) a0_0 x < a1) else decide (a1 < gnet (rd_T39 l0_1 (kk : Int)) a0_0 x)) 64 (glow a0_0 l0_1 kk) (ghigh a0_0 l0_1 kk) - 1 := rfl
        have := HGP.out.2.2.2.2.1
        rw [e]; omega
      clear sq sb1 sb2 sb3 sb4
      have HS1 := Aside0.mk (solL_succ a0_0 l0_1 a1 kk)
      have HSP : Aside0 (solP a0_0 l0_1 a1 kk = if solLow a0_0 l0_1 a1 kk ≤ solHigh a0_0 l0_1 a1 kk then [⟨solLow a0_0 l0_1 a1 kk, solHigh a0_0 l0_1 a1 kk + 1⟩] else []) := ⟨rfl⟩
      have HLEN := Aside0.mk (solL_len a0_0 l0_1 a1 kk)
      clear HCUT
      generalize solLow a0_0 l0_1 a1 kk = lo at *
      generalize solHigh a0_0 l0_1 a1 kk = hi at *
      obtain ⟨sh1, sh2⟩ := sh
      have hle1 : (solL a0_0 l0_1 a1 kk).length ≤ 64 := by have := HLEN.out; omega
      have HB3 := Aside0.mk hb3
      have HG3 := Aside0.mk hg3
      have HO3 := Aside0.mk hO3
      have HBO3 := Aside0.mk bO3
      have HBN3 := Aside0.mk bN3
      have HLOW := Aside0.mk hlow
      have HE4 := Aside0.mk (blk_below HE4W.out hb3)
      clear hb3 hg3 hO3 HO1 HBO HBN bN3 cN c0 c1 c3 c5 hlow
      by_cases hle : lo ≤ hi
      · have cO := bO3.cell
        obtain ⟨i0, hi0, hz0, hz1, hz2⟩ := info_parts info36
        clear bO3
        gi_wp2_with (gi_at_builtin; refine wpListIn_append_own _ rfl _ _ 30 rfl w.heap.size 36 i0 (.agg #[.int .i64 0, .int .i64 0]) 2 16 hu30 hi0 hz0 hz1 hz2 rfl (by decide) _ _ _ rfl (HO3.out.alloc _) ⟨W3.heap.size, 0, none⟩ 1 1 [.int .i64 lo, .int .i64 (hi + 1)] rfl rfl (fun j u hu => KdF.cells_new W3 #[.int .i64 lo, .int .i64 (hi + 1)] 36 j u hu) (by simp [Value.oneCell']) (by unfold maxLen; omega) (by omega) (by have := HLOW.out (w.heap.size) (by omega); simp; omega) ?_; intro v' w1 hown' hgrow _; obtain ⟨g', cap', rfl⟩ := ownsRow_succ hown'; obtain ⟨hv1, hv2, hr2, hk2, hb2⟩ := HBO3.out.appended (by decide) HO3.out (Nat.le_of_lt (HLOW.out (w.heap.size) (by omega))) (by omega) hown' hgrow; have hc1 := hv1.cell; have hf1 := hv1.frozen; clear hown')
        have hneF : some (w2.heap.size + 1) ≠ v1.ownBlock := by
          rcases HO3.out.2 with ⟨e', _⟩ | ⟨g, cap, cur, e', _, hgb, _⟩
          · rw [e']; simp [Value.ownBlock]
          · rw [e']; intro e''
            have : w2.heap.size + 1 = g := by simpa [Value.ownBlock] using e''
            rw [← this, HE4.out] at hgb; cases hgb
        have hsz1 : W3.heap.size < w1.heap.size := by have := hgrow.size; simp at this; omega
        have hF1 : w1.heap[w2.heap.size + 1]? = W3.heap[w2.heap.size + 1]? := (hgrow.block (w2.heap.size + 1) (by have := HLOW.out (w2.heap.size + 1) (by omega); simp; omega) hneF).trans (Below.heap_alloc _ _ _ (HLOW.out (w2.heap.size + 1) (by omega)))
        have hN1 : Boxed w1 (w.heap.size + 1) 3 (.int .i64 a1) := (HBN3.out.alloc _).kept hgrow (HBN3.out.not_row (by decide) HO3.out)
        refine ⟨((KeepsOthers.of_grownBy HG3.out (fun j o e => by cases e)).trans hk2).from _, ⟨(HB3.out.mono HB1.out.size).trans hb2, ?_⟩, ⟨⟨_, hv2, ?_, trivial⟩, hN1.other (by omega) _⟩, HB1.out.trans ((HB3.out.mono HB1.out.size).trans hb2), ?_⟩
        · rw [Below.heap_setCell _ _ _ _ (by show w2.heap.size + 1 ≠ w2.heap.size; omega), hF1]
          exact (HE4.out).trans HE4W.out.symm
        · rw [HS1.out, HSP.out, if_pos hle, List.flatMap_append, List.length_append]
          exact hr2
        · have := HLOW.out (w2.heap.size + 1) (by omega)
          simp; omega
      · gi_wp2
        refine ⟨(KeepsOthers.of_grownBy HG3.out (fun j o e => by cases e)).from _, ⟨HB3.out.mono HB1.out.size, HB3.out.block _ (by have := HZ1.out; omega)⟩, ⟨⟨v1, HBO3.out, ?_, trivial⟩, HBN3.out⟩, HB1.out.trans (HB3.out.mono HB1.out.size), by have := HLOW.out (w2.heap.size + 1) (by omega); omega⟩
        rw [HS1.out, HSP.out, if_neg (by omega), List.append_nil]
        exact HO3.out
    case done =>
      rintro D W hD ⟨⟨⟨v, hv, hrow, _⟩, hN⟩, hB, hz⟩ hK
      have hc := hv.cell
      obtain ⟨q, hq, rfl, rfl⟩ := HN.out
      have hR := KdF.own_R (d := k36) (f := encS) (e := 36) (w := W) (base := w.heap.size) (v := v) (xs := solL a0_0 l0_1 a1 l0_1.length) (fun _ => rfl) (fun ok x => k36_mkM _ _ _ _) hrow
      obtain ⟨A', c', rfl, hcap, hCC⟩ := Kd.R_reads hR
      have HCN := Aside0.mk (span_Normal.calls A' c' _ q W hCC hcap hq)
      have HKK := Aside0.mk hK
      have HBB := Aside0.mk hB
      clear hR hrow hCC hK hB hN hv hq bO bN kF hBL
      gi_wp2_with fail
      refine ⟨trivial, ?_⟩
      refine (callsIn_wide.2 HCN.out).mono ?_
      rintro e W5 ⟨v5, rfl, hR5, hb5⟩
      obtain ⟨A5, c5, rfl, hcap5, _⟩ := Kd.R_reads hR5
      have HR5 := Aside0.mk hR5
      have HB5 := Aside0.mk hb5
      clear hR5 hb5 HCN
      gi_wp2
      have hK5 : W5.heap[D]? = some (.deferred (some [])) := (HB5.out.block D (Array.getElem?_eq_some_iff.1 HKK.out).1).trans HKK.out
      refine ⟨by simp, .inl ⟨_, _, rfl, run_takeDeferred hK5, ?_⟩⟩
      have hO5 := KdF.own_base (ownsRow_putObj (KdF.R_own (d := k36) (f := encS) (fun _ => rfl) (fun ok x cs h => k36_openM h) HR5.out) (.deferred none) hK5 rfl) HBB.out.size
      exact ⟨_, results_tmp2 rfl _ _ _, _, rfl, KdF.own_R (d := k36) (f := encS) (fun _ => rfl) (fun ok x => k36_mkM _ _ _ _) hO5, (HBB.out.trans (HB5.out.mono HBB.out.size)).trans (belowK_b (w := w) (Nat.le_refl _) W5 D _ _ (by omega) hK5 rfl rfl)⟩
    case stop =>
      rintro D c kk W _ _ h _
      exact h.elim
  · obtain ⟨e1, e2⟩ : [] = r1 ∧ e0 = r2 := by have := HH.out; rw [if_neg hz] at this; simpa using this
    subst e1 e2
    go_enter Try.func14, Try.ntmps14
    go_wp2_with fail
    rw [← hW1]
    refine HCH.out.mono ?_
    rintro e w2 ⟨rfl, hb2⟩
    have HB2 := Aside0.mk (below_step HB1.out hb2)
    clear hb2 hW1
    go_wp2
    go_ret2
    exact ⟨_, rfl, Kd.R_nil _ _ _ _ _, HB2.out⟩


end Go.Proofs.Yteapeglolkfimaa.My
end
section
/- A region that draws its order and only reads, within a round of a range over a function: walked once, in the order of the text. -/



namespace Go.Proofs.Yteapeglolkfimaa.Rdq
open Go Go.RowKit
variable {F : Fence} {n : Nat} {P : Program}

def plainOp (o : Oper) : Bool := match o.op with
  | .defer _ => false
  | _ => true
theorem plainOp_ne {o : Oper} (h : plainOp o = true) (c : Call) : o.op ≠ .defer c := by
  intro e; rw [plainOp, e] at h; cases h

/-- An operation that is no defer statement goes on in a round as outside of one. -/
theorem oper_round (l : Nat) {o : Oper} {a : Act} {w : World} {K : Act → World → Prop} {Q : Exit → Act → World → Prop} (hp : plainOp o = true) (h : o.wpIn F n P a w K Q) : o.wpIn (F.inRound l) n P a w K Q := by
  unfold Oper.wpIn at *
  refine ⟨h.1, ?_⟩
  have h2 := h.2
  rw [Oper.semAt_plain F _ _ (plainOp_ne hp)] at h2
  rw [Oper.semAt_plain (F.inRound l) _ _ (plainOp_ne hp)]
  generalize (execOp a.eval o).run P w = r at *
  cases r with
  | ok x w' => cases x <;> exact h2
  | halt x w' => cases x <;> exact h2

theorem any_round (l : Nat) {md : Region.Mode} {ops : Array Oper} {Q : Exit → Act → World → Prop} (hp : ∀ (i : Nat) (o : Oper), ops[i]? = some o → plainOp o = true) : ∀ (fuel : Nat) (listed : Array Bool) (a : Act) (w : World),
    wpAnyIn F n P md ops Q fuel listed a w → wpAnyIn (F.inRound l) n P md ops Q fuel listed a w
  | 0, _, _, _, h => h
  | fuel + 1, listed, a, w, h => by
    refine ⟨h.1, fun i hi => ?_⟩
    have h1 := h.2 i hi
    unfold wpOpIn at *
    cases ho : ops[i]? with
    | none => rw [ho] at h1; exact any_round l hp fuel _ a w h1
    | some o =>
      rw [ho] at h1
      dsimp only at h1 ⊢
      split at h1
      · rename_i hw
        rw [if_pos hw]
        exact oper_round l (hp i o ho) (Oper.wpIn_mono (fun a w h => any_round l hp fuel _ a w h) h1)
      · rename_i hw
        rw [if_neg hw]
        exact ⟨h1.1, any_round l hp fuel _ _ w h1.2⟩

/-- One walk in the order of the text serves every order, in a round, too. -/
theorem region_quiet_round (r : Nat) {id : Nat} {Q : Exit → Act → World → Prop} {a : Act} {w : World} {l : List Oper} (hro : F.round = none) (hm : P.follows .mixedOrders = true) (hB : Region.lexB .any l.toArray = true) (hp : l.all plainOp = true)
    (h : wpQuietIn F n P l.toArray (fun w' => ∃ n, w' = w.drewN n) (fun a' => ∀ w', (∃ n, w' = w.drewN n) → Q .normal a' w') l a) : (Code.region id l.toArray true).wpIn (F.inRound r) n P Q a w := by
  simp only [Region.lexB, Bool.and_eq_true] at hB
  refine wpIn_region_any hm (any_round r (fun i o ho => ?_) _ _ _ _ (wpAnyIn_of_quiet (C := fun w' => ∃ n, w' = w.drewN n) (Q := fun a' => ∀ w', (∃ n, w' = w.drewN n) → Q .normal a' w') hro (fun _ w' hw' h => h w' hw') _ _ _ _ ⟨1, rfl⟩ ?_))
  · have : o ∈ l := by rw [List.getElem?_toArray] at ho; exact List.mem_of_getElem? ho
    exact List.all_eq_true.1 hp o this
  · have := wpAnyQIn_lex (F := F) (n := n) (P := P) (C := fun w' => ∃ n, w' = w.drewN n) (md := .any) hB.1 l.toArray.toList 0 (Array.replicate l.toArray.size false) a (by simp) (by simpa using hB.2) (by simpa using h)
    simpa using this
end Go.Proofs.Yteapeglolkfimaa.Rdq
end
section
-- Written by a program of this session (wip/myprint.py), which drives the kit's print over hand-written fragments. Not trusted: Lean checks it.






















namespace Go.Proofs.Yteapeglolkfimaa.My
open Go.Proofs.Yteapeglolkfimaa.Aid Go.Proofs.Yteapeglolkfimaa.KdX
open Go.RowKit Go.Proofs.YteapeglolkfimaaW.PrintWords Go.Proofs.YteapeglolkfimaaW.PrintLast Go.Proofs.YteapeglolkfimaaW.PrintMore
attribute [local go_sem] max2_int min2_int max_two min_two max_three min_three max_four min_four   -- for this text's walks alone
set_option linter.unusedVariables false
set_option linter.unusedSimpArgs false

/-! ### grossup_Least: function 16 (by hand) -/
-- (after grossup_Solve grossup_first)
-- IMPORT Derived.Test.YteapeglolkfimaaPwE
-- IMPORT Derived.Test.YteapeglolkfimaaKdF
-- IMPORT Derived.Test.YteapeglolkfimaaRgc
-- IMPORT Derived.RangeFuncNested
-- IMPORT Derived.RangeFuncBound
-- IMPORT Derived.RangeFuncCalls
-- IMPORT Derived.RangeFuncLeaves
-- IMPORT Derived.RangeFuncBox
-- IMPORT Derived.Shelf.Abstract
-- IMPORT Derived.Shelf.RegionOpen
-- IMPORT Derived.Test.YteapeglolkfimaaRdq
-- IMPORT Derived.OwnWalkIn
-- IMPORT Derived.TacticsInMore
-- IMPORT Derived.LoopNIn
-- IMPORT Derived.LoopIn
-- IMPORT Derived.Outline
attribute [local go_sem] Oper.semAt_some
def leX (d : Int) (l : List S39) (net : Int) (k : Nat) : Int := if d < (rd_T39 l (k : Int)).f2 then glow d l k else firstB (fun x => decide (net ≤ gnet (rd_T39 l (k : Int)) d x)) 64 (glow d l k) (ghigh d l k)
def leOk (d : Int) (l : List S39) (net : Int) (k : Nat) : Bool := decide (leX d l net k ≤ ghigh d l k) && decide (net ≤ gnet (rd_T39 l (k : Int)) d (leX d l net k))
def leF (d : Int) (l : List S39) (net : Int) : Int × Int :=
  match (List.range l.length).find? (leOk d l net) with
  | some k => (leX d l net k, 0)
  | none => (0, 301)
def grossup_Least.f (k : Nat) (a0_0 : Int) (l0_1 : List S39) (a1 : Int) : Option (Int × Int) :=
  (grossup_check.f k a0_0 l0_1 a1).bind fun e => if e = 0 then some (leF a0_0 l0_1 a1) else some (0, e)
theorem grossup_Least.mono : ∀ a0 a1 a2 k, LeO (grossup_Least.f k a0 a1 a2) (grossup_Least.f (k + 1) a0 a1 a2) := by
  intro a0 a1 a2 k
  unfold grossup_Least.f
  exact LeO.bind (grossup_check.mono _ _ _ _) (fun _ => LeO.refl _)
theorem lea_enter : ∀ args w1, (callFunc 36 args).run Try.prog w1 = .ok (.enter 36 args) w1 := by
  intro args w1
  go_simp
set_option maxHeartbeats 400000 in
theorem lea_calls (Bx Bn Bs : Nat) (g : Int → Int) (x net : Int) (v0 v1 v2 v4 v5 : Value) (w : World)
    (hp : ∀ n, Calls Try.prog 51 #[.int .i64 x, .pointer (some ⟨Bs, 0, none⟩)] (w.drewN n) fun e w2 => e = .returned (.int .i64 (g x)) ∧ ∃ m, w2 = (w.drewN n).drewN m)
    (h1 : w.heap[Bx]? = some (.cells #[v0, v1, v2, .func (.func 51) #[] #[.pointer (some ⟨Bs, 0, none⟩)], v4, v5] 53 (0, 0))) (h2 : w.cell? ⟨Bn, 0, none⟩ = some (.int .i64 net)) :
    Calls Try.prog 36 #[.int .i64 x, .pointer (some ⟨Bx, 0, none⟩), .pointer (some ⟨Bn, 0, none⟩)] w fun e w2 => e = .returned (.bool (decide (net ≤ g x))) ∧ Drawn0 w w2 := by
  have HP := Aside0.mk hp
  have c3 := (blk_cell h1 3).trans rfl
  clear hp h1
  generalize g x = y at HP ⊢
  go_enter Try.func36, Try.ntmps36
  go_wp2
  go_quiet ((refine Calls.quiet_of (HP.out _)))
  go_wp2
  go_ret
  exact ⟨rfl, ⟨_, rfl⟩⟩
/-- What holds between two rounds. -/
def LeI (d : Int) (l : List S39) (net : Int) (w : World) (w2 : World) (k : Nat) (W : World) : Prop :=
  ((∀ j, j < k → leOk d l net j = false) ∧ Boxed W (w.heap.size + 1) 3 (.int .i64 net)) ∧ (Boxed W (w.heap.size + 1 + 1) 3 (.int .i64 0) ∧ Boxed W (w.heap.size + 1 + 1 + 1) 27 (.int .i64 0)) ∧ (Below w.heap.size w W ∧ w2.heap.size + 1 ≤ W.heap.size)
theorem leI_own (d : Int) (l : List S39) (net : Int) (w w2 : World) (B : Nat) (hB : w.heap.size ≤ B) : OwnFrom B (LeI d l net w w2) :=
  OwnFrom.and (OwnFrom.and (ownFrom_pure _ _) (Own.from (boxed_own _ 3 (fun _ : Nat => Value.int .i64 net)) _))
    (OwnFrom.and (OwnFrom.and (Own.from (boxed_own _ 3 (fun _ : Nat => Value.int .i64 0)) _) (Own.from (boxed_own _ 27 (fun _ : Nat => Value.int .i64 0)) _)) (OwnFrom.and (ownFrom_below (Nat.le_refl _) hB) (fun _ _ _ _ hs hg _ => Nat.le_trans hs hg.size)))
def LeX (d : Int) (l : List S39) (net : Int) (w : World) (c : Code) (k : Nat) (W : World) : Prop :=
  ((c = .ret ∧ leOk d l net k = true ∧ ∀ j, j < k → leOk d l net j = false)) ∧ (Boxed W (w.heap.size + 1 + 1) 3 (.int .i64 (leX d l net k)) ∧ Boxed W (w.heap.size + 1 + 1 + 1) 27 (.int .i64 0)) ∧ Below w.heap.size w W
theorem leX_own (d : Int) (l : List S39) (net : Int) (w : World) (B : Nat) (hB : w.heap.size ≤ B) (c : Code) : OwnFrom B (LeX d l net w c) :=
  OwnFrom.and (ownFrom_pure _ _) (OwnFrom.and (OwnFrom.and (Own.from (boxed_own _ 3 (fun k : Nat => Value.int .i64 (leX d l net k))) _) (Own.from (boxed_own _ 27 (fun _ : Nat => Value.int .i64 0)) _)) (ownFrom_below (Nat.le_refl _) hB))
set_option maxRecDepth 100000 in
set_option maxHeartbeats 8000000 in
theorem grossup_Least.calls (k : Nat) (a0_0 : Int) (A0_1 : Option Addr) (c0_1 : Nat) (l0_1 : List S39) (a1 : Int) (r1 r2 : Int) (w : World) (hr0_1 : Kd.C k39 w A0_1 l0_1.length l0_1) (hc0_1 : l0_1.length ≤ c0_1) (h : grossup_Least.f k a0_0 l0_1 a1 = some (r1, r2)) :
    Calls Try.prog 16 #[.agg #[.int .i64 a0_0, .slice A0_1 l0_1.length c0_1], .int .i64 a1] w fun e w' => e = .returned (.tuple #[.int .i64 r1, .int .i64 r2]) ∧ Below w.heap.size w w' := by
  unfold grossup_Least.f at h
  obtain ⟨e0, he0, h⟩ := Option.bind_eq_some_iff.1 h
  have hu24 := Try.underlying24
  have hu53 := Try.underlying53
  have hu27 := Try.underlying27
  obtain ⟨W1, hW1⟩ : ∃ W1, W1 = (((w.alloc (.cells #[.int .i64 a0_0, .slice A0_1 l0_1.length c0_1] 24)).alloc (.cells #[.int .i64 a1] 3)).alloc (.cells #[.int .i64 0] 3)).alloc (.cells #[.int .i64 0] 27) := ⟨_, rfl⟩
  have hB1 : Below w.heap.size w W1 := by subst hW1; exact below_alloc (below_alloc (below_alloc (below_alloc (Below.refl _ _) _) _) _) _
  have hk0 : W1.heap[w.heap.size]? = some (.cells #[.int .i64 a0_0, .slice A0_1 l0_1.length c0_1] 24 (0, 0)) := by subst hW1; exact blk_alloc (blk_alloc (blk_alloc (blk_new _ _) _) _) _
  have hk1 : W1.heap[w.heap.size + 1]? = some (.cells #[.int .i64 a1] 3 (0, 0)) := by subst hW1; refine blk_alloc (blk_alloc ?_ _) _; have := blk_new (w.alloc (.cells #[.int .i64 a0_0, .slice A0_1 l0_1.length c0_1] 24)) (.cells #[.int .i64 a1] 3); rwa [World.size_alloc] at this
  have hk2 : W1.heap[w.heap.size + 1 + 1]? = some (.cells #[.int .i64 0] 3 (0, 0)) := by subst hW1; refine blk_alloc ?_ _; have := blk_new ((w.alloc (.cells #[.int .i64 a0_0, .slice A0_1 l0_1.length c0_1] 24)).alloc (.cells #[.int .i64 a1] 3)) (.cells #[.int .i64 0] 3); rwa [World.size_alloc, World.size_alloc] at this
  have hk3 : W1.heap[w.heap.size + 1 + 1 + 1]? = some (.cells #[.int .i64 0] 27 (0, 0)) := by subst hW1; have := blk_new (((w.alloc (.cells #[.int .i64 a0_0, .slice A0_1 l0_1.length c0_1] 24)).alloc (.cells #[.int .i64 a1] 3)).alloc (.cells #[.int .i64 0] 3)) (.cells #[.int .i64 0] 27); rwa [World.size_alloc, World.size_alloc, World.size_alloc] at this
  have HCH := Aside0.mk (grossup_check.calls k a0_0 A0_1 c0_1 l0_1 a1 e0 W1 (Kd.C_below hr0_1 hB1) hc0_1 he0)
  have HE0 := Aside0.mk he0
  have HR := Aside0.mk hr0_1
  have HC := Aside0.mk hc0_1
  have HB1 := Aside0.mk hB1
  have HK0 := Aside0.mk hk0
  have HK1 := Aside0.mk hk1
  have HK2 := Aside0.mk hk2
  have HK3 := Aside0.mk hk3
  have HH := Aside0.mk h
  clear hr0_1 hc0_1 h he0 hB1 hk0 hk1 hk2 hk3
  by_cases hz : e0 = 0
  · subst hz
    obtain ⟨hv, hn1, hn2⟩ := check_ok HE0.out
    have HG := Aside0.mk (vld_gp hv)
    have hd1 := hv.d1
    have hd2 := hv.d2
    have hl64 := hv.n2
    clear hv
    have HN : Aside0 (leF a0_0 l0_1 a1 = (r1, r2)) := ⟨by have := HH.out; rw [if_pos rfl] at this; exact Option.some.inj this⟩
    refine (callsIn_wide (n := 4)).1 ?_
    refine callsIn_of_wp_marks Try.func16 rfl trivial ?_ rfl
    simp only [Try.ntmps16, List.size_toArray, List.length_cons, List.length_nil, Nat.reduceAdd, Nat.reduceSub, Array.replicate_succ, Array.replicate_zero, List.push_toArray, List.append_toArray, List.nil_append, List.cons_append]
    gi_wp2_with fail
    rw [← hW1]
    clear hW1
    refine ⟨trivial, ?_⟩
    refine (callsIn_wide.2 HCH.out).mono ?_
    rintro e w2 ⟨rfl, hb2⟩
    have HB2 := Aside0.mk (below_step HB1.out hb2)
    have HK0 := Aside0.mk (blk_below HK0.out hb2)
    have HK1 := Aside0.mk (blk_below HK1.out hb2)
    have HK2 := Aside0.mk (blk_below HK2.out hb2)
    have HK3 := Aside0.mk (blk_below HK3.out hb2)
    have hlt3 : w.heap.size + 1 + 1 + 1 < w2.heap.size := blk_lt HK3.out
    have q0 := (blk_cell HK0.out 0).trans rfl
    have q1 := (blk_cell HK0.out 1).trans rfl
    clear hb2 HB1 HCH
    gi_wp2_with fail
    refine ⟨trivial, ?_⟩
    refine (callsIn_wide.2 (str_call a0_0 (.slice A0_1 l0_1.length c0_1) rfl _)).mono ?_
    rintro e w3 ⟨rfl, rfl⟩
    clear q0 q1
    gi_wp2_with fail
    obtain ⟨WL, hWL⟩ : ∃ WL, WL = w2.alloc (.cells #[.int .i64 a0_0, .slice A0_1 l0_1.length c0_1] 24) := ⟨_, rfl⟩
    have hsz : WL.heap.size = w2.heap.size + 1 := by subst hWL; simp
    have hBL : Below w.heap.size w WL := by subst hWL; exact below_alloc HB2.out _
    have bN : Boxed WL (w.heap.size + 1) 3 (.int .i64 a1) := by subst hWL; exact blk_alloc HK1.out _
    have bR : Boxed WL (w.heap.size + 1 + 1) 3 (.int .i64 0) := by subst hWL; exact blk_alloc HK2.out _
    have bE : Boxed WL (w.heap.size + 1 + 1 + 1) 27 (.int .i64 0) := by subst hWL; exact blk_alloc HK3.out _
    have kF : WL.heap[w2.heap.size]? = some (.cells #[.int .i64 a0_0, .slice A0_1 l0_1.length c0_1] 24 (0, 0)) := by subst hWL; exact blk_new _ _
    rw [← hWL]
    clear hWL
    refine Rgc.range_counted rfl (by omega) (gf := 48) (lb := #[.pointer (some ⟨w2.heap.size, 0, none⟩)]) rfl trivial (enters_of Try.func48 (by kernel_rfl) rfl)
      (str_seq w2.heap.size a0_0 A0_1 c0_1 l0_1 w WL hd1 hd2 HG.out kF HR.out hBL) (Below.refl _ _)
      (fun h k => ⟨h.1.trans k.1, k.2.trans h.2⟩)
      (fun W l o o' hl h i1 i2 => ⟨belowK_b (w := w) (Nat.le_refl _) W l o o' (by omega) h i1 i2, World.putObj_heap_other (by omega)⟩)
      (fun k x W hx => by obtain ⟨_, _, rfl, _⟩ := hx; rfl)
      (LeI a0_0 l0_1 a1 w w2) (LeX a0_0 l0_1 a1 w) (leI_own _ _ _ _ _ _ (by omega)) (fun c => leX_own _ _ _ _ _ (by omega) c)
      ⟨⟨fun j hj => absurd hj (by omega), bN⟩, ⟨bR, bE⟩, hBL, by omega⟩
      (fun k x a' W => ∃ Bx Bp Bs : Nat, w2.heap.size + 1 ≤ Bx ∧ W.heap[Bx]? = some (.cells #[.int .i64 (glow a0_0 l0_1 k), .int .i64 (ghigh a0_0 l0_1 k), .func (.func 49) #[] #[.pointer (some ⟨Bp, 0, none⟩), .pointer (some ⟨w2.heap.size, 0, none⟩)], .func (.func 51) #[] #[.pointer (some ⟨Bs, 0, none⟩)], .bool (decide ((rd_T39 l0_1 (k : Int)).f2 < 0)), .bool (decide (a0_0 < (rd_T39 l0_1 (k : Int)).f2))] 53 (0, 0)) ∧
        W.heap[Bp]? = some (.cells #[.int .i64 (rd_T39 l0_1 (k : Int)).f0, .int .i64 (rd_T39 l0_1 (k : Int)).f1, .int .i64 (rd_T39 l0_1 (k : Int)).f2] 39 (0, 0)) ∧
        W.heap[Bs]? = some (.cells #[.int .i64 (rd_T39 l0_1 (k : Int)).f0, .int .i64 (ghi l0_1 k), .func (.func 49) #[] #[.pointer (some ⟨Bp, 0, none⟩), .pointer (some ⟨w2.heap.size, 0, none⟩)], .func (.func 51) #[] #[.pointer (some ⟨Bs, 0, none⟩)], .bool (decide ((rd_T39 l0_1 (k : Int)).f2 < 0)), .bool (decide (a0_0 < (rd_T39 l0_1 (k : Int)).f2))] 53 (0, 0)) ∧
        W.heap[w2.heap.size]? = some (.cells #[.int .i64 a0_0, .slice A0_1 l0_1.length c0_1] 24 (0, 0)) ∧
        a' = { tmps := #[.agg #[.int .i64 a0_0, .slice A0_1 l0_1.length c0_1], .int .i64 a1, .pointer (some ⟨w.heap.size, 0, none⟩), .pointer (some ⟨w.heap.size + 1, 0, none⟩), .pointer (some ⟨w.heap.size + 1 + 1, 0, none⟩), .pointer (some ⟨w.heap.size + 1 + 1 + 1, 0, none⟩), .int .i64 0, .pointer (some ⟨Bx, 0, none⟩), undef, .agg #[.int .i64 a0_0, .slice A0_1 l0_1.length c0_1], .int .i64 a1, .int .i64 0, .int .i64 0, .bool false, undef, .agg #[.int .i64 a0_0, .slice A0_1 l0_1.length c0_1], .func (.func 48) #[] #[.pointer (some ⟨w2.heap.size, 0, none⟩)], .agg #[.int .i64 (glow a0_0 l0_1 k), .int .i64 (ghigh a0_0 l0_1 k), .func (.func 49) #[] #[.pointer (some ⟨Bp, 0, none⟩), .pointer (some ⟨w2.heap.size, 0, none⟩)], .func (.func 51) #[] #[.pointer (some ⟨Bs, 0, none⟩)], .bool (decide ((rd_T39 l0_1 (k : Int)).f2 < 0)), .bool (decide (a0_0 < (rd_T39 l0_1 (k : Int)).f2))], undef, undef, undef, undef, undef, undef, undef, undef, undef, undef, undef, undef, undef, undef, undef, undef, undef, undef, undef, undef, undef, undef, undef, undef], defers := [] })
      ?hAx ?assign ?body ?done ?stop
    case assign =>
      rintro l kk x W K hI ⟨Bp, Bs, rfl, k1, k2, k3⟩ hkN hK
      have hB1 := hI.2.2.1
      have hz1 := hI.2.2.2
      have rN := fun (X : World) (a : Addr) => run_store Try.prog X a Value.nilFunc .plain rfl
      have rF := fun (X : World) (a : Addr) (f : Fn) (x y : Array Value) => run_store Try.prog X a (Value.func f x y) .plain rfl
      have HI := Aside0.mk hI
      clear hI
      gi_wp2_with fail
      exact hK _ _ ((KeepsOthers.alloc _ _).from _) ⟨(Below.refl _ W).alloc hB1.size _, Below.heap_alloc W _ _ (blk_lt k3)⟩ ((leI_own a0_0 l0_1 a1 w w2 w.heap.size (Nat.le_refl _)).alloc _ HI.out) ⟨W.heap.size, Bp, Bs, hz1, blk_new W _, blk_alloc k1 _, blk_alloc k2 _, blk_alloc k3 _, rfl⟩
    case hAx =>
      rintro kk x a' s X Y row ⟨Bx, Bp, Bs, hx, e1, e2, e3, e4, e5⟩ hg hr
      have keep : ∀ {b : Nat} {cs : Array Value} {t : TypeId}, X.heap[b]? = some (.cells cs t (0, 0)) → Y.heap[b]? = some (.cells cs t (0, 0)) := fun {b cs t} e =>
        (hg.block b (blk_lt e) (fun e' => by obtain ⟨_, o, ho, hc⟩ := hr b e'.symm; rw [e] at ho; cases ho; cases hc)).trans e
      exact ⟨Bx, Bp, Bs, hx, keep e1, keep e2, keep e3, keep e4, e5⟩
    case body =>
      rintro lq kk x a' W hlq ⟨⟨hno, bN1⟩, ⟨bR1, bE1⟩, hB1, hz1⟩ ⟨Bx, Bp, Bs, hx, e1, e2, e3, e4, rfl⟩ hkN
      have c0 := (blk_cell e1 0).trans rfl
      have c1 := (blk_cell e1 1).trans rfl
      have c3 := (blk_cell e1 3).trans rfl
      have c5 := (blk_cell e1 5).trans rfl
      have cN := bN1.cell
      have hgp := HG.out kk hkN
      obtain ⟨sb1, sb2, sb3, sb4⟩ := str_bd (d := a0_0) hgp (fun h => HG.out (kk + 1) h)
      have HNET := Aside0.mk (fun (x : Int) (w1 : World) (hx : glow a0_0 l0_1 kk ≤ x) (hy : x ≤ ghigh a0_0 l0_1 kk) (hb : Below W.heap.size W w1) => gnet_calls Bs Bp w2.heap.size (rd_T39 l0_1 (kk : Int)) a0_0 x _ _ _ _ _ _ w1 hgp hd1 hd2 (by omega) (by omega) (blk_below e3 hb) (blk_below e2 hb) (blk_below e4 hb))
      have HFST := Aside0.mk (grossup_first.calls 36 #[.pointer (some ⟨Bx, 0, none⟩), .pointer (some ⟨w.heap.size + 1, 0, none⟩)] (glow a0_0 l0_1 kk) (ghigh a0_0 l0_1 kk) (fun x => decide (a1 ≤ gnet (rd_T39 l0_1 (kk : Int)) a0_0 x)) (Drawn0 W) W lea_enter (by have := hgp.2.2.2.2.1; omega) (by omega) (Drawn0.refl _)
        (fun x w1 hx hy hd => (lea_calls Bx (w.heap.size + 1) Bs (gnet (rd_T39 l0_1 (kk : Int)) a0_0) x a1 _ _ _ _ _ w1 (fun n => by obtain ⟨m, rfl⟩ := hd; exact HNET.out x _ hx hy (pw_below_drewN (pw_below_drewN (Below.refl _ _) m) n)) (by obtain ⟨m, rfl⟩ := hd; exact blk_drewN e1 m) (by obtain ⟨m, rfl⟩ := hd; rw [cell_drewN']; exact cN)).mono
          fun e w3 h => ⟨h.1, by obtain ⟨n, rfl⟩ := h.2; exact hd.step n⟩))
      have HLX : Aside0 (leX a0_0 l0_1 a1 kk = if a0_0 < (rd_T39 l0_1 (kk : Int)).f2 then glow a0_0 l0_1 kk else firstB (fun x => decide (a1 ≤ gnet (rd_T39 l0_1 (kk : Int)) a0_0 x)) 64 (glow a0_0 l0_1 kk) (ghigh a0_0 l0_1 kk)) := ⟨rfl⟩
      have HLO : Aside0 (leOk a0_0 l0_1 a1 kk = (decide (leX a0_0 l0_1 a1 kk ≤ ghigh a0_0 l0_1 kk) && decide (a1 ≤ gnet (rd_T39 l0_1 (kk : Int)) a0_0 (leX a0_0 l0_1 a1 kk)))) := ⟨rfl⟩
      have sq := firstB_bd (fun x => decide (a1 ≤ gnet (rd_T39 l0_1 (kk : Int)) a0_0 x)) 64 (glow a0_0 l0_1 kk) (ghigh a0_0 l0_1 kk)
      have HNO := Aside0.mk hno
      have HBN := Aside0.mk bN1
      have HBR := Aside0.mk bR1
      have HBE := Aside0.mk bE1
      have HB1 := Aside0.mk hB1
      have HZ1 := Aside0.mk hz1
      have HE4W := Aside0.mk e4
      clear hno bN1 bR1 bE1 hB1 hz1 e1 e2 e3 e4 hgp bN bR bE kF hBL
      clear hsz
      have cR := HBR.out.cell
      have fR := HBR.out.frozen
      have cE := HBE.out.cell
      have fE := HBE.out.frozen
      have HYES := Aside0.mk (fun (n : Nat) (X : Int) (hX : X = leX a0_0 l0_1 a1 kk) (h1 : X ≤ ghigh a0_0 l0_1 kk) (h2 : a1 ≤ X - gtax (rd_T39 l0_1 (kk : Int)) a0_0 X) =>
        show KeepsFrom WL.heap.size W (((W.drewN n).setCell ⟨w.heap.size + 1 + 1, 0, none⟩ (.int .i64 X)).setCell ⟨w.heap.size + 1 + 1 + 1, 0, none⟩ (.int .i64 0)) ∧ LeX a0_0 l0_1 a1 w .ret kk (((W.drewN n).setCell ⟨w.heap.size + 1 + 1, 0, none⟩ (.int .i64 X)).setCell ⟨w.heap.size + 1 + 1 + 1, 0, none⟩ (.int .i64 0)) from
          ⟨(KeepsFrom.trans (Y := W.drewN n) (show KeepsFrom WL.heap.size W (W.drewN n) from ⟨Nat.le_refl _, fun _ _ _ h _ => h⟩) (((KeepsOthers.setCell _ _ _).trans (KeepsOthers.setCell _ _ _)).from _)),
           ⟨⟨rfl, by rw [HLO.out, ← hX, decide_eq_true h1, decide_eq_true (show a1 ≤ gnet (rd_T39 l0_1 (kk : Int)) a0_0 X from h2)]; rfl, HNO.out⟩,
            ⟨by rw [← hX]; exact ((show Boxed (W.drewN n) _ _ _ from HBR.out).set (.int .i64 X)).other (by omega) _, ((show Boxed (W.drewN n) _ _ _ from HBE.out).other (by omega) _).set _⟩,
            ((pw_below_drewN HB1.out n).setCell (p := ⟨w.heap.size + 1 + 1, 0, none⟩) (by show w.heap.size ≤ w.heap.size + 1 + 1; omega) _).setCell (p := ⟨w.heap.size + 1 + 1 + 1, 0, none⟩) (by show w.heap.size ≤ w.heap.size + 1 + 1 + 1; omega) _⟩⟩)
      have HNOO := Aside0.mk (fun (n : Nat) (X : Int) (hX : X = leX a0_0 l0_1 a1 kk) (h1 : (¬ X ≤ ghigh a0_0 l0_1 kk) ∨ ¬ a1 ≤ X - gtax (rd_T39 l0_1 (kk : Int)) a0_0 X) =>
        show KeepsFrom WL.heap.size W (W.drewN n) ∧ (Below w.heap.size W (W.drewN n) ∧ (W.drewN n).heap[w2.heap.size]? = W.heap[w2.heap.size]?) ∧ LeI a0_0 l0_1 a1 w w2 (kk + 1) (W.drewN n) from
          ⟨⟨Nat.le_refl _, fun _ _ _ h _ => h⟩, ⟨pw_below_drewN (Below.refl _ _) n, rfl⟩,
           ⟨⟨fun j hj => by
              by_cases e : j = kk
              · subst e
                rw [HLO.out, ← hX]
                rcases h1 with h1 | h1
                · rw [decide_eq_false h1]; rfl
                · rw [decide_eq_false (show ¬ a1 ≤ gnet (rd_T39 l0_1 (j : Int)) a0_0 X from h1), Bool.and_false]
              · exact HNO.out j (by omega), HBN.out⟩, ⟨HBR.out, HBE.out⟩, pw_below_drewN HB1.out n, HZ1.out⟩⟩)
      by_cases hnf : a0_0 < (rd_T39 l0_1 (kk : Int)).f2
      · have HEQ : Aside0 (glow a0_0 l0_1 kk = leX a0_0 l0_1 a1 kk) := ⟨by rw [HLX.out, if_pos hnf]⟩
        gi_wp2_with fail
        by_cases hxh : glow a0_0 l0_1 kk ≤ ghigh a0_0 l0_1 kk
        · by_cases hng : a1 ≤ glow a0_0 l0_1 kk - gtax (rd_T39 l0_1 (kk : Int)) a0_0 (glow a0_0 l0_1 kk)
          · refine Rdq.region_quiet_round lq rfl (by kernel_rfl) (by kernel_rfl) (by kernel_rfl) ?_
            repeat (refine wpQuietIn_step (F := Fence.wide) (fun _ _ _ _ => trivial) (fun K hK => ?_); go_simp; first | (refine hK _ ?_; clear hK K) | (apply Exists.intro; refine ⟨fun _ => ?_, hK _ ?_⟩; ((refine CallsIn.quiet_of (callsIn_wide.2 (HNET.out (glow a0_0 l0_1 kk) _ (Int.le_refl _) hxh (pw_below_drewN (Below.refl _ _) _))))); clear hK K))
            refine wpQuietIn_nil ?_
            rintro _ ⟨nq, rfl⟩
            gi_wp2
            exact HYES.out nq (glow a0_0 l0_1 kk) (HEQ.out) hxh hng
          · refine Rdq.region_quiet_round lq rfl (by kernel_rfl) (by kernel_rfl) (by kernel_rfl) ?_
            repeat (refine wpQuietIn_step (F := Fence.wide) (fun _ _ _ _ => trivial) (fun K hK => ?_); go_simp; first | (refine hK _ ?_; clear hK K) | (apply Exists.intro; refine ⟨fun _ => ?_, hK _ ?_⟩; ((refine CallsIn.quiet_of (callsIn_wide.2 (HNET.out (glow a0_0 l0_1 kk) _ (Int.le_refl _) hxh (pw_below_drewN (Below.refl _ _) _))))); clear hK K))
            refine wpQuietIn_nil ?_
            rintro _ ⟨nq, rfl⟩
            gi_wp2
            exact HNOO.out nq (glow a0_0 l0_1 kk) (HEQ.out) (Or.inr hng)
        · refine Rdq.region_quiet_round lq rfl (by kernel_rfl) (by kernel_rfl) (by kernel_rfl) ?_
          repeat (refine wpQuietIn_step (F := Fence.wide) (fun _ _ _ _ => trivial) (fun K hK => ?_); go_simp; first | (refine hK _ ?_; clear hK K) | (apply Exists.intro; refine ⟨fun _ => ?_, hK _ ?_⟩; ((refine CallsIn.quiet_of (callsIn_wide.2 (HNET.out (glow a0_0 l0_1 kk) _ (Int.le_refl _) hxh (pw_below_drewN (Below.refl _ _) _))))); clear hK K))
          refine wpQuietIn_nil ?_
          rintro _ ⟨nq, rfl⟩
          gi_wp2
          exact HNOO.out nq (glow a0_0 l0_1 kk) (HEQ.out) (Or.inl hxh)
      · have HEQ : Aside0 (firstB (fun x => decide (a1 ≤ gnet (rd_T39 l0_1 (kk : Int)) a0_0 x)) 64 (glow a0_0 l0_1 kk) (ghigh a0_0 l0_1 kk) = leX a0_0 l0_1 a1 kk) := ⟨by rw [HLX.out, if_neg hnf]⟩
        generalize firstB (fun x => decide (a1 ≤ gnet (rd_T39 l0_1 (kk : Int)) a0_0 x)) 64 (glow a0_0 l0_1 kk) (ghigh a0_0 l0_1 kk) = q at *
        gi_wp2_with fail
        refine ⟨trivial, ?_⟩
        refine ((callsIn_wide.2 HFST.out).inRound lq).mono ?_
        rintro e w3 ⟨rfl, ⟨n3, hw3⟩⟩
        have HBD : Aside0 (Below W.heap.size W w3) := ⟨by rw [hw3]; exact pw_below_drewN (Below.refl _ _) n3⟩
        have tr : ∀ (a : Addr) (o : Option Value), W.cell? a = o → w3.cell? a = o := fun a o h => by rw [hw3, cell_drewN']; exact h
        have tf : ∀ (a : Addr) (o : Bool), W.frozen? a = o → w3.frozen? a = o := fun a o h => by rw [hw3]; exact h
        replace c1 := tr _ _ c1
        replace c3 := tr _ _ c3
        replace cN := tr _ _ cN
        replace cR := tr _ _ cR
        replace cE := tr _ _ cE
        replace fR := tf _ _ fR
        replace fE := tf _ _ fE
        clear tr tf
        have HWd := Aside0.mk hw3
        clear hw3 c0 c5
        gi_wp2_with fail
        by_cases hxh : q ≤ ghigh a0_0 l0_1 kk
        · by_cases hng : a1 ≤ q - gtax (rd_T39 l0_1 (kk : Int)) a0_0 (q)
          · refine Rdq.region_quiet_round lq rfl (by kernel_rfl) (by kernel_rfl) (by kernel_rfl) ?_
            repeat (refine wpQuietIn_step (F := Fence.wide) (fun _ _ _ _ => trivial) (fun K hK => ?_); go_simp; first | (refine hK _ ?_; clear hK K) | (apply Exists.intro; refine ⟨fun _ => ?_, hK _ ?_⟩; ((refine CallsIn.quiet_of (callsIn_wide.2 (HNET.out (q) _ sq.1 hxh (pw_below_drewN HBD.out _))))); clear hK K))
            refine wpQuietIn_nil ?_
            rintro _ ⟨nq, rfl⟩
            gi_wp2
            rw [HWd.out, World.drewN_drewN]; exact HYES.out (n3 + nq) (q) (HEQ.out) hxh hng
          · refine Rdq.region_quiet_round lq rfl (by kernel_rfl) (by kernel_rfl) (by kernel_rfl) ?_
            repeat (refine wpQuietIn_step (F := Fence.wide) (fun _ _ _ _ => trivial) (fun K hK => ?_); go_simp; first | (refine hK _ ?_; clear hK K) | (apply Exists.intro; refine ⟨fun _ => ?_, hK _ ?_⟩; ((refine CallsIn.quiet_of (callsIn_wide.2 (HNET.out (q) _ sq.1 hxh (pw_below_drewN HBD.out _))))); clear hK K))
            refine wpQuietIn_nil ?_
            rintro _ ⟨nq, rfl⟩
            gi_wp2
            rw [HWd.out, World.drewN_drewN]; exact HNOO.out (n3 + nq) (q) (HEQ.out) (Or.inr hng)
        · refine Rdq.region_quiet_round lq rfl (by kernel_rfl) (by kernel_rfl) (by kernel_rfl) ?_
          repeat (refine wpQuietIn_step (F := Fence.wide) (fun _ _ _ _ => trivial) (fun K hK => ?_); go_simp; first | (refine hK _ ?_; clear hK K) | (apply Exists.intro; refine ⟨fun _ => ?_, hK _ ?_⟩; ((refine CallsIn.quiet_of (callsIn_wide.2 (HNET.out (q) _ sq.1 hxh (pw_below_drewN HBD.out _))))); clear hK K))
          refine wpQuietIn_nil ?_
          rintro _ ⟨nq, rfl⟩
          gi_wp2
          rw [HWd.out, World.drewN_drewN]; exact HNOO.out (n3 + nq) (q) (HEQ.out) (Or.inl hxh)
    case done =>
      rintro D W hD ⟨⟨hno, bN1⟩, ⟨bR1, bE1⟩, hB1, hz1⟩ hK
      have hlf : leF a0_0 l0_1 a1 = (0, 301) := by
        unfold leF
        have : (List.range l0_1.length).find? (leOk a0_0 l0_1 a1) = none := by
          rw [List.find?_eq_none]
          intro j hj
          rw [hno j (List.mem_range.1 hj)]; simp
        rw [this]
      obtain ⟨e1, e2⟩ : (0 : Int) = r1 ∧ (301 : Int) = r2 := by have := HN.out; rw [hlf] at this; simpa using this
      have cR := bR1.cell
      have fR := bR1.frozen
      have cE := bE1.cell
      have fE := bE1.frozen
      have HKK := Aside0.mk hK
      have HBB := Aside0.mk hB1
      have HRR := Aside0.mk bR1
      have HEE := Aside0.mk bE1
      have hsD : WL.heap.size ≤ D := hD
      have hsD2 : w2.heap.size + 1 ≤ D := by omega
      have hneD1 : w.heap.size + 1 + 1 ≠ D := by omega
      have hneD2 : w.heap.size + 1 + 1 + 1 ≠ D := by omega
      clear hno bN1 bR1 bE1 hB1 hK hz1 bN bR bE kF hBL hsz hD hlf
      subst e1 e2
      gi_wp2
      obtain ⟨W9, hW9⟩ : ∃ W9, W9 = (W.setCell ⟨w.heap.size + 1 + 1, 0, none⟩ (.int .i64 0)).setCell ⟨w.heap.size + 1 + 1 + 1, 0, none⟩ (.int .i64 301) := ⟨_, rfl⟩
      have hK9 : W9.heap[D]? = some (.deferred (some [])) := by
        rw [hW9]; rw [Below.heap_setCell _ _ _ _ (show D ≠ w.heap.size + 1 + 1 + 1 by omega), Below.heap_setCell _ _ _ _ (show D ≠ w.heap.size + 1 + 1 by omega)]; exact HKK.out
      have r9 : Boxed (W9.putObj D (.deferred none)) (w.heap.size + 1 + 1) 3 (.int .i64 0) := by
        rw [hW9]; exact (World.putObj_heap_other (by omega)).trans ((HRR.out.set (.int .i64 0)).other (by omega) _)
      have e9 : Boxed (W9.putObj D (.deferred none)) (w.heap.size + 1 + 1 + 1) 27 (.int .i64 301) := by
        rw [hW9]; exact (World.putObj_heap_other (by omega)).trans ((HEE.out.other (by omega) _).set _)
      have b9 : Below w.heap.size w (W9.putObj D (.deferred none)) := by
        refine Below.trans ?_ (belowK_b (w := w) (Nat.le_refl _) W9 D _ _ (by omega) hK9 rfl rfl)
        rw [hW9]; exact (HBB.out.setCell (p := ⟨w.heap.size + 1 + 1, 0, none⟩) (by show w.heap.size ≤ w.heap.size + 1 + 1; omega) _).setCell (p := ⟨w.heap.size + 1 + 1 + 1, 0, none⟩) (by show w.heap.size ≤ w.heap.size + 1 + 1 + 1; omega) _
      rw [← hW9]
      clear hW9
      refine ⟨by simp, .inl ⟨_, _, rfl, run_takeDeferred hK9, ?_⟩⟩
      have cr := r9.cell
      have ce := e9.cell
      refine ⟨_, by simp [results, Try.results16, go_sem, asAddr, cr, ce, hu27], rfl, b9⟩
    case stop =>
      rintro D c kk W hD hkN ⟨⟨rfl, hok, hno⟩, ⟨bR1, bE1⟩, hB1⟩ hK
      have hlf : leF a0_0 l0_1 a1 = (leX a0_0 l0_1 a1 kk, 0) := by
        unfold leF
        have : (List.range l0_1.length).find? (leOk a0_0 l0_1 a1) = some kk := by
          rw [List.find?_range_eq_some]
          exact ⟨hok, List.mem_range.2 hkN, fun j hj => by rw [hno j hj]; rfl⟩
        rw [this]
      obtain ⟨e1, e2⟩ : leX a0_0 l0_1 a1 kk = r1 ∧ (0 : Int) = r2 := by have := HN.out; rw [hlf] at this; simpa using this
      rw [e1] at bR1
      have HKK := Aside0.mk hK
      have HBB := Aside0.mk hB1
      have HRR := Aside0.mk bR1
      have HEE := Aside0.mk bE1
      clear hno bR1 bE1 hB1 hK bN bR bE kF hBL hlf hok e1
      subst e2
      have hsD : WL.heap.size ≤ D := hD
      have hsD2 : w2.heap.size + 1 ≤ D := by omega
      gi_wp2
      obtain ⟨W9, hW9⟩ : ∃ W9, W9 = W := ⟨_, rfl⟩
      have hK9 : W9.heap[D]? = some (.deferred (some [])) := by
        rw [hW9]; exact HKK.out
      have r9 : Boxed (W9.putObj D (.deferred none)) (w.heap.size + 1 + 1) 3 (.int .i64 r1) := by
        rw [hW9]; exact (World.putObj_heap_other (by omega)).trans HRR.out
      have e9 : Boxed (W9.putObj D (.deferred none)) (w.heap.size + 1 + 1 + 1) 27 (.int .i64 0) := by
        rw [hW9]; exact (World.putObj_heap_other (by omega)).trans HEE.out
      have b9 : Below w.heap.size w (W9.putObj D (.deferred none)) := by
        refine Below.trans ?_ (belowK_b (w := w) (Nat.le_refl _) W9 D _ _ (by omega) hK9 rfl rfl)
        rw [hW9]; exact HBB.out
      rw [← hW9]
      clear hW9
      refine ⟨by simp, .inl ⟨_, _, rfl, run_takeDeferred hK9, ?_⟩⟩
      have cr := r9.cell
      have ce := e9.cell
      refine ⟨_, by simp [results, Try.results16, go_sem, asAddr, cr, ce, hu27], rfl, b9⟩
  · obtain ⟨e1, e2⟩ : (0 : Int) = r1 ∧ e0 = r2 := by have := HH.out; rw [if_neg hz] at this; simpa using this
    subst e1 e2
    go_enter Try.func16, Try.ntmps16
    go_wp2_with fail
    rw [← hW1]
    refine HCH.out.mono ?_
    rintro e w2 ⟨rfl, hb2⟩
    have HB2 := Aside0.mk (below_step HB1.out hb2)
    have k2 := blk_below HK2.out hb2
    have k3 := blk_below HK3.out hb2
    have c2 := (blk_cell k2 0).trans rfl
    have f2 := blk_frozen k2 0
    have c3 := (blk_cell k3 0).trans rfl
    have f3 := blk_frozen k3 0
    clear hb2 hW1 k2 k3
    go_wp2
    refine bodyPost_ret (v := .tuple #[.int .i64 0, .int .i64 e0]) (by simp [results, Try.results16, go_sem, asAddr, c2, f2, c3, f3, hu27]) rfl ?_
    exact ⟨rfl, below_set (below_set HB2.out (by omega)) (by omega)⟩


end Go.Proofs.Yteapeglolkfimaa.My
end
section
-- Written by a program of this session (wip/myprint.py), which drives the kit's print over hand-written fragments. Not trusted: Lean checks it.

namespace Go.Proofs.Yteapeglolkfimaa.My
open Go.Proofs.Yteapeglolkfimaa.Aid Go.Proofs.Yteapeglolkfimaa.KdX
open Go.RowKit Go.Proofs.YteapeglolkfimaaW.PrintWords Go.Proofs.YteapeglolkfimaaW.PrintLast Go.Proofs.YteapeglolkfimaaW.PrintMore
attribute [local go_sem] max2_int min2_int max_two min_two max_three min_three max_four min_four   -- for this text's walks alone
set_option linter.unusedVariables false
set_option linter.unusedSimpArgs false

theorem eqA36 (d : Nat) (w : World) (x0 y0 : Int) (x1 y1 : Int) :
    (Op.equalIn (d + 2) 36 (.agg #[.int .i64 x0, .int .i64 x1]) (.agg #[.int .i64 y0, .int .i64 y1])).run Try.prog w = .ok (x0 == y0 && (x1 == y1)) w := by
  refine eqA_of Try.underlying36 (by kernel_rfl) ?_
  refine eqf_cons (by rfl) (by go_simp; rfl) (by go_simp; rfl) (by go_simp) ?_
  exact eqf_last (by rfl) (by go_simp; rfl) (by go_simp; rfl) (by go_simp)
end Go.Proofs.Yteapeglolkfimaa.My
end
section
-- Written by a program of this session (wip/myprint.py), which drives the kit's print over hand-written fragments. Not trusted: Lean checks it.


namespace Go.Proofs.Yteapeglolkfimaa.My
open Go.Proofs.Yteapeglolkfimaa.Aid Go.Proofs.Yteapeglolkfimaa.KdX
open Go.RowKit Go.Proofs.YteapeglolkfimaaW.PrintWords Go.Proofs.YteapeglolkfimaaW.PrintLast Go.Proofs.YteapeglolkfimaaW.PrintMore
attribute [local go_sem] max2_int min2_int max_two min_two max_three min_three max_four min_four   -- for this text's walks alone
set_option linter.unusedVariables false
set_option linter.unusedSimpArgs false

attribute [local go_sem high] eqA36
/-! ### wageofficeref30_Spans: function 18 -/
def wageofficeref30_Spans.l0 : Nat → List (S36) → List (S36) → Int → Option (Bool)
  | 0, _, _, _ => none
  | k + 1, x0, x1, x5 => if x5 < (x0.length : Int) then (if 0 ≤ x5 then (if x5 < (x1.length : Int) then (if (!(((rd_T36 x0 x5).f0) == ((rd_T36 x1 x5).f0)) || (!(((rd_T36 x0 x5).f1) == ((rd_T36 x1 x5).f1)))) = true then (some false) else (wageofficeref30_Spans.l0 k x0 x1 (wrap64 (x5 + 1)))) else (none)) else (none)) else (some true)
def wageofficeref30_Spans.f (k : Nat) (l0 : List (S36)) (l1 : List (S36)) : Option (Bool) := if (l0.length : Int) = (l1.length : Int) then (wageofficeref30_Spans.l0 k l0 l1 0) else (some false)
theorem wageofficeref30_Spans.mono_l : ∀ k, (∀ y0 y1 y2, LeO (wageofficeref30_Spans.l0 k y0 y1 y2) (wageofficeref30_Spans.l0 (k + 1) y0 y1 y2))
  | 0 => fun _ _ _ r h => by simp [wageofficeref30_Spans.l0] at h
  | k + 1 => by
    have ih0 := wageofficeref30_Spans.mono_l k
    · intro y0 y1 y2
      unfold wageofficeref30_Spans.l0
      repeat' first
      | (with_reducible exact ih0 _ _ _)
      | (with_reducible exact LeO.refl _)
      | (with_reducible exact LeO.none _)
      | (with_reducible refine LeO.ite ?_ ?_)
      | (with_reducible refine LeO.bind ?_ (fun _ => ?_))
      | exact ih0 _ _ _
      | exact LeO.none _
      | refine LeO.ite ?_ ?_
      | refine LeO.bind ?_ (fun _ => ?_)
theorem wageofficeref30_Spans.mono : ∀ a0 a1 k, LeO (wageofficeref30_Spans.f k a0 a1) (wageofficeref30_Spans.f (k + 1) a0 a1) := by
  intro a0 a1 k
  have ih0 := wageofficeref30_Spans.mono_l k
  unfold wageofficeref30_Spans.f
  repeat' first
      | (with_reducible exact ih0 _ _ _)
      | (with_reducible exact LeO.refl _)
      | (with_reducible exact LeO.none _)
      | (with_reducible refine LeO.ite ?_ ?_)
      | (with_reducible refine LeO.bind ?_ (fun _ => ?_))
      | exact ih0 _ _ _
      | exact LeO.none _
      | refine LeO.ite ?_ ?_
      | refine LeO.bind ?_ (fun _ => ?_)
set_option maxHeartbeats 8000000 in
set_option maxRecDepth 100000 in
theorem wageofficeref30_Spans.calls (k : Nat) (A0 : Option Addr) (c0 : Nat) (l0 : List (S36)) (A1 : Option Addr) (c1 : Nat) (l1 : List (S36)) (r : Bool) (w : World) (hr0 : Kd.C k36 w A0 l0.length l0) (hc0 : l0.length ≤ c0) (hr1 : Kd.C k36 w A1 l1.length l1) (hc1 : l1.length ≤ c1) (h : wageofficeref30_Spans.f k l0 l1 = some r) :
    Calls Try.prog 18 #[.slice A0 l0.length c0, .slice A1 l1.length c1] w fun e w' => e = .returned (.bool r) ∧ Drawn0 w w' := by
  have hu36 := Try.underlying36
  have HR0 := Aside0.mk hr0
  have HC0 := Aside0.mk hc0
  clear hr0 hc0
  have HR1 := Aside0.mk hr1
  have HC1 := Aside0.mk hc1
  clear hr1 hc1
  have H : (if (l0.length : Int) = (l1.length : Int) then (wageofficeref30_Spans.l0 k l0 l1 0) else (some false)) = some r := h
  clear h
  by_cases c3 : (l0.length : Int) = (l1.length : Int)
  · rw [if_pos c3] at H
    have c3b0 : ((l0.length : Int) == (l1.length : Int)) = true := beq_iff_eq.mpr c3
    have c3b1 : ((l0.length : Int) != (l1.length : Int)) = false := bne_eq_false_iff_eq.mpr c3
    have c3b2 : (l0.length == l1.length) = true := by first | simpa using c3 | (simp at c3 ⊢; omega)
    clear c3
    have H' := Aside0.mk H
    clear H
    go_enter Try.func18, Try.ntmps18
    go_wp2
    repeat (go_quiet (fail); try go_wp2)
    go_loopg [5] k (fun kq v5 w' => ∃ (x5_1 : Int), v5 = .int .i64 x5_1 ∧ Aside0 (wageofficeref30_Spans.l0 kq l0 l1 x5_1 = some r) ∧ Aside0 (kq ≤ k) ∧ Drawn0 w w')
    case atStart => exact ⟨(0), (by first | rfl | (simp; done) | (simp [*]; done)), H', ⟨Nat.le_refl _⟩, by repeat (first | exact Drawn0.refl _ | apply Drawn0.step)⟩
    case round =>
      clear H'
      try clear c1
      try clear p2
      try clear c3
      try clear c3b0
      try clear c3b1
      try clear c3b2
      obtain ⟨x5_1, rfl, HA, HK1, ⟨m1, rfl⟩⟩ := hrel
      cases gk with
      | zero => exact absurd HA.out (by simp [wageofficeref30_Spans.l0])
      | succ k1 =>
        have H := HA.out
        clear HA
        simp only [wageofficeref30_Spans.l0] at H
        by_cases c4 : x5_1 < (l0.length : Int)
        · rw [if_pos c4] at H
          have c4b0 : decide (x5_1 < (l0.length : Int)) = true := decide_eq_true c4
          clear c4
          by_cases c5 : 0 ≤ x5_1
          · rw [if_pos c5] at H
            have c5b0 : decide (0 ≤ x5_1) = true := decide_eq_true c5
            clear c5
            by_cases c6 : x5_1 < (l1.length : Int)
            · rw [if_pos c6] at H
              have c6b0 : decide (x5_1 < (l1.length : Int)) = true := decide_eq_true c6
              clear c6
              by_cases c7 : (!(((rd_T36 l0 x5_1).f0) == ((rd_T36 l1 x5_1).f0)) || (!(((rd_T36 l0 x5_1).f1) == ((rd_T36 l1 x5_1).f1)))) = true
              · rw [if_pos c7] at H
                have c7b0 : (!(((rd_T36 l0 x5_1).f0) == ((rd_T36 l1 x5_1).f0)) || (!(((rd_T36 l0 x5_1).f1) == ((rd_T36 l1 x5_1).f1)))) = true := c7
                clear c7
                obtain rfl := Option.some.inj H
                have p141 : 0 ≤ (x5_1 : Int) := of_decide_eq_true (by first | (with_reducible assumption) | assumption)
                have q141 : x5_1 < (l0.length : Int) := of_decide_eq_true (by first | (with_reducible assumption) | assumption)
                obtain ⟨ad141, e141, hx141_0, hx141_1⟩ := at_T36 HR0.out x5_1 p141 q141
                cases e141
                replace p141 := eq_true p141
                replace q141 := eq_true q141
                have p142 : 0 ≤ (x5_1 : Int) := of_decide_eq_true (by first | (with_reducible assumption) | assumption)
                have q142 : x5_1 < (l1.length : Int) := of_decide_eq_true (by first | (with_reducible assumption) | assumption)
                obtain ⟨ad142, e142, hx142_0, hx142_1⟩ := at_T36 HR1.out x5_1 p142 q142
                cases e142
                replace p142 := eq_true p142
                replace q142 := eq_true q142
                go_wp2
                repeat (go_quiet (fail); try go_wp2)
                go_ret
                exact ⟨by first | rfl | (simp; done) | (simp [*]; done), by repeat (first | exact Drawn0.refl _ | apply Drawn0.step)⟩
              · rw [if_neg c7] at H
                have c7b0 : (!(((rd_T36 l0 x5_1).f0) == ((rd_T36 l1 x5_1).f0)) || (!(((rd_T36 l0 x5_1).f1) == ((rd_T36 l1 x5_1).f1)))) = false := by simpa using c7
                clear c7
                have H' := Aside0.mk H
                clear H
                have p141 : 0 ≤ (x5_1 : Int) := of_decide_eq_true (by first | (with_reducible assumption) | assumption)
                have q141 : x5_1 < (l0.length : Int) := of_decide_eq_true (by first | (with_reducible assumption) | assumption)
                obtain ⟨ad141, e141, hx141_0, hx141_1⟩ := at_T36 HR0.out x5_1 p141 q141
                cases e141
                replace p141 := eq_true p141
                replace q141 := eq_true q141
                have p142 : 0 ≤ (x5_1 : Int) := of_decide_eq_true (by first | (with_reducible assumption) | assumption)
                have q142 : x5_1 < (l1.length : Int) := of_decide_eq_true (by first | (with_reducible assumption) | assumption)
                obtain ⟨ad142, e142, hx142_0, hx142_1⟩ := at_T36 HR1.out x5_1 p142 q142
                cases e142
                replace p142 := eq_true p142
                replace q142 := eq_true q142
                go_wp2
                repeat (go_quiet (fail); try go_wp2)
                go_roundg k1
                case measure => have := HK1.out; omega
                case rel => exact ⟨(wrap64 (x5_1 + 1)), (by first | rfl | (simp; done) | (simp [*]; done)), H', ⟨by have := HK1.out; omega⟩, by repeat (first | exact Drawn0.refl _ | apply Drawn0.step)⟩
            · rw [if_neg c6] at H
              exact absurd H (by simp)
          · rw [if_neg c5] at H
            exact absurd H (by simp)
        · rw [if_neg c4] at H
          have c4b0 : decide (x5_1 < (l0.length : Int)) = false := decide_eq_false c4
          clear c4
          obtain rfl := Option.some.inj H
          go_wp2
          repeat (go_quiet (fail); try go_wp2)
          go_ret
          exact ⟨by first | rfl | (simp; done) | (simp [*]; done), by repeat (first | exact Drawn0.refl _ | apply Drawn0.step)⟩
  · rw [if_neg c3] at H
    have c3b0 : ((l0.length : Int) == (l1.length : Int)) = false := beq_eq_false_iff_ne.mpr c3
    have c3b1 : ((l0.length : Int) != (l1.length : Int)) = true := bne_iff_ne.mpr c3
    have c3b2 : (l0.length == l1.length) = false := by first | simpa using c3 | (simp at c3 ⊢; omega)
    obtain rfl := Option.some.inj H
    go_enter Try.func18, Try.ntmps18
    go_wp2
    repeat (go_quiet (fail); try go_wp2)
    go_ret
    exact ⟨by first | rfl | (simp; done) | (simp [*]; done), by repeat (first | exact Drawn0.refl _ | apply Drawn0.step)⟩

end Go.Proofs.Yteapeglolkfimaa.My
end
