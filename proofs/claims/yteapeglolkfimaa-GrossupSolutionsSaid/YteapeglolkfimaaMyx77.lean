-- Written by a program of this session (wip/myprint.py), which drives the kit's print over hand-written fragments. Not trusted: Lean checks it.
import Derived.Test.YteapeglolkfimaaMyx0
import Derived.Test.YteapeglolkfimaaMyx79
import Derived.Test.YteapeglolkfimaaShelfE
import Derived.Test.YteapeglolkfimaaSrK
import Derived.Deep.RegionHeld3
namespace Go.Proofs.Yteapeglolkfimaa.My
open Go.Proofs.Yteapeglolkfimaa.Aid Go.Proofs.Yteapeglolkfimaa.KdX
open Go.RowKit Go.Proofs.YteapeglolkfimaaW.PrintWords Go.Proofs.YteapeglolkfimaaW.PrintLast Go.Proofs.YteapeglolkfimaaW.PrintMore
attribute [local go_sem] max2_int min2_int max_two min_two max_three min_three max_four min_four   -- for this text's walks alone
set_option linter.unusedVariables false
set_option linter.unusedSimpArgs false

/-! ### span_edge_77: function 77 (by hand) -/
-- IMPORT Derived.Test.YteapeglolkfimaaShelfE
-- IMPORT Derived.Test.YteapeglolkfimaaSrK
-- IMPORT Derived.Deep.RegionHeld3
-- (calls span_edge_79)
def encE (x : S87) : List Value := [.int .i64 x.f0, .int .i64 x.f1, .int .i64 x.f2]
instance : Inhabited S87 := ⟨z87⟩
theorem key_enter : ∀ args w1, (callFunc 78 args).run Try.prog w1 = .ok (.enter 78 args) w1 := by
  intro args w1
  go_simp
theorem ord1_enter : ∀ args w1, (callFunc 81 args).run Try.prog w1 = .ok (.enter 81 args) w1 := by
  intro args w1
  go_simp
set_option maxHeartbeats 400000 in
theorem key_calls (x : S87) (w : World) : Calls Try.prog 78 #[.agg #[.int .i64 x.f0, .int .i64 x.f1, .int .i64 x.f2]] w fun e w' => e = .returned (.int .i64 x.f0) ∧ w' = w.alloc (.cells #[.int .i64 x.f0, .int .i64 x.f1, .int .i64 x.f2] 87) := by
  have hu := Try.underlying87
  go_enter Try.func78, Try.ntmps78
  go_wp2
  go_ret
  exact ⟨rfl, rfl⟩
/-- The world behind some draws and some new blocks. -/
def Grown (W w' : World) : Prop := ∃ q os, w' = Go.Sort.grow (W.drewN q) os
theorem Grown.refl (W : World) : Grown W W := ⟨0, #[], by simp [Go.Sort.grow]; rfl⟩
theorem Grown.alloc {W w' : World} (h : Grown W w') (o : Obj) : Grown W (w'.alloc o) := by
  obtain ⟨q, os, rfl⟩ := h
  exact ⟨q, os ++ #[o], by rw [Go.Sort.alloc_eq_grow, Go.Sort.grow_grow]⟩
theorem Grown.drew {W w' : World} (h : Grown W w') : Grown W w'.drew := by
  obtain ⟨q, os, rfl⟩ := h
  exact ⟨q + 1, os, rfl⟩
theorem Grown.drewN {W w' : World} (h : Grown W w') (n : Nat) : Grown W (w'.drewN n) := by
  obtain ⟨q, os, rfl⟩ := h
  exact ⟨q + n, os, by rw [← World.drewN_drewN]; rfl⟩
set_option maxRecDepth 100000 in
set_option maxHeartbeats 1000000 in
theorem ord1_calls (x y : S87) (pk : Nat) (W : World) (hk : W.heap[pk]? = some (.cells #[.func (.func 78) #[] #[]] 89 (0, 0))) :
    Calls Try.prog 81 #[.agg #[.int .i64 x.f0, .int .i64 x.f1, .int .i64 x.f2], .agg #[.int .i64 y.f0, .int .i64 y.f1, .int .i64 y.f2], .pointer (some ⟨pk, 0, none⟩)] W fun e w' => e = .returned (.int .i64 (Lib.compareInt x.f0 y.f0)) ∧ Grown W w' := by
  have hu := Try.underlying87
  have HCMP := Aside0.mk (fun X => AnyG.cmp_Compare_int Try.cmpI x.f0 y.f0 X)
  change Aside0 (∀ X, Calls Try.prog 82 _ _ _) at HCMP
  generalize Lib.compareInt x.f0 y.f0 = r at HCMP ⊢
  obtain ⟨W1, hW1⟩ : ∃ W1, W1 = (W.alloc (.cells #[.int .i64 x.f0, .int .i64 x.f1, .int .i64 x.f2] 87)).alloc (.cells #[.int .i64 y.f0, .int .i64 y.f1, .int .i64 y.f2] 87) := ⟨_, rfl⟩
  have hG : Grown W W1 := by subst hW1; exact ((Grown.refl W).alloc _).alloc _
  have kk : W1.heap[pk]? = some (.cells #[.func (.func 78) #[] #[]] 89 (0, 0)) := by subst hW1; exact blk_alloc (blk_alloc hk _) _
  have k1 : W1.heap[W.heap.size]? = some (.cells #[.int .i64 x.f0, .int .i64 x.f1, .int .i64 x.f2] 87 (0, 0)) := by subst hW1; exact blk_alloc (blk_new _ _) _
  have k2 : W1.heap[W.heap.size + 1]? = some (.cells #[.int .i64 y.f0, .int .i64 y.f1, .int .i64 y.f2] 87 (0, 0)) := by subst hW1; have := blk_new (W.alloc (.cells #[.int .i64 x.f0, .int .i64 x.f1, .int .i64 x.f2] 87)) (.cells #[.int .i64 y.f0, .int .i64 y.f1, .int .i64 y.f2] 87); rwa [World.size_alloc] at this
  have HX := Aside0.mk hW1
  have HG := Aside0.mk hG
  have cK := (blk_cell kk 0).trans rfl
  have x0 := (blk_cell k1 0).trans rfl
  have x1 := (blk_cell k1 1).trans rfl
  have x2 := (blk_cell k1 2).trans rfl
  have y0 := (blk_cell k2 0).trans rfl
  have y1 := (blk_cell k2 1).trans rfl
  have y2 := (blk_cell k2 2).trans rfl
  have HK := Aside0.mk hk
  clear hW1 hG kk k1 k2 hk
  go_enter Try.func81, Try.ntmps81
  go_wp2_with fail
  rw [← HX.out]
  generalize hb : W.heap.size = b at *
  generalize hb1 : b + 1 = b1 at *
  have HB0 := Aside0.mk hb
  have HB1 := Aside0.mk hb1
  clear hb hb1
  have HST := Aside0.mk (Grown.drew HG.out)
  go_region_held3 (fun w' => w'.cell? ⟨pk, 0, none⟩ = some (.func (.func 78) #[] #[]) ∧ w'.cell? ⟨b, 0, none⟩ = some (.int .i64 x.f0) ∧ w'.cell? ⟨b, 1, none⟩ = some (.int .i64 x.f1) ∧ w'.cell? ⟨b, 2, none⟩ = some (.int .i64 x.f2) ∧ w'.cell? ⟨b1, 0, none⟩ = some (.int .i64 y.f0) ∧ w'.cell? ⟨b1, 1, none⟩ = some (.int .i64 y.f1) ∧ w'.cell? ⟨b1, 2, none⟩ = some (.int .i64 y.f2)) (go_keep)
    (first
      | (go_at_call 82; refine (HCMP.out _).mono ?_; rintro e w' ⟨rfl, rfl⟩)
      | (refine (key_calls x _).mono ?_; rintro e w' ⟨rfl, rfl⟩)
      | (refine (key_calls y _).mono ?_; rintro e w' ⟨rfl, rfl⟩))
  all_goals
    go_wp2
    go_ret
    exact ⟨rfl, by repeat (first | exact HG.out | apply Grown.alloc | apply Grown.drew | apply Grown.drewN)⟩
theorem ltE (x y : S87) : ltOf (fun x y : S87 => Lib.compareInt x.f0 y.f0) x y = decide (x.f0 < y.f0) := by
  unfold ltOf Lib.compareInt
  by_cases h1 : x.f0 < y.f0
  · simp [h1]
  · by_cases h2 : y.f0 < x.f0 <;> simp [h1, h2]
theorem swoE : Go.Sort.SWO (ltOf fun x y : S87 => Lib.compareInt x.f0 y.f0) where
  irrefl x := by rw [ltE]; simp
  trans x y z h1 h2 := by rw [ltE] at *; simp at *; omega
  ntrans x y z h1 h2 := by rw [ltE] at *; simp at *; omega
set_option maxRecDepth 100000 in
set_option maxHeartbeats 1000000 in
theorem span_edge_77.calls (A0 : Option Addr) (c0 : Nat) (d : List S87) (w : World) (hr0 : Kd.C k87 w A0 d.length d) (hc0 : d.length ≤ c0) (hl : d.length ≤ 1000000000) :
    Calls Try.prog 77 #[.slice A0 d.length c0, .func (.func 78) #[] #[]] w fun e w' => ∃ (v : Value) (t : List S87), e = .returned v ∧ t.Perm d ∧ t.Pairwise (fun x y => x.f0 ≤ y.f0) ∧ Kd.R k87 87 w' w.heap.size (fun _ => True) v t ∧ Below w.heap.size w w' := by
  obtain ⟨W, hW⟩ : ∃ W, W = w.alloc (.cells #[.func (.func 78) #[] #[]] 89) := ⟨_, rfl⟩
  have hB : Below w.heap.size w W := by subst hW; exact below_alloc (Below.refl _ _) _
  have k0 : W.heap[w.heap.size]? = some (.cells #[.func (.func 78) #[] #[]] 89 (0, 0)) := by subst hW; exact blk_new _ _
  have hsz : w.heap.size < W.heap.size := blk_lt k0
  have HCL := Aside0.mk (span_edge_79.calls A0 c0 d d W (Kd.C_below hr0 hB) hc0 (by unfold span_edge_79.f; rw [if_pos hl]))
  have HB := Aside0.mk hB
  have HX := Aside0.mk hW
  have K0 := Aside0.mk k0
  clear hr0 hB hW k0
  go_enter Try.func77, Try.ntmps77
  go_wp2_with fail
  rw [← HX.out]
  refine HCL.out.mono ?_
  rintro e w2 ⟨v, rfl, hR, hb⟩
  have hown := KdF.R_own (d := k87) (f := encE) (fun _ => rfl) (fun ok x cs h => k87_openM h) hR
  obtain ⟨A2, c2, rfl, hcap, hC⟩ := Kd.R_reads hR
  have k2 := blk_below K0.out hb
  have HB2 := Aside0.mk (below_step HB.out hb)
  have HRR := Aside0.mk hR
  clear hR hC HCL
  by_cases hd : d = []
  · have HD := Aside0.mk hd
    have h0 : d.length = 0 := by rw [hd]; rfl
    have HS : Aside0 (Calls Try.prog 80 #[.slice A2 d.length c2, .func (.func 81) #[] #[.pointer (some ⟨w.heap.size, 0, none⟩)]] w2 fun e w' => e = .returned (.tuple #[]) ∧ w' = w2) :=
      ⟨by rw [h0]; exact AnyF.slices_SortFunc_none Try.sortE A2 c2 _ w2⟩
    clear hd h0 hown k2 hb
    go_wp2_with fail
    refine HS.out.mono ?_
    rintro e w3 ⟨rfl, rfl⟩
    go_wp2
    go_ret
    exact ⟨_, d, rfl, List.Perm.refl _, by rw [HD.out]; exact List.Pairwise.nil, Kd.R_lower HRR.out (Nat.le_of_lt hsz), HB2.out⟩
  · have hpos : 0 < d.length := List.length_pos_iff.2 hd
    obtain ⟨g, rfl⟩ : ∃ g, A2 = some ⟨g, 0, none⟩ := by
      rcases hown.2 with ⟨e1, e2⟩ | ⟨g, cap, cur, e1, _⟩
      · have := (Value.slice.inj e1).2.1; omega
      · exact ⟨g, (Value.slice.inj e1).1⟩
    obtain ⟨hg1, hg2, hH, _⟩ := SrK.holds_of_own (f := encE) (k := 3) (fun _ => rfl) hown rfl hpos
    have hS := AnyQ.slices_SortFunc Try.sortE 3 Try.isAgg87 Try.sizeOf87 encE (fun _ => rfl) (fun x v hv => by simp [encE] at hv; rcases hv with rfl | rfl | rfl <;> rfl) (fun x y => Lib.compareInt x.f0 y.f0) swoE 81 #[.pointer (some ⟨w.heap.size, 0, none⟩)] g 0 c2 d.toArray w2 ord1_enter
      (fun m os dk hs x y => ord1_calls x y w.heap.size _ (((SrK.grown_sorted encE 3 w2 g m dk os).block w.heap.size (blk_lt k2) (fun e => by have : w.heap.size = g := Option.some.inj e; omega)).trans k2)) hH hg2 (by simp; omega)
    change Calls Try.prog 80 _ _ _ at hS
    rw [List.size_toArray] at hS
    have HS := Aside0.mk hS
    have HO := Aside0.mk hown
    have HG1 := Aside0.mk hg1
    clear hS hown hH k2 hb hg1 hg2 hd hpos
    go_wp2_with fail
    refine HS.out.mono ?_
    rintro e w3 ⟨rfl, d', n, os, hp, hs, rfl⟩
    have hpm := SrK.perm_of (d := d.toArray) (by simpa using hp)
    have hln : d.length = d'.toList.length := by have := hpm.length_eq; simpa using this.symm
    obtain ⟨ho3, hgr⟩ := SrK.own_of_sorted (f := encE) (k := 3) (fun _ => rfl) (m := n) (os := os) (ts := d'.toList) HO.out hln
    rw [Array.toArray_toList] at ho3 hgr
    have hsr := SrK.sorted_of (d := d') (n := d.length) (by simpa using hln) hs
    have HO3 := Aside0.mk ho3
    have HGR := Aside0.mk hgr
    have HPM := Aside0.mk hpm
    have HSR := Aside0.mk hsr
    have HLN := Aside0.mk hln
    clear ho3 hgr hpm hsr hln hp hs
    generalize sortWorldK encE 3 w2 g 0 n d' os = W3 at HO3 HGR ⊢
    go_wp2
    go_ret
    refine ⟨_, d'.toList, rfl, by simpa using HPM.out, HSR.out.imp (fun {x y} h => by rw [ltE] at h; simpa using h), ?_, ?_⟩
    · have h3 := KdF.own_base HO3.out (Nat.le_of_lt hsz)
      have e : d.length = d'.toList.length := HLN.out
      refine KdF.own_R (d := k87) (f := encE) (fun _ => rfl) (fun ok x => k87_mkM _ _ _ _) ?_
      rw [← e]; exact h3
    · exact HB2.out.trans ((Below.refl _ w2).grown HGR.out HB2.out.size (fun j ej => by cases ej; have := HG1.out; omega))


end Go.Proofs.Yteapeglolkfimaa.My
