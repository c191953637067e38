/- Laws on memory beside the print's words: a slice made with no element and a capacity of its own. -/
import Derived.Test.YteapeglolkfimaaAid
import Derived.Test.YteapeglolkfimaaWSized
namespace Go.Proofs.Yteapeglolkfimaa.KdX
open Go.RowKit Go.Proofs.YteapeglolkfimaaW.PrintWords Go.Proofs.YteapeglolkfimaaW.PrintLast Go.Proofs.YteapeglolkfimaaW.PrintMore
set_option linter.unusedVariables false
set_option linter.unusedSimpArgs false

section
variable {P : Program} {ops : Array Oper} {rest : List Oper} {o : Oper} {a : Act} {Q : Exit → Act → World → Prop} {Kc : Act → World → Prop} {α : Type}
theorem makec_run {W : World} {t e : TypeId} {x y : Operand} (ho : o.op = .makeSlice t x y) {n : Int} (hx : a.eval x = .int .i64 0) (hy : a.eval y = .int .i64 n) (ht : P.underlying t = some (.slice e)) {z : Value} {sz bytes : Nat}
    (hinfo : (P.info? e).map (fun i => (i.zero, i.size, i.bytes)) = some (some z, sz, bytes)) (hb0 : 0 < bytes) (h0 : 0 ≤ n) (hl : n.toNat * bytes ≤ 281474976710656) :
    (execOp a.eval o).run P W = .ok (.value (.slice (some ⟨W.heap.size, 0, none⟩) 0 n.toNat)) (W.alloc (.cells (madeCells z.cells (n.toNat * sz)) e)) := by
  obtain ⟨m, rfl⟩ := Int.eq_ofNat_of_zero_le h0
  simp only [Int.toNat_natCast] at hl ⊢
  obtain ⟨i0, hi, hzz⟩ := Option.map_eq_some_iff.1 hinfo
  simp only [Prod.mk.injEq] at hzz
  obtain ⟨hz0, hz1, hz2⟩ := hzz
  have hm : m ≤ 281474976710656 := Nat.le_trans (Nat.le_mul_of_pos_right _ hb0) hl
  have hr := run_make (P := P) W t e i0 z ht hi hz0 .i64 .i64 0 (m : Int) (by omega) (by omega)
    (by
      have h3 : ((i0.bytes * m : Nat) : Int) ≤ 281474976710656 := by rw [hz2, Nat.mul_comm]; omega
      rwa [Int.natCast_mul] at h3) (by omega)
  simp only [Int.toNat_natCast] at hr
  rw [hz1] at hr
  simp [execOp, ho, hx, hy, hr]
theorem makec_own {w0 W : World} {d : Kd α} {base e : Nat} {ok : Nat → Prop} {z : Value} {bytes : Nat} (hz : z.cells.size = d.sz) (hb0 : 0 < bytes) (hfresh : ok W.heap.size) {n : Int} (h0 : 0 ≤ n) (hl : n.toNat * bytes ≤ 281474976710656) (hbase : base ≤ W.heap.size) :
    d.R e (W.alloc (.cells (madeCells z.cells (n.toNat * d.sz)) e)) base ok (.slice (some ⟨W.heap.size, 0, none⟩) 0 n.toNat) [] := by
  have hm : n.toNat ≤ 281474976710656 := Nat.le_trans (Nat.le_mul_of_pos_right _ hb0) hl
  refine ⟨fun k hk => ?_, [], ?_, Reps.none _ _⟩
  · have : W.heap.size = k := by simpa [Value.ownBlock] using hk
    subst this
    exact hfresh
  · exact World.ownsRow_made W _ _ hbase (by unfold maxLen; omega) (by simp [size_madeCells])
theorem Kd.R_makec (d : Kd α) {w0 W : World} (base e : Nat) (hgd : o.guard = none) {N : Tmp} (hd : o.dst = some N) (t : TypeId) (x y : Operand) (ho : o.op = .makeSlice t x y) (n : Int) (hx : a.eval x = .int .i64 0) (hy : a.eval y = .int .i64 n)
    (ht : P.underlying t = some (.slice e)) (z : Value) (bytes : Nat) (hinfo : (P.info? e).map (fun i => (i.zero, i.size, i.bytes)) = some (some z, d.sz, bytes)) (hz : z.cells.size = d.sz) (hs0 : 0 < d.sz) (hb0 : 0 < bytes)
    (z0 : α) {ok okp : Nat → Prop} (hzero : d.M W base okp z0 z.cells.toList) (hok : ∀ k, okp k → ok k) (hfresh : ok W.heap.size) (h0 : 0 ≤ n) (hl : n.toNat * bytes ≤ 281474976710656) (HB : Below base w0 W) (hbase : base ≤ W.heap.size)
    (h : ∀ v1 w1, d.R e w1 base ok v1 [] → Below base w0 w1 → W.grownBy w1 none → (∃ b, v1.ownBlock = some b ∧ W.heap.size ≤ b) → wpList P ops Q rest (a.put o.dst v1) w1) : wpList P ops Q (o :: rest) a W :=
  Kd.event_run hgd (makec_run ho hx hy ht hinfo hb0 h0 hl) (h _ _ (makec_own (w0 := w0) hz hb0 hfresh h0 hl hbase) (HB.alloc hbase _) (World.grownBy_alloc W _ none) ⟨W.heap.size, by simp [Value.ownBlock], Nat.le_refl _⟩)
theorem Kd.R_makec_step (d : Kd α) {w0 W : World} (base e : Nat) (hw : Region.wanted o (yielded ops a.tmps) = true) {N : Tmp} (hd : o.dst = some N) (t : TypeId) (x y : Operand) (ho : o.op = .makeSlice t x y) (n : Int) (hx : a.eval x = .int .i64 0) (hy : a.eval y = .int .i64 n)
    (ht : P.underlying t = some (.slice e)) (z : Value) (bytes : Nat) (hinfo : (P.info? e).map (fun i => (i.zero, i.size, i.bytes)) = some (some z, d.sz, bytes)) (hz : z.cells.size = d.sz) (hs0 : 0 < d.sz) (hb0 : 0 < bytes)
    (z0 : α) {ok okp : Nat → Prop} (hzero : d.M W base okp z0 z.cells.toList) (hok : ∀ k, okp k → ok k) (hfresh : ok W.heap.size) (h0 : 0 ≤ n) (hl : n.toNat * bytes ≤ 281474976710656) (HB : Below base w0 W) (hbase : base ≤ W.heap.size)
    (h : ∀ v1 w1, d.R e w1 base ok v1 [] → Below base w0 w1 → W.grownBy w1 none → (∃ b, v1.ownBlock = some b ∧ W.heap.size ≤ b) → Kc (a.put o.dst v1) w1) : if Region.wanted o (yielded ops a.tmps) = true then Oper.wp P o a W Kc Q else Kc (a.put o.dst undef) W :=
  event_step hw (makec_run ho hx hy ht hinfo hb0 h0 hl) (h _ _ (makec_own (w0 := w0) hz hb0 hfresh h0 hl hbase) (HB.alloc hbase _) (World.grownBy_alloc W _ none) ⟨W.heap.size, by simp [Value.ownBlock], Nat.le_refl _⟩)
end
theorem emp_own {α : Type} {W : World} {d : Kd α} {base e : Nat} {ok : Nat → Prop} (hfresh : ok W.heap.size) (hbase : base ≤ W.heap.size) : d.R e (W.alloc (.cells #[] e)) base ok (.slice (some ⟨W.heap.size, 0, none⟩) 0 0) [] := by
  refine ⟨fun k hk => ?_, [], ?_, Reps.none _ _⟩
  · have : W.heap.size = k := by simpa [Value.ownBlock] using hk
    subst this
    exact hfresh
  · exact World.ownsRow_made W _ _ hbase (by unfold maxLen; omega) (by simp)
/-- 's == nil' on a slice. -/
theorem eql_nil {P : Program} (w : World) (t e : TypeId) (a : Option Addr) (n c : Nat) (h : P.underlying t = some (.slice e)) : (binOp .eql t (.slice a n c) (.slice none 0 0)).run P w = .ok (.bool a.isNone) w := by
  have hq : ∀ d : Nat, (Op.equalIn (d + 1) t (.slice a n c) (.slice none 0 0)).run P w = .ok a.isNone w := fun d => by
    cases a <;> simp [Op.equalIn, run_underlying h]
  simp only [binOp]
  simp [Op.equal, Op.maxDepth, hq]
end Go.Proofs.Yteapeglolkfimaa.KdX
