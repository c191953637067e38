-- Written by a program of this session (wip/myprint.py), which drives the kit's print over hand-written fragments. Not trusted: Lean checks it.
import Derived.Test.YtnadfkhllfgoiaaProg
import Derived.Below
import Derived.Deep.Draws
import Derived.Deep.AppendLies
import Derived.Maps.AppendAt
import Derived.OwnWalk
import Derived.Laws.BytesArg
import Derived.Laws.MakeOwn
import Derived.Laws.OwnMore
import Derived.Deep.OwnRows
import Derived.Tactics
import Derived.Lib.ConvBytes
import Derived.Laws.Slices
import Derived.WalkKit
import Derived.KernelRfl
import Derived.RowKit3
import Derived.Deep.LoopGhost
import Derived.Deep.QuietTactic
import Derived.BigQuiet
import Derived.WideLaws
import Derived.Deep.DeepCutAuto
import Derived.Deep.CutBlock
import Derived.Deep.RegionHeld3
import Derived.Laws.Rows
import Derived.Lib.AppendStr
import Derived.ArgAppend
import Derived.Laws.IdiomCopy
import Derived.OrdersHeld
import Derived.Laws.BitsLemmas
import Derived.RowKit
import Derived.Test.YtnadfkhllfgoiaaAid
import Derived.Test.YtnadfkhllfgoiaaKdX
import Derived.Test.YtnadfkhllfgoiaaWWords
import Derived.Test.YtnadfkhllfgoiaaWLast
import Derived.Test.YtnadfkhllfgoiaaWTab
import Derived.Test.YtnadfkhllfgoiaaWFour
import Derived.Test.YtnadfkhllfgoiaaWQPut
import Derived.Test.YtnadfkhllfgoiaaWApart
import Derived.Test.YtnadfkhllfgoiaaWArr
import Derived.Test.YtnadfkhllfgoiaaWZeros
import Derived.Test.YtnadfkhllfgoiaaWFoot
import Derived.Test.YtnadfkhllfgoiaaWKept
import Derived.Test.YtnadfkhllfgoiaaWShare
import Derived.Test.YtnadfkhllfgoiaaWN
import Derived.Test.YtnadfkhllfgoiaaWFootNe
import Derived.Test.YtnadfkhllfgoiaaWAt
import Derived.Test.YtnadfkhllfgoiaaWEqStruct
import Derived.Test.YtnadfkhllfgoiaaWRepsOne
import Derived.Test.YtnadfkhllfgoiaaWInv
import Derived.Test.YtnadfkhllfgoiaaWInvWords
import Derived.Test.YtnadfkhllfgoiaaWGuard
import Derived.Test.YtnadfkhllfgoiaaWNEv
import Derived.Test.YtnadfkhllfgoiaaWMore
namespace Go.Proofs.Ytnadfkhllfgoiaa.My
open Go.Proofs.Ytnadfkhllfgoiaa.Aid Go.Proofs.Ytnadfkhllfgoiaa.KdX
open Go.RowKit Go.Proofs.YtnadfkhllfgoiaaW.PrintWords Go.Proofs.YtnadfkhllfgoiaaW.PrintLast Go.Proofs.YtnadfkhllfgoiaaW.PrintMore
attribute [local go_sem] max2_int min2_int max_two min_two max_three min_three max_four min_four   -- for this text's walks alone
set_option linter.unusedVariables false
set_option linter.unusedSimpArgs false



def errW : Option Int → Value
  | none => .nilIface
  | some c => .iface 0 (.int .i64 c)
theorem errW_none : errW none = .nilIface := rfl
theorem errW_some (c : Int) : errW (some c) = .iface 0 (.int .i64 c) := rfl

theorem info3 : (Try.prog.info? 3).map (fun i => (i.zero, i.size, i.bytes)) = some (some (.int .i64 0), 1, 8) := by kernel_rfl
theorem info44 : (Try.prog.info? 44).map (fun i => (i.zero, i.size, i.bytes)) = some (some (.agg #[(.int .i64 0), (.int .i64 0), (.slice none 0 0)]), 3, 40) := by kernel_rfl
theorem info75 : (Try.prog.info? 75).map (fun i => (i.zero, i.size, i.bytes)) = some (some (.agg #[(.int .i64 0), (.int .i64 0), (.int .i64 0)]), 3, 24) := by kernel_rfl
-- the values' own types
/-! #### struct type 75 -/
structure S75 where
  f0 : Int
  f1 : Int
  f2 : Int
def z75 : S75 := ⟨(0 : Int), (0 : Int), (0 : Int)⟩
def k75 : Kd S75 := Kd.iso (Kd.pair (Kd.int .i64) (Kd.pair (Kd.int .i64) (Kd.int .i64))) (fun x : S75 => (x.f0, x.f1, x.f2))
theorem k75_heap : Kd.Heap k75 := Kd.heap_iso _ (Kd.heap_pair (Kd.heap_int .i64) (Kd.heap_pair (Kd.heap_int .i64) (Kd.heap_int .i64)))
theorem k75_open {w : World} {x : S75} {cs : List Value} (h : k75.K w x cs) : cs = [.int .i64 x.f0, .int .i64 x.f1, .int .i64 x.f2] := by
  obtain ⟨_, _, rfl, rfl, ⟨_, _, rfl, rfl, rfl⟩⟩ := h
  exact rfl
theorem k75_openM {w : World} {base : Nat} {ok : Nat → Prop} {x : S75} {cs : List Value} (h : k75.M w base ok x cs) : cs = [.int .i64 x.f0, .int .i64 x.f1, .int .i64 x.f2] := by
  obtain ⟨_, _, rfl, rfl, ⟨_, _, rfl, rfl, rfl⟩⟩ := h
  exact rfl
theorem k75_mk (w : World) (x : S75)  : k75.K w x [.int .i64 x.f0, .int .i64 x.f1, .int .i64 x.f2] := ⟨[.int .i64 x.f0], [.int .i64 x.f1, .int .i64 x.f2], rfl, rfl, ⟨[.int .i64 x.f1], [.int .i64 x.f2], rfl, rfl, rfl⟩⟩
theorem k75_mkM (w : World) (base : Nat) (ok : Nat → Prop) (x : S75)  : k75.M w base ok x [.int .i64 x.f0, .int .i64 x.f1, .int .i64 x.f2] := ⟨[.int .i64 x.f0], [.int .i64 x.f1, .int .i64 x.f2], rfl, rfl, ⟨[.int .i64 x.f1], [.int .i64 x.f2], rfl, rfl, rfl⟩⟩
theorem k75_mkF (W : World) (ok : Nat → Prop) (x : S75) : Kd.FK k75 W ok x [.int .i64 x.f0, .int .i64 x.f1, .int .i64 x.f2] := fun W2 _ => k75_mk W2 x
def rd_T75 (xs : List S75) (i : Int) : S75 := xs.getD i.toNat z75
theorem at_T75 {w : World} {A : Option Addr} {n : Nat} {xs : List S75} (h : Kd.C k75 w A n xs) (i : Int) (h0 : 0 ≤ i) (h1 : i < n) : ∃ ad , A = some ad ∧ w.cell? (ad.add (i.toNat * 3)) = some (.int .i64 (rd_T75 xs i).f0) ∧ w.cell? ⟨(ad.add (i.toNat * 3)).block, (ad.add (i.toNat * 3)).off + 1, none⟩ = some (.int .i64 (rd_T75 xs i).f1) ∧ w.cell? ⟨(ad.add (i.toNat * 3)).block, (ad.add (i.toNat * 3)).off + 2, none⟩ = some (.int .i64 (rd_T75 xs i).f2) := by
  obtain ⟨ad, c, e, _, hK, hc0⟩ := Kd.C_get h z75 i h0 h1
  have hc : ∀ j u, c[j]? = some u → w.cell? (ad.add (i.toNat * 3 + j)) = some u := hc0
  obtain rfl := k75_open hK
  exact ⟨ad, e, hc 0 _ rfl, by rw [← add_field _ _ 1 (by omega)]; exact hc 1 _ rfl, by rw [← add_field _ _ 2 (by omega)]; exact hc 2 _ rfl⟩

def rd_L2 (xs : List (List S75)) (i : Int) : (List S75) := xs.getD i.toNat ([] : List S75)
theorem at_L2 {w : World} {A : Option Addr} {n : Nat} {xs : List (List S75)} (h : Kd.C (Kd.slice 75 k75) w A n xs) (i : Int) (h0 : 0 ≤ i) (h1 : i < n) : ∃ ad A0 c0, A = some ad ∧ w.cell? (ad.add i.toNat) = some (.slice A0 (rd_L2 xs i).length c0) ∧ (rd_L2 xs i).length ≤ c0 ∧ k75.C w A0 (rd_L2 xs i).length (rd_L2 xs i) := by
  obtain ⟨ad, c, e, _, hK, hc0⟩ := Kd.C_get h ([] : List S75) i h0 h1
  have hc : ∀ j u, c[j]? = some u → w.cell? (ad.add (i.toNat * 1 + j)) = some u := hc0
  obtain ⟨A0, c0, rfl, l0, g0⟩ := hK
  exact ⟨ad, A0, c0, e, by have hq := hc 0 _ rfl; rwa [Nat.mul_one, Nat.add_zero] at hq, l0, g0⟩

/-! #### struct type 42 -/
structure S42 where
  f0 : Int
  f1 : (List S75)
def z42 : S42 := ⟨(0 : Int), ([] : List S75)⟩
def k42 : Kd S42 := Kd.iso (Kd.pair (Kd.int .i64) (Kd.slice 75 k75)) (fun x : S42 => (x.f0, x.f1))
theorem k42_heap : Kd.Heap k42 := Kd.heap_iso _ (Kd.heap_pair (Kd.heap_int .i64) (Kd.heap_slice 75 k75_heap))
theorem k42_open {w : World} {x : S42} {cs : List Value} (h : k42.K w x cs) : ∃ A1 c1, cs = [.int .i64 x.f0, .slice A1 x.f1.length c1] ∧ x.f1.length ≤ c1 ∧ k75.C w A1 x.f1.length x.f1 := by
  obtain ⟨_, _, rfl, rfl, ⟨A1, c1, rfl, l1, g1⟩⟩ := h
  exact ⟨A1, c1, rfl, l1, g1⟩
theorem k42_openM {w : World} {base : Nat} {ok : Nat → Prop} {x : S42} {cs : List Value} (h : k42.M w base ok x cs) : ∃ v1, cs = [.int .i64 x.f0, v1] ∧ k75.R 75 w base ok v1 x.f1 := by
  obtain ⟨_, _, rfl, rfl, ⟨v1, rfl, g1⟩⟩ := h
  exact ⟨v1, rfl, g1⟩
theorem k42_mk (w : World) (x : S42) {A1 : Option Addr} {c1 : Nat} (l1 : x.f1.length ≤ c1) (g1 : k75.C w A1 x.f1.length x.f1) : k42.K w x [.int .i64 x.f0, .slice A1 x.f1.length c1] := ⟨[.int .i64 x.f0], [.slice A1 x.f1.length c1], rfl, rfl, ⟨A1, c1, rfl, l1, g1⟩⟩
theorem k42_mkM (w : World) (base : Nat) (ok : Nat → Prop) (x : S42) {v1 : Value} (g1 : k75.R 75 w base ok v1 x.f1) : k42.M w base ok x [.int .i64 x.f0, v1] := ⟨[.int .i64 x.f0], [v1], rfl, rfl, ⟨v1, rfl, g1⟩⟩
theorem k42_openF {W : World} {ok : Nat → Prop} {x : S42} {cs : List Value} (h : Kd.FK k42 W ok x cs) : ∃ A1 c1, cs = [.int .i64 x.f0, .slice A1 x.f1.length c1] ∧ x.f1.length ≤ c1 ∧ Kd.F k75 W ok A1 x.f1.length x.f1 := by
  obtain ⟨A1, c1, rfl, l1, _⟩ := k42_open (Kd.FK_now h)
  exact ⟨A1, c1, rfl, l1, (fun W' hW => by obtain ⟨A1_, c1_, he, l1_, g1_⟩ := k42_open (h W' hW); injection (Option.some.inj (show some (Value.slice A1 x.f1.length c1) = some (Value.slice A1_ x.f1.length c1_) from congrArg (fun l => l[1]?) he)) with ha_ _ _; rw [ha_]; exact g1_)⟩
theorem k42_mkF (W : World) (ok : Nat → Prop) (x : S42) {A1 : Option Addr} {c1 : Nat} (l1 : x.f1.length ≤ c1) (g1 : Kd.F k75 W ok A1 x.f1.length x.f1) : Kd.FK k42 W ok x [.int .i64 x.f0, .slice A1 x.f1.length c1] := fun W2 hW => k42_mk W2 x l1 (g1 W2 hW)
def rd_T42 (xs : List S42) (i : Int) : S42 := xs.getD i.toNat z42
theorem at_T42 {w : World} {A : Option Addr} {n : Nat} {xs : List S42} (h : Kd.C k42 w A n xs) (i : Int) (h0 : 0 ≤ i) (h1 : i < n) : ∃ ad A1 c1, A = some ad ∧ w.cell? (ad.add (i.toNat * 2)) = some (.int .i64 (rd_T42 xs i).f0) ∧ w.cell? ⟨(ad.add (i.toNat * 2)).block, (ad.add (i.toNat * 2)).off + 1, none⟩ = some (.slice A1 (rd_T42 xs i).f1.length c1) ∧ (rd_T42 xs i).f1.length ≤ c1 ∧ k75.C w A1 (rd_T42 xs i).f1.length (rd_T42 xs i).f1 := by
  obtain ⟨ad, c, e, _, hK, hc0⟩ := Kd.C_get h z42 i h0 h1
  have hc : ∀ j u, c[j]? = some u → w.cell? (ad.add (i.toNat * 2 + j)) = some u := hc0
  obtain ⟨A1, c1, rfl, l1, g1⟩ := k42_open hK
  exact ⟨ad, A1, c1, e, hc 0 _ rfl, by rw [← add_field _ _ 1 (by omega)]; exact hc 1 _ rfl, l1, g1⟩

/-! #### struct type 44 -/
structure S44 where
  f0 : Int
  f1 : S42
def z44 : S44 := ⟨(0 : Int), z42⟩
def k44 : Kd S44 := Kd.iso (Kd.pair (Kd.int .i64) k42) (fun x : S44 => (x.f0, x.f1))
theorem k44_heap : Kd.Heap k44 := Kd.heap_iso _ (Kd.heap_pair (Kd.heap_int .i64) k42_heap)
theorem k44_open {w : World} {x : S44} {cs : List Value} (h : k44.K w x cs) : ∃ A2 c2, cs = [.int .i64 x.f0, .int .i64 x.f1.f0, .slice A2 x.f1.f1.length c2] ∧ x.f1.f1.length ≤ c2 ∧ k75.C w A2 x.f1.f1.length x.f1.f1 := by
  obtain ⟨_, _, rfl, rfl, s1⟩ := h
  obtain ⟨A2, c2, rfl, l2, g2⟩ := k42_open s1
  exact ⟨A2, c2, rfl, l2, g2⟩
theorem k44_openM {w : World} {base : Nat} {ok : Nat → Prop} {x : S44} {cs : List Value} (h : k44.M w base ok x cs) : ∃ v2, cs = [.int .i64 x.f0, .int .i64 x.f1.f0, v2] ∧ k75.R 75 w base ok v2 x.f1.f1 := by
  obtain ⟨_, _, rfl, rfl, s1⟩ := h
  obtain ⟨v2, rfl, g2⟩ := k42_openM s1
  exact ⟨v2, rfl, g2⟩
theorem k44_mk (w : World) (x : S44) {A2 : Option Addr} {c2 : Nat} (l2 : x.f1.f1.length ≤ c2) (g2 : k75.C w A2 x.f1.f1.length x.f1.f1) : k44.K w x [.int .i64 x.f0, .int .i64 x.f1.f0, .slice A2 x.f1.f1.length c2] := ⟨[.int .i64 x.f0], [.int .i64 x.f1.f0, .slice A2 x.f1.f1.length c2], rfl, rfl, (k42_mk w x.f1 l2 g2)⟩
theorem k44_mkM (w : World) (base : Nat) (ok : Nat → Prop) (x : S44) {v2 : Value} (g2 : k75.R 75 w base ok v2 x.f1.f1) : k44.M w base ok x [.int .i64 x.f0, .int .i64 x.f1.f0, v2] := ⟨[.int .i64 x.f0], [.int .i64 x.f1.f0, v2], rfl, rfl, (k42_mkM w base ok x.f1 g2)⟩
theorem k44_openF {W : World} {ok : Nat → Prop} {x : S44} {cs : List Value} (h : Kd.FK k44 W ok x cs) : ∃ A2 c2, cs = [.int .i64 x.f0, .int .i64 x.f1.f0, .slice A2 x.f1.f1.length c2] ∧ x.f1.f1.length ≤ c2 ∧ Kd.F k75 W ok A2 x.f1.f1.length x.f1.f1 := by
  obtain ⟨A2, c2, rfl, l2, _⟩ := k44_open (Kd.FK_now h)
  exact ⟨A2, c2, rfl, l2, (fun W' hW => by obtain ⟨A2_, c2_, he, l2_, g2_⟩ := k44_open (h W' hW); injection (Option.some.inj (show some (Value.slice A2 x.f1.f1.length c2) = some (Value.slice A2_ x.f1.f1.length c2_) from congrArg (fun l => l[2]?) he)) with ha_ _ _; rw [ha_]; exact g2_)⟩
theorem k44_mkF (W : World) (ok : Nat → Prop) (x : S44) {A2 : Option Addr} {c2 : Nat} (l2 : x.f1.f1.length ≤ c2) (g2 : Kd.F k75 W ok A2 x.f1.f1.length x.f1.f1) : Kd.FK k44 W ok x [.int .i64 x.f0, .int .i64 x.f1.f0, .slice A2 x.f1.f1.length c2] := fun W2 hW => k44_mk W2 x l2 (g2 W2 hW)
def rd_T44 (xs : List S44) (i : Int) : S44 := xs.getD i.toNat z44
theorem at_T44 {w : World} {A : Option Addr} {n : Nat} {xs : List S44} (h : Kd.C k44 w A n xs) (i : Int) (h0 : 0 ≤ i) (h1 : i < n) : ∃ ad A2 c2, A = some ad ∧ w.cell? (ad.add (i.toNat * 3)) = some (.int .i64 (rd_T44 xs i).f0) ∧ w.cell? ⟨(ad.add (i.toNat * 3)).block, (ad.add (i.toNat * 3)).off + 1, none⟩ = some (.int .i64 (rd_T44 xs i).f1.f0) ∧ w.cell? ⟨(ad.add (i.toNat * 3)).block, (ad.add (i.toNat * 3)).off + 2, none⟩ = some (.slice A2 (rd_T44 xs i).f1.f1.length c2) ∧ (rd_T44 xs i).f1.f1.length ≤ c2 ∧ k75.C w A2 (rd_T44 xs i).f1.f1.length (rd_T44 xs i).f1.f1 := by
  obtain ⟨ad, c, e, _, hK, hc0⟩ := Kd.C_get h z44 i h0 h1
  have hc : ∀ j u, c[j]? = some u → w.cell? (ad.add (i.toNat * 3 + j)) = some u := hc0
  obtain ⟨A2, c2, rfl, l2, g2⟩ := k44_open hK
  exact ⟨ad, A2, c2, e, hc 0 _ rfl, by rw [← add_field _ _ 1 (by omega)]; exact hc 1 _ rfl, by rw [← add_field _ _ 2 (by omega)]; exact hc 2 _ rfl, l2, g2⟩

end Go.Proofs.Ytnadfkhllfgoiaa.My
