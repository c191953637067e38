-- Written by a program of this session (wip/myprint.py), which drives the kit's print over hand-written fragments. Not trusted: Lean checks it.
import Derived.Test.YtbmochegfdljfaaMyx0
import Derived.Test.YtbmochegfdljfaaMyx19
import Derived.Test.YtbmochegfdljfaaMyx21
import Derived.Test.YtbmochegfdljfaaMyx23
import Derived.Test.YtbmochegfdljfaaMyx24
import Derived.Test.YtbmochegfdljfaaMyx26
import Derived.Test.YtbmochegfdljfaaMyx27
import Derived.Test.YtbmochegfdljfaaMyx29
import Derived.Test.YtbmochegfdljfaaMyx46
namespace Go.Proofs.Ytbmochegfdljfaa.My
open Go.Proofs.Ytbmochegfdljfaa.Aid Go.Proofs.Ytbmochegfdljfaa.KdX
open Go.RowKit Go.Proofs.YtbmochegfdljfaaW.PrintWords Go.Proofs.YtbmochegfdljfaaW.PrintLast Go.Proofs.YtbmochegfdljfaaW.PrintMore
attribute [local go_sem] max2_int min2_int max_two min_two max_three min_three max_four min_four   -- for this text's walks alone
set_option linter.unusedVariables false
set_option linter.unusedSimpArgs false

/-! ### wageofficelaw39_head: function 18 -/
def wageofficelaw39_head.f (k : Nat)  : Option (Bool) := (wageofficelaw39_entry.f 1 100 12).bind fun bt249 => ((ledger_Post.f ([] : List (S26)) bt249.1 bt249.2.1 bt249.2.2.1 bt249.2.2.2.1 bt249.2.2.2.2.1 bt249.2.2.2.2.2).bind fun bt255 => ((wageofficelaw39_entry.f 2 30 20).bind fun bt260 => ((wageofficelaw39_back.f bt260.1 bt260.2.1 bt260.2.2.1 bt260.2.2.2.1 bt260.2.2.2.2.1 bt260.2.2.2.2.2).bind fun bt266 => ((ledger_Post.f bt255.1 bt266.1 bt266.2.1 bt266.2.2.1 bt266.2.2.2.1 bt266.2.2.2.2.1 bt266.2.2.2.2.2).bind fun bt272 => (if bt255.2 = 0 then (if bt272.2 = 0 then ((ledger_Valid.f bt272.1).bind fun t276 => (if t276 = true then (if (bt272.1.length : Int) = 2 then ((ledger_Balance.f bt272.1 (⟨#[119, 97, 103, 101, 115]⟩ : ByteArray) 10 12).bind fun t277 => (if t277 = 100 then ((ledger_Balance.f bt272.1 (⟨#[119, 97, 103, 101, 115]⟩ : ByteArray) 10 20).bind fun t278 => (if t278 = 70 then ((ledger_Balance.f bt272.1 (⟨#[119, 97, 103, 101, 115]⟩ : ByteArray) 9 20).bind fun t279 => ((wageofficelaw39_entry.f 1 100 25).bind fun bt280 => ((ledger_Post.f bt272.1 bt280.1 bt280.2.1 bt280.2.2.1 bt280.2.2.2.1 bt280.2.2.2.2.1 bt280.2.2.2.2.2).bind fun bt286 => ((wageofficelaw39_entry.f 1 90 25).bind fun bt291 => ((ledger_Post.f bt272.1 bt291.1 bt291.2.1 bt291.2.2.1 bt291.2.2.2.1 bt291.2.2.2.2.1 bt291.2.2.2.2.2).bind fun bt297 => ((wageofficelaw39_entry.f 3 90 19).bind fun bt302 => ((ledger_Post.f bt272.1 bt302.1 bt302.2.1 bt302.2.2.1 bt302.2.2.2.1 bt302.2.2.2.2.1 bt302.2.2.2.2.2).bind fun bt308 => (if t279 = 0 then (if bt286.2 = 0 then ((wageofficeref39_Same.f k bt272.1 bt286.1).bind fun t313 => (if t313 = true then (if bt297.2 = 5 then (if bt308.2 = 6 then ((ledger_Accounts.f bt272.1).bind fun t314 => ((wageofficeref12_Strings.f k t314 (([(⟨#[98, 97, 110, 107]⟩ : ByteArray), (⟨#[119, 97, 103, 101, 115]⟩ : ByteArray)] : List ByteArray))).bind fun t320 => (some t320))) else (none)) else (none)) else (none))) else (none)) else (none))))))))) else (none))) else (none))) else (none)) else (none))) else (none)) else (none))))))
theorem wageofficelaw39_head.mono : ∀ k, LeO (wageofficelaw39_head.f k ) (wageofficelaw39_head.f (k + 1) ) := by
  intro  k
  unfold wageofficelaw39_head.f
  repeat' first
      | (with_reducible exact wageofficeref12_Strings.mono _ _ _)
      | (with_reducible exact wageofficeref39_Same.mono _ _ _)
      | (with_reducible exact LeO.refl _)
      | (with_reducible exact LeO.none _)
      | (with_reducible refine LeO.ite ?_ ?_)
      | (with_reducible refine LeO.bind ?_ (fun _ => ?_))
      | exact wageofficeref12_Strings.mono _ _ _
      | exact wageofficeref39_Same.mono _ _ _
      | exact LeO.none _
      | refine LeO.ite ?_ ?_
      | refine LeO.bind ?_ (fun _ => ?_)
def wageofficelaw39_head.T2 : Bool × List (List Nat × List Nat) := (true, [([], []), ([], []), ([1, 1], [1]), ([0, 2, 2], [0, 2]), ([3], [3]), ([4], [4]), ([4], [4]), ([5, 3, 0, 1, 2, 3, 4, 5], [5]), ([6, 7, 0, 1, 2, 3, 4, 5, 6, 7], [6])])
def wageofficelaw39_head.B2 : List Nat := [0, 0, 2, 7, 15, 31, 31, 63, 255]
theorem wageofficelaw39_head.tab2 : rtab .any (opsOf Try.f18 2) = wageofficelaw39_head.T2 := by kernel_rfl
theorem wageofficelaw39_head.bits2 : waitsOk wageofficelaw39_head.T2.2 wageofficelaw39_head.B2 = true := by kernel_rfl
def wageofficelaw39_head.T4 : Bool × List (List Nat × List Nat) := (true, [([], []), ([], []), ([0, 1, 1], [0, 1]), ([2], [2]), ([3], [3]), ([3], [3]), ([], []), ([6, 4, 2, 0, 1, 2, 3, 4, 6], [4, 6]), ([5, 7, 0, 1, 2, 3, 4, 5, 6, 7], [5])])
def wageofficelaw39_head.B4 : List Nat := [0, 0, 3, 7, 15, 15, 0, 95, 255]
theorem wageofficelaw39_head.tab4 : rtab .any (opsOf Try.f18 4) = wageofficelaw39_head.T4 := by kernel_rfl
theorem wageofficelaw39_head.bits4 : waitsOk wageofficelaw39_head.T4.2 wageofficelaw39_head.B4 = true := by kernel_rfl
def wageofficelaw39_head.T5 : Bool × List (List Nat × List Nat) := (true, [([], []), ([], []), ([0, 1, 1], [0, 1]), ([2], [2]), ([3], [3]), ([3], [3]), ([], []), ([6, 4, 2, 0, 1, 2, 3, 4, 6], [4, 6]), ([5, 7, 0, 1, 2, 3, 4, 5, 6, 7], [5])])
def wageofficelaw39_head.B5 : List Nat := [0, 0, 3, 7, 15, 15, 0, 95, 255]
theorem wageofficelaw39_head.tab5 : rtab .any (opsOf Try.f18 5) = wageofficelaw39_head.T5 := by kernel_rfl
theorem wageofficelaw39_head.bits5 : waitsOk wageofficelaw39_head.T5.2 wageofficelaw39_head.B5 = true := by kernel_rfl
def wageofficelaw39_head.T6 : Bool × List (List Nat × List Nat) := (true, [([], []), ([], []), ([0, 1, 1], [0, 1]), ([2], [2]), ([3], [3]), ([3], [3]), ([], []), ([6, 4, 2, 0, 1, 2, 3, 4, 6], [4, 6]), ([5, 7, 0, 1, 2, 3, 4, 5, 6, 7], [5])])
def wageofficelaw39_head.B6 : List Nat := [0, 0, 3, 7, 15, 15, 0, 95, 255]
theorem wageofficelaw39_head.tab6 : rtab .any (opsOf Try.f18 6) = wageofficelaw39_head.T6 := by kernel_rfl
theorem wageofficelaw39_head.bits6 : waitsOk wageofficelaw39_head.T6.2 wageofficelaw39_head.B6 = true := by kernel_rfl
set_option maxHeartbeats 8000000 in
set_option maxRecDepth 100000 in
theorem wageofficelaw39_head.calls (k : Nat)  (r : Bool) (w : World) (h : wageofficelaw39_head.f k  = some r) :
    Calls Try.prog 18 #[] w fun e w' => e = .returned (.bool r) ∧ Below w.heap.size w w' := by
  have hu24 := Try.underlying24
  have HB := Aside0.mk (Below.refl w.heap.size w)
  have H : ((wageofficelaw39_entry.f 1 100 12).bind fun bt249 => ((ledger_Post.f ([] : List (S26)) bt249.1 bt249.2.1 bt249.2.2.1 bt249.2.2.2.1 bt249.2.2.2.2.1 bt249.2.2.2.2.2).bind fun bt255 => ((wageofficelaw39_entry.f 2 30 20).bind fun bt260 => ((wageofficelaw39_back.f bt260.1 bt260.2.1 bt260.2.2.1 bt260.2.2.2.1 bt260.2.2.2.2.1 bt260.2.2.2.2.2).bind fun bt266 => ((ledger_Post.f bt255.1 bt266.1 bt266.2.1 bt266.2.2.1 bt266.2.2.2.1 bt266.2.2.2.2.1 bt266.2.2.2.2.2).bind fun bt272 => (if bt255.2 = 0 then (if bt272.2 = 0 then ((ledger_Valid.f bt272.1).bind fun t276 => (if t276 = true then (if (bt272.1.length : Int) = 2 then ((ledger_Balance.f bt272.1 (⟨#[119, 97, 103, 101, 115]⟩ : ByteArray) 10 12).bind fun t277 => (if t277 = 100 then ((ledger_Balance.f bt272.1 (⟨#[119, 97, 103, 101, 115]⟩ : ByteArray) 10 20).bind fun t278 => (if t278 = 70 then ((ledger_Balance.f bt272.1 (⟨#[119, 97, 103, 101, 115]⟩ : ByteArray) 9 20).bind fun t279 => ((wageofficelaw39_entry.f 1 100 25).bind fun bt280 => ((ledger_Post.f bt272.1 bt280.1 bt280.2.1 bt280.2.2.1 bt280.2.2.2.1 bt280.2.2.2.2.1 bt280.2.2.2.2.2).bind fun bt286 => ((wageofficelaw39_entry.f 1 90 25).bind fun bt291 => ((ledger_Post.f bt272.1 bt291.1 bt291.2.1 bt291.2.2.1 bt291.2.2.2.1 bt291.2.2.2.2.1 bt291.2.2.2.2.2).bind fun bt297 => ((wageofficelaw39_entry.f 3 90 19).bind fun bt302 => ((ledger_Post.f bt272.1 bt302.1 bt302.2.1 bt302.2.2.1 bt302.2.2.2.1 bt302.2.2.2.2.1 bt302.2.2.2.2.2).bind fun bt308 => (if t279 = 0 then (if bt286.2 = 0 then ((wageofficeref39_Same.f k bt272.1 bt286.1).bind fun t313 => (if t313 = true then (if bt297.2 = 5 then (if bt308.2 = 6 then ((ledger_Accounts.f bt272.1).bind fun t314 => ((wageofficeref12_Strings.f k t314 (([(⟨#[98, 97, 110, 107]⟩ : ByteArray), (⟨#[119, 97, 103, 101, 115]⟩ : ByteArray)] : List ByteArray))).bind fun t320 => (some t320))) else (none)) else (none)) else (none))) else (none)) else (none))))))))) else (none))) else (none))) else (none)) else (none))) else (none)) else (none))))))) = some r := h
  clear h
  replace H := Option.bind_eq_some_iff.mp H
  obtain ⟨⟨t249, t250, t251, t252, t253, t254⟩, A10, H⟩ := H
  replace H : ((ledger_Post.f ([] : List (S26)) t249 t250 t251 t252 t253 t254).bind fun bt255 => ((wageofficelaw39_entry.f 2 30 20).bind fun bt260 => ((wageofficelaw39_back.f bt260.1 bt260.2.1 bt260.2.2.1 bt260.2.2.2.1 bt260.2.2.2.2.1 bt260.2.2.2.2.2).bind fun bt266 => ((ledger_Post.f bt255.1 bt266.1 bt266.2.1 bt266.2.2.1 bt266.2.2.2.1 bt266.2.2.2.2.1 bt266.2.2.2.2.2).bind fun bt272 => (if bt255.2 = 0 then (if bt272.2 = 0 then ((ledger_Valid.f bt272.1).bind fun t276 => (if t276 = true then (if (bt272.1.length : Int) = 2 then ((ledger_Balance.f bt272.1 (⟨#[119, 97, 103, 101, 115]⟩ : ByteArray) 10 12).bind fun t277 => (if t277 = 100 then ((ledger_Balance.f bt272.1 (⟨#[119, 97, 103, 101, 115]⟩ : ByteArray) 10 20).bind fun t278 => (if t278 = 70 then ((ledger_Balance.f bt272.1 (⟨#[119, 97, 103, 101, 115]⟩ : ByteArray) 9 20).bind fun t279 => ((wageofficelaw39_entry.f 1 100 25).bind fun bt280 => ((ledger_Post.f bt272.1 bt280.1 bt280.2.1 bt280.2.2.1 bt280.2.2.2.1 bt280.2.2.2.2.1 bt280.2.2.2.2.2).bind fun bt286 => ((wageofficelaw39_entry.f 1 90 25).bind fun bt291 => ((ledger_Post.f bt272.1 bt291.1 bt291.2.1 bt291.2.2.1 bt291.2.2.2.1 bt291.2.2.2.2.1 bt291.2.2.2.2.2).bind fun bt297 => ((wageofficelaw39_entry.f 3 90 19).bind fun bt302 => ((ledger_Post.f bt272.1 bt302.1 bt302.2.1 bt302.2.2.1 bt302.2.2.2.1 bt302.2.2.2.2.1 bt302.2.2.2.2.2).bind fun bt308 => (if t279 = 0 then (if bt286.2 = 0 then ((wageofficeref39_Same.f k bt272.1 bt286.1).bind fun t313 => (if t313 = true then (if bt297.2 = 5 then (if bt308.2 = 6 then ((ledger_Accounts.f bt272.1).bind fun t314 => ((wageofficeref12_Strings.f k t314 (([(⟨#[98, 97, 110, 107]⟩ : ByteArray), (⟨#[119, 97, 103, 101, 115]⟩ : ByteArray)] : List ByteArray))).bind fun t320 => (some t320))) else (none)) else (none)) else (none))) else (none)) else (none))))))))) else (none))) else (none))) else (none)) else (none))) else (none)) else (none)))))) = some r := H
  have A1 := Aside0.mk A10
  clear A10
  replace H := Option.bind_eq_some_iff.mp H
  obtain ⟨⟨t255, t258⟩, A20, H⟩ := H
  replace H : ((wageofficelaw39_entry.f 2 30 20).bind fun bt260 => ((wageofficelaw39_back.f bt260.1 bt260.2.1 bt260.2.2.1 bt260.2.2.2.1 bt260.2.2.2.2.1 bt260.2.2.2.2.2).bind fun bt266 => ((ledger_Post.f t255 bt266.1 bt266.2.1 bt266.2.2.1 bt266.2.2.2.1 bt266.2.2.2.2.1 bt266.2.2.2.2.2).bind fun bt272 => (if t258 = 0 then (if bt272.2 = 0 then ((ledger_Valid.f bt272.1).bind fun t276 => (if t276 = true then (if (bt272.1.length : Int) = 2 then ((ledger_Balance.f bt272.1 (⟨#[119, 97, 103, 101, 115]⟩ : ByteArray) 10 12).bind fun t277 => (if t277 = 100 then ((ledger_Balance.f bt272.1 (⟨#[119, 97, 103, 101, 115]⟩ : ByteArray) 10 20).bind fun t278 => (if t278 = 70 then ((ledger_Balance.f bt272.1 (⟨#[119, 97, 103, 101, 115]⟩ : ByteArray) 9 20).bind fun t279 => ((wageofficelaw39_entry.f 1 100 25).bind fun bt280 => ((ledger_Post.f bt272.1 bt280.1 bt280.2.1 bt280.2.2.1 bt280.2.2.2.1 bt280.2.2.2.2.1 bt280.2.2.2.2.2).bind fun bt286 => ((wageofficelaw39_entry.f 1 90 25).bind fun bt291 => ((ledger_Post.f bt272.1 bt291.1 bt291.2.1 bt291.2.2.1 bt291.2.2.2.1 bt291.2.2.2.2.1 bt291.2.2.2.2.2).bind fun bt297 => ((wageofficelaw39_entry.f 3 90 19).bind fun bt302 => ((ledger_Post.f bt272.1 bt302.1 bt302.2.1 bt302.2.2.1 bt302.2.2.2.1 bt302.2.2.2.2.1 bt302.2.2.2.2.2).bind fun bt308 => (if t279 = 0 then (if bt286.2 = 0 then ((wageofficeref39_Same.f k bt272.1 bt286.1).bind fun t313 => (if t313 = true then (if bt297.2 = 5 then (if bt308.2 = 6 then ((ledger_Accounts.f bt272.1).bind fun t314 => ((wageofficeref12_Strings.f k t314 (([(⟨#[98, 97, 110, 107]⟩ : ByteArray), (⟨#[119, 97, 103, 101, 115]⟩ : ByteArray)] : List ByteArray))).bind fun t320 => (some t320))) else (none)) else (none)) else (none))) else (none)) else (none))))))))) else (none))) else (none))) else (none)) else (none))) else (none)) else (none))))) = some r := H
  have A2 := Aside0.mk A20
  clear A20
  replace H := Option.bind_eq_some_iff.mp H
  obtain ⟨⟨t260, t261, t262, t263, t264, t265⟩, A30, H⟩ := H
  replace H : ((wageofficelaw39_back.f t260 t261 t262 t263 t264 t265).bind fun bt266 => ((ledger_Post.f t255 bt266.1 bt266.2.1 bt266.2.2.1 bt266.2.2.2.1 bt266.2.2.2.2.1 bt266.2.2.2.2.2).bind fun bt272 => (if t258 = 0 then (if bt272.2 = 0 then ((ledger_Valid.f bt272.1).bind fun t276 => (if t276 = true then (if (bt272.1.length : Int) = 2 then ((ledger_Balance.f bt272.1 (⟨#[119, 97, 103, 101, 115]⟩ : ByteArray) 10 12).bind fun t277 => (if t277 = 100 then ((ledger_Balance.f bt272.1 (⟨#[119, 97, 103, 101, 115]⟩ : ByteArray) 10 20).bind fun t278 => (if t278 = 70 then ((ledger_Balance.f bt272.1 (⟨#[119, 97, 103, 101, 115]⟩ : ByteArray) 9 20).bind fun t279 => ((wageofficelaw39_entry.f 1 100 25).bind fun bt280 => ((ledger_Post.f bt272.1 bt280.1 bt280.2.1 bt280.2.2.1 bt280.2.2.2.1 bt280.2.2.2.2.1 bt280.2.2.2.2.2).bind fun bt286 => ((wageofficelaw39_entry.f 1 90 25).bind fun bt291 => ((ledger_Post.f bt272.1 bt291.1 bt291.2.1 bt291.2.2.1 bt291.2.2.2.1 bt291.2.2.2.2.1 bt291.2.2.2.2.2).bind fun bt297 => ((wageofficelaw39_entry.f 3 90 19).bind fun bt302 => ((ledger_Post.f bt272.1 bt302.1 bt302.2.1 bt302.2.2.1 bt302.2.2.2.1 bt302.2.2.2.2.1 bt302.2.2.2.2.2).bind fun bt308 => (if t279 = 0 then (if bt286.2 = 0 then ((wageofficeref39_Same.f k bt272.1 bt286.1).bind fun t313 => (if t313 = true then (if bt297.2 = 5 then (if bt308.2 = 6 then ((ledger_Accounts.f bt272.1).bind fun t314 => ((wageofficeref12_Strings.f k t314 (([(⟨#[98, 97, 110, 107]⟩ : ByteArray), (⟨#[119, 97, 103, 101, 115]⟩ : ByteArray)] : List ByteArray))).bind fun t320 => (some t320))) else (none)) else (none)) else (none))) else (none)) else (none))))))))) else (none))) else (none))) else (none)) else (none))) else (none)) else (none)))) = some r := H
  have A3 := Aside0.mk A30
  clear A30
  replace H := Option.bind_eq_some_iff.mp H
  obtain ⟨⟨t266, t267, t268, t269, t270, t271⟩, A40, H⟩ := H
  replace H : ((ledger_Post.f t255 t266 t267 t268 t269 t270 t271).bind fun bt272 => (if t258 = 0 then (if bt272.2 = 0 then ((ledger_Valid.f bt272.1).bind fun t276 => (if t276 = true then (if (bt272.1.length : Int) = 2 then ((ledger_Balance.f bt272.1 (⟨#[119, 97, 103, 101, 115]⟩ : ByteArray) 10 12).bind fun t277 => (if t277 = 100 then ((ledger_Balance.f bt272.1 (⟨#[119, 97, 103, 101, 115]⟩ : ByteArray) 10 20).bind fun t278 => (if t278 = 70 then ((ledger_Balance.f bt272.1 (⟨#[119, 97, 103, 101, 115]⟩ : ByteArray) 9 20).bind fun t279 => ((wageofficelaw39_entry.f 1 100 25).bind fun bt280 => ((ledger_Post.f bt272.1 bt280.1 bt280.2.1 bt280.2.2.1 bt280.2.2.2.1 bt280.2.2.2.2.1 bt280.2.2.2.2.2).bind fun bt286 => ((wageofficelaw39_entry.f 1 90 25).bind fun bt291 => ((ledger_Post.f bt272.1 bt291.1 bt291.2.1 bt291.2.2.1 bt291.2.2.2.1 bt291.2.2.2.2.1 bt291.2.2.2.2.2).bind fun bt297 => ((wageofficelaw39_entry.f 3 90 19).bind fun bt302 => ((ledger_Post.f bt272.1 bt302.1 bt302.2.1 bt302.2.2.1 bt302.2.2.2.1 bt302.2.2.2.2.1 bt302.2.2.2.2.2).bind fun bt308 => (if t279 = 0 then (if bt286.2 = 0 then ((wageofficeref39_Same.f k bt272.1 bt286.1).bind fun t313 => (if t313 = true then (if bt297.2 = 5 then (if bt308.2 = 6 then ((ledger_Accounts.f bt272.1).bind fun t314 => ((wageofficeref12_Strings.f k t314 (([(⟨#[98, 97, 110, 107]⟩ : ByteArray), (⟨#[119, 97, 103, 101, 115]⟩ : ByteArray)] : List ByteArray))).bind fun t320 => (some t320))) else (none)) else (none)) else (none))) else (none)) else (none))))))))) else (none))) else (none))) else (none)) else (none))) else (none)) else (none))) = some r := H
  have A4 := Aside0.mk A40
  clear A40
  replace H := Option.bind_eq_some_iff.mp H
  obtain ⟨⟨t272, t275⟩, A50, H⟩ := H
  replace H : (if t258 = 0 then (if t275 = 0 then ((ledger_Valid.f t272).bind fun t276 => (if t276 = true then (if (t272.length : Int) = 2 then ((ledger_Balance.f t272 (⟨#[119, 97, 103, 101, 115]⟩ : ByteArray) 10 12).bind fun t277 => (if t277 = 100 then ((ledger_Balance.f t272 (⟨#[119, 97, 103, 101, 115]⟩ : ByteArray) 10 20).bind fun t278 => (if t278 = 70 then ((ledger_Balance.f t272 (⟨#[119, 97, 103, 101, 115]⟩ : ByteArray) 9 20).bind fun t279 => ((wageofficelaw39_entry.f 1 100 25).bind fun bt280 => ((ledger_Post.f t272 bt280.1 bt280.2.1 bt280.2.2.1 bt280.2.2.2.1 bt280.2.2.2.2.1 bt280.2.2.2.2.2).bind fun bt286 => ((wageofficelaw39_entry.f 1 90 25).bind fun bt291 => ((ledger_Post.f t272 bt291.1 bt291.2.1 bt291.2.2.1 bt291.2.2.2.1 bt291.2.2.2.2.1 bt291.2.2.2.2.2).bind fun bt297 => ((wageofficelaw39_entry.f 3 90 19).bind fun bt302 => ((ledger_Post.f t272 bt302.1 bt302.2.1 bt302.2.2.1 bt302.2.2.2.1 bt302.2.2.2.2.1 bt302.2.2.2.2.2).bind fun bt308 => (if t279 = 0 then (if bt286.2 = 0 then ((wageofficeref39_Same.f k t272 bt286.1).bind fun t313 => (if t313 = true then (if bt297.2 = 5 then (if bt308.2 = 6 then ((ledger_Accounts.f t272).bind fun t314 => ((wageofficeref12_Strings.f k t314 (([(⟨#[98, 97, 110, 107]⟩ : ByteArray), (⟨#[119, 97, 103, 101, 115]⟩ : ByteArray)] : List ByteArray))).bind fun t320 => (some t320))) else (none)) else (none)) else (none))) else (none)) else (none))))))))) else (none))) else (none))) else (none)) else (none))) else (none)) else (none)) = some r := H
  have A5 := Aside0.mk A50
  clear A50
  by_cases c6 : t258 = 0
  · rw [if_pos c6] at H
    have c6b0 : (t258 == 0) = true := beq_iff_eq.mpr c6
    have c6b1 : (t258 != 0) = false := bne_eq_false_iff_eq.mpr c6
    clear c6
    by_cases c7 : t275 = 0
    · rw [if_pos c7] at H
      have c7b0 : (t275 == 0) = true := beq_iff_eq.mpr c7
      have c7b1 : (t275 != 0) = false := bne_eq_false_iff_eq.mpr c7
      clear c7
      replace H := Option.bind_eq_some_iff.mp H
      obtain ⟨t276, A80, H⟩ := H
      replace H : (if t276 = true then (if (t272.length : Int) = 2 then ((ledger_Balance.f t272 (⟨#[119, 97, 103, 101, 115]⟩ : ByteArray) 10 12).bind fun t277 => (if t277 = 100 then ((ledger_Balance.f t272 (⟨#[119, 97, 103, 101, 115]⟩ : ByteArray) 10 20).bind fun t278 => (if t278 = 70 then ((ledger_Balance.f t272 (⟨#[119, 97, 103, 101, 115]⟩ : ByteArray) 9 20).bind fun t279 => ((wageofficelaw39_entry.f 1 100 25).bind fun bt280 => ((ledger_Post.f t272 bt280.1 bt280.2.1 bt280.2.2.1 bt280.2.2.2.1 bt280.2.2.2.2.1 bt280.2.2.2.2.2).bind fun bt286 => ((wageofficelaw39_entry.f 1 90 25).bind fun bt291 => ((ledger_Post.f t272 bt291.1 bt291.2.1 bt291.2.2.1 bt291.2.2.2.1 bt291.2.2.2.2.1 bt291.2.2.2.2.2).bind fun bt297 => ((wageofficelaw39_entry.f 3 90 19).bind fun bt302 => ((ledger_Post.f t272 bt302.1 bt302.2.1 bt302.2.2.1 bt302.2.2.2.1 bt302.2.2.2.2.1 bt302.2.2.2.2.2).bind fun bt308 => (if t279 = 0 then (if bt286.2 = 0 then ((wageofficeref39_Same.f k t272 bt286.1).bind fun t313 => (if t313 = true then (if bt297.2 = 5 then (if bt308.2 = 6 then ((ledger_Accounts.f t272).bind fun t314 => ((wageofficeref12_Strings.f k t314 (([(⟨#[98, 97, 110, 107]⟩ : ByteArray), (⟨#[119, 97, 103, 101, 115]⟩ : ByteArray)] : List ByteArray))).bind fun t320 => (some t320))) else (none)) else (none)) else (none))) else (none)) else (none))))))))) else (none))) else (none))) else (none)) else (none)) = some r := H
      have A8 := Aside0.mk A80
      clear A80
      by_cases c9 : t276 = true
      · subst c9
        have H1 : (if (t272.length : Int) = 2 then ((ledger_Balance.f t272 (⟨#[119, 97, 103, 101, 115]⟩ : ByteArray) 10 12).bind fun t277 => (if t277 = 100 then ((ledger_Balance.f t272 (⟨#[119, 97, 103, 101, 115]⟩ : ByteArray) 10 20).bind fun t278 => (if t278 = 70 then ((ledger_Balance.f t272 (⟨#[119, 97, 103, 101, 115]⟩ : ByteArray) 9 20).bind fun t279 => ((wageofficelaw39_entry.f 1 100 25).bind fun bt280 => ((ledger_Post.f t272 bt280.1 bt280.2.1 bt280.2.2.1 bt280.2.2.2.1 bt280.2.2.2.2.1 bt280.2.2.2.2.2).bind fun bt286 => ((wageofficelaw39_entry.f 1 90 25).bind fun bt291 => ((ledger_Post.f t272 bt291.1 bt291.2.1 bt291.2.2.1 bt291.2.2.2.1 bt291.2.2.2.2.1 bt291.2.2.2.2.2).bind fun bt297 => ((wageofficelaw39_entry.f 3 90 19).bind fun bt302 => ((ledger_Post.f t272 bt302.1 bt302.2.1 bt302.2.2.1 bt302.2.2.2.1 bt302.2.2.2.2.1 bt302.2.2.2.2.2).bind fun bt308 => (if t279 = 0 then (if bt286.2 = 0 then ((wageofficeref39_Same.f k t272 bt286.1).bind fun t313 => (if t313 = true then (if bt297.2 = 5 then (if bt308.2 = 6 then ((ledger_Accounts.f t272).bind fun t314 => ((wageofficeref12_Strings.f k t314 (([(⟨#[98, 97, 110, 107]⟩ : ByteArray), (⟨#[119, 97, 103, 101, 115]⟩ : ByteArray)] : List ByteArray))).bind fun t320 => (some t320))) else (none)) else (none)) else (none))) else (none)) else (none))))))))) else (none))) else (none))) else (none)) = some r := by rw [if_pos rfl] at H; exact H
        clear H
        have H := H1
        clear H1
        by_cases c10 : (t272.length : Int) = 2
        · rw [if_pos c10] at H
          have c10b0 : ((t272.length : Int) == 2) = true := beq_iff_eq.mpr c10
          have c10b1 : ((t272.length : Int) != 2) = false := bne_eq_false_iff_eq.mpr c10
          clear c10
          replace H := Option.bind_eq_some_iff.mp H
          obtain ⟨t277, A110, H⟩ := H
          replace H : (if t277 = 100 then ((ledger_Balance.f t272 (⟨#[119, 97, 103, 101, 115]⟩ : ByteArray) 10 20).bind fun t278 => (if t278 = 70 then ((ledger_Balance.f t272 (⟨#[119, 97, 103, 101, 115]⟩ : ByteArray) 9 20).bind fun t279 => ((wageofficelaw39_entry.f 1 100 25).bind fun bt280 => ((ledger_Post.f t272 bt280.1 bt280.2.1 bt280.2.2.1 bt280.2.2.2.1 bt280.2.2.2.2.1 bt280.2.2.2.2.2).bind fun bt286 => ((wageofficelaw39_entry.f 1 90 25).bind fun bt291 => ((ledger_Post.f t272 bt291.1 bt291.2.1 bt291.2.2.1 bt291.2.2.2.1 bt291.2.2.2.2.1 bt291.2.2.2.2.2).bind fun bt297 => ((wageofficelaw39_entry.f 3 90 19).bind fun bt302 => ((ledger_Post.f t272 bt302.1 bt302.2.1 bt302.2.2.1 bt302.2.2.2.1 bt302.2.2.2.2.1 bt302.2.2.2.2.2).bind fun bt308 => (if t279 = 0 then (if bt286.2 = 0 then ((wageofficeref39_Same.f k t272 bt286.1).bind fun t313 => (if t313 = true then (if bt297.2 = 5 then (if bt308.2 = 6 then ((ledger_Accounts.f t272).bind fun t314 => ((wageofficeref12_Strings.f k t314 (([(⟨#[98, 97, 110, 107]⟩ : ByteArray), (⟨#[119, 97, 103, 101, 115]⟩ : ByteArray)] : List ByteArray))).bind fun t320 => (some t320))) else (none)) else (none)) else (none))) else (none)) else (none))))))))) else (none))) else (none)) = some r := H
          have A11 := Aside0.mk A110
          clear A110
          by_cases c12 : t277 = 100
          · rw [if_pos c12] at H
            have c12b0 : (t277 == 100) = true := beq_iff_eq.mpr c12
            have c12b1 : (t277 != 100) = false := bne_eq_false_iff_eq.mpr c12
            clear c12
            replace H := Option.bind_eq_some_iff.mp H
            obtain ⟨t278, A130, H⟩ := H
            replace H : (if t278 = 70 then ((ledger_Balance.f t272 (⟨#[119, 97, 103, 101, 115]⟩ : ByteArray) 9 20).bind fun t279 => ((wageofficelaw39_entry.f 1 100 25).bind fun bt280 => ((ledger_Post.f t272 bt280.1 bt280.2.1 bt280.2.2.1 bt280.2.2.2.1 bt280.2.2.2.2.1 bt280.2.2.2.2.2).bind fun bt286 => ((wageofficelaw39_entry.f 1 90 25).bind fun bt291 => ((ledger_Post.f t272 bt291.1 bt291.2.1 bt291.2.2.1 bt291.2.2.2.1 bt291.2.2.2.2.1 bt291.2.2.2.2.2).bind fun bt297 => ((wageofficelaw39_entry.f 3 90 19).bind fun bt302 => ((ledger_Post.f t272 bt302.1 bt302.2.1 bt302.2.2.1 bt302.2.2.2.1 bt302.2.2.2.2.1 bt302.2.2.2.2.2).bind fun bt308 => (if t279 = 0 then (if bt286.2 = 0 then ((wageofficeref39_Same.f k t272 bt286.1).bind fun t313 => (if t313 = true then (if bt297.2 = 5 then (if bt308.2 = 6 then ((ledger_Accounts.f t272).bind fun t314 => ((wageofficeref12_Strings.f k t314 (([(⟨#[98, 97, 110, 107]⟩ : ByteArray), (⟨#[119, 97, 103, 101, 115]⟩ : ByteArray)] : List ByteArray))).bind fun t320 => (some t320))) else (none)) else (none)) else (none))) else (none)) else (none))))))))) else (none)) = some r := H
            have A13 := Aside0.mk A130
            clear A130
            by_cases c14 : t278 = 70
            · rw [if_pos c14] at H
              have c14b0 : (t278 == 70) = true := beq_iff_eq.mpr c14
              have c14b1 : (t278 != 70) = false := bne_eq_false_iff_eq.mpr c14
              clear c14
              replace H := Option.bind_eq_some_iff.mp H
              obtain ⟨t279, A150, H⟩ := H
              replace H : ((wageofficelaw39_entry.f 1 100 25).bind fun bt280 => ((ledger_Post.f t272 bt280.1 bt280.2.1 bt280.2.2.1 bt280.2.2.2.1 bt280.2.2.2.2.1 bt280.2.2.2.2.2).bind fun bt286 => ((wageofficelaw39_entry.f 1 90 25).bind fun bt291 => ((ledger_Post.f t272 bt291.1 bt291.2.1 bt291.2.2.1 bt291.2.2.2.1 bt291.2.2.2.2.1 bt291.2.2.2.2.2).bind fun bt297 => ((wageofficelaw39_entry.f 3 90 19).bind fun bt302 => ((ledger_Post.f t272 bt302.1 bt302.2.1 bt302.2.2.1 bt302.2.2.2.1 bt302.2.2.2.2.1 bt302.2.2.2.2.2).bind fun bt308 => (if t279 = 0 then (if bt286.2 = 0 then ((wageofficeref39_Same.f k t272 bt286.1).bind fun t313 => (if t313 = true then (if bt297.2 = 5 then (if bt308.2 = 6 then ((ledger_Accounts.f t272).bind fun t314 => ((wageofficeref12_Strings.f k t314 (([(⟨#[98, 97, 110, 107]⟩ : ByteArray), (⟨#[119, 97, 103, 101, 115]⟩ : ByteArray)] : List ByteArray))).bind fun t320 => (some t320))) else (none)) else (none)) else (none))) else (none)) else (none)))))))) = some r := H
              have A15 := Aside0.mk A150
              clear A150
              replace H := Option.bind_eq_some_iff.mp H
              obtain ⟨⟨t280, t281, t282, t283, t284, t285⟩, A160, H⟩ := H
              replace H : ((ledger_Post.f t272 t280 t281 t282 t283 t284 t285).bind fun bt286 => ((wageofficelaw39_entry.f 1 90 25).bind fun bt291 => ((ledger_Post.f t272 bt291.1 bt291.2.1 bt291.2.2.1 bt291.2.2.2.1 bt291.2.2.2.2.1 bt291.2.2.2.2.2).bind fun bt297 => ((wageofficelaw39_entry.f 3 90 19).bind fun bt302 => ((ledger_Post.f t272 bt302.1 bt302.2.1 bt302.2.2.1 bt302.2.2.2.1 bt302.2.2.2.2.1 bt302.2.2.2.2.2).bind fun bt308 => (if t279 = 0 then (if bt286.2 = 0 then ((wageofficeref39_Same.f k t272 bt286.1).bind fun t313 => (if t313 = true then (if bt297.2 = 5 then (if bt308.2 = 6 then ((ledger_Accounts.f t272).bind fun t314 => ((wageofficeref12_Strings.f k t314 (([(⟨#[98, 97, 110, 107]⟩ : ByteArray), (⟨#[119, 97, 103, 101, 115]⟩ : ByteArray)] : List ByteArray))).bind fun t320 => (some t320))) else (none)) else (none)) else (none))) else (none)) else (none))))))) = some r := H
              have A16 := Aside0.mk A160
              clear A160
              replace H := Option.bind_eq_some_iff.mp H
              obtain ⟨⟨t286, t289⟩, A170, H⟩ := H
              replace H : ((wageofficelaw39_entry.f 1 90 25).bind fun bt291 => ((ledger_Post.f t272 bt291.1 bt291.2.1 bt291.2.2.1 bt291.2.2.2.1 bt291.2.2.2.2.1 bt291.2.2.2.2.2).bind fun bt297 => ((wageofficelaw39_entry.f 3 90 19).bind fun bt302 => ((ledger_Post.f t272 bt302.1 bt302.2.1 bt302.2.2.1 bt302.2.2.2.1 bt302.2.2.2.2.1 bt302.2.2.2.2.2).bind fun bt308 => (if t279 = 0 then (if t289 = 0 then ((wageofficeref39_Same.f k t272 t286).bind fun t313 => (if t313 = true then (if bt297.2 = 5 then (if bt308.2 = 6 then ((ledger_Accounts.f t272).bind fun t314 => ((wageofficeref12_Strings.f k t314 (([(⟨#[98, 97, 110, 107]⟩ : ByteArray), (⟨#[119, 97, 103, 101, 115]⟩ : ByteArray)] : List ByteArray))).bind fun t320 => (some t320))) else (none)) else (none)) else (none))) else (none)) else (none)))))) = some r := H
              have A17 := Aside0.mk A170
              clear A170
              replace H := Option.bind_eq_some_iff.mp H
              obtain ⟨⟨t291, t292, t293, t294, t295, t296⟩, A180, H⟩ := H
              replace H : ((ledger_Post.f t272 t291 t292 t293 t294 t295 t296).bind fun bt297 => ((wageofficelaw39_entry.f 3 90 19).bind fun bt302 => ((ledger_Post.f t272 bt302.1 bt302.2.1 bt302.2.2.1 bt302.2.2.2.1 bt302.2.2.2.2.1 bt302.2.2.2.2.2).bind fun bt308 => (if t279 = 0 then (if t289 = 0 then ((wageofficeref39_Same.f k t272 t286).bind fun t313 => (if t313 = true then (if bt297.2 = 5 then (if bt308.2 = 6 then ((ledger_Accounts.f t272).bind fun t314 => ((wageofficeref12_Strings.f k t314 (([(⟨#[98, 97, 110, 107]⟩ : ByteArray), (⟨#[119, 97, 103, 101, 115]⟩ : ByteArray)] : List ByteArray))).bind fun t320 => (some t320))) else (none)) else (none)) else (none))) else (none)) else (none))))) = some r := H
              have A18 := Aside0.mk A180
              clear A180
              replace H := Option.bind_eq_some_iff.mp H
              obtain ⟨⟨t297, t300⟩, A190, H⟩ := H
              replace H : ((wageofficelaw39_entry.f 3 90 19).bind fun bt302 => ((ledger_Post.f t272 bt302.1 bt302.2.1 bt302.2.2.1 bt302.2.2.2.1 bt302.2.2.2.2.1 bt302.2.2.2.2.2).bind fun bt308 => (if t279 = 0 then (if t289 = 0 then ((wageofficeref39_Same.f k t272 t286).bind fun t313 => (if t313 = true then (if t300 = 5 then (if bt308.2 = 6 then ((ledger_Accounts.f t272).bind fun t314 => ((wageofficeref12_Strings.f k t314 (([(⟨#[98, 97, 110, 107]⟩ : ByteArray), (⟨#[119, 97, 103, 101, 115]⟩ : ByteArray)] : List ByteArray))).bind fun t320 => (some t320))) else (none)) else (none)) else (none))) else (none)) else (none)))) = some r := H
              have A19 := Aside0.mk A190
              clear A190
              replace H := Option.bind_eq_some_iff.mp H
              obtain ⟨⟨t302, t303, t304, t305, t306, t307⟩, A200, H⟩ := H
              replace H : ((ledger_Post.f t272 t302 t303 t304 t305 t306 t307).bind fun bt308 => (if t279 = 0 then (if t289 = 0 then ((wageofficeref39_Same.f k t272 t286).bind fun t313 => (if t313 = true then (if t300 = 5 then (if bt308.2 = 6 then ((ledger_Accounts.f t272).bind fun t314 => ((wageofficeref12_Strings.f k t314 (([(⟨#[98, 97, 110, 107]⟩ : ByteArray), (⟨#[119, 97, 103, 101, 115]⟩ : ByteArray)] : List ByteArray))).bind fun t320 => (some t320))) else (none)) else (none)) else (none))) else (none)) else (none))) = some r := H
              have A20 := Aside0.mk A200
              clear A200
              replace H := Option.bind_eq_some_iff.mp H
              obtain ⟨⟨t308, t311⟩, A210, H⟩ := H
              replace H : (if t279 = 0 then (if t289 = 0 then ((wageofficeref39_Same.f k t272 t286).bind fun t313 => (if t313 = true then (if t300 = 5 then (if t311 = 6 then ((ledger_Accounts.f t272).bind fun t314 => ((wageofficeref12_Strings.f k t314 (([(⟨#[98, 97, 110, 107]⟩ : ByteArray), (⟨#[119, 97, 103, 101, 115]⟩ : ByteArray)] : List ByteArray))).bind fun t320 => (some t320))) else (none)) else (none)) else (none))) else (none)) else (none)) = some r := H
              have A21 := Aside0.mk A210
              clear A210
              by_cases c22 : t279 = 0
              · rw [if_pos c22] at H
                have c22b0 : (t279 == 0) = true := beq_iff_eq.mpr c22
                have c22b1 : (t279 != 0) = false := bne_eq_false_iff_eq.mpr c22
                clear c22
                by_cases c23 : t289 = 0
                · rw [if_pos c23] at H
                  have c23b0 : (t289 == 0) = true := beq_iff_eq.mpr c23
                  have c23b1 : (t289 != 0) = false := bne_eq_false_iff_eq.mpr c23
                  clear c23
                  replace H := Option.bind_eq_some_iff.mp H
                  obtain ⟨t313, A240, H⟩ := H
                  replace H : (if t313 = true then (if t300 = 5 then (if t311 = 6 then ((ledger_Accounts.f t272).bind fun t314 => ((wageofficeref12_Strings.f k t314 (([(⟨#[98, 97, 110, 107]⟩ : ByteArray), (⟨#[119, 97, 103, 101, 115]⟩ : ByteArray)] : List ByteArray))).bind fun t320 => (some t320))) else (none)) else (none)) else (none)) = some r := H
                  have A24 := Aside0.mk A240
                  clear A240
                  by_cases c25 : t313 = true
                  · subst c25
                    have H1 : (if t300 = 5 then (if t311 = 6 then ((ledger_Accounts.f t272).bind fun t314 => ((wageofficeref12_Strings.f k t314 (([(⟨#[98, 97, 110, 107]⟩ : ByteArray), (⟨#[119, 97, 103, 101, 115]⟩ : ByteArray)] : List ByteArray))).bind fun t320 => (some t320))) else (none)) else (none)) = some r := by rw [if_pos rfl] at H; exact H
                    clear H
                    have H := H1
                    clear H1
                    by_cases c26 : t300 = 5
                    · rw [if_pos c26] at H
                      have c26b0 : (t300 == 5) = true := beq_iff_eq.mpr c26
                      have c26b1 : (t300 != 5) = false := bne_eq_false_iff_eq.mpr c26
                      clear c26
                      by_cases c27 : t311 = 6
                      · rw [if_pos c27] at H
                        have c27b0 : (t311 == 6) = true := beq_iff_eq.mpr c27
                        have c27b1 : (t311 != 6) = false := bne_eq_false_iff_eq.mpr c27
                        clear c27
                        replace H := Option.bind_eq_some_iff.mp H
                        obtain ⟨t314, A280, H⟩ := H
                        replace H : ((wageofficeref12_Strings.f k t314 (([(⟨#[98, 97, 110, 107]⟩ : ByteArray), (⟨#[119, 97, 103, 101, 115]⟩ : ByteArray)] : List ByteArray))).bind fun t320 => (some t320)) = some r := H
                        have A28 := Aside0.mk A280
                        clear A280
                        obtain ⟨y317, hy317⟩ : ∃ y_ : List ByteArray, y_ = (([(⟨#[98, 97, 110, 107]⟩ : ByteArray), (⟨#[119, 97, 103, 101, 115]⟩ : ByteArray)] : List ByteArray)) := ⟨_, rfl⟩
                        replace H : ((wageofficeref12_Strings.f k t314 y317).bind fun t320 => (some t320)) = some r := by first | (rw [hy317]; with_reducible exact H) | (have H2_ := (Option.bind_some _ _).symm.trans H; rw [hy317]; with_reducible exact H2_) | (have H2_ := (Option.bind_some _ _).symm.trans H; with_reducible exact H2_) | with_reducible exact H | (rw [hy317]; exact H) | exact H
                        have Ny317 := Aside0.mk hy317
                        clear hy317
                        replace H := Option.bind_eq_some_iff.mp H
                        obtain ⟨t320, A290, H⟩ := H
                        replace H : (some t320) = some r := H
                        have A29 := Aside0.mk A290
                        clear A290
                        obtain rfl := Option.some.inj H
                        go_enter Try.func18, Try.ntmps18
                        try go_wp2_with (first | ((with_reducible refine gate_callee (f := 46) rfl ?_); refine goesL_ (some 13) rfl rfl Try.func46 (by kernel_rfl) rfl #[.int .i64 1, .int .i64 100, .int .i64 12] rfl (by (try simp only [List.map_toArray, List.map_cons, List.map_nil]); first | done | rfl | (simp only [List.length_drop, List.length_take]; rfl)) ?_; (with_reducible refine (wageofficelaw39_entry.calls 1 100 12 t249 t250 t251 t252 t253 t254 _ A1.out).mono ?_); rintro e w30 ⟨rfl, hb⟩; refine ⟨_, rfl, ?_⟩; have n0_ := Aside0.mk (below_step (by repeat (first | (with_reducible first | exact HB.out | apply below_alloc | apply pw_below_drewN | apply below_drew1) | exact HB.out)) hb); clear HB; have HB := n0_; clear n0_; (try clear hb); (try clear hb2); (try clear hk); (try clear hi)) | ((with_reducible refine gate_callee (f := 19) rfl ?_); refine goesL_ (some 14) rfl rfl Try.func19 (by kernel_rfl) rfl #[.agg #[.slice none 0 0], .agg #[.int .i64 t249, .string t250, .string t251, .int .i64 t252, .int .i64 t253, .int .i64 t254]] rfl (by (try simp only [List.map_toArray, List.map_cons, List.map_nil]); first | done | rfl | (simp only [List.length_drop, List.length_take]; rfl)) ?_; (refine (ledger_Post.calls _ _ ([] : List (S26)) t249 t250 t251 t252 t253 t254 t255 t258 _ ?side1 ?side2 A2.out).mono ?_); (case side1 => exact Kd.C_nil _ _); (case side2 => exact Nat.le_refl _); rintro e w31 ⟨v256, rfl, ho0, hb⟩; refine ⟨_, rfl, ?_⟩; have n0_ := Aside0.mk (Kd.R_lower ho0 (below_size (by repeat (first | (with_reducible first | exact HB.out | apply below_alloc | apply pw_below_drewN | apply below_drew1) | exact HB.out)))); have n1_ := Aside0.mk (below_step (by repeat (first | (with_reducible first | exact HB.out | apply below_alloc | apply pw_below_drewN | apply below_drew1) | exact HB.out)) hb); clear HB; have HO257 := n0_; have HB := n1_; clear n0_ n1_; (try clear hb); (try clear hb2); (try clear hk); (try clear hi); (try clear ho0)) | ((with_reducible refine gate_dst (N := 1) rfl ?_); (try (refine gate_guard (by rfl) ?_; dsimp only)); refine box_event ?hg (N := 1) ?hd (cs := #[.slice none 0 0]) (t := 24) ?hr ?_; (case hd => rfl); (case hg => rfl); (case hr => first | (go_simp; done) | (go_simp; rfl)); intro gb259 hg w32 hbox hb; have n0_ := Aside0.mk (Kd.R_below (by (with_reducible repeat (first | apply Kd.R_alloc | apply Kd.R_drewN | apply Kd.R_drew)); exact HO257.out) hb); have n1_ := Aside0.mk (below_step (by repeat (first | (with_reducible first | exact HB.out | apply below_alloc | apply pw_below_drewN | apply below_drew1) | exact HB.out)) hb); have n2_ := Aside0.mk (hbox); have n3_ := Aside0.mk ((by rw [hg]; exact (below_size (by repeat (first | (with_reducible first | exact HB.out | apply below_alloc | apply pw_below_drewN | apply below_drew1) | exact HB.out))) : w.heap.size ≤ gb259)); have n4_ := Aside0.mk ((by rw [hg]; exact (below_size (by repeat (first | (with_reducible first | exact HB.out | apply below_alloc | apply pw_below_drewN | apply below_drew1) | exact HB.out))) : w.heap.size ≤ gb259)); clear HO257; clear HB; have HO257 := n0_; have HB := n1_; have BK259 := n2_; have GW259 := n3_; have GE259 := n4_; clear n0_ n1_ n2_ n3_ n4_; clear hb hbox hg; obtain ⟨Ao33, co33, eo33⟩ := Kd.R_slice HO257.out; subst eo33; have hcz34_0 : w32.cell? ⟨gb259, 0, none⟩ = some (.slice none 0 0) := (blk_cell BK259.out 0).trans rfl; have hfz34_0 := blk_frozen BK259.out 0))
                        have n0_ : Aside0 (Kd.R k26 26 (w32.setCell ⟨gb259, 0, none⟩ (.slice Ao33 t255.length co33)) w.heap.size (fun _ => True) (.slice Ao33 t255.length co33) t255) := ⟨by (with_reducible repeat (first | apply Kd.R_alloc | apply Kd.R_drewN | apply Kd.R_drew)); exact Kd.R_mono (Kd.R_far (p := ⟨gb259, 0, none⟩) (Kd.R_types HO257.out BK259.out (by decide)) (fun _ hk => hk.2) (.slice Ao33 t255.length co33)) (fun _ hk => trivial)⟩
                        have n1_ : Aside0 ((w32.setCell ⟨gb259, 0, none⟩ (.slice Ao33 t255.length co33)).heap[gb259]? = some (.cells #[.slice Ao33 t255.length co33] 24 (0, 0))) := ⟨by (with_reducible repeat (first | refine blk_drewN ?_ _ | refine blk_drew ?_ | refine blk_alloc ?_ _)); refine blk_put (cs := #[.slice none 0 0]) ?_ 0 _ rfl; (with_reducible repeat (first | refine blk_drewN ?_ _ | refine blk_drew ?_ | refine blk_alloc ?_ _)); exact BK259.out⟩
                        have n2_ : Aside0 (Below w.heap.size w (w32.setCell ⟨gb259, 0, none⟩ (.slice Ao33 t255.length co33))) := ⟨by repeat (first | (with_reducible first | exact HB.out | apply below_alloc | apply pw_below_drewN | apply below_drew1 | refine below_set ?_ GE259.out) | exact HB.out)⟩
                        (try clear HO257)
                        (try clear BK259)
                        (try clear HB)
                        generalize (w32.setCell ⟨gb259, 0, none⟩ (.slice Ao33 t255.length co33)) = w35 at n0_ n1_ n2_ ⊢
                        have HO257 := n0_
                        have BK259 := n1_
                        have HB := n2_
                        clear n0_ n1_ n2_
                        have n0_ := Aside0.mk (Kd.R_drew HO257.out)
                        have n1_ := Aside0.mk (blk_drew BK259.out)
                        have n2_ := Aside0.mk (below_drew1 HB.out)
                        clear HO257
                        clear BK259
                        clear HB
                        have HO257 := n0_
                        have BK259 := n1_
                        have HB := n2_
                        clear n0_ n1_ n2_
                        refine start_ (n := 9) (S := fun w' => w'.cell? ⟨gb259, 0, none⟩ = some (.slice Ao33 t255.length co33)) (ds := [7]) #[false, false, false, false, false, false, false, false, false] (by kernel_rfl) rfl rfl ((blk_cell BK259.out 0).trans rfl) (fun hHeld => ?_); refine with_tabW wageofficelaw39_head.tab2 wageofficelaw39_head.bits2 (fun HT_ HW_ => ?_)
                        generalize w35.drew = w36 at HO257 BK259 HB hHeld ⊢
                        refine take_ (i := 0) (N := some 18) (v := ?_) (a' := ?_) #[true, false, false, false, false, false, false, false, false] rfl rfl (take_ofW HT_.out HW_.out (by kernel_rfl)) (fun _ _ _ h => h) (Or.inl ⟨by rfl, ?_⟩) hHeld ?_ ?_
                        rotate_left
                        · intro w' s0
                          go_simp
                          with_reducible rfl
                        rotate_left
                        · simp only [Act.put, List.setIfInBounds_toArray, List.set_cons_zero, List.set_cons_succ, i64_w, i32_w]
                          rfl
                        refine one_ (i := 1) (N := some 19) #[true, true, false, false, false, false, false, false, false] rfl rfl (one_of HT_.out (by kernel_rfl)) (by decide) (fun K hK => ?_)
                        refine goes_ Try.func46 (by kernel_rfl) rfl #[.int .i64 2, .int .i64 30, .int .i64 20] (by rfl) rfl rfl (by (try simp only [List.map_toArray, List.map_cons, List.map_nil]); first | done | rfl | (simp only [List.length_drop, List.length_take]; rfl)) ?_
                        with_reducible refine (wageofficelaw39_entry.calls 2 30 20 t260 t261 t262 t263 t264 t265 _ A3.out).mono ?_
                        rintro e w37 ⟨rfl, hb⟩
                        refine ⟨_, rfl, ?_⟩
                        have n0_ := Aside0.mk (Kd.R_below (by (with_reducible repeat (first | apply Kd.R_alloc | apply Kd.R_drewN | apply Kd.R_drew)); exact HO257.out) hb)
                        have n1_ := Aside0.mk (blk_below (g := gb259) (o := .cells #[.slice Ao33 t255.length co33] 24 (0, 0)) (by (with_reducible repeat (first | refine blk_drewN ?_ _ | refine blk_drew ?_ | refine blk_alloc ?_ _)); exact BK259.out) hb)
                        have n2_ := Aside0.mk (below_step (by repeat (first | (with_reducible first | exact HB.out | apply below_alloc | apply pw_below_drewN | apply below_drew1 | refine below_set ?_ GE259.out) | exact HB.out)) hb)
                        clear HO257
                        clear BK259
                        clear HB
                        have HO257 := n0_
                        have BK259 := n1_
                        have HB := n2_
                        clear n0_ n1_ n2_
                        (try clear hb)
                        (try clear hb2)
                        (try clear hk)
                        (try clear hi)
                        refine hK.out _ _ ((blk_cell BK259.out 0).trans rfl) (fun hHeld => ?_)
                        clear hK K
                        refine norm_ (a' := ?_) ?_ ?_
                        rotate_left
                        · show Act.put _ (some 19) _ = _
                          simp only [Act.put, List.setIfInBounds_toArray, List.set_cons_zero, List.set_cons_succ, i64_w, i32_w]
                          rfl
                        refine one_ (i := 2) (N := some 20) #[true, true, true, false, false, false, false, false, false] rfl rfl (one_of HT_.out (by kernel_rfl)) (by decide) (fun K hK => ?_)
                        refine goes_ Try.func29 (by kernel_rfl) rfl #[.agg #[.int .i64 t260, .string t261, .string t262, .int .i64 t263, .int .i64 t264, .int .i64 t265]] (by rfl) rfl rfl (by (try simp only [List.map_toArray, List.map_cons, List.map_nil]); first | done | rfl | (simp only [List.length_drop, List.length_take]; rfl)) ?_
                        with_reducible refine (wageofficelaw39_back.calls t260 t261 t262 t263 t264 t265 t266 t267 t268 t269 t270 t271 _ A4.out).mono ?_
                        rintro e w38 ⟨rfl, hb⟩
                        refine ⟨_, rfl, ?_⟩
                        have n0_ := Aside0.mk (Kd.R_below (by (with_reducible repeat (first | apply Kd.R_alloc | apply Kd.R_drewN | apply Kd.R_drew)); exact HO257.out) hb)
                        have n1_ := Aside0.mk (blk_below (g := gb259) (o := .cells #[.slice Ao33 t255.length co33] 24 (0, 0)) (by (with_reducible repeat (first | refine blk_drewN ?_ _ | refine blk_drew ?_ | refine blk_alloc ?_ _)); exact BK259.out) hb)
                        have n2_ := Aside0.mk (below_step (by repeat (first | (with_reducible first | exact HB.out | apply below_alloc | apply pw_below_drewN | apply below_drew1 | refine below_set ?_ GE259.out) | exact HB.out)) hb)
                        clear HO257
                        clear BK259
                        clear HB
                        have HO257 := n0_
                        have BK259 := n1_
                        have HB := n2_
                        clear n0_ n1_ n2_
                        (try clear hb)
                        (try clear hb2)
                        (try clear hk)
                        (try clear hi)
                        refine hK.out _ _ ((blk_cell BK259.out 0).trans rfl) (fun hHeld => ?_)
                        clear hK K
                        refine norm_ (a' := ?_) ?_ ?_
                        rotate_left
                        · show Act.put _ (some 20) _ = _
                          simp only [Act.put, List.setIfInBounds_toArray, List.set_cons_zero, List.set_cons_succ, i64_w, i32_w]
                          rfl
                        refine one_ (i := 3) (N := some 21) #[true, true, true, true, false, false, false, false, false] rfl rfl (one_of HT_.out (by kernel_rfl)) (by decide) (fun K hK => ?_)
                        refine goes_ Try.func19 (by kernel_rfl) rfl #[.agg #[.slice Ao33 t255.length co33], .agg #[.int .i64 t266, .string t267, .string t268, .int .i64 t269, .int .i64 t270, .int .i64 t271]] (by rfl) rfl rfl (by (try simp only [List.map_toArray, List.map_cons, List.map_nil]); first | done | rfl | (simp only [List.length_drop, List.length_take]; rfl)) ?_
                        with_reducible refine (ledger_Post.calls _ _ t255 t266 t267 t268 t269 t270 t271 t272 t275 _ ?side1 ?side2 A5.out).mono ?_
                        (case side1 => repeat (first | exact (Kd.R_reads' HO257.out).2.2 | (with_reducible refine Kd.C_alloc ?_ _) | (with_reducible refine Kd.C_drewN ?_ _) | (with_reducible refine Kd.C_drew ?_)))
                        (case side2 => exact (Kd.R_reads' HO257.out).2.1)
                        rintro e w39 ⟨v273, rfl, ho0, hb⟩
                        refine ⟨_, rfl, ?_⟩
                        have n0_ := Aside0.mk (Kd.R_elder' (by (with_reducible repeat (first | apply Kd.R_alloc | apply Kd.R_drewN | apply Kd.R_drew)); exact HO257.out) (Kd.R_base ho0) hb)
                        have n1_ := Aside0.mk (Kd.R_lower (Kd.R_new' ho0 (Kd.R_lt (by (with_reducible repeat (first | apply Kd.R_alloc | apply Kd.R_drewN | apply Kd.R_drew)); exact HO257.out))) (below_size (by repeat (first | (with_reducible first | exact HB.out | apply below_alloc | apply pw_below_drewN | apply below_drew1 | refine below_set ?_ GE259.out) | exact HB.out))))
                        have n2_ := Aside0.mk (blk_below (g := gb259) (o := .cells #[.slice Ao33 t255.length co33] 24 (0, 0)) (by (with_reducible repeat (first | refine blk_drewN ?_ _ | refine blk_drew ?_ | refine blk_alloc ?_ _)); exact BK259.out) hb)
                        have n3_ := Aside0.mk (below_step (by repeat (first | (with_reducible first | exact HB.out | apply below_alloc | apply pw_below_drewN | apply below_drew1 | refine below_set ?_ GE259.out) | exact HB.out)) hb)
                        clear HO257
                        clear BK259
                        clear HB
                        have HO257 := n0_
                        have HO274 := n1_
                        have BK259 := n2_
                        have HB := n3_
                        clear n0_ n1_ n2_ n3_
                        (try clear hb)
                        (try clear hb2)
                        (try clear hk)
                        (try clear hi)
                        (try clear ho0)
                        obtain ⟨Ao40, co40, eo40⟩ := Kd.R_slice HO274.out
                        (first | subst eo40 | (injection eo40 with f1_ f2_ f3_; have f4_ := f1_.symm; have f5_ := f3_.symm; clear f1_ f2_ f3_; subst f4_; subst f5_))
                        refine hK.out _ _ ((blk_cell BK259.out 0).trans rfl) (fun hHeld => ?_)
                        clear hK K
                        refine norm_ (a' := ?_) ?_ ?_
                        rotate_left
                        · show Act.put _ (some 21) _ = _
                          simp only [Act.put, List.setIfInBounds_toArray, List.set_cons_zero, List.set_cons_succ, i64_w, i32_w]
                          rfl
                        refine pure_ (i := 4) (N := some 17) (v := ?_) (a' := ?_) #[true, true, true, true, true, false, false, false, false] rfl rfl (any_of HT_.out (by kernel_rfl)) (fun _ _ _ h => h) (Or.inl ⟨by rfl, ?_⟩) ?_ ?_
                        rotate_left
                        · intro w'
                          go_simp
                          with_reducible rfl
                        rotate_left
                        · simp only [Act.put, List.setIfInBounds_toArray, List.set_cons_zero, List.set_cons_succ, i64_w, i32_w]
                          rfl
                        refine pure_ (i := 5) (N := some 22) (v := ?_) (a' := ?_) #[true, true, true, true, true, true, false, false, false] rfl rfl (any_of HT_.out (by kernel_rfl)) (fun _ _ _ h => h) (Or.inl ⟨by rfl, ?_⟩) ?_ ?_
                        rotate_left
                        · intro w'
                          go_simp
                          with_reducible rfl
                        rotate_left
                        · simp only [Act.put, List.setIfInBounds_toArray, List.set_cons_zero, List.set_cons_succ, i64_w, i32_w]
                          rfl
                        refine pure_ (i := 6) (N := some 23) (v := ?_) (a' := ?_) #[true, true, true, true, true, true, true, false, false] rfl rfl (any_of HT_.out (by kernel_rfl)) (fun _ _ _ h => h) (Or.inl ⟨by rfl, ?_⟩) ?_ ?_
                        rotate_left
                        · intro w'
                          go_simp
                          with_reducible rfl
                        rotate_left
                        · simp only [Act.put, List.setIfInBounds_toArray, List.set_cons_zero, List.set_cons_succ, i64_w, i32_w]
                          rfl
                        refine last_ (i := 7) (N := none) #[true, true, true, true, true, true, true, true, false] rfl rfl (one_of HT_.out (by kernel_rfl)) (by decide) (fun K hK => ?_)
                        have hs41 : w39.cell? ⟨gb259, 0, none⟩ = some (.slice Ao33 t255.length co33) := (blk_cell BK259.out 0).trans rfl
                        have hfs41 := blk_frozen BK259.out 0
                        refine skip_ (w1 := ?_) (by rfl) rfl ?_ ?_
                        rotate_left
                        · go_simp
                          rfl
                        refine hK.out _ _ ?_
                        clear hK K
                        refine pure_ (i := 8) (N := some 3) (v := ?_) (a' := ?_) #[true, true, true, true, true, true, true, true, true] rfl rfl (any_of HT_.out (by kernel_rfl)) (fun _ _ _ h => h) (Or.inl ⟨by rfl, ?_⟩) ?_ ?_
                        rotate_left
                        · intro w'
                          go_simp
                          with_reducible rfl
                        rotate_left
                        · simp only [Act.put, List.setIfInBounds_toArray, List.set_cons_zero, List.set_cons_succ, i64_w, i32_w]
                          rfl
                        refine done_ (done_of HT_.out (by kernel_rfl)) ?_
                        have hcz42_0 : w39.cell? ⟨gb259, 0, none⟩ = some (.slice Ao33 t255.length co33) := (blk_cell BK259.out 0).trans rfl
                        have hfz42_0 := blk_frozen BK259.out 0
                        try go_wp2_with (first | (go_at_call 21; (with_reducible refine (ledger_Valid.calls _ _ t272 true _ ?side1 ?side2 A8.out).mono ?_); (case side1 => refine (Kd.R_reads' (e := 26) (base := w.heap.size) (ok := fun k_ => (True ∧ some k_ ≠ (.slice Ao33 t255.length co33 : Value).ownBlock)) (n := t272.length) (c := co40) ?_).2.2; exact (by (with_reducible repeat (first | apply Kd.R_alloc | apply Kd.R_drewN | apply Kd.R_drew)); exact (Kd.R_mono (Kd.R_far (p := ⟨gb259, 0, none⟩) (Kd.R_types HO274.out BK259.out (by decide)) (fun _ hk => hk.2) (.slice Ao40 t272.length co40)) (fun _ h_ => h_.1)))); (case side2 => exact (Kd.R_reads' HO274.out).2.1); rintro e w43 ⟨rfl, hb⟩; have n0_ := Aside0.mk (Kd.R_below (by (with_reducible repeat (first | apply Kd.R_alloc | apply Kd.R_drewN | apply Kd.R_drew)); exact (Kd.R_mono (Kd.R_far (p := ⟨gb259, 0, none⟩) (Kd.R_types HO257.out BK259.out (by decide)) (fun _ hk => hk.2) (.slice Ao40 t272.length co40)) (fun _ h_ => h_.1))) hb); have n1_ := Aside0.mk (Kd.R_below (by (with_reducible repeat (first | apply Kd.R_alloc | apply Kd.R_drewN | apply Kd.R_drew)); exact (Kd.R_mono (Kd.R_far (p := ⟨gb259, 0, none⟩) (Kd.R_types HO274.out BK259.out (by decide)) (fun _ hk => hk.2) (.slice Ao40 t272.length co40)) (fun _ h_ => h_.1))) hb); have n2_ := Aside0.mk (blk_below (g := gb259) (o := .cells #[.slice Ao40 t272.length co40] 24 (0, 0)) (by (with_reducible repeat (first | refine blk_drewN ?_ _ | refine blk_drew ?_ | refine blk_alloc ?_ _)); refine blk_put (cs := #[.slice Ao33 t255.length co33]) ?_ 0 _ rfl; (with_reducible repeat (first | refine blk_drewN ?_ _ | refine blk_drew ?_ | refine blk_alloc ?_ _)); exact BK259.out) hb); have n3_ := Aside0.mk (below_step (by repeat (first | (with_reducible first | exact HB.out | apply below_alloc | apply pw_below_drewN | apply below_drew1 | refine below_set ?_ GE259.out) | exact HB.out)) hb); clear HO257; clear HO274; clear BK259; clear HB; have HO257 := n0_; have HO274 := n1_; have BK259 := n2_; have HB := n3_; clear n0_ n1_ n2_ n3_; (try clear hb); (try clear hb2); (try clear hk); (try clear hi); have hcz44_0 : w43.cell? ⟨gb259, 0, none⟩ = some (.slice Ao40 t272.length co40) := (blk_cell BK259.out 0).trans rfl; have hfz44_0 := blk_frozen BK259.out 0) | (go_at_call 24; (with_reducible refine (ledger_Balance.calls _ _ t272 (⟨#[119, 97, 103, 101, 115]⟩ : ByteArray) 10 12 t277 _ ?side1 ?side2 A11.out).mono ?_); (case side1 => repeat (first | exact (Kd.R_reads' HO274.out).2.2 | (with_reducible refine Kd.C_alloc ?_ _) | (with_reducible refine Kd.C_drewN ?_ _) | (with_reducible refine Kd.C_drew ?_))); (case side2 => exact (Kd.R_reads' HO274.out).2.1); rintro e w45 ⟨rfl, hb⟩; have n0_ := Aside0.mk (Kd.R_below (by (with_reducible repeat (first | apply Kd.R_alloc | apply Kd.R_drewN | apply Kd.R_drew)); exact HO257.out) hb); have n1_ := Aside0.mk (Kd.R_below (by (with_reducible repeat (first | apply Kd.R_alloc | apply Kd.R_drewN | apply Kd.R_drew)); exact HO274.out) hb); have n2_ := Aside0.mk (blk_below (g := gb259) (o := .cells #[.slice Ao40 t272.length co40] 24 (0, 0)) (by (with_reducible repeat (first | refine blk_drewN ?_ _ | refine blk_drew ?_ | refine blk_alloc ?_ _)); exact BK259.out) hb); have n3_ := Aside0.mk (below_step (by repeat (first | (with_reducible first | exact HB.out | apply below_alloc | apply pw_below_drewN | apply below_drew1 | refine below_set ?_ GE259.out) | exact HB.out)) hb); clear HO257; clear HO274; clear BK259; clear HB; have HO257 := n0_; have HO274 := n1_; have BK259 := n2_; have HB := n3_; clear n0_ n1_ n2_ n3_; (try clear hb); (try clear hb2); (try clear hk); (try clear hi); have hcz46_0 : w45.cell? ⟨gb259, 0, none⟩ = some (.slice Ao40 t272.length co40) := (blk_cell BK259.out 0).trans rfl; have hfz46_0 := blk_frozen BK259.out 0) | (go_at_call 24; (with_reducible refine (ledger_Balance.calls _ _ t272 (⟨#[119, 97, 103, 101, 115]⟩ : ByteArray) 10 20 t278 _ ?side1 ?side2 A13.out).mono ?_); (case side1 => repeat (first | exact (Kd.R_reads' HO274.out).2.2 | (with_reducible refine Kd.C_alloc ?_ _) | (with_reducible refine Kd.C_drewN ?_ _) | (with_reducible refine Kd.C_drew ?_))); (case side2 => exact (Kd.R_reads' HO274.out).2.1); rintro e w47 ⟨rfl, hb⟩; have n0_ := Aside0.mk (Kd.R_below (by (with_reducible repeat (first | apply Kd.R_alloc | apply Kd.R_drewN | apply Kd.R_drew)); exact HO257.out) hb); have n1_ := Aside0.mk (Kd.R_below (by (with_reducible repeat (first | apply Kd.R_alloc | apply Kd.R_drewN | apply Kd.R_drew)); exact HO274.out) hb); have n2_ := Aside0.mk (blk_below (g := gb259) (o := .cells #[.slice Ao40 t272.length co40] 24 (0, 0)) (by (with_reducible repeat (first | refine blk_drewN ?_ _ | refine blk_drew ?_ | refine blk_alloc ?_ _)); exact BK259.out) hb); have n3_ := Aside0.mk (below_step (by repeat (first | (with_reducible first | exact HB.out | apply below_alloc | apply pw_below_drewN | apply below_drew1 | refine below_set ?_ GE259.out) | exact HB.out)) hb); clear HO257; clear HO274; clear BK259; clear HB; have HO257 := n0_; have HO274 := n1_; have BK259 := n2_; have HB := n3_; clear n0_ n1_ n2_ n3_; (try clear hb); (try clear hb2); (try clear hk); (try clear hi); have hcz48_0 : w47.cell? ⟨gb259, 0, none⟩ = some (.slice Ao40 t272.length co40) := (blk_cell BK259.out 0).trans rfl; have hfz48_0 := blk_frozen BK259.out 0) | (go_at_call 24; (with_reducible refine (ledger_Balance.calls _ _ t272 (⟨#[119, 97, 103, 101, 115]⟩ : ByteArray) 9 20 t279 _ ?side1 ?side2 A15.out).mono ?_); (case side1 => repeat (first | exact (Kd.R_reads' HO274.out).2.2 | (with_reducible refine Kd.C_alloc ?_ _) | (with_reducible refine Kd.C_drewN ?_ _) | (with_reducible refine Kd.C_drew ?_))); (case side2 => exact (Kd.R_reads' HO274.out).2.1); rintro e w49 ⟨rfl, hb⟩; have n0_ := Aside0.mk (Kd.R_below (by (with_reducible repeat (first | apply Kd.R_alloc | apply Kd.R_drewN | apply Kd.R_drew)); exact HO257.out) hb); have n1_ := Aside0.mk (Kd.R_below (by (with_reducible repeat (first | apply Kd.R_alloc | apply Kd.R_drewN | apply Kd.R_drew)); exact HO274.out) hb); have n2_ := Aside0.mk (blk_below (g := gb259) (o := .cells #[.slice Ao40 t272.length co40] 24 (0, 0)) (by (with_reducible repeat (first | refine blk_drewN ?_ _ | refine blk_drew ?_ | refine blk_alloc ?_ _)); exact BK259.out) hb); have n3_ := Aside0.mk (below_step (by repeat (first | (with_reducible first | exact HB.out | apply below_alloc | apply pw_below_drewN | apply below_drew1 | refine below_set ?_ GE259.out) | exact HB.out)) hb); clear HO257; clear HO274; clear BK259; clear HB; have HO257 := n0_; have HO274 := n1_; have BK259 := n2_; have HB := n3_; clear n0_ n1_ n2_ n3_; (try clear hb); (try clear hb2); (try clear hk); (try clear hi)))
                        have n0_ := Aside0.mk (Kd.R_drew HO257.out)
                        have n1_ := Aside0.mk (Kd.R_drew HO274.out)
                        have n2_ := Aside0.mk (blk_drew BK259.out)
                        have n3_ := Aside0.mk (below_drew1 HB.out)
                        clear HO257
                        clear HO274
                        clear BK259
                        clear HB
                        have HO257 := n0_
                        have HO274 := n1_
                        have BK259 := n2_
                        have HB := n3_
                        clear n0_ n1_ n2_ n3_
                        refine start_ (n := 9) (S := fun w' => w'.cell? ⟨gb259, 0, none⟩ = some (.slice Ao40 t272.length co40)) (ds := []) #[false, false, false, false, false, false, false, false, false] (by kernel_rfl) rfl rfl ((blk_cell BK259.out 0).trans rfl) (fun hHeld => ?_); refine with_tabW wageofficelaw39_head.tab4 wageofficelaw39_head.bits4 (fun HT_ HW_ => ?_)
                        generalize w49.drew = w50 at HO257 HO274 BK259 HB hHeld ⊢
                        refine take_ (i := 0) (N := some 56) (v := ?_) (a' := ?_) #[true, false, false, false, false, false, false, false, false] rfl rfl (take_ofW HT_.out HW_.out (by kernel_rfl)) (fun _ _ _ h => h) (Or.inl ⟨by rfl, ?_⟩) hHeld ?_ ?_
                        rotate_left
                        · intro w' s0
                          go_simp
                          with_reducible rfl
                        rotate_left
                        · simp only [Act.put, List.setIfInBounds_toArray, List.set_cons_zero, List.set_cons_succ, i64_w, i32_w]
                          rfl
                        refine join_ (σ := Value × Nat) 2 #[true, true, true, true, true, true, true, false, false] (fun s_ => [(57, .agg #[.int .i64 t280, .string t281, .string t282, .int .i64 t283, .int .i64 t284, .int .i64 t285]), (58, .tuple #[.agg #[s_.1], .int .i64 t289]), (5, .pointer (some ⟨s_.2, 0, none⟩)), (55, .tuple #[.agg #[s_.1], .int .i64 t289]), (59, .agg #[s_.1]), (60, .int .i64 t289)]) (fun s_ w' => (w'.cell? ⟨gb259, 0, none⟩ = some (.slice Ao40 t272.length co40)) ∧ (Kd.R k26 26 w' w.heap.size (fun k_ => some k_ ≠ (.slice Ao40 t272.length co40 : Value).ownBlock ∧ some k_ ≠ (s_.1 : Value).ownBlock) (.slice Ao33 t255.length co33) t255) ∧ (Kd.R k26 26 w' w.heap.size (fun k_ => some k_ ≠ (.slice Ao33 t255.length co33 : Value).ownBlock ∧ some k_ ≠ (s_.1 : Value).ownBlock) (.slice Ao40 t272.length co40) t272) ∧ (Kd.R k26 26 w' w.heap.size (fun k_ => some k_ ≠ (.slice Ao33 t255.length co33 : Value).ownBlock ∧ some k_ ≠ (.slice Ao40 t272.length co40 : Value).ownBlock) s_.1 t286) ∧ (w'.heap[gb259]? = some (.cells #[.slice Ao40 t272.length co40] 24 (0, 0))) ∧ (w'.heap[s_.2]? = some (.cells #[.slice none 0 0] 24 (0, 0))) ∧ (w.heap.size ≤ s_.2) ∧ (w.heap.size ≤ s_.2) ∧ (gb259 ≠ s_.2) ∧ (s_.2 ≠ gb259) ∧ (Below w.heap.size w w')) ?_ ?_
                        rotate_left
                        · intro hCont
                          refine two_ (i := 1) (j := 6) (Ni := some 57) (Nj := some 5) #[true, true, false, false, false, false, false, false, false] #[true, false, false, false, false, false, true, false, false] rfl rfl rfl rfl (two_of HT_.out (by kernel_rfl)) (by decide) (by decide) (fun K hK => ?_) (fun K hK => ?_)
                          · skip
                            refine goes_ Try.func46 (by kernel_rfl) rfl #[.int .i64 1, .int .i64 100, .int .i64 25] (by rfl) rfl rfl (by (try simp only [List.map_toArray, List.map_cons, List.map_nil]); first | done | rfl | (simp only [List.length_drop, List.length_take]; rfl)) ?_
                            with_reducible refine (wageofficelaw39_entry.calls 1 100 25 t280 t281 t282 t283 t284 t285 _ A16.out).mono ?_
                            rintro e w51 ⟨rfl, hb⟩
                            refine ⟨_, rfl, ?_⟩
                            have n0_ := Aside0.mk (Kd.R_below (by (with_reducible repeat (first | apply Kd.R_alloc | apply Kd.R_drewN | apply Kd.R_drew)); exact HO257.out) hb)
                            have n1_ := Aside0.mk (Kd.R_below (by (with_reducible repeat (first | apply Kd.R_alloc | apply Kd.R_drewN | apply Kd.R_drew)); exact HO274.out) hb)
                            have n2_ := Aside0.mk (blk_below (g := gb259) (o := .cells #[.slice Ao40 t272.length co40] 24 (0, 0)) (by (with_reducible repeat (first | refine blk_drewN ?_ _ | refine blk_drew ?_ | refine blk_alloc ?_ _)); exact BK259.out) hb)
                            have n3_ := Aside0.mk (below_step (by repeat (first | (with_reducible first | exact HB.out | apply below_alloc | apply pw_below_drewN | apply below_drew1 | refine below_set ?_ GE259.out) | exact HB.out)) hb)
                            clear HO257
                            clear HO274
                            clear BK259
                            clear HB
                            have HO257 := n0_
                            have HO274 := n1_
                            have BK259 := n2_
                            have HB := n3_
                            clear n0_ n1_ n2_ n3_
                            (try clear hb)
                            (try clear hb2)
                            (try clear hk)
                            (try clear hi)
                            refine hK.out _ _ ((blk_cell BK259.out 0).trans rfl) (fun hHeld => ?_)
                            clear hK K
                            refine norm_ (a' := ?_) ?_ ?_
                            rotate_left
                            · show Act.put _ (some 57) _ = _
                              simp only [Act.put, List.setIfInBounds_toArray, List.set_cons_zero, List.set_cons_succ, i64_w, i32_w]
                              rfl
                            refine two_ (i := 2) (j := 6) (Ni := some 58) (Nj := some 5) #[true, true, true, false, false, false, false, false, false] #[true, true, false, false, false, false, true, false, false] rfl rfl rfl rfl (two_of HT_.out (by kernel_rfl)) (by decide) (by decide) (fun K hK => ?_) (fun K hK => ?_)
                            · skip
                              refine goes_ Try.func19 (by kernel_rfl) rfl #[.agg #[.slice Ao40 t272.length co40], .agg #[.int .i64 t280, .string t281, .string t282, .int .i64 t283, .int .i64 t284, .int .i64 t285]] (by rfl) rfl rfl (by (try simp only [List.map_toArray, List.map_cons, List.map_nil]); first | done | rfl | (simp only [List.length_drop, List.length_take]; rfl)) ?_
                              with_reducible refine (ledger_Post.calls _ _ t272 t280 t281 t282 t283 t284 t285 t286 t289 _ ?side1 ?side2 A17.out).mono ?_
                              (case side1 => repeat (first | exact (Kd.R_reads' HO274.out).2.2 | (with_reducible refine Kd.C_alloc ?_ _) | (with_reducible refine Kd.C_drewN ?_ _) | (with_reducible refine Kd.C_drew ?_)))
                              (case side2 => exact (Kd.R_reads' HO274.out).2.1)
                              rintro e w52 ⟨v287, rfl, ho0, hb⟩
                              refine ⟨_, rfl, ?_⟩
                              have n0_ := Aside0.mk (Kd.R_elder' (by (with_reducible repeat (first | apply Kd.R_alloc | apply Kd.R_drewN | apply Kd.R_drew)); exact HO257.out) (Kd.R_base ho0) hb)
                              have n1_ := Aside0.mk (Kd.R_elder' (by (with_reducible repeat (first | apply Kd.R_alloc | apply Kd.R_drewN | apply Kd.R_drew)); exact HO274.out) (Kd.R_base ho0) hb)
                              have n2_ := Aside0.mk (Kd.R_lower (Kd.R_new' (Kd.R_new' ho0 (Kd.R_lt (by (with_reducible repeat (first | apply Kd.R_alloc | apply Kd.R_drewN | apply Kd.R_drew)); exact HO257.out))) (Kd.R_lt (by (with_reducible repeat (first | apply Kd.R_alloc | apply Kd.R_drewN | apply Kd.R_drew)); exact HO274.out))) (below_size (by repeat (first | (with_reducible first | exact HB.out | apply below_alloc | apply pw_below_drewN | apply below_drew1 | refine below_set ?_ GE259.out) | exact HB.out))))
                              have n3_ := Aside0.mk (blk_below (g := gb259) (o := .cells #[.slice Ao40 t272.length co40] 24 (0, 0)) (by (with_reducible repeat (first | refine blk_drewN ?_ _ | refine blk_drew ?_ | refine blk_alloc ?_ _)); exact BK259.out) hb)
                              have n4_ := Aside0.mk (below_step (by repeat (first | (with_reducible first | exact HB.out | apply below_alloc | apply pw_below_drewN | apply below_drew1 | refine below_set ?_ GE259.out) | exact HB.out)) hb)
                              clear HO257
                              clear HO274
                              clear BK259
                              clear HB
                              have HO257 := n0_
                              have HO274 := n1_
                              have HO288 := n2_
                              have BK259 := n3_
                              have HB := n4_
                              clear n0_ n1_ n2_ n3_ n4_
                              (try clear hb)
                              (try clear hb2)
                              (try clear hk)
                              (try clear hi)
                              (try clear ho0)
                              refine hK.out _ _ ((blk_cell BK259.out 0).trans rfl) (fun hHeld => ?_)
                              clear hK K
                              refine norm_ (a' := ?_) ?_ ?_
                              rotate_left
                              · show Act.put _ (some 58) _ = _
                                simp only [Act.put, List.setIfInBounds_toArray, List.set_cons_zero, List.set_cons_succ, i64_w, i32_w]
                                rfl
                              refine pure_ (i := 3) (N := some 55) (v := ?_) (a' := ?_) #[true, true, true, true, false, false, false, false, false] rfl rfl (any_of HT_.out (by kernel_rfl)) (fun _ _ _ h => h) (Or.inl ⟨by rfl, ?_⟩) ?_ ?_
                              rotate_left
                              · intro w'
                                go_simp
                                with_reducible rfl
                              rotate_left
                              · simp only [Act.put, List.setIfInBounds_toArray, List.set_cons_zero, List.set_cons_succ, i64_w, i32_w]
                                rfl
                              refine pure_ (i := 4) (N := some 59) (v := ?_) (a' := ?_) #[true, true, true, true, true, false, false, false, false] rfl rfl (any_of HT_.out (by kernel_rfl)) (fun _ _ _ h => h) (Or.inl ⟨by rfl, ?_⟩) ?_ ?_
                              rotate_left
                              · intro w'
                                go_simp
                                with_reducible rfl
                              rotate_left
                              · simp only [Act.put, List.setIfInBounds_toArray, List.set_cons_zero, List.set_cons_succ, i64_w, i32_w]
                                rfl
                              refine pure_ (i := 5) (N := some 60) (v := ?_) (a' := ?_) #[true, true, true, true, true, true, false, false, false] rfl rfl (any_of HT_.out (by kernel_rfl)) (fun _ _ _ h => h) (Or.inl ⟨by rfl, ?_⟩) ?_ ?_
                              rotate_left
                              · intro w'
                                go_simp
                                with_reducible rfl
                              rotate_left
                              · simp only [Act.put, List.setIfInBounds_toArray, List.set_cons_zero, List.set_cons_succ, i64_w, i32_w]
                                rfl
                              refine one_ (i := 6) (N := some 5) #[true, true, true, true, true, true, true, false, false] rfl rfl (one_of HT_.out (by kernel_rfl)) (by decide) (fun K hK => ?_)
                              refine box_step ?hg (N := 5) ?hd (cs := #[.slice none 0 0]) (t := 24) ?hr ?_; (case hd => rfl); (case hg => rfl); (case hr => first | (go_simp; done) | (go_simp; rfl))
                              intro gb290 hg w53 hbox hb
                              have n0_ := Aside0.mk (Kd.R_below (by (with_reducible repeat (first | apply Kd.R_alloc | apply Kd.R_drewN | apply Kd.R_drew)); exact HO257.out) hb)
                              have n1_ := Aside0.mk (Kd.R_below (by (with_reducible repeat (first | apply Kd.R_alloc | apply Kd.R_drewN | apply Kd.R_drew)); exact HO274.out) hb)
                              have n2_ := Aside0.mk (Kd.R_below (by (with_reducible repeat (first | apply Kd.R_alloc | apply Kd.R_drewN | apply Kd.R_drew)); exact HO288.out) hb)
                              have n3_ := Aside0.mk (blk_below (g := gb259) (o := .cells #[.slice Ao40 t272.length co40] 24 (0, 0)) (by (with_reducible repeat (first | refine blk_drewN ?_ _ | refine blk_drew ?_ | refine blk_alloc ?_ _)); exact BK259.out) hb)
                              have n4_ := Aside0.mk (below_step (by repeat (first | (with_reducible first | exact HB.out | apply below_alloc | apply pw_below_drewN | apply below_drew1 | refine below_set ?_ GE259.out) | exact HB.out)) hb)
                              have n5_ := Aside0.mk (hbox)
                              have n6_ := Aside0.mk ((by rw [hg]; exact (below_size (by repeat (first | (with_reducible first | exact HB.out | apply below_alloc | apply pw_below_drewN | apply below_drew1 | refine below_set ?_ GE259.out) | exact HB.out))) : w.heap.size ≤ gb290))
                              have n7_ := Aside0.mk ((by rw [hg]; exact (below_size (by repeat (first | (with_reducible first | exact HB.out | apply below_alloc | apply pw_below_drewN | apply below_drew1 | refine below_set ?_ GE259.out) | exact HB.out))) : w.heap.size ≤ gb290))
                              have n8_ := Aside0.mk ((by rw [hg]; exact Nat.ne_of_lt (blk_lt (g := gb259) (o := .cells #[.slice Ao40 t272.length co40] 24 (0, 0)) (by (with_reducible repeat (first | refine blk_drewN ?_ _ | refine blk_drew ?_ | refine blk_alloc ?_ _)); exact BK259.out)) : gb259 ≠ gb290))
                              have n9_ := Aside0.mk ((by rw [hg]; exact Nat.ne_of_gt (blk_lt (g := gb259) (o := .cells #[.slice Ao40 t272.length co40] 24 (0, 0)) (by (with_reducible repeat (first | refine blk_drewN ?_ _ | refine blk_drew ?_ | refine blk_alloc ?_ _)); exact BK259.out)) : gb290 ≠ gb259))
                              clear HO257
                              clear HO274
                              clear HO288
                              clear BK259
                              clear HB
                              have HO257 := n0_
                              have HO274 := n1_
                              have HO288 := n2_
                              have BK259 := n3_
                              have HB := n4_
                              have BK290 := n5_
                              have GW290 := n6_
                              have GE290 := n7_
                              have NB259_290 := n8_
                              have NB290_259 := n9_
                              clear n0_ n1_ n2_ n3_ n4_ n5_ n6_ n7_ n8_ n9_
                              clear hb hbox hg
                              refine hK.out _ _ ((blk_cell BK259.out 0).trans rfl) (fun hHeld => ?_)
                              clear hK K
                              refine norm_ (a' := ?_) ?_ ?_
                              rotate_left
                              · show Act.put _ (some 5) _ = _
                                simp only [Act.put, List.setIfInBounds_toArray, List.set_cons_zero, List.set_cons_succ, i64_w, i32_w]
                                rfl
                              exact norm_ (by simp only [putAll, Act.put, List.setIfInBounds_toArray, List.set_cons_zero, List.set_cons_succ]) (hCont (v287, gb290) _ ⟨hHeld, (by (with_reducible repeat (first | apply Kd.R_alloc | apply Kd.R_drewN | apply Kd.R_drew)); exact Kd.R_mono HO257.out (fun _ hk => ⟨hk.1.2, hk.2⟩)), (by (with_reducible repeat (first | apply Kd.R_alloc | apply Kd.R_drewN | apply Kd.R_drew)); exact Kd.R_mono HO274.out (fun _ hk => ⟨hk.1.2, hk.2⟩)), (by (with_reducible repeat (first | apply Kd.R_alloc | apply Kd.R_drewN | apply Kd.R_drew)); exact Kd.R_mono HO288.out (fun _ hk => ⟨hk.1.2, hk.2⟩)), (by (with_reducible repeat (first | refine blk_drewN ?_ _ | refine blk_drew ?_ | refine blk_alloc ?_ _)); exact BK259.out), (by (with_reducible repeat (first | refine blk_drewN ?_ _ | refine blk_drew ?_ | refine blk_alloc ?_ _)); exact BK290.out), GW290.out, GE290.out, NB259_290.out, NB290_259.out, (by repeat (first | (with_reducible first | exact HB.out | apply below_alloc | apply pw_below_drewN | apply below_drew1 | refine below_set ?_ GE259.out | refine below_set ?_ GE290.out) | exact HB.out))⟩)
                            · skip
                              refine box_step ?hg (N := 5) ?hd (cs := #[.slice none 0 0]) (t := 24) ?hr ?_; (case hd => rfl); (case hg => rfl); (case hr => first | (go_simp; done) | (go_simp; rfl))
                              intro gb290 hg w52 hbox hb
                              have n0_ := Aside0.mk (Kd.R_below (by (with_reducible repeat (first | apply Kd.R_alloc | apply Kd.R_drewN | apply Kd.R_drew)); exact HO257.out) hb)
                              have n1_ := Aside0.mk (Kd.R_below (by (with_reducible repeat (first | apply Kd.R_alloc | apply Kd.R_drewN | apply Kd.R_drew)); exact HO274.out) hb)
                              have n2_ := Aside0.mk (blk_below (g := gb259) (o := .cells #[.slice Ao40 t272.length co40] 24 (0, 0)) (by (with_reducible repeat (first | refine blk_drewN ?_ _ | refine blk_drew ?_ | refine blk_alloc ?_ _)); exact BK259.out) hb)
                              have n3_ := Aside0.mk (below_step (by repeat (first | (with_reducible first | exact HB.out | apply below_alloc | apply pw_below_drewN | apply below_drew1 | refine below_set ?_ GE259.out) | exact HB.out)) hb)
                              have n4_ := Aside0.mk (hbox)
                              have n5_ := Aside0.mk ((by rw [hg]; exact (below_size (by repeat (first | (with_reducible first | exact HB.out | apply below_alloc | apply pw_below_drewN | apply below_drew1 | refine below_set ?_ GE259.out) | exact HB.out))) : w.heap.size ≤ gb290))
                              have n6_ := Aside0.mk ((by rw [hg]; exact (below_size (by repeat (first | (with_reducible first | exact HB.out | apply below_alloc | apply pw_below_drewN | apply below_drew1 | refine below_set ?_ GE259.out) | exact HB.out))) : w.heap.size ≤ gb290))
                              have n7_ := Aside0.mk ((by rw [hg]; exact Nat.ne_of_lt (blk_lt (g := gb259) (o := .cells #[.slice Ao40 t272.length co40] 24 (0, 0)) (by (with_reducible repeat (first | refine blk_drewN ?_ _ | refine blk_drew ?_ | refine blk_alloc ?_ _)); exact BK259.out)) : gb259 ≠ gb290))
                              have n8_ := Aside0.mk ((by rw [hg]; exact Nat.ne_of_gt (blk_lt (g := gb259) (o := .cells #[.slice Ao40 t272.length co40] 24 (0, 0)) (by (with_reducible repeat (first | refine blk_drewN ?_ _ | refine blk_drew ?_ | refine blk_alloc ?_ _)); exact BK259.out)) : gb290 ≠ gb259))
                              clear HO257
                              clear HO274
                              clear BK259
                              clear HB
                              have HO257 := n0_
                              have HO274 := n1_
                              have BK259 := n2_
                              have HB := n3_
                              have BK290 := n4_
                              have GW290 := n5_
                              have GE290 := n6_
                              have NB259_290 := n7_
                              have NB290_259 := n8_
                              clear n0_ n1_ n2_ n3_ n4_ n5_ n6_ n7_ n8_
                              clear hb hbox hg
                              refine hK.out _ _ ((blk_cell BK259.out 0).trans rfl) (fun hHeld => ?_)
                              clear hK K
                              refine norm_ (a' := ?_) ?_ ?_
                              rotate_left
                              · show Act.put _ (some 5) _ = _
                                simp only [Act.put, List.setIfInBounds_toArray, List.set_cons_zero, List.set_cons_succ, i64_w, i32_w]
                                rfl
                              refine one_ (i := 2) (N := some 58) #[true, true, true, false, false, false, true, false, false] rfl rfl (one_of HT_.out (by kernel_rfl)) (by decide) (fun K hK => ?_)
                              refine goes_ Try.func19 (by kernel_rfl) rfl #[.agg #[.slice Ao40 t272.length co40], .agg #[.int .i64 t280, .string t281, .string t282, .int .i64 t283, .int .i64 t284, .int .i64 t285]] (by rfl) rfl rfl (by (try simp only [List.map_toArray, List.map_cons, List.map_nil]); first | done | rfl | (simp only [List.length_drop, List.length_take]; rfl)) ?_
                              with_reducible refine (ledger_Post.calls _ _ t272 t280 t281 t282 t283 t284 t285 t286 t289 _ ?side1 ?side2 A17.out).mono ?_
                              (case side1 => repeat (first | exact (Kd.R_reads' HO274.out).2.2 | (with_reducible refine Kd.C_alloc ?_ _) | (with_reducible refine Kd.C_drewN ?_ _) | (with_reducible refine Kd.C_drew ?_)))
                              (case side2 => exact (Kd.R_reads' HO274.out).2.1)
                              rintro e w53 ⟨v287, rfl, ho0, hb⟩
                              refine ⟨_, rfl, ?_⟩
                              have n0_ := Aside0.mk (Kd.R_elder' (by (with_reducible repeat (first | apply Kd.R_alloc | apply Kd.R_drewN | apply Kd.R_drew)); exact HO257.out) (Kd.R_base ho0) hb)
                              have n1_ := Aside0.mk (Kd.R_elder' (by (with_reducible repeat (first | apply Kd.R_alloc | apply Kd.R_drewN | apply Kd.R_drew)); exact HO274.out) (Kd.R_base ho0) hb)
                              have n2_ := Aside0.mk (Kd.R_lower (Kd.R_new' (Kd.R_new' ho0 (Kd.R_lt (by (with_reducible repeat (first | apply Kd.R_alloc | apply Kd.R_drewN | apply Kd.R_drew)); exact HO257.out))) (Kd.R_lt (by (with_reducible repeat (first | apply Kd.R_alloc | apply Kd.R_drewN | apply Kd.R_drew)); exact HO274.out))) (below_size (by repeat (first | (with_reducible first | exact HB.out | apply below_alloc | apply pw_below_drewN | apply below_drew1 | refine below_set ?_ GE259.out | refine below_set ?_ GE290.out) | exact HB.out))))
                              have n3_ := Aside0.mk (blk_below (g := gb259) (o := .cells #[.slice Ao40 t272.length co40] 24 (0, 0)) (by (with_reducible repeat (first | refine blk_drewN ?_ _ | refine blk_drew ?_ | refine blk_alloc ?_ _)); exact BK259.out) hb)
                              have n4_ := Aside0.mk (blk_below (g := gb290) (o := .cells #[.slice none 0 0] 24 (0, 0)) (by (with_reducible repeat (first | refine blk_drewN ?_ _ | refine blk_drew ?_ | refine blk_alloc ?_ _)); exact BK290.out) hb)
                              have n5_ := Aside0.mk (below_step (by repeat (first | (with_reducible first | exact HB.out | apply below_alloc | apply pw_below_drewN | apply below_drew1 | refine below_set ?_ GE259.out | refine below_set ?_ GE290.out) | exact HB.out)) hb)
                              clear HO257
                              clear HO274
                              clear BK259
                              clear BK290
                              clear HB
                              have HO257 := n0_
                              have HO274 := n1_
                              have HO288 := n2_
                              have BK259 := n3_
                              have BK290 := n4_
                              have HB := n5_
                              clear n0_ n1_ n2_ n3_ n4_ n5_
                              (try clear hb)
                              (try clear hb2)
                              (try clear hk)
                              (try clear hi)
                              (try clear ho0)
                              refine hK.out _ _ ((blk_cell BK259.out 0).trans rfl) (fun hHeld => ?_)
                              clear hK K
                              refine norm_ (a' := ?_) ?_ ?_
                              rotate_left
                              · show Act.put _ (some 58) _ = _
                                simp only [Act.put, List.setIfInBounds_toArray, List.set_cons_zero, List.set_cons_succ, i64_w, i32_w]
                                rfl
                              refine pure_ (i := 3) (N := some 55) (v := ?_) (a' := ?_) #[true, true, true, true, false, false, true, false, false] rfl rfl (any_of HT_.out (by kernel_rfl)) (fun _ _ _ h => h) (Or.inl ⟨by rfl, ?_⟩) ?_ ?_
                              rotate_left
                              · intro w'
                                go_simp
                                with_reducible rfl
                              rotate_left
                              · simp only [Act.put, List.setIfInBounds_toArray, List.set_cons_zero, List.set_cons_succ, i64_w, i32_w]
                                rfl
                              refine pure_ (i := 4) (N := some 59) (v := ?_) (a' := ?_) #[true, true, true, true, true, false, true, false, false] rfl rfl (any_of HT_.out (by kernel_rfl)) (fun _ _ _ h => h) (Or.inl ⟨by rfl, ?_⟩) ?_ ?_
                              rotate_left
                              · intro w'
                                go_simp
                                with_reducible rfl
                              rotate_left
                              · simp only [Act.put, List.setIfInBounds_toArray, List.set_cons_zero, List.set_cons_succ, i64_w, i32_w]
                                rfl
                              refine pure_ (i := 5) (N := some 60) (v := ?_) (a' := ?_) #[true, true, true, true, true, true, true, false, false] rfl rfl (any_of HT_.out (by kernel_rfl)) (fun _ _ _ h => h) (Or.inl ⟨by rfl, ?_⟩) ?_ ?_
                              rotate_left
                              · intro w'
                                go_simp
                                with_reducible rfl
                              rotate_left
                              · simp only [Act.put, List.setIfInBounds_toArray, List.set_cons_zero, List.set_cons_succ, i64_w, i32_w]
                                rfl
                              exact norm_ (by simp only [putAll, Act.put, List.setIfInBounds_toArray, List.set_cons_zero, List.set_cons_succ]) (hCont (v287, gb290) _ ⟨hHeld, (by (with_reducible repeat (first | apply Kd.R_alloc | apply Kd.R_drewN | apply Kd.R_drew)); exact Kd.R_mono HO257.out (fun _ hk => ⟨hk.1.2, hk.2⟩)), (by (with_reducible repeat (first | apply Kd.R_alloc | apply Kd.R_drewN | apply Kd.R_drew)); exact Kd.R_mono HO274.out (fun _ hk => ⟨hk.1.2, hk.2⟩)), (by (with_reducible repeat (first | apply Kd.R_alloc | apply Kd.R_drewN | apply Kd.R_drew)); exact Kd.R_mono HO288.out (fun _ hk => ⟨hk.1.2, hk.2⟩)), (by (with_reducible repeat (first | refine blk_drewN ?_ _ | refine blk_drew ?_ | refine blk_alloc ?_ _)); exact BK259.out), (by (with_reducible repeat (first | refine blk_drewN ?_ _ | refine blk_drew ?_ | refine blk_alloc ?_ _)); exact BK290.out), GW290.out, GE290.out, NB259_290.out, NB290_259.out, (by repeat (first | (with_reducible first | exact HB.out | apply below_alloc | apply pw_below_drewN | apply below_drew1 | refine below_set ?_ GE259.out | refine below_set ?_ GE290.out) | exact HB.out))⟩)
                          · skip
                            refine box_step ?hg (N := 5) ?hd (cs := #[.slice none 0 0]) (t := 24) ?hr ?_; (case hd => rfl); (case hg => rfl); (case hr => first | (go_simp; done) | (go_simp; rfl))
                            intro gb290 hg w51 hbox hb
                            have n0_ := Aside0.mk (Kd.R_below (by (with_reducible repeat (first | apply Kd.R_alloc | apply Kd.R_drewN | apply Kd.R_drew)); exact HO257.out) hb)
                            have n1_ := Aside0.mk (Kd.R_below (by (with_reducible repeat (first | apply Kd.R_alloc | apply Kd.R_drewN | apply Kd.R_drew)); exact HO274.out) hb)
                            have n2_ := Aside0.mk (blk_below (g := gb259) (o := .cells #[.slice Ao40 t272.length co40] 24 (0, 0)) (by (with_reducible repeat (first | refine blk_drewN ?_ _ | refine blk_drew ?_ | refine blk_alloc ?_ _)); exact BK259.out) hb)
                            have n3_ := Aside0.mk (below_step (by repeat (first | (with_reducible first | exact HB.out | apply below_alloc | apply pw_below_drewN | apply below_drew1 | refine below_set ?_ GE259.out) | exact HB.out)) hb)
                            have n4_ := Aside0.mk (hbox)
                            have n5_ := Aside0.mk ((by rw [hg]; exact (below_size (by repeat (first | (with_reducible first | exact HB.out | apply below_alloc | apply pw_below_drewN | apply below_drew1 | refine below_set ?_ GE259.out) | exact HB.out))) : w.heap.size ≤ gb290))
                            have n6_ := Aside0.mk ((by rw [hg]; exact (below_size (by repeat (first | (with_reducible first | exact HB.out | apply below_alloc | apply pw_below_drewN | apply below_drew1 | refine below_set ?_ GE259.out) | exact HB.out))) : w.heap.size ≤ gb290))
                            have n7_ := Aside0.mk ((by rw [hg]; exact Nat.ne_of_lt (blk_lt (g := gb259) (o := .cells #[.slice Ao40 t272.length co40] 24 (0, 0)) (by (with_reducible repeat (first | refine blk_drewN ?_ _ | refine blk_drew ?_ | refine blk_alloc ?_ _)); exact BK259.out)) : gb259 ≠ gb290))
                            have n8_ := Aside0.mk ((by rw [hg]; exact Nat.ne_of_gt (blk_lt (g := gb259) (o := .cells #[.slice Ao40 t272.length co40] 24 (0, 0)) (by (with_reducible repeat (first | refine blk_drewN ?_ _ | refine blk_drew ?_ | refine blk_alloc ?_ _)); exact BK259.out)) : gb290 ≠ gb259))
                            clear HO257
                            clear HO274
                            clear BK259
                            clear HB
                            have HO257 := n0_
                            have HO274 := n1_
                            have BK259 := n2_
                            have HB := n3_
                            have BK290 := n4_
                            have GW290 := n5_
                            have GE290 := n6_
                            have NB259_290 := n7_
                            have NB290_259 := n8_
                            clear n0_ n1_ n2_ n3_ n4_ n5_ n6_ n7_ n8_
                            clear hb hbox hg
                            refine hK.out _ _ ((blk_cell BK259.out 0).trans rfl) (fun hHeld => ?_)
                            clear hK K
                            refine norm_ (a' := ?_) ?_ ?_
                            rotate_left
                            · show Act.put _ (some 5) _ = _
                              simp only [Act.put, List.setIfInBounds_toArray, List.set_cons_zero, List.set_cons_succ, i64_w, i32_w]
                              rfl
                            refine one_ (i := 1) (N := some 57) #[true, true, false, false, false, false, true, false, false] rfl rfl (one_of HT_.out (by kernel_rfl)) (by decide) (fun K hK => ?_)
                            refine goes_ Try.func46 (by kernel_rfl) rfl #[.int .i64 1, .int .i64 100, .int .i64 25] (by rfl) rfl rfl (by (try simp only [List.map_toArray, List.map_cons, List.map_nil]); first | done | rfl | (simp only [List.length_drop, List.length_take]; rfl)) ?_
                            with_reducible refine (wageofficelaw39_entry.calls 1 100 25 t280 t281 t282 t283 t284 t285 _ A16.out).mono ?_
                            rintro e w52 ⟨rfl, hb⟩
                            refine ⟨_, rfl, ?_⟩
                            have n0_ := Aside0.mk (Kd.R_below (by (with_reducible repeat (first | apply Kd.R_alloc | apply Kd.R_drewN | apply Kd.R_drew)); exact HO257.out) hb)
                            have n1_ := Aside0.mk (Kd.R_below (by (with_reducible repeat (first | apply Kd.R_alloc | apply Kd.R_drewN | apply Kd.R_drew)); exact HO274.out) hb)
                            have n2_ := Aside0.mk (blk_below (g := gb259) (o := .cells #[.slice Ao40 t272.length co40] 24 (0, 0)) (by (with_reducible repeat (first | refine blk_drewN ?_ _ | refine blk_drew ?_ | refine blk_alloc ?_ _)); exact BK259.out) hb)
                            have n3_ := Aside0.mk (blk_below (g := gb290) (o := .cells #[.slice none 0 0] 24 (0, 0)) (by (with_reducible repeat (first | refine blk_drewN ?_ _ | refine blk_drew ?_ | refine blk_alloc ?_ _)); exact BK290.out) hb)
                            have n4_ := Aside0.mk (below_step (by repeat (first | (with_reducible first | exact HB.out | apply below_alloc | apply pw_below_drewN | apply below_drew1 | refine below_set ?_ GE259.out | refine below_set ?_ GE290.out) | exact HB.out)) hb)
                            clear HO257
                            clear HO274
                            clear BK259
                            clear BK290
                            clear HB
                            have HO257 := n0_
                            have HO274 := n1_
                            have BK259 := n2_
                            have BK290 := n3_
                            have HB := n4_
                            clear n0_ n1_ n2_ n3_ n4_
                            (try clear hb)
                            (try clear hb2)
                            (try clear hk)
                            (try clear hi)
                            refine hK.out _ _ ((blk_cell BK259.out 0).trans rfl) (fun hHeld => ?_)
                            clear hK K
                            refine norm_ (a' := ?_) ?_ ?_
                            rotate_left
                            · show Act.put _ (some 57) _ = _
                              simp only [Act.put, List.setIfInBounds_toArray, List.set_cons_zero, List.set_cons_succ, i64_w, i32_w]
                              rfl
                            refine one_ (i := 2) (N := some 58) #[true, true, true, false, false, false, true, false, false] rfl rfl (one_of HT_.out (by kernel_rfl)) (by decide) (fun K hK => ?_)
                            refine goes_ Try.func19 (by kernel_rfl) rfl #[.agg #[.slice Ao40 t272.length co40], .agg #[.int .i64 t280, .string t281, .string t282, .int .i64 t283, .int .i64 t284, .int .i64 t285]] (by rfl) rfl rfl (by (try simp only [List.map_toArray, List.map_cons, List.map_nil]); first | done | rfl | (simp only [List.length_drop, List.length_take]; rfl)) ?_
                            with_reducible refine (ledger_Post.calls _ _ t272 t280 t281 t282 t283 t284 t285 t286 t289 _ ?side1 ?side2 A17.out).mono ?_
                            (case side1 => repeat (first | exact (Kd.R_reads' HO274.out).2.2 | (with_reducible refine Kd.C_alloc ?_ _) | (with_reducible refine Kd.C_drewN ?_ _) | (with_reducible refine Kd.C_drew ?_)))
                            (case side2 => exact (Kd.R_reads' HO274.out).2.1)
                            rintro e w53 ⟨v287, rfl, ho0, hb⟩
                            refine ⟨_, rfl, ?_⟩
                            have n0_ := Aside0.mk (Kd.R_elder' (by (with_reducible repeat (first | apply Kd.R_alloc | apply Kd.R_drewN | apply Kd.R_drew)); exact HO257.out) (Kd.R_base ho0) hb)
                            have n1_ := Aside0.mk (Kd.R_elder' (by (with_reducible repeat (first | apply Kd.R_alloc | apply Kd.R_drewN | apply Kd.R_drew)); exact HO274.out) (Kd.R_base ho0) hb)
                            have n2_ := Aside0.mk (Kd.R_lower (Kd.R_new' (Kd.R_new' ho0 (Kd.R_lt (by (with_reducible repeat (first | apply Kd.R_alloc | apply Kd.R_drewN | apply Kd.R_drew)); exact HO257.out))) (Kd.R_lt (by (with_reducible repeat (first | apply Kd.R_alloc | apply Kd.R_drewN | apply Kd.R_drew)); exact HO274.out))) (below_size (by repeat (first | (with_reducible first | exact HB.out | apply below_alloc | apply pw_below_drewN | apply below_drew1 | refine below_set ?_ GE259.out | refine below_set ?_ GE290.out) | exact HB.out))))
                            have n3_ := Aside0.mk (blk_below (g := gb259) (o := .cells #[.slice Ao40 t272.length co40] 24 (0, 0)) (by (with_reducible repeat (first | refine blk_drewN ?_ _ | refine blk_drew ?_ | refine blk_alloc ?_ _)); exact BK259.out) hb)
                            have n4_ := Aside0.mk (blk_below (g := gb290) (o := .cells #[.slice none 0 0] 24 (0, 0)) (by (with_reducible repeat (first | refine blk_drewN ?_ _ | refine blk_drew ?_ | refine blk_alloc ?_ _)); exact BK290.out) hb)
                            have n5_ := Aside0.mk (below_step (by repeat (first | (with_reducible first | exact HB.out | apply below_alloc | apply pw_below_drewN | apply below_drew1 | refine below_set ?_ GE259.out | refine below_set ?_ GE290.out) | exact HB.out)) hb)
                            clear HO257
                            clear HO274
                            clear BK259
                            clear BK290
                            clear HB
                            have HO257 := n0_
                            have HO274 := n1_
                            have HO288 := n2_
                            have BK259 := n3_
                            have BK290 := n4_
                            have HB := n5_
                            clear n0_ n1_ n2_ n3_ n4_ n5_
                            (try clear hb)
                            (try clear hb2)
                            (try clear hk)
                            (try clear hi)
                            (try clear ho0)
                            refine hK.out _ _ ((blk_cell BK259.out 0).trans rfl) (fun hHeld => ?_)
                            clear hK K
                            refine norm_ (a' := ?_) ?_ ?_
                            rotate_left
                            · show Act.put _ (some 58) _ = _
                              simp only [Act.put, List.setIfInBounds_toArray, List.set_cons_zero, List.set_cons_succ, i64_w, i32_w]
                              rfl
                            refine pure_ (i := 3) (N := some 55) (v := ?_) (a' := ?_) #[true, true, true, true, false, false, true, false, false] rfl rfl (any_of HT_.out (by kernel_rfl)) (fun _ _ _ h => h) (Or.inl ⟨by rfl, ?_⟩) ?_ ?_
                            rotate_left
                            · intro w'
                              go_simp
                              with_reducible rfl
                            rotate_left
                            · simp only [Act.put, List.setIfInBounds_toArray, List.set_cons_zero, List.set_cons_succ, i64_w, i32_w]
                              rfl
                            refine pure_ (i := 4) (N := some 59) (v := ?_) (a' := ?_) #[true, true, true, true, true, false, true, false, false] rfl rfl (any_of HT_.out (by kernel_rfl)) (fun _ _ _ h => h) (Or.inl ⟨by rfl, ?_⟩) ?_ ?_
                            rotate_left
                            · intro w'
                              go_simp
                              with_reducible rfl
                            rotate_left
                            · simp only [Act.put, List.setIfInBounds_toArray, List.set_cons_zero, List.set_cons_succ, i64_w, i32_w]
                              rfl
                            refine pure_ (i := 5) (N := some 60) (v := ?_) (a' := ?_) #[true, true, true, true, true, true, true, false, false] rfl rfl (any_of HT_.out (by kernel_rfl)) (fun _ _ _ h => h) (Or.inl ⟨by rfl, ?_⟩) ?_ ?_
                            rotate_left
                            · intro w'
                              go_simp
                              with_reducible rfl
                            rotate_left
                            · simp only [Act.put, List.setIfInBounds_toArray, List.set_cons_zero, List.set_cons_succ, i64_w, i32_w]
                              rfl
                            exact norm_ (by simp only [putAll, Act.put, List.setIfInBounds_toArray, List.set_cons_zero, List.set_cons_succ]) (hCont (v287, gb290) _ ⟨hHeld, (by (with_reducible repeat (first | apply Kd.R_alloc | apply Kd.R_drewN | apply Kd.R_drew)); exact Kd.R_mono HO257.out (fun _ hk => ⟨hk.1.2, hk.2⟩)), (by (with_reducible repeat (first | apply Kd.R_alloc | apply Kd.R_drewN | apply Kd.R_drew)); exact Kd.R_mono HO274.out (fun _ hk => ⟨hk.1.2, hk.2⟩)), (by (with_reducible repeat (first | apply Kd.R_alloc | apply Kd.R_drewN | apply Kd.R_drew)); exact Kd.R_mono HO288.out (fun _ hk => ⟨hk.1.2, hk.2⟩)), (by (with_reducible repeat (first | refine blk_drewN ?_ _ | refine blk_drew ?_ | refine blk_alloc ?_ _)); exact BK259.out), (by (with_reducible repeat (first | refine blk_drewN ?_ _ | refine blk_drew ?_ | refine blk_alloc ?_ _)); exact BK290.out), GW290.out, GE290.out, NB259_290.out, NB290_259.out, (by repeat (first | (with_reducible first | exact HB.out | apply below_alloc | apply pw_below_drewN | apply below_drew1 | refine below_set ?_ GE259.out | refine below_set ?_ GE290.out) | exact HB.out))⟩)
                        rintro ⟨v287, gb290⟩ w54 ⟨hS_, h0_, h1_, h2_, h3_, h4_, h5_, h6_, h7_, h8_, h9_⟩
                        have n0_ : Aside0 (Kd.R k26 26 w54 w.heap.size (fun k_ => some k_ ≠ (.slice Ao40 t272.length co40 : Value).ownBlock ∧ some k_ ≠ (v287 : Value).ownBlock) (.slice Ao33 t255.length co33) t255) := ⟨h0_⟩
                        have n1_ : Aside0 (Kd.R k26 26 w54 w.heap.size (fun k_ => some k_ ≠ (.slice Ao33 t255.length co33 : Value).ownBlock ∧ some k_ ≠ (v287 : Value).ownBlock) (.slice Ao40 t272.length co40) t272) := ⟨h1_⟩
                        have n2_ : Aside0 (Kd.R k26 26 w54 w.heap.size (fun k_ => some k_ ≠ (.slice Ao33 t255.length co33 : Value).ownBlock ∧ some k_ ≠ (.slice Ao40 t272.length co40 : Value).ownBlock) v287 t286) := ⟨h2_⟩
                        have n3_ : Aside0 (w54.heap[gb259]? = some (.cells #[.slice Ao40 t272.length co40] 24 (0, 0))) := ⟨h3_⟩
                        have n4_ : Aside0 (w54.heap[gb290]? = some (.cells #[.slice none 0 0] 24 (0, 0))) := ⟨h4_⟩
                        have n5_ : Aside0 (w.heap.size ≤ gb290) := ⟨h5_⟩
                        have n6_ : Aside0 (w.heap.size ≤ gb290) := ⟨h6_⟩
                        have n7_ : Aside0 (gb259 ≠ gb290) := ⟨h7_⟩
                        have n8_ : Aside0 (gb290 ≠ gb259) := ⟨h8_⟩
                        have n9_ : Aside0 (Below w.heap.size w w54) := ⟨h9_⟩
                        clear HO257
                        clear HO274
                        clear BK259
                        clear HB
                        clear h0_ h1_ h2_ h3_ h4_ h5_ h6_ h7_ h8_ h9_
                        have HO257 := n0_
                        have HO274 := n1_
                        have HO288 := n2_
                        have BK259 := n3_
                        have BK290 := n4_
                        have GW290 := n5_
                        have GE290 := n6_
                        have NB259_290 := n7_
                        have NB290_259 := n8_
                        have HB := n9_
                        clear n0_ n1_ n2_ n3_ n4_ n5_ n6_ n7_ n8_ n9_
                        have hHeld : w54.cell? ⟨gb259, 0, none⟩ = some (.slice Ao40 t272.length co40) := hS_
                        obtain ⟨Ao55, co55, eo55⟩ := Kd.R_slice HO288.out
                        (first | subst eo55 | (injection eo55 with f1_ f2_ f3_; have f4_ := f1_.symm; have f5_ := f3_.symm; clear f1_ f2_ f3_; subst f4_; subst f5_))
                        refine norm_ (a' := ?_) ?_ ?_
                        rotate_left
                        · simp only [putAll, Act.put, List.setIfInBounds_toArray, List.set_cons_zero, List.set_cons_succ]
                          rfl
                        refine one_ (i := 7) (N := none) #[true, true, true, true, true, true, true, true, false] rfl rfl (one_of HT_.out (by kernel_rfl)) (by decide) (fun K hK => ?_)
                        have hs56 : w54.cell? ⟨gb290, 0, none⟩ = some (.slice none 0 0) := (blk_cell BK290.out 0).trans rfl
                        have hfs56 := blk_frozen BK290.out 0
                        have hns56_0 := NB259_290.out
                        have hms56_0 := NB290_259.out
                        refine skip_ (w1 := ?_) (by rfl) rfl ?_ ?_
                        rotate_left
                        · go_simp
                          rfl
                        refine hK.out _ _ (((cell_far (p := ⟨gb290, _, none⟩) NB259_290.out _).trans (hHeld))) (fun hHeld => ?_)
                        clear hK K
                        refine pure_ (i := 8) (N := some 6) (v := ?_) (a' := ?_) #[true, true, true, true, true, true, true, true, true] rfl rfl (any_of HT_.out (by kernel_rfl)) (fun _ _ _ h => h) (Or.inl ⟨by rfl, ?_⟩) ?_ ?_
                        rotate_left
                        · intro w'
                          go_simp
                          with_reducible rfl
                        rotate_left
                        · simp only [Act.put, List.setIfInBounds_toArray, List.set_cons_zero, List.set_cons_succ, i64_w, i32_w]
                          rfl
                        refine done_ (done_of HT_.out (by kernel_rfl)) ?_
                        try go_wp2
                        have n0_ : Aside0 (Kd.R k26 26 (w54.setCell ⟨gb290, 0, none⟩ (.slice Ao55 t286.length co55)) w.heap.size (fun k_ => some k_ ≠ (.slice Ao40 t272.length co40 : Value).ownBlock ∧ some k_ ≠ (.slice Ao55 t286.length co55 : Value).ownBlock) (.slice Ao33 t255.length co33) t255) := ⟨by (with_reducible repeat (first | apply Kd.R_alloc | apply Kd.R_drewN | apply Kd.R_drew)); exact Kd.R_mono (Kd.R_far (p := ⟨gb290, 0, none⟩) (Kd.R_types HO257.out BK290.out (by decide)) (fun _ hk => hk.2) (.slice Ao55 t286.length co55)) (fun _ hk => ⟨hk.1.1, hk.1.2⟩)⟩
                        have n1_ : Aside0 (Kd.R k26 26 (w54.setCell ⟨gb290, 0, none⟩ (.slice Ao55 t286.length co55)) w.heap.size (fun k_ => some k_ ≠ (.slice Ao33 t255.length co33 : Value).ownBlock ∧ some k_ ≠ (.slice Ao55 t286.length co55 : Value).ownBlock) (.slice Ao40 t272.length co40) t272) := ⟨by (with_reducible repeat (first | apply Kd.R_alloc | apply Kd.R_drewN | apply Kd.R_drew)); exact Kd.R_mono (Kd.R_far (p := ⟨gb290, 0, none⟩) (Kd.R_types HO274.out BK290.out (by decide)) (fun _ hk => hk.2) (.slice Ao55 t286.length co55)) (fun _ hk => ⟨hk.1.1, hk.1.2⟩)⟩
                        have n2_ : Aside0 (Kd.R k26 26 (w54.setCell ⟨gb290, 0, none⟩ (.slice Ao55 t286.length co55)) w.heap.size (fun k_ => some k_ ≠ (.slice Ao33 t255.length co33 : Value).ownBlock ∧ some k_ ≠ (.slice Ao40 t272.length co40 : Value).ownBlock) (.slice Ao55 t286.length co55) t286) := ⟨by (with_reducible repeat (first | apply Kd.R_alloc | apply Kd.R_drewN | apply Kd.R_drew)); exact Kd.R_mono (Kd.R_far (p := ⟨gb290, 0, none⟩) (Kd.R_types HO288.out BK290.out (by decide)) (fun _ hk => hk.2) (.slice Ao55 t286.length co55)) (fun _ hk => ⟨hk.1.1, hk.1.2⟩)⟩
                        have n3_ : Aside0 ((w54.setCell ⟨gb290, 0, none⟩ (.slice Ao55 t286.length co55)).heap[gb259]? = some (.cells #[.slice Ao40 t272.length co40] 24 (0, 0))) := ⟨by (with_reducible repeat (first | refine blk_drewN ?_ _ | refine blk_drew ?_ | refine blk_alloc ?_ _)); refine blk_far ?_ NB259_290.out _; (with_reducible repeat (first | refine blk_drewN ?_ _ | refine blk_drew ?_ | refine blk_alloc ?_ _)); exact BK259.out⟩
                        have n4_ : Aside0 ((w54.setCell ⟨gb290, 0, none⟩ (.slice Ao55 t286.length co55)).heap[gb290]? = some (.cells #[.slice Ao55 t286.length co55] 24 (0, 0))) := ⟨by (with_reducible repeat (first | refine blk_drewN ?_ _ | refine blk_drew ?_ | refine blk_alloc ?_ _)); refine blk_put (cs := #[.slice none 0 0]) ?_ 0 _ rfl; (with_reducible repeat (first | refine blk_drewN ?_ _ | refine blk_drew ?_ | refine blk_alloc ?_ _)); exact BK290.out⟩
                        have n5_ : Aside0 (Below w.heap.size w (w54.setCell ⟨gb290, 0, none⟩ (.slice Ao55 t286.length co55))) := ⟨by repeat (first | (with_reducible first | exact HB.out | apply below_alloc | apply pw_below_drewN | apply below_drew1 | refine below_set ?_ GE259.out | refine below_set ?_ GE290.out) | exact HB.out)⟩
                        (try clear HO257)
                        (try clear HO274)
                        (try clear HO288)
                        (try clear BK259)
                        (try clear BK290)
                        (try clear HB)
                        generalize (w54.setCell ⟨gb290, 0, none⟩ (.slice Ao55 t286.length co55)) = w57 at n0_ n1_ n2_ n3_ n4_ n5_ ⊢
                        have HO257 := n0_
                        have HO274 := n1_
                        have HO288 := n2_
                        have BK259 := n3_
                        have BK290 := n4_
                        have HB := n5_
                        clear n0_ n1_ n2_ n3_ n4_ n5_
                        have n0_ := Aside0.mk (Kd.R_drew HO257.out)
                        have n1_ := Aside0.mk (Kd.R_drew HO274.out)
                        have n2_ := Aside0.mk (Kd.R_drew HO288.out)
                        have n3_ := Aside0.mk (blk_drew BK259.out)
                        have n4_ := Aside0.mk (blk_drew BK290.out)
                        have n5_ := Aside0.mk (below_drew1 HB.out)
                        clear HO257
                        clear HO274
                        clear HO288
                        clear BK259
                        clear BK290
                        clear HB
                        have HO257 := n0_
                        have HO274 := n1_
                        have HO288 := n2_
                        have BK259 := n3_
                        have BK290 := n4_
                        have HB := n5_
                        clear n0_ n1_ n2_ n3_ n4_ n5_
                        refine start_ (n := 9) (S := fun w' => w'.cell? ⟨gb259, 0, none⟩ = some (.slice Ao40 t272.length co40)) (ds := []) #[false, false, false, false, false, false, false, false, false] (by kernel_rfl) rfl rfl ((blk_cell BK259.out 0).trans rfl) (fun hHeld => ?_); refine with_tabW wageofficelaw39_head.tab5 wageofficelaw39_head.bits5 (fun HT_ HW_ => ?_)
                        generalize w57.drew = w58 at HO257 HO274 HO288 BK259 BK290 HB hHeld ⊢
                        refine take_ (i := 0) (N := some 62) (v := ?_) (a' := ?_) #[true, false, false, false, false, false, false, false, false] rfl rfl (take_ofW HT_.out HW_.out (by kernel_rfl)) (fun _ _ _ h => h) (Or.inl ⟨by rfl, ?_⟩) hHeld ?_ ?_
                        rotate_left
                        · intro w' s0
                          go_simp
                          with_reducible rfl
                        rotate_left
                        · simp only [Act.put, List.setIfInBounds_toArray, List.set_cons_zero, List.set_cons_succ, i64_w, i32_w]
                          rfl
                        refine join_ (σ := Value × Nat) 2 #[true, true, true, true, true, true, true, false, false] (fun s_ => [(63, .agg #[.int .i64 t291, .string t292, .string t293, .int .i64 t294, .int .i64 t295, .int .i64 t296]), (64, .tuple #[.agg #[s_.1], .int .i64 t300]), (7, .pointer (some ⟨s_.2, 0, none⟩)), (61, .tuple #[.agg #[s_.1], .int .i64 t300]), (65, .agg #[s_.1]), (66, .int .i64 t300)]) (fun s_ w' => (w'.cell? ⟨gb259, 0, none⟩ = some (.slice Ao40 t272.length co40)) ∧ (Kd.R k26 26 w' w.heap.size (fun k_ => some k_ ≠ (.slice Ao40 t272.length co40 : Value).ownBlock ∧ some k_ ≠ (.slice Ao55 t286.length co55 : Value).ownBlock ∧ some k_ ≠ (s_.1 : Value).ownBlock) (.slice Ao33 t255.length co33) t255) ∧ (Kd.R k26 26 w' w.heap.size (fun k_ => some k_ ≠ (.slice Ao33 t255.length co33 : Value).ownBlock ∧ some k_ ≠ (.slice Ao55 t286.length co55 : Value).ownBlock ∧ some k_ ≠ (s_.1 : Value).ownBlock) (.slice Ao40 t272.length co40) t272) ∧ (Kd.R k26 26 w' w.heap.size (fun k_ => some k_ ≠ (.slice Ao33 t255.length co33 : Value).ownBlock ∧ some k_ ≠ (.slice Ao40 t272.length co40 : Value).ownBlock ∧ some k_ ≠ (s_.1 : Value).ownBlock) (.slice Ao55 t286.length co55) t286) ∧ (Kd.R k26 26 w' w.heap.size (fun k_ => some k_ ≠ (.slice Ao33 t255.length co33 : Value).ownBlock ∧ some k_ ≠ (.slice Ao40 t272.length co40 : Value).ownBlock ∧ some k_ ≠ (.slice Ao55 t286.length co55 : Value).ownBlock) s_.1 t297) ∧ (w'.heap[gb259]? = some (.cells #[.slice Ao40 t272.length co40] 24 (0, 0))) ∧ (w'.heap[gb290]? = some (.cells #[.slice Ao55 t286.length co55] 24 (0, 0))) ∧ (w'.heap[s_.2]? = some (.cells #[.slice none 0 0] 24 (0, 0))) ∧ (w.heap.size ≤ s_.2) ∧ (w.heap.size ≤ s_.2) ∧ (gb259 ≠ s_.2) ∧ (s_.2 ≠ gb259) ∧ (gb290 ≠ s_.2) ∧ (s_.2 ≠ gb290) ∧ (Below w.heap.size w w')) ?_ ?_
                        rotate_left
                        · intro hCont
                          refine two_ (i := 1) (j := 6) (Ni := some 63) (Nj := some 7) #[true, true, false, false, false, false, false, false, false] #[true, false, false, false, false, false, true, false, false] rfl rfl rfl rfl (two_of HT_.out (by kernel_rfl)) (by decide) (by decide) (fun K hK => ?_) (fun K hK => ?_)
                          · skip
                            refine goes_ Try.func46 (by kernel_rfl) rfl #[.int .i64 1, .int .i64 90, .int .i64 25] (by rfl) rfl rfl (by (try simp only [List.map_toArray, List.map_cons, List.map_nil]); first | done | rfl | (simp only [List.length_drop, List.length_take]; rfl)) ?_
                            with_reducible refine (wageofficelaw39_entry.calls 1 90 25 t291 t292 t293 t294 t295 t296 _ A18.out).mono ?_
                            rintro e w59 ⟨rfl, hb⟩
                            refine ⟨_, rfl, ?_⟩
                            have n0_ := Aside0.mk (Kd.R_below (by (with_reducible repeat (first | apply Kd.R_alloc | apply Kd.R_drewN | apply Kd.R_drew)); exact HO257.out) hb)
                            have n1_ := Aside0.mk (Kd.R_below (by (with_reducible repeat (first | apply Kd.R_alloc | apply Kd.R_drewN | apply Kd.R_drew)); exact HO274.out) hb)
                            have n2_ := Aside0.mk (Kd.R_below (by (with_reducible repeat (first | apply Kd.R_alloc | apply Kd.R_drewN | apply Kd.R_drew)); exact HO288.out) hb)
                            have n3_ := Aside0.mk (blk_below (g := gb259) (o := .cells #[.slice Ao40 t272.length co40] 24 (0, 0)) (by (with_reducible repeat (first | refine blk_drewN ?_ _ | refine blk_drew ?_ | refine blk_alloc ?_ _)); exact BK259.out) hb)
                            have n4_ := Aside0.mk (blk_below (g := gb290) (o := .cells #[.slice Ao55 t286.length co55] 24 (0, 0)) (by (with_reducible repeat (first | refine blk_drewN ?_ _ | refine blk_drew ?_ | refine blk_alloc ?_ _)); exact BK290.out) hb)
                            have n5_ := Aside0.mk (below_step (by repeat (first | (with_reducible first | exact HB.out | apply below_alloc | apply pw_below_drewN | apply below_drew1 | refine below_set ?_ GE259.out | refine below_set ?_ GE290.out) | exact HB.out)) hb)
                            clear HO257
                            clear HO274
                            clear HO288
                            clear BK259
                            clear BK290
                            clear HB
                            have HO257 := n0_
                            have HO274 := n1_
                            have HO288 := n2_
                            have BK259 := n3_
                            have BK290 := n4_
                            have HB := n5_
                            clear n0_ n1_ n2_ n3_ n4_ n5_
                            (try clear hb)
                            (try clear hb2)
                            (try clear hk)
                            (try clear hi)
                            refine hK.out _ _ ((blk_cell BK259.out 0).trans rfl) (fun hHeld => ?_)
                            clear hK K
                            refine norm_ (a' := ?_) ?_ ?_
                            rotate_left
                            · show Act.put _ (some 63) _ = _
                              simp only [Act.put, List.setIfInBounds_toArray, List.set_cons_zero, List.set_cons_succ, i64_w, i32_w]
                              rfl
                            refine two_ (i := 2) (j := 6) (Ni := some 64) (Nj := some 7) #[true, true, true, false, false, false, false, false, false] #[true, true, false, false, false, false, true, false, false] rfl rfl rfl rfl (two_of HT_.out (by kernel_rfl)) (by decide) (by decide) (fun K hK => ?_) (fun K hK => ?_)
                            · skip
                              refine goes_ Try.func19 (by kernel_rfl) rfl #[.agg #[.slice Ao40 t272.length co40], .agg #[.int .i64 t291, .string t292, .string t293, .int .i64 t294, .int .i64 t295, .int .i64 t296]] (by rfl) rfl rfl (by (try simp only [List.map_toArray, List.map_cons, List.map_nil]); first | done | rfl | (simp only [List.length_drop, List.length_take]; rfl)) ?_
                              with_reducible refine (ledger_Post.calls _ _ t272 t291 t292 t293 t294 t295 t296 t297 t300 _ ?side1 ?side2 A19.out).mono ?_
                              (case side1 => repeat (first | exact (Kd.R_reads' HO274.out).2.2 | (with_reducible refine Kd.C_alloc ?_ _) | (with_reducible refine Kd.C_drewN ?_ _) | (with_reducible refine Kd.C_drew ?_)))
                              (case side2 => exact (Kd.R_reads' HO274.out).2.1)
                              rintro e w60 ⟨v298, rfl, ho0, hb⟩
                              refine ⟨_, rfl, ?_⟩
                              have n0_ := Aside0.mk (Kd.R_elder' (by (with_reducible repeat (first | apply Kd.R_alloc | apply Kd.R_drewN | apply Kd.R_drew)); exact HO257.out) (Kd.R_base ho0) hb)
                              have n1_ := Aside0.mk (Kd.R_elder' (by (with_reducible repeat (first | apply Kd.R_alloc | apply Kd.R_drewN | apply Kd.R_drew)); exact HO274.out) (Kd.R_base ho0) hb)
                              have n2_ := Aside0.mk (Kd.R_elder' (by (with_reducible repeat (first | apply Kd.R_alloc | apply Kd.R_drewN | apply Kd.R_drew)); exact HO288.out) (Kd.R_base ho0) hb)
                              have n3_ := Aside0.mk (Kd.R_lower (Kd.R_new' (Kd.R_new' (Kd.R_new' ho0 (Kd.R_lt (by (with_reducible repeat (first | apply Kd.R_alloc | apply Kd.R_drewN | apply Kd.R_drew)); exact HO257.out))) (Kd.R_lt (by (with_reducible repeat (first | apply Kd.R_alloc | apply Kd.R_drewN | apply Kd.R_drew)); exact HO274.out))) (Kd.R_lt (by (with_reducible repeat (first | apply Kd.R_alloc | apply Kd.R_drewN | apply Kd.R_drew)); exact HO288.out))) (below_size (by repeat (first | (with_reducible first | exact HB.out | apply below_alloc | apply pw_below_drewN | apply below_drew1 | refine below_set ?_ GE259.out | refine below_set ?_ GE290.out) | exact HB.out))))
                              have n4_ := Aside0.mk (blk_below (g := gb259) (o := .cells #[.slice Ao40 t272.length co40] 24 (0, 0)) (by (with_reducible repeat (first | refine blk_drewN ?_ _ | refine blk_drew ?_ | refine blk_alloc ?_ _)); exact BK259.out) hb)
                              have n5_ := Aside0.mk (blk_below (g := gb290) (o := .cells #[.slice Ao55 t286.length co55] 24 (0, 0)) (by (with_reducible repeat (first | refine blk_drewN ?_ _ | refine blk_drew ?_ | refine blk_alloc ?_ _)); exact BK290.out) hb)
                              have n6_ := Aside0.mk (below_step (by repeat (first | (with_reducible first | exact HB.out | apply below_alloc | apply pw_below_drewN | apply below_drew1 | refine below_set ?_ GE259.out | refine below_set ?_ GE290.out) | exact HB.out)) hb)
                              clear HO257
                              clear HO274
                              clear HO288
                              clear BK259
                              clear BK290
                              clear HB
                              have HO257 := n0_
                              have HO274 := n1_
                              have HO288 := n2_
                              have HO299 := n3_
                              have BK259 := n4_
                              have BK290 := n5_
                              have HB := n6_
                              clear n0_ n1_ n2_ n3_ n4_ n5_ n6_
                              (try clear hb)
                              (try clear hb2)
                              (try clear hk)
                              (try clear hi)
                              (try clear ho0)
                              refine hK.out _ _ ((blk_cell BK259.out 0).trans rfl) (fun hHeld => ?_)
                              clear hK K
                              refine norm_ (a' := ?_) ?_ ?_
                              rotate_left
                              · show Act.put _ (some 64) _ = _
                                simp only [Act.put, List.setIfInBounds_toArray, List.set_cons_zero, List.set_cons_succ, i64_w, i32_w]
                                rfl
                              refine pure_ (i := 3) (N := some 61) (v := ?_) (a' := ?_) #[true, true, true, true, false, false, false, false, false] rfl rfl (any_of HT_.out (by kernel_rfl)) (fun _ _ _ h => h) (Or.inl ⟨by rfl, ?_⟩) ?_ ?_
                              rotate_left
                              · intro w'
                                go_simp
                                with_reducible rfl
                              rotate_left
                              · simp only [Act.put, List.setIfInBounds_toArray, List.set_cons_zero, List.set_cons_succ, i64_w, i32_w]
                                rfl
                              refine pure_ (i := 4) (N := some 65) (v := ?_) (a' := ?_) #[true, true, true, true, true, false, false, false, false] rfl rfl (any_of HT_.out (by kernel_rfl)) (fun _ _ _ h => h) (Or.inl ⟨by rfl, ?_⟩) ?_ ?_
                              rotate_left
                              · intro w'
                                go_simp
                                with_reducible rfl
                              rotate_left
                              · simp only [Act.put, List.setIfInBounds_toArray, List.set_cons_zero, List.set_cons_succ, i64_w, i32_w]
                                rfl
                              refine pure_ (i := 5) (N := some 66) (v := ?_) (a' := ?_) #[true, true, true, true, true, true, false, false, false] rfl rfl (any_of HT_.out (by kernel_rfl)) (fun _ _ _ h => h) (Or.inl ⟨by rfl, ?_⟩) ?_ ?_
                              rotate_left
                              · intro w'
                                go_simp
                                with_reducible rfl
                              rotate_left
                              · simp only [Act.put, List.setIfInBounds_toArray, List.set_cons_zero, List.set_cons_succ, i64_w, i32_w]
                                rfl
                              refine one_ (i := 6) (N := some 7) #[true, true, true, true, true, true, true, false, false] rfl rfl (one_of HT_.out (by kernel_rfl)) (by decide) (fun K hK => ?_)
                              refine box_step ?hg (N := 7) ?hd (cs := #[.slice none 0 0]) (t := 24) ?hr ?_; (case hd => rfl); (case hg => rfl); (case hr => first | (go_simp; done) | (go_simp; rfl))
                              intro gb301 hg w61 hbox hb
                              have n0_ := Aside0.mk (Kd.R_below (by (with_reducible repeat (first | apply Kd.R_alloc | apply Kd.R_drewN | apply Kd.R_drew)); exact HO257.out) hb)
                              have n1_ := Aside0.mk (Kd.R_below (by (with_reducible repeat (first | apply Kd.R_alloc | apply Kd.R_drewN | apply Kd.R_drew)); exact HO274.out) hb)
                              have n2_ := Aside0.mk (Kd.R_below (by (with_reducible repeat (first | apply Kd.R_alloc | apply Kd.R_drewN | apply Kd.R_drew)); exact HO288.out) hb)
                              have n3_ := Aside0.mk (Kd.R_below (by (with_reducible repeat (first | apply Kd.R_alloc | apply Kd.R_drewN | apply Kd.R_drew)); exact HO299.out) hb)
                              have n4_ := Aside0.mk (blk_below (g := gb259) (o := .cells #[.slice Ao40 t272.length co40] 24 (0, 0)) (by (with_reducible repeat (first | refine blk_drewN ?_ _ | refine blk_drew ?_ | refine blk_alloc ?_ _)); exact BK259.out) hb)
                              have n5_ := Aside0.mk (blk_below (g := gb290) (o := .cells #[.slice Ao55 t286.length co55] 24 (0, 0)) (by (with_reducible repeat (first | refine blk_drewN ?_ _ | refine blk_drew ?_ | refine blk_alloc ?_ _)); exact BK290.out) hb)
                              have n6_ := Aside0.mk (below_step (by repeat (first | (with_reducible first | exact HB.out | apply below_alloc | apply pw_below_drewN | apply below_drew1 | refine below_set ?_ GE259.out | refine below_set ?_ GE290.out) | exact HB.out)) hb)
                              have n7_ := Aside0.mk (hbox)
                              have n8_ := Aside0.mk ((by rw [hg]; exact (below_size (by repeat (first | (with_reducible first | exact HB.out | apply below_alloc | apply pw_below_drewN | apply below_drew1 | refine below_set ?_ GE259.out | refine below_set ?_ GE290.out) | exact HB.out))) : w.heap.size ≤ gb301))
                              have n9_ := Aside0.mk ((by rw [hg]; exact (below_size (by repeat (first | (with_reducible first | exact HB.out | apply below_alloc | apply pw_below_drewN | apply below_drew1 | refine below_set ?_ GE259.out | refine below_set ?_ GE290.out) | exact HB.out))) : w.heap.size ≤ gb301))
                              have n10_ := Aside0.mk ((by rw [hg]; exact Nat.ne_of_lt (blk_lt (g := gb259) (o := .cells #[.slice Ao40 t272.length co40] 24 (0, 0)) (by (with_reducible repeat (first | refine blk_drewN ?_ _ | refine blk_drew ?_ | refine blk_alloc ?_ _)); exact BK259.out)) : gb259 ≠ gb301))
                              have n11_ := Aside0.mk ((by rw [hg]; exact Nat.ne_of_gt (blk_lt (g := gb259) (o := .cells #[.slice Ao40 t272.length co40] 24 (0, 0)) (by (with_reducible repeat (first | refine blk_drewN ?_ _ | refine blk_drew ?_ | refine blk_alloc ?_ _)); exact BK259.out)) : gb301 ≠ gb259))
                              have n12_ := Aside0.mk ((by rw [hg]; exact Nat.ne_of_lt (blk_lt (g := gb290) (o := .cells #[.slice Ao55 t286.length co55] 24 (0, 0)) (by (with_reducible repeat (first | refine blk_drewN ?_ _ | refine blk_drew ?_ | refine blk_alloc ?_ _)); exact BK290.out)) : gb290 ≠ gb301))
                              have n13_ := Aside0.mk ((by rw [hg]; exact Nat.ne_of_gt (blk_lt (g := gb290) (o := .cells #[.slice Ao55 t286.length co55] 24 (0, 0)) (by (with_reducible repeat (first | refine blk_drewN ?_ _ | refine blk_drew ?_ | refine blk_alloc ?_ _)); exact BK290.out)) : gb301 ≠ gb290))
                              clear HO257
                              clear HO274
                              clear HO288
                              clear HO299
                              clear BK259
                              clear BK290
                              clear HB
                              have HO257 := n0_
                              have HO274 := n1_
                              have HO288 := n2_
                              have HO299 := n3_
                              have BK259 := n4_
                              have BK290 := n5_
                              have HB := n6_
                              have BK301 := n7_
                              have GW301 := n8_
                              have GE301 := n9_
                              have NB259_301 := n10_
                              have NB301_259 := n11_
                              have NB290_301 := n12_
                              have NB301_290 := n13_
                              clear n0_ n1_ n2_ n3_ n4_ n5_ n6_ n7_ n8_ n9_ n10_ n11_ n12_ n13_
                              clear hb hbox hg
                              refine hK.out _ _ ((blk_cell BK259.out 0).trans rfl) (fun hHeld => ?_)
                              clear hK K
                              refine norm_ (a' := ?_) ?_ ?_
                              rotate_left
                              · show Act.put _ (some 7) _ = _
                                simp only [Act.put, List.setIfInBounds_toArray, List.set_cons_zero, List.set_cons_succ, i64_w, i32_w]
                                rfl
                              exact norm_ (by simp only [putAll, Act.put, List.setIfInBounds_toArray, List.set_cons_zero, List.set_cons_succ]) (hCont (v298, gb301) _ ⟨hHeld, (by (with_reducible repeat (first | apply Kd.R_alloc | apply Kd.R_drewN | apply Kd.R_drew)); exact Kd.R_mono HO257.out (fun _ hk => ⟨hk.1.1, ⟨hk.1.2, hk.2⟩⟩)), (by (with_reducible repeat (first | apply Kd.R_alloc | apply Kd.R_drewN | apply Kd.R_drew)); exact Kd.R_mono HO274.out (fun _ hk => ⟨hk.1.1, ⟨hk.1.2, hk.2⟩⟩)), (by (with_reducible repeat (first | apply Kd.R_alloc | apply Kd.R_drewN | apply Kd.R_drew)); exact Kd.R_mono HO288.out (fun _ hk => ⟨hk.1.1, ⟨hk.1.2, hk.2⟩⟩)), (by (with_reducible repeat (first | apply Kd.R_alloc | apply Kd.R_drewN | apply Kd.R_drew)); exact Kd.R_mono HO299.out (fun _ hk => ⟨hk.1.1.2, ⟨hk.1.2, hk.2⟩⟩)), (by (with_reducible repeat (first | refine blk_drewN ?_ _ | refine blk_drew ?_ | refine blk_alloc ?_ _)); exact BK259.out), (by (with_reducible repeat (first | refine blk_drewN ?_ _ | refine blk_drew ?_ | refine blk_alloc ?_ _)); exact BK290.out), (by (with_reducible repeat (first | refine blk_drewN ?_ _ | refine blk_drew ?_ | refine blk_alloc ?_ _)); exact BK301.out), GW301.out, GE301.out, NB259_301.out, NB301_259.out, NB290_301.out, NB301_290.out, (by repeat (first | (with_reducible first | exact HB.out | apply below_alloc | apply pw_below_drewN | apply below_drew1 | refine below_set ?_ GE259.out | refine below_set ?_ GE290.out | refine below_set ?_ GE301.out) | exact HB.out))⟩)
                            · skip
                              refine box_step ?hg (N := 7) ?hd (cs := #[.slice none 0 0]) (t := 24) ?hr ?_; (case hd => rfl); (case hg => rfl); (case hr => first | (go_simp; done) | (go_simp; rfl))
                              intro gb301 hg w60 hbox hb
                              have n0_ := Aside0.mk (Kd.R_below (by (with_reducible repeat (first | apply Kd.R_alloc | apply Kd.R_drewN | apply Kd.R_drew)); exact HO257.out) hb)
                              have n1_ := Aside0.mk (Kd.R_below (by (with_reducible repeat (first | apply Kd.R_alloc | apply Kd.R_drewN | apply Kd.R_drew)); exact HO274.out) hb)
                              have n2_ := Aside0.mk (Kd.R_below (by (with_reducible repeat (first | apply Kd.R_alloc | apply Kd.R_drewN | apply Kd.R_drew)); exact HO288.out) hb)
                              have n3_ := Aside0.mk (blk_below (g := gb259) (o := .cells #[.slice Ao40 t272.length co40] 24 (0, 0)) (by (with_reducible repeat (first | refine blk_drewN ?_ _ | refine blk_drew ?_ | refine blk_alloc ?_ _)); exact BK259.out) hb)
                              have n4_ := Aside0.mk (blk_below (g := gb290) (o := .cells #[.slice Ao55 t286.length co55] 24 (0, 0)) (by (with_reducible repeat (first | refine blk_drewN ?_ _ | refine blk_drew ?_ | refine blk_alloc ?_ _)); exact BK290.out) hb)
                              have n5_ := Aside0.mk (below_step (by repeat (first | (with_reducible first | exact HB.out | apply below_alloc | apply pw_below_drewN | apply below_drew1 | refine below_set ?_ GE259.out | refine below_set ?_ GE290.out) | exact HB.out)) hb)
                              have n6_ := Aside0.mk (hbox)
                              have n7_ := Aside0.mk ((by rw [hg]; exact (below_size (by repeat (first | (with_reducible first | exact HB.out | apply below_alloc | apply pw_below_drewN | apply below_drew1 | refine below_set ?_ GE259.out | refine below_set ?_ GE290.out) | exact HB.out))) : w.heap.size ≤ gb301))
                              have n8_ := Aside0.mk ((by rw [hg]; exact (below_size (by repeat (first | (with_reducible first | exact HB.out | apply below_alloc | apply pw_below_drewN | apply below_drew1 | refine below_set ?_ GE259.out | refine below_set ?_ GE290.out) | exact HB.out))) : w.heap.size ≤ gb301))
                              have n9_ := Aside0.mk ((by rw [hg]; exact Nat.ne_of_lt (blk_lt (g := gb259) (o := .cells #[.slice Ao40 t272.length co40] 24 (0, 0)) (by (with_reducible repeat (first | refine blk_drewN ?_ _ | refine blk_drew ?_ | refine blk_alloc ?_ _)); exact BK259.out)) : gb259 ≠ gb301))
                              have n10_ := Aside0.mk ((by rw [hg]; exact Nat.ne_of_gt (blk_lt (g := gb259) (o := .cells #[.slice Ao40 t272.length co40] 24 (0, 0)) (by (with_reducible repeat (first | refine blk_drewN ?_ _ | refine blk_drew ?_ | refine blk_alloc ?_ _)); exact BK259.out)) : gb301 ≠ gb259))
                              have n11_ := Aside0.mk ((by rw [hg]; exact Nat.ne_of_lt (blk_lt (g := gb290) (o := .cells #[.slice Ao55 t286.length co55] 24 (0, 0)) (by (with_reducible repeat (first | refine blk_drewN ?_ _ | refine blk_drew ?_ | refine blk_alloc ?_ _)); exact BK290.out)) : gb290 ≠ gb301))
                              have n12_ := Aside0.mk ((by rw [hg]; exact Nat.ne_of_gt (blk_lt (g := gb290) (o := .cells #[.slice Ao55 t286.length co55] 24 (0, 0)) (by (with_reducible repeat (first | refine blk_drewN ?_ _ | refine blk_drew ?_ | refine blk_alloc ?_ _)); exact BK290.out)) : gb301 ≠ gb290))
                              clear HO257
                              clear HO274
                              clear HO288
                              clear BK259
                              clear BK290
                              clear HB
                              have HO257 := n0_
                              have HO274 := n1_
                              have HO288 := n2_
                              have BK259 := n3_
                              have BK290 := n4_
                              have HB := n5_
                              have BK301 := n6_
                              have GW301 := n7_
                              have GE301 := n8_
                              have NB259_301 := n9_
                              have NB301_259 := n10_
                              have NB290_301 := n11_
                              have NB301_290 := n12_
                              clear n0_ n1_ n2_ n3_ n4_ n5_ n6_ n7_ n8_ n9_ n10_ n11_ n12_
                              clear hb hbox hg
                              refine hK.out _ _ ((blk_cell BK259.out 0).trans rfl) (fun hHeld => ?_)
                              clear hK K
                              refine norm_ (a' := ?_) ?_ ?_
                              rotate_left
                              · show Act.put _ (some 7) _ = _
                                simp only [Act.put, List.setIfInBounds_toArray, List.set_cons_zero, List.set_cons_succ, i64_w, i32_w]
                                rfl
                              refine one_ (i := 2) (N := some 64) #[true, true, true, false, false, false, true, false, false] rfl rfl (one_of HT_.out (by kernel_rfl)) (by decide) (fun K hK => ?_)
                              refine goes_ Try.func19 (by kernel_rfl) rfl #[.agg #[.slice Ao40 t272.length co40], .agg #[.int .i64 t291, .string t292, .string t293, .int .i64 t294, .int .i64 t295, .int .i64 t296]] (by rfl) rfl rfl (by (try simp only [List.map_toArray, List.map_cons, List.map_nil]); first | done | rfl | (simp only [List.length_drop, List.length_take]; rfl)) ?_
                              with_reducible refine (ledger_Post.calls _ _ t272 t291 t292 t293 t294 t295 t296 t297 t300 _ ?side1 ?side2 A19.out).mono ?_
                              (case side1 => repeat (first | exact (Kd.R_reads' HO274.out).2.2 | (with_reducible refine Kd.C_alloc ?_ _) | (with_reducible refine Kd.C_drewN ?_ _) | (with_reducible refine Kd.C_drew ?_)))
                              (case side2 => exact (Kd.R_reads' HO274.out).2.1)
                              rintro e w61 ⟨v298, rfl, ho0, hb⟩
                              refine ⟨_, rfl, ?_⟩
                              have n0_ := Aside0.mk (Kd.R_elder' (by (with_reducible repeat (first | apply Kd.R_alloc | apply Kd.R_drewN | apply Kd.R_drew)); exact HO257.out) (Kd.R_base ho0) hb)
                              have n1_ := Aside0.mk (Kd.R_elder' (by (with_reducible repeat (first | apply Kd.R_alloc | apply Kd.R_drewN | apply Kd.R_drew)); exact HO274.out) (Kd.R_base ho0) hb)
                              have n2_ := Aside0.mk (Kd.R_elder' (by (with_reducible repeat (first | apply Kd.R_alloc | apply Kd.R_drewN | apply Kd.R_drew)); exact HO288.out) (Kd.R_base ho0) hb)
                              have n3_ := Aside0.mk (Kd.R_lower (Kd.R_new' (Kd.R_new' (Kd.R_new' ho0 (Kd.R_lt (by (with_reducible repeat (first | apply Kd.R_alloc | apply Kd.R_drewN | apply Kd.R_drew)); exact HO257.out))) (Kd.R_lt (by (with_reducible repeat (first | apply Kd.R_alloc | apply Kd.R_drewN | apply Kd.R_drew)); exact HO274.out))) (Kd.R_lt (by (with_reducible repeat (first | apply Kd.R_alloc | apply Kd.R_drewN | apply Kd.R_drew)); exact HO288.out))) (below_size (by repeat (first | (with_reducible first | exact HB.out | apply below_alloc | apply pw_below_drewN | apply below_drew1 | refine below_set ?_ GE259.out | refine below_set ?_ GE290.out | refine below_set ?_ GE301.out) | exact HB.out))))
                              have n4_ := Aside0.mk (blk_below (g := gb259) (o := .cells #[.slice Ao40 t272.length co40] 24 (0, 0)) (by (with_reducible repeat (first | refine blk_drewN ?_ _ | refine blk_drew ?_ | refine blk_alloc ?_ _)); exact BK259.out) hb)
                              have n5_ := Aside0.mk (blk_below (g := gb290) (o := .cells #[.slice Ao55 t286.length co55] 24 (0, 0)) (by (with_reducible repeat (first | refine blk_drewN ?_ _ | refine blk_drew ?_ | refine blk_alloc ?_ _)); exact BK290.out) hb)
                              have n6_ := Aside0.mk (blk_below (g := gb301) (o := .cells #[.slice none 0 0] 24 (0, 0)) (by (with_reducible repeat (first | refine blk_drewN ?_ _ | refine blk_drew ?_ | refine blk_alloc ?_ _)); exact BK301.out) hb)
                              have n7_ := Aside0.mk (below_step (by repeat (first | (with_reducible first | exact HB.out | apply below_alloc | apply pw_below_drewN | apply below_drew1 | refine below_set ?_ GE259.out | refine below_set ?_ GE290.out | refine below_set ?_ GE301.out) | exact HB.out)) hb)
                              clear HO257
                              clear HO274
                              clear HO288
                              clear BK259
                              clear BK290
                              clear BK301
                              clear HB
                              have HO257 := n0_
                              have HO274 := n1_
                              have HO288 := n2_
                              have HO299 := n3_
                              have BK259 := n4_
                              have BK290 := n5_
                              have BK301 := n6_
                              have HB := n7_
                              clear n0_ n1_ n2_ n3_ n4_ n5_ n6_ n7_
                              (try clear hb)
                              (try clear hb2)
                              (try clear hk)
                              (try clear hi)
                              (try clear ho0)
                              refine hK.out _ _ ((blk_cell BK259.out 0).trans rfl) (fun hHeld => ?_)
                              clear hK K
                              refine norm_ (a' := ?_) ?_ ?_
                              rotate_left
                              · show Act.put _ (some 64) _ = _
                                simp only [Act.put, List.setIfInBounds_toArray, List.set_cons_zero, List.set_cons_succ, i64_w, i32_w]
                                rfl
                              refine pure_ (i := 3) (N := some 61) (v := ?_) (a' := ?_) #[true, true, true, true, false, false, true, false, false] rfl rfl (any_of HT_.out (by kernel_rfl)) (fun _ _ _ h => h) (Or.inl ⟨by rfl, ?_⟩) ?_ ?_
                              rotate_left
                              · intro w'
                                go_simp
                                with_reducible rfl
                              rotate_left
                              · simp only [Act.put, List.setIfInBounds_toArray, List.set_cons_zero, List.set_cons_succ, i64_w, i32_w]
                                rfl
                              refine pure_ (i := 4) (N := some 65) (v := ?_) (a' := ?_) #[true, true, true, true, true, false, true, false, false] rfl rfl (any_of HT_.out (by kernel_rfl)) (fun _ _ _ h => h) (Or.inl ⟨by rfl, ?_⟩) ?_ ?_
                              rotate_left
                              · intro w'
                                go_simp
                                with_reducible rfl
                              rotate_left
                              · simp only [Act.put, List.setIfInBounds_toArray, List.set_cons_zero, List.set_cons_succ, i64_w, i32_w]
                                rfl
                              refine pure_ (i := 5) (N := some 66) (v := ?_) (a' := ?_) #[true, true, true, true, true, true, true, false, false] rfl rfl (any_of HT_.out (by kernel_rfl)) (fun _ _ _ h => h) (Or.inl ⟨by rfl, ?_⟩) ?_ ?_
                              rotate_left
                              · intro w'
                                go_simp
                                with_reducible rfl
                              rotate_left
                              · simp only [Act.put, List.setIfInBounds_toArray, List.set_cons_zero, List.set_cons_succ, i64_w, i32_w]
                                rfl
                              exact norm_ (by simp only [putAll, Act.put, List.setIfInBounds_toArray, List.set_cons_zero, List.set_cons_succ]) (hCont (v298, gb301) _ ⟨hHeld, (by (with_reducible repeat (first | apply Kd.R_alloc | apply Kd.R_drewN | apply Kd.R_drew)); exact Kd.R_mono HO257.out (fun _ hk => ⟨hk.1.1, ⟨hk.1.2, hk.2⟩⟩)), (by (with_reducible repeat (first | apply Kd.R_alloc | apply Kd.R_drewN | apply Kd.R_drew)); exact Kd.R_mono HO274.out (fun _ hk => ⟨hk.1.1, ⟨hk.1.2, hk.2⟩⟩)), (by (with_reducible repeat (first | apply Kd.R_alloc | apply Kd.R_drewN | apply Kd.R_drew)); exact Kd.R_mono HO288.out (fun _ hk => ⟨hk.1.1, ⟨hk.1.2, hk.2⟩⟩)), (by (with_reducible repeat (first | apply Kd.R_alloc | apply Kd.R_drewN | apply Kd.R_drew)); exact Kd.R_mono HO299.out (fun _ hk => ⟨hk.1.1.2, ⟨hk.1.2, hk.2⟩⟩)), (by (with_reducible repeat (first | refine blk_drewN ?_ _ | refine blk_drew ?_ | refine blk_alloc ?_ _)); exact BK259.out), (by (with_reducible repeat (first | refine blk_drewN ?_ _ | refine blk_drew ?_ | refine blk_alloc ?_ _)); exact BK290.out), (by (with_reducible repeat (first | refine blk_drewN ?_ _ | refine blk_drew ?_ | refine blk_alloc ?_ _)); exact BK301.out), GW301.out, GE301.out, NB259_301.out, NB301_259.out, NB290_301.out, NB301_290.out, (by repeat (first | (with_reducible first | exact HB.out | apply below_alloc | apply pw_below_drewN | apply below_drew1 | refine below_set ?_ GE259.out | refine below_set ?_ GE290.out | refine below_set ?_ GE301.out) | exact HB.out))⟩)
                          · skip
                            refine box_step ?hg (N := 7) ?hd (cs := #[.slice none 0 0]) (t := 24) ?hr ?_; (case hd => rfl); (case hg => rfl); (case hr => first | (go_simp; done) | (go_simp; rfl))
                            intro gb301 hg w59 hbox hb
                            have n0_ := Aside0.mk (Kd.R_below (by (with_reducible repeat (first | apply Kd.R_alloc | apply Kd.R_drewN | apply Kd.R_drew)); exact HO257.out) hb)
                            have n1_ := Aside0.mk (Kd.R_below (by (with_reducible repeat (first | apply Kd.R_alloc | apply Kd.R_drewN | apply Kd.R_drew)); exact HO274.out) hb)
                            have n2_ := Aside0.mk (Kd.R_below (by (with_reducible repeat (first | apply Kd.R_alloc | apply Kd.R_drewN | apply Kd.R_drew)); exact HO288.out) hb)
                            have n3_ := Aside0.mk (blk_below (g := gb259) (o := .cells #[.slice Ao40 t272.length co40] 24 (0, 0)) (by (with_reducible repeat (first | refine blk_drewN ?_ _ | refine blk_drew ?_ | refine blk_alloc ?_ _)); exact BK259.out) hb)
                            have n4_ := Aside0.mk (blk_below (g := gb290) (o := .cells #[.slice Ao55 t286.length co55] 24 (0, 0)) (by (with_reducible repeat (first | refine blk_drewN ?_ _ | refine blk_drew ?_ | refine blk_alloc ?_ _)); exact BK290.out) hb)
                            have n5_ := Aside0.mk (below_step (by repeat (first | (with_reducible first | exact HB.out | apply below_alloc | apply pw_below_drewN | apply below_drew1 | refine below_set ?_ GE259.out | refine below_set ?_ GE290.out) | exact HB.out)) hb)
                            have n6_ := Aside0.mk (hbox)
                            have n7_ := Aside0.mk ((by rw [hg]; exact (below_size (by repeat (first | (with_reducible first | exact HB.out | apply below_alloc | apply pw_below_drewN | apply below_drew1 | refine below_set ?_ GE259.out | refine below_set ?_ GE290.out) | exact HB.out))) : w.heap.size ≤ gb301))
                            have n8_ := Aside0.mk ((by rw [hg]; exact (below_size (by repeat (first | (with_reducible first | exact HB.out | apply below_alloc | apply pw_below_drewN | apply below_drew1 | refine below_set ?_ GE259.out | refine below_set ?_ GE290.out) | exact HB.out))) : w.heap.size ≤ gb301))
                            have n9_ := Aside0.mk ((by rw [hg]; exact Nat.ne_of_lt (blk_lt (g := gb259) (o := .cells #[.slice Ao40 t272.length co40] 24 (0, 0)) (by (with_reducible repeat (first | refine blk_drewN ?_ _ | refine blk_drew ?_ | refine blk_alloc ?_ _)); exact BK259.out)) : gb259 ≠ gb301))
                            have n10_ := Aside0.mk ((by rw [hg]; exact Nat.ne_of_gt (blk_lt (g := gb259) (o := .cells #[.slice Ao40 t272.length co40] 24 (0, 0)) (by (with_reducible repeat (first | refine blk_drewN ?_ _ | refine blk_drew ?_ | refine blk_alloc ?_ _)); exact BK259.out)) : gb301 ≠ gb259))
                            have n11_ := Aside0.mk ((by rw [hg]; exact Nat.ne_of_lt (blk_lt (g := gb290) (o := .cells #[.slice Ao55 t286.length co55] 24 (0, 0)) (by (with_reducible repeat (first | refine blk_drewN ?_ _ | refine blk_drew ?_ | refine blk_alloc ?_ _)); exact BK290.out)) : gb290 ≠ gb301))
                            have n12_ := Aside0.mk ((by rw [hg]; exact Nat.ne_of_gt (blk_lt (g := gb290) (o := .cells #[.slice Ao55 t286.length co55] 24 (0, 0)) (by (with_reducible repeat (first | refine blk_drewN ?_ _ | refine blk_drew ?_ | refine blk_alloc ?_ _)); exact BK290.out)) : gb301 ≠ gb290))
                            clear HO257
                            clear HO274
                            clear HO288
                            clear BK259
                            clear BK290
                            clear HB
                            have HO257 := n0_
                            have HO274 := n1_
                            have HO288 := n2_
                            have BK259 := n3_
                            have BK290 := n4_
                            have HB := n5_
                            have BK301 := n6_
                            have GW301 := n7_
                            have GE301 := n8_
                            have NB259_301 := n9_
                            have NB301_259 := n10_
                            have NB290_301 := n11_
                            have NB301_290 := n12_
                            clear n0_ n1_ n2_ n3_ n4_ n5_ n6_ n7_ n8_ n9_ n10_ n11_ n12_
                            clear hb hbox hg
                            refine hK.out _ _ ((blk_cell BK259.out 0).trans rfl) (fun hHeld => ?_)
                            clear hK K
                            refine norm_ (a' := ?_) ?_ ?_
                            rotate_left
                            · show Act.put _ (some 7) _ = _
                              simp only [Act.put, List.setIfInBounds_toArray, List.set_cons_zero, List.set_cons_succ, i64_w, i32_w]
                              rfl
                            refine one_ (i := 1) (N := some 63) #[true, true, false, false, false, false, true, false, false] rfl rfl (one_of HT_.out (by kernel_rfl)) (by decide) (fun K hK => ?_)
                            refine goes_ Try.func46 (by kernel_rfl) rfl #[.int .i64 1, .int .i64 90, .int .i64 25] (by rfl) rfl rfl (by (try simp only [List.map_toArray, List.map_cons, List.map_nil]); first | done | rfl | (simp only [List.length_drop, List.length_take]; rfl)) ?_
                            with_reducible refine (wageofficelaw39_entry.calls 1 90 25 t291 t292 t293 t294 t295 t296 _ A18.out).mono ?_
                            rintro e w60 ⟨rfl, hb⟩
                            refine ⟨_, rfl, ?_⟩
                            have n0_ := Aside0.mk (Kd.R_below (by (with_reducible repeat (first | apply Kd.R_alloc | apply Kd.R_drewN | apply Kd.R_drew)); exact HO257.out) hb)
                            have n1_ := Aside0.mk (Kd.R_below (by (with_reducible repeat (first | apply Kd.R_alloc | apply Kd.R_drewN | apply Kd.R_drew)); exact HO274.out) hb)
                            have n2_ := Aside0.mk (Kd.R_below (by (with_reducible repeat (first | apply Kd.R_alloc | apply Kd.R_drewN | apply Kd.R_drew)); exact HO288.out) hb)
                            have n3_ := Aside0.mk (blk_below (g := gb259) (o := .cells #[.slice Ao40 t272.length co40] 24 (0, 0)) (by (with_reducible repeat (first | refine blk_drewN ?_ _ | refine blk_drew ?_ | refine blk_alloc ?_ _)); exact BK259.out) hb)
                            have n4_ := Aside0.mk (blk_below (g := gb290) (o := .cells #[.slice Ao55 t286.length co55] 24 (0, 0)) (by (with_reducible repeat (first | refine blk_drewN ?_ _ | refine blk_drew ?_ | refine blk_alloc ?_ _)); exact BK290.out) hb)
                            have n5_ := Aside0.mk (blk_below (g := gb301) (o := .cells #[.slice none 0 0] 24 (0, 0)) (by (with_reducible repeat (first | refine blk_drewN ?_ _ | refine blk_drew ?_ | refine blk_alloc ?_ _)); exact BK301.out) hb)
                            have n6_ := Aside0.mk (below_step (by repeat (first | (with_reducible first | exact HB.out | apply below_alloc | apply pw_below_drewN | apply below_drew1 | refine below_set ?_ GE259.out | refine below_set ?_ GE290.out | refine below_set ?_ GE301.out) | exact HB.out)) hb)
                            clear HO257
                            clear HO274
                            clear HO288
                            clear BK259
                            clear BK290
                            clear BK301
                            clear HB
                            have HO257 := n0_
                            have HO274 := n1_
                            have HO288 := n2_
                            have BK259 := n3_
                            have BK290 := n4_
                            have BK301 := n5_
                            have HB := n6_
                            clear n0_ n1_ n2_ n3_ n4_ n5_ n6_
                            (try clear hb)
                            (try clear hb2)
                            (try clear hk)
                            (try clear hi)
                            refine hK.out _ _ ((blk_cell BK259.out 0).trans rfl) (fun hHeld => ?_)
                            clear hK K
                            refine norm_ (a' := ?_) ?_ ?_
                            rotate_left
                            · show Act.put _ (some 63) _ = _
                              simp only [Act.put, List.setIfInBounds_toArray, List.set_cons_zero, List.set_cons_succ, i64_w, i32_w]
                              rfl
                            refine one_ (i := 2) (N := some 64) #[true, true, true, false, false, false, true, false, false] rfl rfl (one_of HT_.out (by kernel_rfl)) (by decide) (fun K hK => ?_)
                            refine goes_ Try.func19 (by kernel_rfl) rfl #[.agg #[.slice Ao40 t272.length co40], .agg #[.int .i64 t291, .string t292, .string t293, .int .i64 t294, .int .i64 t295, .int .i64 t296]] (by rfl) rfl rfl (by (try simp only [List.map_toArray, List.map_cons, List.map_nil]); first | done | rfl | (simp only [List.length_drop, List.length_take]; rfl)) ?_
                            with_reducible refine (ledger_Post.calls _ _ t272 t291 t292 t293 t294 t295 t296 t297 t300 _ ?side1 ?side2 A19.out).mono ?_
                            (case side1 => repeat (first | exact (Kd.R_reads' HO274.out).2.2 | (with_reducible refine Kd.C_alloc ?_ _) | (with_reducible refine Kd.C_drewN ?_ _) | (with_reducible refine Kd.C_drew ?_)))
                            (case side2 => exact (Kd.R_reads' HO274.out).2.1)
                            rintro e w61 ⟨v298, rfl, ho0, hb⟩
                            refine ⟨_, rfl, ?_⟩
                            have n0_ := Aside0.mk (Kd.R_elder' (by (with_reducible repeat (first | apply Kd.R_alloc | apply Kd.R_drewN | apply Kd.R_drew)); exact HO257.out) (Kd.R_base ho0) hb)
                            have n1_ := Aside0.mk (Kd.R_elder' (by (with_reducible repeat (first | apply Kd.R_alloc | apply Kd.R_drewN | apply Kd.R_drew)); exact HO274.out) (Kd.R_base ho0) hb)
                            have n2_ := Aside0.mk (Kd.R_elder' (by (with_reducible repeat (first | apply Kd.R_alloc | apply Kd.R_drewN | apply Kd.R_drew)); exact HO288.out) (Kd.R_base ho0) hb)
                            have n3_ := Aside0.mk (Kd.R_lower (Kd.R_new' (Kd.R_new' (Kd.R_new' ho0 (Kd.R_lt (by (with_reducible repeat (first | apply Kd.R_alloc | apply Kd.R_drewN | apply Kd.R_drew)); exact HO257.out))) (Kd.R_lt (by (with_reducible repeat (first | apply Kd.R_alloc | apply Kd.R_drewN | apply Kd.R_drew)); exact HO274.out))) (Kd.R_lt (by (with_reducible repeat (first | apply Kd.R_alloc | apply Kd.R_drewN | apply Kd.R_drew)); exact HO288.out))) (below_size (by repeat (first | (with_reducible first | exact HB.out | apply below_alloc | apply pw_below_drewN | apply below_drew1 | refine below_set ?_ GE259.out | refine below_set ?_ GE290.out | refine below_set ?_ GE301.out) | exact HB.out))))
                            have n4_ := Aside0.mk (blk_below (g := gb259) (o := .cells #[.slice Ao40 t272.length co40] 24 (0, 0)) (by (with_reducible repeat (first | refine blk_drewN ?_ _ | refine blk_drew ?_ | refine blk_alloc ?_ _)); exact BK259.out) hb)
                            have n5_ := Aside0.mk (blk_below (g := gb290) (o := .cells #[.slice Ao55 t286.length co55] 24 (0, 0)) (by (with_reducible repeat (first | refine blk_drewN ?_ _ | refine blk_drew ?_ | refine blk_alloc ?_ _)); exact BK290.out) hb)
                            have n6_ := Aside0.mk (blk_below (g := gb301) (o := .cells #[.slice none 0 0] 24 (0, 0)) (by (with_reducible repeat (first | refine blk_drewN ?_ _ | refine blk_drew ?_ | refine blk_alloc ?_ _)); exact BK301.out) hb)
                            have n7_ := Aside0.mk (below_step (by repeat (first | (with_reducible first | exact HB.out | apply below_alloc | apply pw_below_drewN | apply below_drew1 | refine below_set ?_ GE259.out | refine below_set ?_ GE290.out | refine below_set ?_ GE301.out) | exact HB.out)) hb)
                            clear HO257
                            clear HO274
                            clear HO288
                            clear BK259
                            clear BK290
                            clear BK301
                            clear HB
                            have HO257 := n0_
                            have HO274 := n1_
                            have HO288 := n2_
                            have HO299 := n3_
                            have BK259 := n4_
                            have BK290 := n5_
                            have BK301 := n6_
                            have HB := n7_
                            clear n0_ n1_ n2_ n3_ n4_ n5_ n6_ n7_
                            (try clear hb)
                            (try clear hb2)
                            (try clear hk)
                            (try clear hi)
                            (try clear ho0)
                            refine hK.out _ _ ((blk_cell BK259.out 0).trans rfl) (fun hHeld => ?_)
                            clear hK K
                            refine norm_ (a' := ?_) ?_ ?_
                            rotate_left
                            · show Act.put _ (some 64) _ = _
                              simp only [Act.put, List.setIfInBounds_toArray, List.set_cons_zero, List.set_cons_succ, i64_w, i32_w]
                              rfl
                            refine pure_ (i := 3) (N := some 61) (v := ?_) (a' := ?_) #[true, true, true, true, false, false, true, false, false] rfl rfl (any_of HT_.out (by kernel_rfl)) (fun _ _ _ h => h) (Or.inl ⟨by rfl, ?_⟩) ?_ ?_
                            rotate_left
                            · intro w'
                              go_simp
                              with_reducible rfl
                            rotate_left
                            · simp only [Act.put, List.setIfInBounds_toArray, List.set_cons_zero, List.set_cons_succ, i64_w, i32_w]
                              rfl
                            refine pure_ (i := 4) (N := some 65) (v := ?_) (a' := ?_) #[true, true, true, true, true, false, true, false, false] rfl rfl (any_of HT_.out (by kernel_rfl)) (fun _ _ _ h => h) (Or.inl ⟨by rfl, ?_⟩) ?_ ?_
                            rotate_left
                            · intro w'
                              go_simp
                              with_reducible rfl
                            rotate_left
                            · simp only [Act.put, List.setIfInBounds_toArray, List.set_cons_zero, List.set_cons_succ, i64_w, i32_w]
                              rfl
                            refine pure_ (i := 5) (N := some 66) (v := ?_) (a' := ?_) #[true, true, true, true, true, true, true, false, false] rfl rfl (any_of HT_.out (by kernel_rfl)) (fun _ _ _ h => h) (Or.inl ⟨by rfl, ?_⟩) ?_ ?_
                            rotate_left
                            · intro w'
                              go_simp
                              with_reducible rfl
                            rotate_left
                            · simp only [Act.put, List.setIfInBounds_toArray, List.set_cons_zero, List.set_cons_succ, i64_w, i32_w]
                              rfl
                            exact norm_ (by simp only [putAll, Act.put, List.setIfInBounds_toArray, List.set_cons_zero, List.set_cons_succ]) (hCont (v298, gb301) _ ⟨hHeld, (by (with_reducible repeat (first | apply Kd.R_alloc | apply Kd.R_drewN | apply Kd.R_drew)); exact Kd.R_mono HO257.out (fun _ hk => ⟨hk.1.1, ⟨hk.1.2, hk.2⟩⟩)), (by (with_reducible repeat (first | apply Kd.R_alloc | apply Kd.R_drewN | apply Kd.R_drew)); exact Kd.R_mono HO274.out (fun _ hk => ⟨hk.1.1, ⟨hk.1.2, hk.2⟩⟩)), (by (with_reducible repeat (first | apply Kd.R_alloc | apply Kd.R_drewN | apply Kd.R_drew)); exact Kd.R_mono HO288.out (fun _ hk => ⟨hk.1.1, ⟨hk.1.2, hk.2⟩⟩)), (by (with_reducible repeat (first | apply Kd.R_alloc | apply Kd.R_drewN | apply Kd.R_drew)); exact Kd.R_mono HO299.out (fun _ hk => ⟨hk.1.1.2, ⟨hk.1.2, hk.2⟩⟩)), (by (with_reducible repeat (first | refine blk_drewN ?_ _ | refine blk_drew ?_ | refine blk_alloc ?_ _)); exact BK259.out), (by (with_reducible repeat (first | refine blk_drewN ?_ _ | refine blk_drew ?_ | refine blk_alloc ?_ _)); exact BK290.out), (by (with_reducible repeat (first | refine blk_drewN ?_ _ | refine blk_drew ?_ | refine blk_alloc ?_ _)); exact BK301.out), GW301.out, GE301.out, NB259_301.out, NB301_259.out, NB290_301.out, NB301_290.out, (by repeat (first | (with_reducible first | exact HB.out | apply below_alloc | apply pw_below_drewN | apply below_drew1 | refine below_set ?_ GE259.out | refine below_set ?_ GE290.out | refine below_set ?_ GE301.out) | exact HB.out))⟩)
                        rintro ⟨v298, gb301⟩ w62 ⟨hS_, h0_, h1_, h2_, h3_, h4_, h5_, h6_, h7_, h8_, h9_, h10_, h11_, h12_, h13_⟩
                        have n0_ : Aside0 (Kd.R k26 26 w62 w.heap.size (fun k_ => some k_ ≠ (.slice Ao40 t272.length co40 : Value).ownBlock ∧ some k_ ≠ (.slice Ao55 t286.length co55 : Value).ownBlock ∧ some k_ ≠ (v298 : Value).ownBlock) (.slice Ao33 t255.length co33) t255) := ⟨h0_⟩
                        have n1_ : Aside0 (Kd.R k26 26 w62 w.heap.size (fun k_ => some k_ ≠ (.slice Ao33 t255.length co33 : Value).ownBlock ∧ some k_ ≠ (.slice Ao55 t286.length co55 : Value).ownBlock ∧ some k_ ≠ (v298 : Value).ownBlock) (.slice Ao40 t272.length co40) t272) := ⟨h1_⟩
                        have n2_ : Aside0 (Kd.R k26 26 w62 w.heap.size (fun k_ => some k_ ≠ (.slice Ao33 t255.length co33 : Value).ownBlock ∧ some k_ ≠ (.slice Ao40 t272.length co40 : Value).ownBlock ∧ some k_ ≠ (v298 : Value).ownBlock) (.slice Ao55 t286.length co55) t286) := ⟨h2_⟩
                        have n3_ : Aside0 (Kd.R k26 26 w62 w.heap.size (fun k_ => some k_ ≠ (.slice Ao33 t255.length co33 : Value).ownBlock ∧ some k_ ≠ (.slice Ao40 t272.length co40 : Value).ownBlock ∧ some k_ ≠ (.slice Ao55 t286.length co55 : Value).ownBlock) v298 t297) := ⟨h3_⟩
                        have n4_ : Aside0 (w62.heap[gb259]? = some (.cells #[.slice Ao40 t272.length co40] 24 (0, 0))) := ⟨h4_⟩
                        have n5_ : Aside0 (w62.heap[gb290]? = some (.cells #[.slice Ao55 t286.length co55] 24 (0, 0))) := ⟨h5_⟩
                        have n6_ : Aside0 (w62.heap[gb301]? = some (.cells #[.slice none 0 0] 24 (0, 0))) := ⟨h6_⟩
                        have n7_ : Aside0 (w.heap.size ≤ gb301) := ⟨h7_⟩
                        have n8_ : Aside0 (w.heap.size ≤ gb301) := ⟨h8_⟩
                        have n9_ : Aside0 (gb259 ≠ gb301) := ⟨h9_⟩
                        have n10_ : Aside0 (gb301 ≠ gb259) := ⟨h10_⟩
                        have n11_ : Aside0 (gb290 ≠ gb301) := ⟨h11_⟩
                        have n12_ : Aside0 (gb301 ≠ gb290) := ⟨h12_⟩
                        have n13_ : Aside0 (Below w.heap.size w w62) := ⟨h13_⟩
                        clear HO257
                        clear HO274
                        clear HO288
                        clear BK259
                        clear BK290
                        clear HB
                        clear h0_ h1_ h2_ h3_ h4_ h5_ h6_ h7_ h8_ h9_ h10_ h11_ h12_ h13_
                        have HO257 := n0_
                        have HO274 := n1_
                        have HO288 := n2_
                        have HO299 := n3_
                        have BK259 := n4_
                        have BK290 := n5_
                        have BK301 := n6_
                        have GW301 := n7_
                        have GE301 := n8_
                        have NB259_301 := n9_
                        have NB301_259 := n10_
                        have NB290_301 := n11_
                        have NB301_290 := n12_
                        have HB := n13_
                        clear n0_ n1_ n2_ n3_ n4_ n5_ n6_ n7_ n8_ n9_ n10_ n11_ n12_ n13_
                        have hHeld : w62.cell? ⟨gb259, 0, none⟩ = some (.slice Ao40 t272.length co40) := hS_
                        obtain ⟨Ao63, co63, eo63⟩ := Kd.R_slice HO299.out
                        (first | subst eo63 | (injection eo63 with f1_ f2_ f3_; have f4_ := f1_.symm; have f5_ := f3_.symm; clear f1_ f2_ f3_; subst f4_; subst f5_))
                        refine norm_ (a' := ?_) ?_ ?_
                        rotate_left
                        · simp only [putAll, Act.put, List.setIfInBounds_toArray, List.set_cons_zero, List.set_cons_succ]
                          rfl
                        refine one_ (i := 7) (N := none) #[true, true, true, true, true, true, true, true, false] rfl rfl (one_of HT_.out (by kernel_rfl)) (by decide) (fun K hK => ?_)
                        have hs64 : w62.cell? ⟨gb301, 0, none⟩ = some (.slice none 0 0) := (blk_cell BK301.out 0).trans rfl
                        have hfs64 := blk_frozen BK301.out 0
                        have hns64_0 := NB259_301.out
                        have hns64_1 := NB290_301.out
                        have hms64_0 := NB301_259.out
                        have hms64_1 := NB301_290.out
                        refine skip_ (w1 := ?_) (by rfl) rfl ?_ ?_
                        rotate_left
                        · go_simp
                          rfl
                        refine hK.out _ _ (((cell_far (p := ⟨gb301, _, none⟩) NB259_301.out _).trans (hHeld))) (fun hHeld => ?_)
                        clear hK K
                        refine pure_ (i := 8) (N := some 8) (v := ?_) (a' := ?_) #[true, true, true, true, true, true, true, true, true] rfl rfl (any_of HT_.out (by kernel_rfl)) (fun _ _ _ h => h) (Or.inl ⟨by rfl, ?_⟩) ?_ ?_
                        rotate_left
                        · intro w'
                          go_simp
                          with_reducible rfl
                        rotate_left
                        · simp only [Act.put, List.setIfInBounds_toArray, List.set_cons_zero, List.set_cons_succ, i64_w, i32_w]
                          rfl
                        refine done_ (done_of HT_.out (by kernel_rfl)) ?_
                        try go_wp2
                        have n0_ : Aside0 (Kd.R k26 26 (w62.setCell ⟨gb301, 0, none⟩ (.slice Ao63 t297.length co63)) w.heap.size (fun k_ => some k_ ≠ (.slice Ao40 t272.length co40 : Value).ownBlock ∧ some k_ ≠ (.slice Ao55 t286.length co55 : Value).ownBlock ∧ some k_ ≠ (.slice Ao63 t297.length co63 : Value).ownBlock) (.slice Ao33 t255.length co33) t255) := ⟨by (with_reducible repeat (first | apply Kd.R_alloc | apply Kd.R_drewN | apply Kd.R_drew)); exact Kd.R_mono (Kd.R_far (p := ⟨gb301, 0, none⟩) (Kd.R_types HO257.out BK301.out (by decide)) (fun _ hk => hk.2) (.slice Ao63 t297.length co63)) (fun _ hk => ⟨hk.1.1, ⟨hk.1.2.1, hk.1.2.2⟩⟩)⟩
                        have n1_ : Aside0 (Kd.R k26 26 (w62.setCell ⟨gb301, 0, none⟩ (.slice Ao63 t297.length co63)) w.heap.size (fun k_ => some k_ ≠ (.slice Ao33 t255.length co33 : Value).ownBlock ∧ some k_ ≠ (.slice Ao55 t286.length co55 : Value).ownBlock ∧ some k_ ≠ (.slice Ao63 t297.length co63 : Value).ownBlock) (.slice Ao40 t272.length co40) t272) := ⟨by (with_reducible repeat (first | apply Kd.R_alloc | apply Kd.R_drewN | apply Kd.R_drew)); exact Kd.R_mono (Kd.R_far (p := ⟨gb301, 0, none⟩) (Kd.R_types HO274.out BK301.out (by decide)) (fun _ hk => hk.2) (.slice Ao63 t297.length co63)) (fun _ hk => ⟨hk.1.1, ⟨hk.1.2.1, hk.1.2.2⟩⟩)⟩
                        have n2_ : Aside0 (Kd.R k26 26 (w62.setCell ⟨gb301, 0, none⟩ (.slice Ao63 t297.length co63)) w.heap.size (fun k_ => some k_ ≠ (.slice Ao33 t255.length co33 : Value).ownBlock ∧ some k_ ≠ (.slice Ao40 t272.length co40 : Value).ownBlock ∧ some k_ ≠ (.slice Ao63 t297.length co63 : Value).ownBlock) (.slice Ao55 t286.length co55) t286) := ⟨by (with_reducible repeat (first | apply Kd.R_alloc | apply Kd.R_drewN | apply Kd.R_drew)); exact Kd.R_mono (Kd.R_far (p := ⟨gb301, 0, none⟩) (Kd.R_types HO288.out BK301.out (by decide)) (fun _ hk => hk.2) (.slice Ao63 t297.length co63)) (fun _ hk => ⟨hk.1.1, ⟨hk.1.2.1, hk.1.2.2⟩⟩)⟩
                        have n3_ : Aside0 (Kd.R k26 26 (w62.setCell ⟨gb301, 0, none⟩ (.slice Ao63 t297.length co63)) w.heap.size (fun k_ => some k_ ≠ (.slice Ao33 t255.length co33 : Value).ownBlock ∧ some k_ ≠ (.slice Ao40 t272.length co40 : Value).ownBlock ∧ some k_ ≠ (.slice Ao55 t286.length co55 : Value).ownBlock) (.slice Ao63 t297.length co63) t297) := ⟨by (with_reducible repeat (first | apply Kd.R_alloc | apply Kd.R_drewN | apply Kd.R_drew)); exact Kd.R_mono (Kd.R_far (p := ⟨gb301, 0, none⟩) (Kd.R_types HO299.out BK301.out (by decide)) (fun _ hk => hk.2) (.slice Ao63 t297.length co63)) (fun _ hk => ⟨hk.1.1, ⟨hk.1.2.1, hk.1.2.2⟩⟩)⟩
                        have n4_ : Aside0 ((w62.setCell ⟨gb301, 0, none⟩ (.slice Ao63 t297.length co63)).heap[gb259]? = some (.cells #[.slice Ao40 t272.length co40] 24 (0, 0))) := ⟨by (with_reducible repeat (first | refine blk_drewN ?_ _ | refine blk_drew ?_ | refine blk_alloc ?_ _)); refine blk_far ?_ NB259_301.out _; (with_reducible repeat (first | refine blk_drewN ?_ _ | refine blk_drew ?_ | refine blk_alloc ?_ _)); exact BK259.out⟩
                        have n5_ : Aside0 ((w62.setCell ⟨gb301, 0, none⟩ (.slice Ao63 t297.length co63)).heap[gb290]? = some (.cells #[.slice Ao55 t286.length co55] 24 (0, 0))) := ⟨by (with_reducible repeat (first | refine blk_drewN ?_ _ | refine blk_drew ?_ | refine blk_alloc ?_ _)); refine blk_far ?_ NB290_301.out _; (with_reducible repeat (first | refine blk_drewN ?_ _ | refine blk_drew ?_ | refine blk_alloc ?_ _)); exact BK290.out⟩
                        have n6_ : Aside0 ((w62.setCell ⟨gb301, 0, none⟩ (.slice Ao63 t297.length co63)).heap[gb301]? = some (.cells #[.slice Ao63 t297.length co63] 24 (0, 0))) := ⟨by (with_reducible repeat (first | refine blk_drewN ?_ _ | refine blk_drew ?_ | refine blk_alloc ?_ _)); refine blk_put (cs := #[.slice none 0 0]) ?_ 0 _ rfl; (with_reducible repeat (first | refine blk_drewN ?_ _ | refine blk_drew ?_ | refine blk_alloc ?_ _)); exact BK301.out⟩
                        have n7_ : Aside0 (Below w.heap.size w (w62.setCell ⟨gb301, 0, none⟩ (.slice Ao63 t297.length co63))) := ⟨by repeat (first | (with_reducible first | exact HB.out | apply below_alloc | apply pw_below_drewN | apply below_drew1 | refine below_set ?_ GE259.out | refine below_set ?_ GE290.out | refine below_set ?_ GE301.out) | exact HB.out)⟩
                        (try clear HO257)
                        (try clear HO274)
                        (try clear HO288)
                        (try clear HO299)
                        (try clear BK259)
                        (try clear BK290)
                        (try clear BK301)
                        (try clear HB)
                        generalize (w62.setCell ⟨gb301, 0, none⟩ (.slice Ao63 t297.length co63)) = w65 at n0_ n1_ n2_ n3_ n4_ n5_ n6_ n7_ ⊢
                        have HO257 := n0_
                        have HO274 := n1_
                        have HO288 := n2_
                        have HO299 := n3_
                        have BK259 := n4_
                        have BK290 := n5_
                        have BK301 := n6_
                        have HB := n7_
                        clear n0_ n1_ n2_ n3_ n4_ n5_ n6_ n7_
                        have n0_ := Aside0.mk (Kd.R_drew HO257.out)
                        have n1_ := Aside0.mk (Kd.R_drew HO274.out)
                        have n2_ := Aside0.mk (Kd.R_drew HO288.out)
                        have n3_ := Aside0.mk (Kd.R_drew HO299.out)
                        have n4_ := Aside0.mk (blk_drew BK259.out)
                        have n5_ := Aside0.mk (blk_drew BK290.out)
                        have n6_ := Aside0.mk (blk_drew BK301.out)
                        have n7_ := Aside0.mk (below_drew1 HB.out)
                        clear HO257
                        clear HO274
                        clear HO288
                        clear HO299
                        clear BK259
                        clear BK290
                        clear BK301
                        clear HB
                        have HO257 := n0_
                        have HO274 := n1_
                        have HO288 := n2_
                        have HO299 := n3_
                        have BK259 := n4_
                        have BK290 := n5_
                        have BK301 := n6_
                        have HB := n7_
                        clear n0_ n1_ n2_ n3_ n4_ n5_ n6_ n7_
                        refine start_ (n := 9) (S := fun w' => w'.cell? ⟨gb259, 0, none⟩ = some (.slice Ao40 t272.length co40)) (ds := []) #[false, false, false, false, false, false, false, false, false] (by kernel_rfl) rfl rfl ((blk_cell BK259.out 0).trans rfl) (fun hHeld => ?_); refine with_tabW wageofficelaw39_head.tab6 wageofficelaw39_head.bits6 (fun HT_ HW_ => ?_)
                        generalize w65.drew = w66 at HO257 HO274 HO288 HO299 BK259 BK290 BK301 HB hHeld ⊢
                        refine take_ (i := 0) (N := some 68) (v := ?_) (a' := ?_) #[true, false, false, false, false, false, false, false, false] rfl rfl (take_ofW HT_.out HW_.out (by kernel_rfl)) (fun _ _ _ h => h) (Or.inl ⟨by rfl, ?_⟩) hHeld ?_ ?_
                        rotate_left
                        · intro w' s0
                          go_simp
                          with_reducible rfl
                        rotate_left
                        · simp only [Act.put, List.setIfInBounds_toArray, List.set_cons_zero, List.set_cons_succ, i64_w, i32_w]
                          rfl
                        refine join_ (σ := Value × Nat) 2 #[true, true, true, true, true, true, true, false, false] (fun s_ => [(69, .agg #[.int .i64 t302, .string t303, .string t304, .int .i64 t305, .int .i64 t306, .int .i64 t307]), (70, .tuple #[.agg #[s_.1], .int .i64 t311]), (9, .pointer (some ⟨s_.2, 0, none⟩)), (67, .tuple #[.agg #[s_.1], .int .i64 t311]), (71, .agg #[s_.1]), (72, .int .i64 t311)]) (fun s_ w' => (w'.cell? ⟨gb259, 0, none⟩ = some (.slice Ao40 t272.length co40)) ∧ (Kd.R k26 26 w' w.heap.size (fun k_ => some k_ ≠ (.slice Ao40 t272.length co40 : Value).ownBlock ∧ some k_ ≠ (.slice Ao55 t286.length co55 : Value).ownBlock ∧ some k_ ≠ (.slice Ao63 t297.length co63 : Value).ownBlock ∧ some k_ ≠ (s_.1 : Value).ownBlock) (.slice Ao33 t255.length co33) t255) ∧ (Kd.R k26 26 w' w.heap.size (fun k_ => some k_ ≠ (.slice Ao33 t255.length co33 : Value).ownBlock ∧ some k_ ≠ (.slice Ao55 t286.length co55 : Value).ownBlock ∧ some k_ ≠ (.slice Ao63 t297.length co63 : Value).ownBlock ∧ some k_ ≠ (s_.1 : Value).ownBlock) (.slice Ao40 t272.length co40) t272) ∧ (Kd.R k26 26 w' w.heap.size (fun k_ => some k_ ≠ (.slice Ao33 t255.length co33 : Value).ownBlock ∧ some k_ ≠ (.slice Ao40 t272.length co40 : Value).ownBlock ∧ some k_ ≠ (.slice Ao63 t297.length co63 : Value).ownBlock ∧ some k_ ≠ (s_.1 : Value).ownBlock) (.slice Ao55 t286.length co55) t286) ∧ (Kd.R k26 26 w' w.heap.size (fun k_ => some k_ ≠ (.slice Ao33 t255.length co33 : Value).ownBlock ∧ some k_ ≠ (.slice Ao40 t272.length co40 : Value).ownBlock ∧ some k_ ≠ (.slice Ao55 t286.length co55 : Value).ownBlock ∧ some k_ ≠ (s_.1 : Value).ownBlock) (.slice Ao63 t297.length co63) t297) ∧ (Kd.R k26 26 w' w.heap.size (fun k_ => some k_ ≠ (.slice Ao33 t255.length co33 : Value).ownBlock ∧ some k_ ≠ (.slice Ao40 t272.length co40 : Value).ownBlock ∧ some k_ ≠ (.slice Ao55 t286.length co55 : Value).ownBlock ∧ some k_ ≠ (.slice Ao63 t297.length co63 : Value).ownBlock) s_.1 t308) ∧ (w'.heap[gb259]? = some (.cells #[.slice Ao40 t272.length co40] 24 (0, 0))) ∧ (w'.heap[gb290]? = some (.cells #[.slice Ao55 t286.length co55] 24 (0, 0))) ∧ (w'.heap[gb301]? = some (.cells #[.slice Ao63 t297.length co63] 24 (0, 0))) ∧ (w'.heap[s_.2]? = some (.cells #[.slice none 0 0] 24 (0, 0))) ∧ (w.heap.size ≤ s_.2) ∧ (w.heap.size ≤ s_.2) ∧ (gb259 ≠ s_.2) ∧ (s_.2 ≠ gb259) ∧ (gb290 ≠ s_.2) ∧ (s_.2 ≠ gb290) ∧ (gb301 ≠ s_.2) ∧ (s_.2 ≠ gb301) ∧ (Below w.heap.size w w')) ?_ ?_
                        rotate_left
                        · intro hCont
                          refine two_ (i := 1) (j := 6) (Ni := some 69) (Nj := some 9) #[true, true, false, false, false, false, false, false, false] #[true, false, false, false, false, false, true, false, false] rfl rfl rfl rfl (two_of HT_.out (by kernel_rfl)) (by decide) (by decide) (fun K hK => ?_) (fun K hK => ?_)
                          · skip
                            refine goes_ Try.func46 (by kernel_rfl) rfl #[.int .i64 3, .int .i64 90, .int .i64 19] (by rfl) rfl rfl (by (try simp only [List.map_toArray, List.map_cons, List.map_nil]); first | done | rfl | (simp only [List.length_drop, List.length_take]; rfl)) ?_
                            with_reducible refine (wageofficelaw39_entry.calls 3 90 19 t302 t303 t304 t305 t306 t307 _ A20.out).mono ?_
                            rintro e w67 ⟨rfl, hb⟩
                            refine ⟨_, rfl, ?_⟩
                            have n0_ := Aside0.mk (Kd.R_below (by (with_reducible repeat (first | apply Kd.R_alloc | apply Kd.R_drewN | apply Kd.R_drew)); exact HO257.out) hb)
                            have n1_ := Aside0.mk (Kd.R_below (by (with_reducible repeat (first | apply Kd.R_alloc | apply Kd.R_drewN | apply Kd.R_drew)); exact HO274.out) hb)
                            have n2_ := Aside0.mk (Kd.R_below (by (with_reducible repeat (first | apply Kd.R_alloc | apply Kd.R_drewN | apply Kd.R_drew)); exact HO288.out) hb)
                            have n3_ := Aside0.mk (Kd.R_below (by (with_reducible repeat (first | apply Kd.R_alloc | apply Kd.R_drewN | apply Kd.R_drew)); exact HO299.out) hb)
                            have n4_ := Aside0.mk (blk_below (g := gb259) (o := .cells #[.slice Ao40 t272.length co40] 24 (0, 0)) (by (with_reducible repeat (first | refine blk_drewN ?_ _ | refine blk_drew ?_ | refine blk_alloc ?_ _)); exact BK259.out) hb)
                            have n5_ := Aside0.mk (blk_below (g := gb290) (o := .cells #[.slice Ao55 t286.length co55] 24 (0, 0)) (by (with_reducible repeat (first | refine blk_drewN ?_ _ | refine blk_drew ?_ | refine blk_alloc ?_ _)); exact BK290.out) hb)
                            have n6_ := Aside0.mk (blk_below (g := gb301) (o := .cells #[.slice Ao63 t297.length co63] 24 (0, 0)) (by (with_reducible repeat (first | refine blk_drewN ?_ _ | refine blk_drew ?_ | refine blk_alloc ?_ _)); exact BK301.out) hb)
                            have n7_ := Aside0.mk (below_step (by repeat (first | (with_reducible first | exact HB.out | apply below_alloc | apply pw_below_drewN | apply below_drew1 | refine below_set ?_ GE259.out | refine below_set ?_ GE290.out | refine below_set ?_ GE301.out) | exact HB.out)) hb)
                            clear HO257
                            clear HO274
                            clear HO288
                            clear HO299
                            clear BK259
                            clear BK290
                            clear BK301
                            clear HB
                            have HO257 := n0_
                            have HO274 := n1_
                            have HO288 := n2_
                            have HO299 := n3_
                            have BK259 := n4_
                            have BK290 := n5_
                            have BK301 := n6_
                            have HB := n7_
                            clear n0_ n1_ n2_ n3_ n4_ n5_ n6_ n7_
                            (try clear hb)
                            (try clear hb2)
                            (try clear hk)
                            (try clear hi)
                            refine hK.out _ _ ((blk_cell BK259.out 0).trans rfl) (fun hHeld => ?_)
                            clear hK K
                            refine norm_ (a' := ?_) ?_ ?_
                            rotate_left
                            · show Act.put _ (some 69) _ = _
                              simp only [Act.put, List.setIfInBounds_toArray, List.set_cons_zero, List.set_cons_succ, i64_w, i32_w]
                              rfl
                            refine two_ (i := 2) (j := 6) (Ni := some 70) (Nj := some 9) #[true, true, true, false, false, false, false, false, false] #[true, true, false, false, false, false, true, false, false] rfl rfl rfl rfl (two_of HT_.out (by kernel_rfl)) (by decide) (by decide) (fun K hK => ?_) (fun K hK => ?_)
                            · skip
                              refine goes_ Try.func19 (by kernel_rfl) rfl #[.agg #[.slice Ao40 t272.length co40], .agg #[.int .i64 t302, .string t303, .string t304, .int .i64 t305, .int .i64 t306, .int .i64 t307]] (by rfl) rfl rfl (by (try simp only [List.map_toArray, List.map_cons, List.map_nil]); first | done | rfl | (simp only [List.length_drop, List.length_take]; rfl)) ?_
                              with_reducible refine (ledger_Post.calls _ _ t272 t302 t303 t304 t305 t306 t307 t308 t311 _ ?side1 ?side2 A21.out).mono ?_
                              (case side1 => repeat (first | exact (Kd.R_reads' HO274.out).2.2 | (with_reducible refine Kd.C_alloc ?_ _) | (with_reducible refine Kd.C_drewN ?_ _) | (with_reducible refine Kd.C_drew ?_)))
                              (case side2 => exact (Kd.R_reads' HO274.out).2.1)
                              rintro e w68 ⟨v309, rfl, ho0, hb⟩
                              refine ⟨_, rfl, ?_⟩
                              have n0_ := Aside0.mk (Kd.R_elder' (by (with_reducible repeat (first | apply Kd.R_alloc | apply Kd.R_drewN | apply Kd.R_drew)); exact HO257.out) (Kd.R_base ho0) hb)
                              have n1_ := Aside0.mk (Kd.R_elder' (by (with_reducible repeat (first | apply Kd.R_alloc | apply Kd.R_drewN | apply Kd.R_drew)); exact HO274.out) (Kd.R_base ho0) hb)
                              have n2_ := Aside0.mk (Kd.R_elder' (by (with_reducible repeat (first | apply Kd.R_alloc | apply Kd.R_drewN | apply Kd.R_drew)); exact HO288.out) (Kd.R_base ho0) hb)
                              have n3_ := Aside0.mk (Kd.R_elder' (by (with_reducible repeat (first | apply Kd.R_alloc | apply Kd.R_drewN | apply Kd.R_drew)); exact HO299.out) (Kd.R_base ho0) hb)
                              have n4_ := Aside0.mk (Kd.R_lower (Kd.R_new' (Kd.R_new' (Kd.R_new' (Kd.R_new' ho0 (Kd.R_lt (by (with_reducible repeat (first | apply Kd.R_alloc | apply Kd.R_drewN | apply Kd.R_drew)); exact HO257.out))) (Kd.R_lt (by (with_reducible repeat (first | apply Kd.R_alloc | apply Kd.R_drewN | apply Kd.R_drew)); exact HO274.out))) (Kd.R_lt (by (with_reducible repeat (first | apply Kd.R_alloc | apply Kd.R_drewN | apply Kd.R_drew)); exact HO288.out))) (Kd.R_lt (by (with_reducible repeat (first | apply Kd.R_alloc | apply Kd.R_drewN | apply Kd.R_drew)); exact HO299.out))) (below_size (by repeat (first | (with_reducible first | exact HB.out | apply below_alloc | apply pw_below_drewN | apply below_drew1 | refine below_set ?_ GE259.out | refine below_set ?_ GE290.out | refine below_set ?_ GE301.out) | exact HB.out))))
                              have n5_ := Aside0.mk (blk_below (g := gb259) (o := .cells #[.slice Ao40 t272.length co40] 24 (0, 0)) (by (with_reducible repeat (first | refine blk_drewN ?_ _ | refine blk_drew ?_ | refine blk_alloc ?_ _)); exact BK259.out) hb)
                              have n6_ := Aside0.mk (blk_below (g := gb290) (o := .cells #[.slice Ao55 t286.length co55] 24 (0, 0)) (by (with_reducible repeat (first | refine blk_drewN ?_ _ | refine blk_drew ?_ | refine blk_alloc ?_ _)); exact BK290.out) hb)
                              have n7_ := Aside0.mk (blk_below (g := gb301) (o := .cells #[.slice Ao63 t297.length co63] 24 (0, 0)) (by (with_reducible repeat (first | refine blk_drewN ?_ _ | refine blk_drew ?_ | refine blk_alloc ?_ _)); exact BK301.out) hb)
                              have n8_ := Aside0.mk (below_step (by repeat (first | (with_reducible first | exact HB.out | apply below_alloc | apply pw_below_drewN | apply below_drew1 | refine below_set ?_ GE259.out | refine below_set ?_ GE290.out | refine below_set ?_ GE301.out) | exact HB.out)) hb)
                              clear HO257
                              clear HO274
                              clear HO288
                              clear HO299
                              clear BK259
                              clear BK290
                              clear BK301
                              clear HB
                              have HO257 := n0_
                              have HO274 := n1_
                              have HO288 := n2_
                              have HO299 := n3_
                              have HO310 := n4_
                              have BK259 := n5_
                              have BK290 := n6_
                              have BK301 := n7_
                              have HB := n8_
                              clear n0_ n1_ n2_ n3_ n4_ n5_ n6_ n7_ n8_
                              (try clear hb)
                              (try clear hb2)
                              (try clear hk)
                              (try clear hi)
                              (try clear ho0)
                              refine hK.out _ _ ((blk_cell BK259.out 0).trans rfl) (fun hHeld => ?_)
                              clear hK K
                              refine norm_ (a' := ?_) ?_ ?_
                              rotate_left
                              · show Act.put _ (some 70) _ = _
                                simp only [Act.put, List.setIfInBounds_toArray, List.set_cons_zero, List.set_cons_succ, i64_w, i32_w]
                                rfl
                              refine pure_ (i := 3) (N := some 67) (v := ?_) (a' := ?_) #[true, true, true, true, false, false, false, false, false] rfl rfl (any_of HT_.out (by kernel_rfl)) (fun _ _ _ h => h) (Or.inl ⟨by rfl, ?_⟩) ?_ ?_
                              rotate_left
                              · intro w'
                                go_simp
                                with_reducible rfl
                              rotate_left
                              · simp only [Act.put, List.setIfInBounds_toArray, List.set_cons_zero, List.set_cons_succ, i64_w, i32_w]
                                rfl
                              refine pure_ (i := 4) (N := some 71) (v := ?_) (a' := ?_) #[true, true, true, true, true, false, false, false, false] rfl rfl (any_of HT_.out (by kernel_rfl)) (fun _ _ _ h => h) (Or.inl ⟨by rfl, ?_⟩) ?_ ?_
                              rotate_left
                              · intro w'
                                go_simp
                                with_reducible rfl
                              rotate_left
                              · simp only [Act.put, List.setIfInBounds_toArray, List.set_cons_zero, List.set_cons_succ, i64_w, i32_w]
                                rfl
                              refine pure_ (i := 5) (N := some 72) (v := ?_) (a' := ?_) #[true, true, true, true, true, true, false, false, false] rfl rfl (any_of HT_.out (by kernel_rfl)) (fun _ _ _ h => h) (Or.inl ⟨by rfl, ?_⟩) ?_ ?_
                              rotate_left
                              · intro w'
                                go_simp
                                with_reducible rfl
                              rotate_left
                              · simp only [Act.put, List.setIfInBounds_toArray, List.set_cons_zero, List.set_cons_succ, i64_w, i32_w]
                                rfl
                              refine one_ (i := 6) (N := some 9) #[true, true, true, true, true, true, true, false, false] rfl rfl (one_of HT_.out (by kernel_rfl)) (by decide) (fun K hK => ?_)
                              refine box_step ?hg (N := 9) ?hd (cs := #[.slice none 0 0]) (t := 24) ?hr ?_; (case hd => rfl); (case hg => rfl); (case hr => first | (go_simp; done) | (go_simp; rfl))
                              intro gb312 hg w69 hbox hb
                              have n0_ := Aside0.mk (Kd.R_below (by (with_reducible repeat (first | apply Kd.R_alloc | apply Kd.R_drewN | apply Kd.R_drew)); exact HO257.out) hb)
                              have n1_ := Aside0.mk (Kd.R_below (by (with_reducible repeat (first | apply Kd.R_alloc | apply Kd.R_drewN | apply Kd.R_drew)); exact HO274.out) hb)
                              have n2_ := Aside0.mk (Kd.R_below (by (with_reducible repeat (first | apply Kd.R_alloc | apply Kd.R_drewN | apply Kd.R_drew)); exact HO288.out) hb)
                              have n3_ := Aside0.mk (Kd.R_below (by (with_reducible repeat (first | apply Kd.R_alloc | apply Kd.R_drewN | apply Kd.R_drew)); exact HO299.out) hb)
                              have n4_ := Aside0.mk (Kd.R_below (by (with_reducible repeat (first | apply Kd.R_alloc | apply Kd.R_drewN | apply Kd.R_drew)); exact HO310.out) hb)
                              have n5_ := Aside0.mk (blk_below (g := gb259) (o := .cells #[.slice Ao40 t272.length co40] 24 (0, 0)) (by (with_reducible repeat (first | refine blk_drewN ?_ _ | refine blk_drew ?_ | refine blk_alloc ?_ _)); exact BK259.out) hb)
                              have n6_ := Aside0.mk (blk_below (g := gb290) (o := .cells #[.slice Ao55 t286.length co55] 24 (0, 0)) (by (with_reducible repeat (first | refine blk_drewN ?_ _ | refine blk_drew ?_ | refine blk_alloc ?_ _)); exact BK290.out) hb)
                              have n7_ := Aside0.mk (blk_below (g := gb301) (o := .cells #[.slice Ao63 t297.length co63] 24 (0, 0)) (by (with_reducible repeat (first | refine blk_drewN ?_ _ | refine blk_drew ?_ | refine blk_alloc ?_ _)); exact BK301.out) hb)
                              have n8_ := Aside0.mk (below_step (by repeat (first | (with_reducible first | exact HB.out | apply below_alloc | apply pw_below_drewN | apply below_drew1 | refine below_set ?_ GE259.out | refine below_set ?_ GE290.out | refine below_set ?_ GE301.out) | exact HB.out)) hb)
                              have n9_ := Aside0.mk (hbox)
                              have n10_ := Aside0.mk ((by rw [hg]; exact (below_size (by repeat (first | (with_reducible first | exact HB.out | apply below_alloc | apply pw_below_drewN | apply below_drew1 | refine below_set ?_ GE259.out | refine below_set ?_ GE290.out | refine below_set ?_ GE301.out) | exact HB.out))) : w.heap.size ≤ gb312))
                              have n11_ := Aside0.mk ((by rw [hg]; exact (below_size (by repeat (first | (with_reducible first | exact HB.out | apply below_alloc | apply pw_below_drewN | apply below_drew1 | refine below_set ?_ GE259.out | refine below_set ?_ GE290.out | refine below_set ?_ GE301.out) | exact HB.out))) : w.heap.size ≤ gb312))
                              have n12_ := Aside0.mk ((by rw [hg]; exact Nat.ne_of_lt (blk_lt (g := gb259) (o := .cells #[.slice Ao40 t272.length co40] 24 (0, 0)) (by (with_reducible repeat (first | refine blk_drewN ?_ _ | refine blk_drew ?_ | refine blk_alloc ?_ _)); exact BK259.out)) : gb259 ≠ gb312))
                              have n13_ := Aside0.mk ((by rw [hg]; exact Nat.ne_of_gt (blk_lt (g := gb259) (o := .cells #[.slice Ao40 t272.length co40] 24 (0, 0)) (by (with_reducible repeat (first | refine blk_drewN ?_ _ | refine blk_drew ?_ | refine blk_alloc ?_ _)); exact BK259.out)) : gb312 ≠ gb259))
                              have n14_ := Aside0.mk ((by rw [hg]; exact Nat.ne_of_lt (blk_lt (g := gb290) (o := .cells #[.slice Ao55 t286.length co55] 24 (0, 0)) (by (with_reducible repeat (first | refine blk_drewN ?_ _ | refine blk_drew ?_ | refine blk_alloc ?_ _)); exact BK290.out)) : gb290 ≠ gb312))
                              have n15_ := Aside0.mk ((by rw [hg]; exact Nat.ne_of_gt (blk_lt (g := gb290) (o := .cells #[.slice Ao55 t286.length co55] 24 (0, 0)) (by (with_reducible repeat (first | refine blk_drewN ?_ _ | refine blk_drew ?_ | refine blk_alloc ?_ _)); exact BK290.out)) : gb312 ≠ gb290))
                              have n16_ := Aside0.mk ((by rw [hg]; exact Nat.ne_of_lt (blk_lt (g := gb301) (o := .cells #[.slice Ao63 t297.length co63] 24 (0, 0)) (by (with_reducible repeat (first | refine blk_drewN ?_ _ | refine blk_drew ?_ | refine blk_alloc ?_ _)); exact BK301.out)) : gb301 ≠ gb312))
                              have n17_ := Aside0.mk ((by rw [hg]; exact Nat.ne_of_gt (blk_lt (g := gb301) (o := .cells #[.slice Ao63 t297.length co63] 24 (0, 0)) (by (with_reducible repeat (first | refine blk_drewN ?_ _ | refine blk_drew ?_ | refine blk_alloc ?_ _)); exact BK301.out)) : gb312 ≠ gb301))
                              clear HO257
                              clear HO274
                              clear HO288
                              clear HO299
                              clear HO310
                              clear BK259
                              clear BK290
                              clear BK301
                              clear HB
                              have HO257 := n0_
                              have HO274 := n1_
                              have HO288 := n2_
                              have HO299 := n3_
                              have HO310 := n4_
                              have BK259 := n5_
                              have BK290 := n6_
                              have BK301 := n7_
                              have HB := n8_
                              have BK312 := n9_
                              have GW312 := n10_
                              have GE312 := n11_
                              have NB259_312 := n12_
                              have NB312_259 := n13_
                              have NB290_312 := n14_
                              have NB312_290 := n15_
                              have NB301_312 := n16_
                              have NB312_301 := n17_
                              clear n0_ n1_ n2_ n3_ n4_ n5_ n6_ n7_ n8_ n9_ n10_ n11_ n12_ n13_ n14_ n15_ n16_ n17_
                              clear hb hbox hg
                              refine hK.out _ _ ((blk_cell BK259.out 0).trans rfl) (fun hHeld => ?_)
                              clear hK K
                              refine norm_ (a' := ?_) ?_ ?_
                              rotate_left
                              · show Act.put _ (some 9) _ = _
                                simp only [Act.put, List.setIfInBounds_toArray, List.set_cons_zero, List.set_cons_succ, i64_w, i32_w]
                                rfl
                              exact norm_ (by simp only [putAll, Act.put, List.setIfInBounds_toArray, List.set_cons_zero, List.set_cons_succ]) (hCont (v309, gb312) _ ⟨hHeld, (by (with_reducible repeat (first | apply Kd.R_alloc | apply Kd.R_drewN | apply Kd.R_drew)); exact Kd.R_mono HO257.out (fun _ hk => ⟨hk.1.1, ⟨hk.1.2.1, ⟨hk.1.2.2, hk.2⟩⟩⟩)), (by (with_reducible repeat (first | apply Kd.R_alloc | apply Kd.R_drewN | apply Kd.R_drew)); exact Kd.R_mono HO274.out (fun _ hk => ⟨hk.1.1, ⟨hk.1.2.1, ⟨hk.1.2.2, hk.2⟩⟩⟩)), (by (with_reducible repeat (first | apply Kd.R_alloc | apply Kd.R_drewN | apply Kd.R_drew)); exact Kd.R_mono HO288.out (fun _ hk => ⟨hk.1.1, ⟨hk.1.2.1, ⟨hk.1.2.2, hk.2⟩⟩⟩)), (by (with_reducible repeat (first | apply Kd.R_alloc | apply Kd.R_drewN | apply Kd.R_drew)); exact Kd.R_mono HO299.out (fun _ hk => ⟨hk.1.1, ⟨hk.1.2.1, ⟨hk.1.2.2, hk.2⟩⟩⟩)), (by (with_reducible repeat (first | apply Kd.R_alloc | apply Kd.R_drewN | apply Kd.R_drew)); exact Kd.R_mono HO310.out (fun _ hk => ⟨hk.1.1.1.2, ⟨hk.1.1.2, ⟨hk.1.2, hk.2⟩⟩⟩)), (by (with_reducible repeat (first | refine blk_drewN ?_ _ | refine blk_drew ?_ | refine blk_alloc ?_ _)); exact BK259.out), (by (with_reducible repeat (first | refine blk_drewN ?_ _ | refine blk_drew ?_ | refine blk_alloc ?_ _)); exact BK290.out), (by (with_reducible repeat (first | refine blk_drewN ?_ _ | refine blk_drew ?_ | refine blk_alloc ?_ _)); exact BK301.out), (by (with_reducible repeat (first | refine blk_drewN ?_ _ | refine blk_drew ?_ | refine blk_alloc ?_ _)); exact BK312.out), GW312.out, GE312.out, NB259_312.out, NB312_259.out, NB290_312.out, NB312_290.out, NB301_312.out, NB312_301.out, (by repeat (first | (with_reducible first | exact HB.out | apply below_alloc | apply pw_below_drewN | apply below_drew1 | refine below_set ?_ GE259.out | refine below_set ?_ GE290.out | refine below_set ?_ GE301.out | refine below_set ?_ GE312.out) | exact HB.out))⟩)
                            · skip
                              refine box_step ?hg (N := 9) ?hd (cs := #[.slice none 0 0]) (t := 24) ?hr ?_; (case hd => rfl); (case hg => rfl); (case hr => first | (go_simp; done) | (go_simp; rfl))
                              intro gb312 hg w68 hbox hb
                              have n0_ := Aside0.mk (Kd.R_below (by (with_reducible repeat (first | apply Kd.R_alloc | apply Kd.R_drewN | apply Kd.R_drew)); exact HO257.out) hb)
                              have n1_ := Aside0.mk (Kd.R_below (by (with_reducible repeat (first | apply Kd.R_alloc | apply Kd.R_drewN | apply Kd.R_drew)); exact HO274.out) hb)
                              have n2_ := Aside0.mk (Kd.R_below (by (with_reducible repeat (first | apply Kd.R_alloc | apply Kd.R_drewN | apply Kd.R_drew)); exact HO288.out) hb)
                              have n3_ := Aside0.mk (Kd.R_below (by (with_reducible repeat (first | apply Kd.R_alloc | apply Kd.R_drewN | apply Kd.R_drew)); exact HO299.out) hb)
                              have n4_ := Aside0.mk (blk_below (g := gb259) (o := .cells #[.slice Ao40 t272.length co40] 24 (0, 0)) (by (with_reducible repeat (first | refine blk_drewN ?_ _ | refine blk_drew ?_ | refine blk_alloc ?_ _)); exact BK259.out) hb)
                              have n5_ := Aside0.mk (blk_below (g := gb290) (o := .cells #[.slice Ao55 t286.length co55] 24 (0, 0)) (by (with_reducible repeat (first | refine blk_drewN ?_ _ | refine blk_drew ?_ | refine blk_alloc ?_ _)); exact BK290.out) hb)
                              have n6_ := Aside0.mk (blk_below (g := gb301) (o := .cells #[.slice Ao63 t297.length co63] 24 (0, 0)) (by (with_reducible repeat (first | refine blk_drewN ?_ _ | refine blk_drew ?_ | refine blk_alloc ?_ _)); exact BK301.out) hb)
                              have n7_ := Aside0.mk (below_step (by repeat (first | (with_reducible first | exact HB.out | apply below_alloc | apply pw_below_drewN | apply below_drew1 | refine below_set ?_ GE259.out | refine below_set ?_ GE290.out | refine below_set ?_ GE301.out) | exact HB.out)) hb)
                              have n8_ := Aside0.mk (hbox)
                              have n9_ := Aside0.mk ((by rw [hg]; exact (below_size (by repeat (first | (with_reducible first | exact HB.out | apply below_alloc | apply pw_below_drewN | apply below_drew1 | refine below_set ?_ GE259.out | refine below_set ?_ GE290.out | refine below_set ?_ GE301.out) | exact HB.out))) : w.heap.size ≤ gb312))
                              have n10_ := Aside0.mk ((by rw [hg]; exact (below_size (by repeat (first | (with_reducible first | exact HB.out | apply below_alloc | apply pw_below_drewN | apply below_drew1 | refine below_set ?_ GE259.out | refine below_set ?_ GE290.out | refine below_set ?_ GE301.out) | exact HB.out))) : w.heap.size ≤ gb312))
                              have n11_ := Aside0.mk ((by rw [hg]; exact Nat.ne_of_lt (blk_lt (g := gb259) (o := .cells #[.slice Ao40 t272.length co40] 24 (0, 0)) (by (with_reducible repeat (first | refine blk_drewN ?_ _ | refine blk_drew ?_ | refine blk_alloc ?_ _)); exact BK259.out)) : gb259 ≠ gb312))
                              have n12_ := Aside0.mk ((by rw [hg]; exact Nat.ne_of_gt (blk_lt (g := gb259) (o := .cells #[.slice Ao40 t272.length co40] 24 (0, 0)) (by (with_reducible repeat (first | refine blk_drewN ?_ _ | refine blk_drew ?_ | refine blk_alloc ?_ _)); exact BK259.out)) : gb312 ≠ gb259))
                              have n13_ := Aside0.mk ((by rw [hg]; exact Nat.ne_of_lt (blk_lt (g := gb290) (o := .cells #[.slice Ao55 t286.length co55] 24 (0, 0)) (by (with_reducible repeat (first | refine blk_drewN ?_ _ | refine blk_drew ?_ | refine blk_alloc ?_ _)); exact BK290.out)) : gb290 ≠ gb312))
                              have n14_ := Aside0.mk ((by rw [hg]; exact Nat.ne_of_gt (blk_lt (g := gb290) (o := .cells #[.slice Ao55 t286.length co55] 24 (0, 0)) (by (with_reducible repeat (first | refine blk_drewN ?_ _ | refine blk_drew ?_ | refine blk_alloc ?_ _)); exact BK290.out)) : gb312 ≠ gb290))
                              have n15_ := Aside0.mk ((by rw [hg]; exact Nat.ne_of_lt (blk_lt (g := gb301) (o := .cells #[.slice Ao63 t297.length co63] 24 (0, 0)) (by (with_reducible repeat (first | refine blk_drewN ?_ _ | refine blk_drew ?_ | refine blk_alloc ?_ _)); exact BK301.out)) : gb301 ≠ gb312))
                              have n16_ := Aside0.mk ((by rw [hg]; exact Nat.ne_of_gt (blk_lt (g := gb301) (o := .cells #[.slice Ao63 t297.length co63] 24 (0, 0)) (by (with_reducible repeat (first | refine blk_drewN ?_ _ | refine blk_drew ?_ | refine blk_alloc ?_ _)); exact BK301.out)) : gb312 ≠ gb301))
                              clear HO257
                              clear HO274
                              clear HO288
                              clear HO299
                              clear BK259
                              clear BK290
                              clear BK301
                              clear HB
                              have HO257 := n0_
                              have HO274 := n1_
                              have HO288 := n2_
                              have HO299 := n3_
                              have BK259 := n4_
                              have BK290 := n5_
                              have BK301 := n6_
                              have HB := n7_
                              have BK312 := n8_
                              have GW312 := n9_
                              have GE312 := n10_
                              have NB259_312 := n11_
                              have NB312_259 := n12_
                              have NB290_312 := n13_
                              have NB312_290 := n14_
                              have NB301_312 := n15_
                              have NB312_301 := n16_
                              clear n0_ n1_ n2_ n3_ n4_ n5_ n6_ n7_ n8_ n9_ n10_ n11_ n12_ n13_ n14_ n15_ n16_
                              clear hb hbox hg
                              refine hK.out _ _ ((blk_cell BK259.out 0).trans rfl) (fun hHeld => ?_)
                              clear hK K
                              refine norm_ (a' := ?_) ?_ ?_
                              rotate_left
                              · show Act.put _ (some 9) _ = _
                                simp only [Act.put, List.setIfInBounds_toArray, List.set_cons_zero, List.set_cons_succ, i64_w, i32_w]
                                rfl
                              refine one_ (i := 2) (N := some 70) #[true, true, true, false, false, false, true, false, false] rfl rfl (one_of HT_.out (by kernel_rfl)) (by decide) (fun K hK => ?_)
                              refine goes_ Try.func19 (by kernel_rfl) rfl #[.agg #[.slice Ao40 t272.length co40], .agg #[.int .i64 t302, .string t303, .string t304, .int .i64 t305, .int .i64 t306, .int .i64 t307]] (by rfl) rfl rfl (by (try simp only [List.map_toArray, List.map_cons, List.map_nil]); first | done | rfl | (simp only [List.length_drop, List.length_take]; rfl)) ?_
                              with_reducible refine (ledger_Post.calls _ _ t272 t302 t303 t304 t305 t306 t307 t308 t311 _ ?side1 ?side2 A21.out).mono ?_
                              (case side1 => repeat (first | exact (Kd.R_reads' HO274.out).2.2 | (with_reducible refine Kd.C_alloc ?_ _) | (with_reducible refine Kd.C_drewN ?_ _) | (with_reducible refine Kd.C_drew ?_)))
                              (case side2 => exact (Kd.R_reads' HO274.out).2.1)
                              rintro e w69 ⟨v309, rfl, ho0, hb⟩
                              refine ⟨_, rfl, ?_⟩
                              have n0_ := Aside0.mk (Kd.R_elder' (by (with_reducible repeat (first | apply Kd.R_alloc | apply Kd.R_drewN | apply Kd.R_drew)); exact HO257.out) (Kd.R_base ho0) hb)
                              have n1_ := Aside0.mk (Kd.R_elder' (by (with_reducible repeat (first | apply Kd.R_alloc | apply Kd.R_drewN | apply Kd.R_drew)); exact HO274.out) (Kd.R_base ho0) hb)
                              have n2_ := Aside0.mk (Kd.R_elder' (by (with_reducible repeat (first | apply Kd.R_alloc | apply Kd.R_drewN | apply Kd.R_drew)); exact HO288.out) (Kd.R_base ho0) hb)
                              have n3_ := Aside0.mk (Kd.R_elder' (by (with_reducible repeat (first | apply Kd.R_alloc | apply Kd.R_drewN | apply Kd.R_drew)); exact HO299.out) (Kd.R_base ho0) hb)
                              have n4_ := Aside0.mk (Kd.R_lower (Kd.R_new' (Kd.R_new' (Kd.R_new' (Kd.R_new' ho0 (Kd.R_lt (by (with_reducible repeat (first | apply Kd.R_alloc | apply Kd.R_drewN | apply Kd.R_drew)); exact HO257.out))) (Kd.R_lt (by (with_reducible repeat (first | apply Kd.R_alloc | apply Kd.R_drewN | apply Kd.R_drew)); exact HO274.out))) (Kd.R_lt (by (with_reducible repeat (first | apply Kd.R_alloc | apply Kd.R_drewN | apply Kd.R_drew)); exact HO288.out))) (Kd.R_lt (by (with_reducible repeat (first | apply Kd.R_alloc | apply Kd.R_drewN | apply Kd.R_drew)); exact HO299.out))) (below_size (by repeat (first | (with_reducible first | exact HB.out | apply below_alloc | apply pw_below_drewN | apply below_drew1 | refine below_set ?_ GE259.out | refine below_set ?_ GE290.out | refine below_set ?_ GE301.out | refine below_set ?_ GE312.out) | exact HB.out))))
                              have n5_ := Aside0.mk (blk_below (g := gb259) (o := .cells #[.slice Ao40 t272.length co40] 24 (0, 0)) (by (with_reducible repeat (first | refine blk_drewN ?_ _ | refine blk_drew ?_ | refine blk_alloc ?_ _)); exact BK259.out) hb)
                              have n6_ := Aside0.mk (blk_below (g := gb290) (o := .cells #[.slice Ao55 t286.length co55] 24 (0, 0)) (by (with_reducible repeat (first | refine blk_drewN ?_ _ | refine blk_drew ?_ | refine blk_alloc ?_ _)); exact BK290.out) hb)
                              have n7_ := Aside0.mk (blk_below (g := gb301) (o := .cells #[.slice Ao63 t297.length co63] 24 (0, 0)) (by (with_reducible repeat (first | refine blk_drewN ?_ _ | refine blk_drew ?_ | refine blk_alloc ?_ _)); exact BK301.out) hb)
                              have n8_ := Aside0.mk (blk_below (g := gb312) (o := .cells #[.slice none 0 0] 24 (0, 0)) (by (with_reducible repeat (first | refine blk_drewN ?_ _ | refine blk_drew ?_ | refine blk_alloc ?_ _)); exact BK312.out) hb)
                              have n9_ := Aside0.mk (below_step (by repeat (first | (with_reducible first | exact HB.out | apply below_alloc | apply pw_below_drewN | apply below_drew1 | refine below_set ?_ GE259.out | refine below_set ?_ GE290.out | refine below_set ?_ GE301.out | refine below_set ?_ GE312.out) | exact HB.out)) hb)
                              clear HO257
                              clear HO274
                              clear HO288
                              clear HO299
                              clear BK259
                              clear BK290
                              clear BK301
                              clear BK312
                              clear HB
                              have HO257 := n0_
                              have HO274 := n1_
                              have HO288 := n2_
                              have HO299 := n3_
                              have HO310 := n4_
                              have BK259 := n5_
                              have BK290 := n6_
                              have BK301 := n7_
                              have BK312 := n8_
                              have HB := n9_
                              clear n0_ n1_ n2_ n3_ n4_ n5_ n6_ n7_ n8_ n9_
                              (try clear hb)
                              (try clear hb2)
                              (try clear hk)
                              (try clear hi)
                              (try clear ho0)
                              refine hK.out _ _ ((blk_cell BK259.out 0).trans rfl) (fun hHeld => ?_)
                              clear hK K
                              refine norm_ (a' := ?_) ?_ ?_
                              rotate_left
                              · show Act.put _ (some 70) _ = _
                                simp only [Act.put, List.setIfInBounds_toArray, List.set_cons_zero, List.set_cons_succ, i64_w, i32_w]
                                rfl
                              refine pure_ (i := 3) (N := some 67) (v := ?_) (a' := ?_) #[true, true, true, true, false, false, true, false, false] rfl rfl (any_of HT_.out (by kernel_rfl)) (fun _ _ _ h => h) (Or.inl ⟨by rfl, ?_⟩) ?_ ?_
                              rotate_left
                              · intro w'
                                go_simp
                                with_reducible rfl
                              rotate_left
                              · simp only [Act.put, List.setIfInBounds_toArray, List.set_cons_zero, List.set_cons_succ, i64_w, i32_w]
                                rfl
                              refine pure_ (i := 4) (N := some 71) (v := ?_) (a' := ?_) #[true, true, true, true, true, false, true, false, false] rfl rfl (any_of HT_.out (by kernel_rfl)) (fun _ _ _ h => h) (Or.inl ⟨by rfl, ?_⟩) ?_ ?_
                              rotate_left
                              · intro w'
                                go_simp
                                with_reducible rfl
                              rotate_left
                              · simp only [Act.put, List.setIfInBounds_toArray, List.set_cons_zero, List.set_cons_succ, i64_w, i32_w]
                                rfl
                              refine pure_ (i := 5) (N := some 72) (v := ?_) (a' := ?_) #[true, true, true, true, true, true, true, false, false] rfl rfl (any_of HT_.out (by kernel_rfl)) (fun _ _ _ h => h) (Or.inl ⟨by rfl, ?_⟩) ?_ ?_
                              rotate_left
                              · intro w'
                                go_simp
                                with_reducible rfl
                              rotate_left
                              · simp only [Act.put, List.setIfInBounds_toArray, List.set_cons_zero, List.set_cons_succ, i64_w, i32_w]
                                rfl
                              exact norm_ (by simp only [putAll, Act.put, List.setIfInBounds_toArray, List.set_cons_zero, List.set_cons_succ]) (hCont (v309, gb312) _ ⟨hHeld, (by (with_reducible repeat (first | apply Kd.R_alloc | apply Kd.R_drewN | apply Kd.R_drew)); exact Kd.R_mono HO257.out (fun _ hk => ⟨hk.1.1, ⟨hk.1.2.1, ⟨hk.1.2.2, hk.2⟩⟩⟩)), (by (with_reducible repeat (first | apply Kd.R_alloc | apply Kd.R_drewN | apply Kd.R_drew)); exact Kd.R_mono HO274.out (fun _ hk => ⟨hk.1.1, ⟨hk.1.2.1, ⟨hk.1.2.2, hk.2⟩⟩⟩)), (by (with_reducible repeat (first | apply Kd.R_alloc | apply Kd.R_drewN | apply Kd.R_drew)); exact Kd.R_mono HO288.out (fun _ hk => ⟨hk.1.1, ⟨hk.1.2.1, ⟨hk.1.2.2, hk.2⟩⟩⟩)), (by (with_reducible repeat (first | apply Kd.R_alloc | apply Kd.R_drewN | apply Kd.R_drew)); exact Kd.R_mono HO299.out (fun _ hk => ⟨hk.1.1, ⟨hk.1.2.1, ⟨hk.1.2.2, hk.2⟩⟩⟩)), (by (with_reducible repeat (first | apply Kd.R_alloc | apply Kd.R_drewN | apply Kd.R_drew)); exact Kd.R_mono HO310.out (fun _ hk => ⟨hk.1.1.1.2, ⟨hk.1.1.2, ⟨hk.1.2, hk.2⟩⟩⟩)), (by (with_reducible repeat (first | refine blk_drewN ?_ _ | refine blk_drew ?_ | refine blk_alloc ?_ _)); exact BK259.out), (by (with_reducible repeat (first | refine blk_drewN ?_ _ | refine blk_drew ?_ | refine blk_alloc ?_ _)); exact BK290.out), (by (with_reducible repeat (first | refine blk_drewN ?_ _ | refine blk_drew ?_ | refine blk_alloc ?_ _)); exact BK301.out), (by (with_reducible repeat (first | refine blk_drewN ?_ _ | refine blk_drew ?_ | refine blk_alloc ?_ _)); exact BK312.out), GW312.out, GE312.out, NB259_312.out, NB312_259.out, NB290_312.out, NB312_290.out, NB301_312.out, NB312_301.out, (by repeat (first | (with_reducible first | exact HB.out | apply below_alloc | apply pw_below_drewN | apply below_drew1 | refine below_set ?_ GE259.out | refine below_set ?_ GE290.out | refine below_set ?_ GE301.out | refine below_set ?_ GE312.out) | exact HB.out))⟩)
                          · skip
                            refine box_step ?hg (N := 9) ?hd (cs := #[.slice none 0 0]) (t := 24) ?hr ?_; (case hd => rfl); (case hg => rfl); (case hr => first | (go_simp; done) | (go_simp; rfl))
                            intro gb312 hg w67 hbox hb
                            have n0_ := Aside0.mk (Kd.R_below (by (with_reducible repeat (first | apply Kd.R_alloc | apply Kd.R_drewN | apply Kd.R_drew)); exact HO257.out) hb)
                            have n1_ := Aside0.mk (Kd.R_below (by (with_reducible repeat (first | apply Kd.R_alloc | apply Kd.R_drewN | apply Kd.R_drew)); exact HO274.out) hb)
                            have n2_ := Aside0.mk (Kd.R_below (by (with_reducible repeat (first | apply Kd.R_alloc | apply Kd.R_drewN | apply Kd.R_drew)); exact HO288.out) hb)
                            have n3_ := Aside0.mk (Kd.R_below (by (with_reducible repeat (first | apply Kd.R_alloc | apply Kd.R_drewN | apply Kd.R_drew)); exact HO299.out) hb)
                            have n4_ := Aside0.mk (blk_below (g := gb259) (o := .cells #[.slice Ao40 t272.length co40] 24 (0, 0)) (by (with_reducible repeat (first | refine blk_drewN ?_ _ | refine blk_drew ?_ | refine blk_alloc ?_ _)); exact BK259.out) hb)
                            have n5_ := Aside0.mk (blk_below (g := gb290) (o := .cells #[.slice Ao55 t286.length co55] 24 (0, 0)) (by (with_reducible repeat (first | refine blk_drewN ?_ _ | refine blk_drew ?_ | refine blk_alloc ?_ _)); exact BK290.out) hb)
                            have n6_ := Aside0.mk (blk_below (g := gb301) (o := .cells #[.slice Ao63 t297.length co63] 24 (0, 0)) (by (with_reducible repeat (first | refine blk_drewN ?_ _ | refine blk_drew ?_ | refine blk_alloc ?_ _)); exact BK301.out) hb)
                            have n7_ := Aside0.mk (below_step (by repeat (first | (with_reducible first | exact HB.out | apply below_alloc | apply pw_below_drewN | apply below_drew1 | refine below_set ?_ GE259.out | refine below_set ?_ GE290.out | refine below_set ?_ GE301.out) | exact HB.out)) hb)
                            have n8_ := Aside0.mk (hbox)
                            have n9_ := Aside0.mk ((by rw [hg]; exact (below_size (by repeat (first | (with_reducible first | exact HB.out | apply below_alloc | apply pw_below_drewN | apply below_drew1 | refine below_set ?_ GE259.out | refine below_set ?_ GE290.out | refine below_set ?_ GE301.out) | exact HB.out))) : w.heap.size ≤ gb312))
                            have n10_ := Aside0.mk ((by rw [hg]; exact (below_size (by repeat (first | (with_reducible first | exact HB.out | apply below_alloc | apply pw_below_drewN | apply below_drew1 | refine below_set ?_ GE259.out | refine below_set ?_ GE290.out | refine below_set ?_ GE301.out) | exact HB.out))) : w.heap.size ≤ gb312))
                            have n11_ := Aside0.mk ((by rw [hg]; exact Nat.ne_of_lt (blk_lt (g := gb259) (o := .cells #[.slice Ao40 t272.length co40] 24 (0, 0)) (by (with_reducible repeat (first | refine blk_drewN ?_ _ | refine blk_drew ?_ | refine blk_alloc ?_ _)); exact BK259.out)) : gb259 ≠ gb312))
                            have n12_ := Aside0.mk ((by rw [hg]; exact Nat.ne_of_gt (blk_lt (g := gb259) (o := .cells #[.slice Ao40 t272.length co40] 24 (0, 0)) (by (with_reducible repeat (first | refine blk_drewN ?_ _ | refine blk_drew ?_ | refine blk_alloc ?_ _)); exact BK259.out)) : gb312 ≠ gb259))
                            have n13_ := Aside0.mk ((by rw [hg]; exact Nat.ne_of_lt (blk_lt (g := gb290) (o := .cells #[.slice Ao55 t286.length co55] 24 (0, 0)) (by (with_reducible repeat (first | refine blk_drewN ?_ _ | refine blk_drew ?_ | refine blk_alloc ?_ _)); exact BK290.out)) : gb290 ≠ gb312))
                            have n14_ := Aside0.mk ((by rw [hg]; exact Nat.ne_of_gt (blk_lt (g := gb290) (o := .cells #[.slice Ao55 t286.length co55] 24 (0, 0)) (by (with_reducible repeat (first | refine blk_drewN ?_ _ | refine blk_drew ?_ | refine blk_alloc ?_ _)); exact BK290.out)) : gb312 ≠ gb290))
                            have n15_ := Aside0.mk ((by rw [hg]; exact Nat.ne_of_lt (blk_lt (g := gb301) (o := .cells #[.slice Ao63 t297.length co63] 24 (0, 0)) (by (with_reducible repeat (first | refine blk_drewN ?_ _ | refine blk_drew ?_ | refine blk_alloc ?_ _)); exact BK301.out)) : gb301 ≠ gb312))
                            have n16_ := Aside0.mk ((by rw [hg]; exact Nat.ne_of_gt (blk_lt (g := gb301) (o := .cells #[.slice Ao63 t297.length co63] 24 (0, 0)) (by (with_reducible repeat (first | refine blk_drewN ?_ _ | refine blk_drew ?_ | refine blk_alloc ?_ _)); exact BK301.out)) : gb312 ≠ gb301))
                            clear HO257
                            clear HO274
                            clear HO288
                            clear HO299
                            clear BK259
                            clear BK290
                            clear BK301
                            clear HB
                            have HO257 := n0_
                            have HO274 := n1_
                            have HO288 := n2_
                            have HO299 := n3_
                            have BK259 := n4_
                            have BK290 := n5_
                            have BK301 := n6_
                            have HB := n7_
                            have BK312 := n8_
                            have GW312 := n9_
                            have GE312 := n10_
                            have NB259_312 := n11_
                            have NB312_259 := n12_
                            have NB290_312 := n13_
                            have NB312_290 := n14_
                            have NB301_312 := n15_
                            have NB312_301 := n16_
                            clear n0_ n1_ n2_ n3_ n4_ n5_ n6_ n7_ n8_ n9_ n10_ n11_ n12_ n13_ n14_ n15_ n16_
                            clear hb hbox hg
                            refine hK.out _ _ ((blk_cell BK259.out 0).trans rfl) (fun hHeld => ?_)
                            clear hK K
                            refine norm_ (a' := ?_) ?_ ?_
                            rotate_left
                            · show Act.put _ (some 9) _ = _
                              simp only [Act.put, List.setIfInBounds_toArray, List.set_cons_zero, List.set_cons_succ, i64_w, i32_w]
                              rfl
                            refine one_ (i := 1) (N := some 69) #[true, true, false, false, false, false, true, false, false] rfl rfl (one_of HT_.out (by kernel_rfl)) (by decide) (fun K hK => ?_)
                            refine goes_ Try.func46 (by kernel_rfl) rfl #[.int .i64 3, .int .i64 90, .int .i64 19] (by rfl) rfl rfl (by (try simp only [List.map_toArray, List.map_cons, List.map_nil]); first | done | rfl | (simp only [List.length_drop, List.length_take]; rfl)) ?_
                            with_reducible refine (wageofficelaw39_entry.calls 3 90 19 t302 t303 t304 t305 t306 t307 _ A20.out).mono ?_
                            rintro e w68 ⟨rfl, hb⟩
                            refine ⟨_, rfl, ?_⟩
                            have n0_ := Aside0.mk (Kd.R_below (by (with_reducible repeat (first | apply Kd.R_alloc | apply Kd.R_drewN | apply Kd.R_drew)); exact HO257.out) hb)
                            have n1_ := Aside0.mk (Kd.R_below (by (with_reducible repeat (first | apply Kd.R_alloc | apply Kd.R_drewN | apply Kd.R_drew)); exact HO274.out) hb)
                            have n2_ := Aside0.mk (Kd.R_below (by (with_reducible repeat (first | apply Kd.R_alloc | apply Kd.R_drewN | apply Kd.R_drew)); exact HO288.out) hb)
                            have n3_ := Aside0.mk (Kd.R_below (by (with_reducible repeat (first | apply Kd.R_alloc | apply Kd.R_drewN | apply Kd.R_drew)); exact HO299.out) hb)
                            have n4_ := Aside0.mk (blk_below (g := gb259) (o := .cells #[.slice Ao40 t272.length co40] 24 (0, 0)) (by (with_reducible repeat (first | refine blk_drewN ?_ _ | refine blk_drew ?_ | refine blk_alloc ?_ _)); exact BK259.out) hb)
                            have n5_ := Aside0.mk (blk_below (g := gb290) (o := .cells #[.slice Ao55 t286.length co55] 24 (0, 0)) (by (with_reducible repeat (first | refine blk_drewN ?_ _ | refine blk_drew ?_ | refine blk_alloc ?_ _)); exact BK290.out) hb)
                            have n6_ := Aside0.mk (blk_below (g := gb301) (o := .cells #[.slice Ao63 t297.length co63] 24 (0, 0)) (by (with_reducible repeat (first | refine blk_drewN ?_ _ | refine blk_drew ?_ | refine blk_alloc ?_ _)); exact BK301.out) hb)
                            have n7_ := Aside0.mk (blk_below (g := gb312) (o := .cells #[.slice none 0 0] 24 (0, 0)) (by (with_reducible repeat (first | refine blk_drewN ?_ _ | refine blk_drew ?_ | refine blk_alloc ?_ _)); exact BK312.out) hb)
                            have n8_ := Aside0.mk (below_step (by repeat (first | (with_reducible first | exact HB.out | apply below_alloc | apply pw_below_drewN | apply below_drew1 | refine below_set ?_ GE259.out | refine below_set ?_ GE290.out | refine below_set ?_ GE301.out | refine below_set ?_ GE312.out) | exact HB.out)) hb)
                            clear HO257
                            clear HO274
                            clear HO288
                            clear HO299
                            clear BK259
                            clear BK290
                            clear BK301
                            clear BK312
                            clear HB
                            have HO257 := n0_
                            have HO274 := n1_
                            have HO288 := n2_
                            have HO299 := n3_
                            have BK259 := n4_
                            have BK290 := n5_
                            have BK301 := n6_
                            have BK312 := n7_
                            have HB := n8_
                            clear n0_ n1_ n2_ n3_ n4_ n5_ n6_ n7_ n8_
                            (try clear hb)
                            (try clear hb2)
                            (try clear hk)
                            (try clear hi)
                            refine hK.out _ _ ((blk_cell BK259.out 0).trans rfl) (fun hHeld => ?_)
                            clear hK K
                            refine norm_ (a' := ?_) ?_ ?_
                            rotate_left
                            · show Act.put _ (some 69) _ = _
                              simp only [Act.put, List.setIfInBounds_toArray, List.set_cons_zero, List.set_cons_succ, i64_w, i32_w]
                              rfl
                            refine one_ (i := 2) (N := some 70) #[true, true, true, false, false, false, true, false, false] rfl rfl (one_of HT_.out (by kernel_rfl)) (by decide) (fun K hK => ?_)
                            refine goes_ Try.func19 (by kernel_rfl) rfl #[.agg #[.slice Ao40 t272.length co40], .agg #[.int .i64 t302, .string t303, .string t304, .int .i64 t305, .int .i64 t306, .int .i64 t307]] (by rfl) rfl rfl (by (try simp only [List.map_toArray, List.map_cons, List.map_nil]); first | done | rfl | (simp only [List.length_drop, List.length_take]; rfl)) ?_
                            with_reducible refine (ledger_Post.calls _ _ t272 t302 t303 t304 t305 t306 t307 t308 t311 _ ?side1 ?side2 A21.out).mono ?_
                            (case side1 => repeat (first | exact (Kd.R_reads' HO274.out).2.2 | (with_reducible refine Kd.C_alloc ?_ _) | (with_reducible refine Kd.C_drewN ?_ _) | (with_reducible refine Kd.C_drew ?_)))
                            (case side2 => exact (Kd.R_reads' HO274.out).2.1)
                            rintro e w69 ⟨v309, rfl, ho0, hb⟩
                            refine ⟨_, rfl, ?_⟩
                            have n0_ := Aside0.mk (Kd.R_elder' (by (with_reducible repeat (first | apply Kd.R_alloc | apply Kd.R_drewN | apply Kd.R_drew)); exact HO257.out) (Kd.R_base ho0) hb)
                            have n1_ := Aside0.mk (Kd.R_elder' (by (with_reducible repeat (first | apply Kd.R_alloc | apply Kd.R_drewN | apply Kd.R_drew)); exact HO274.out) (Kd.R_base ho0) hb)
                            have n2_ := Aside0.mk (Kd.R_elder' (by (with_reducible repeat (first | apply Kd.R_alloc | apply Kd.R_drewN | apply Kd.R_drew)); exact HO288.out) (Kd.R_base ho0) hb)
                            have n3_ := Aside0.mk (Kd.R_elder' (by (with_reducible repeat (first | apply Kd.R_alloc | apply Kd.R_drewN | apply Kd.R_drew)); exact HO299.out) (Kd.R_base ho0) hb)
                            have n4_ := Aside0.mk (Kd.R_lower (Kd.R_new' (Kd.R_new' (Kd.R_new' (Kd.R_new' ho0 (Kd.R_lt (by (with_reducible repeat (first | apply Kd.R_alloc | apply Kd.R_drewN | apply Kd.R_drew)); exact HO257.out))) (Kd.R_lt (by (with_reducible repeat (first | apply Kd.R_alloc | apply Kd.R_drewN | apply Kd.R_drew)); exact HO274.out))) (Kd.R_lt (by (with_reducible repeat (first | apply Kd.R_alloc | apply Kd.R_drewN | apply Kd.R_drew)); exact HO288.out))) (Kd.R_lt (by (with_reducible repeat (first | apply Kd.R_alloc | apply Kd.R_drewN | apply Kd.R_drew)); exact HO299.out))) (below_size (by repeat (first | (with_reducible first | exact HB.out | apply below_alloc | apply pw_below_drewN | apply below_drew1 | refine below_set ?_ GE259.out | refine below_set ?_ GE290.out | refine below_set ?_ GE301.out | refine below_set ?_ GE312.out) | exact HB.out))))
                            have n5_ := Aside0.mk (blk_below (g := gb259) (o := .cells #[.slice Ao40 t272.length co40] 24 (0, 0)) (by (with_reducible repeat (first | refine blk_drewN ?_ _ | refine blk_drew ?_ | refine blk_alloc ?_ _)); exact BK259.out) hb)
                            have n6_ := Aside0.mk (blk_below (g := gb290) (o := .cells #[.slice Ao55 t286.length co55] 24 (0, 0)) (by (with_reducible repeat (first | refine blk_drewN ?_ _ | refine blk_drew ?_ | refine blk_alloc ?_ _)); exact BK290.out) hb)
                            have n7_ := Aside0.mk (blk_below (g := gb301) (o := .cells #[.slice Ao63 t297.length co63] 24 (0, 0)) (by (with_reducible repeat (first | refine blk_drewN ?_ _ | refine blk_drew ?_ | refine blk_alloc ?_ _)); exact BK301.out) hb)
                            have n8_ := Aside0.mk (blk_below (g := gb312) (o := .cells #[.slice none 0 0] 24 (0, 0)) (by (with_reducible repeat (first | refine blk_drewN ?_ _ | refine blk_drew ?_ | refine blk_alloc ?_ _)); exact BK312.out) hb)
                            have n9_ := Aside0.mk (below_step (by repeat (first | (with_reducible first | exact HB.out | apply below_alloc | apply pw_below_drewN | apply below_drew1 | refine below_set ?_ GE259.out | refine below_set ?_ GE290.out | refine below_set ?_ GE301.out | refine below_set ?_ GE312.out) | exact HB.out)) hb)
                            clear HO257
                            clear HO274
                            clear HO288
                            clear HO299
                            clear BK259
                            clear BK290
                            clear BK301
                            clear BK312
                            clear HB
                            have HO257 := n0_
                            have HO274 := n1_
                            have HO288 := n2_
                            have HO299 := n3_
                            have HO310 := n4_
                            have BK259 := n5_
                            have BK290 := n6_
                            have BK301 := n7_
                            have BK312 := n8_
                            have HB := n9_
                            clear n0_ n1_ n2_ n3_ n4_ n5_ n6_ n7_ n8_ n9_
                            (try clear hb)
                            (try clear hb2)
                            (try clear hk)
                            (try clear hi)
                            (try clear ho0)
                            refine hK.out _ _ ((blk_cell BK259.out 0).trans rfl) (fun hHeld => ?_)
                            clear hK K
                            refine norm_ (a' := ?_) ?_ ?_
                            rotate_left
                            · show Act.put _ (some 70) _ = _
                              simp only [Act.put, List.setIfInBounds_toArray, List.set_cons_zero, List.set_cons_succ, i64_w, i32_w]
                              rfl
                            refine pure_ (i := 3) (N := some 67) (v := ?_) (a' := ?_) #[true, true, true, true, false, false, true, false, false] rfl rfl (any_of HT_.out (by kernel_rfl)) (fun _ _ _ h => h) (Or.inl ⟨by rfl, ?_⟩) ?_ ?_
                            rotate_left
                            · intro w'
                              go_simp
                              with_reducible rfl
                            rotate_left
                            · simp only [Act.put, List.setIfInBounds_toArray, List.set_cons_zero, List.set_cons_succ, i64_w, i32_w]
                              rfl
                            refine pure_ (i := 4) (N := some 71) (v := ?_) (a' := ?_) #[true, true, true, true, true, false, true, false, false] rfl rfl (any_of HT_.out (by kernel_rfl)) (fun _ _ _ h => h) (Or.inl ⟨by rfl, ?_⟩) ?_ ?_
                            rotate_left
                            · intro w'
                              go_simp
                              with_reducible rfl
                            rotate_left
                            · simp only [Act.put, List.setIfInBounds_toArray, List.set_cons_zero, List.set_cons_succ, i64_w, i32_w]
                              rfl
                            refine pure_ (i := 5) (N := some 72) (v := ?_) (a' := ?_) #[true, true, true, true, true, true, true, false, false] rfl rfl (any_of HT_.out (by kernel_rfl)) (fun _ _ _ h => h) (Or.inl ⟨by rfl, ?_⟩) ?_ ?_
                            rotate_left
                            · intro w'
                              go_simp
                              with_reducible rfl
                            rotate_left
                            · simp only [Act.put, List.setIfInBounds_toArray, List.set_cons_zero, List.set_cons_succ, i64_w, i32_w]
                              rfl
                            exact norm_ (by simp only [putAll, Act.put, List.setIfInBounds_toArray, List.set_cons_zero, List.set_cons_succ]) (hCont (v309, gb312) _ ⟨hHeld, (by (with_reducible repeat (first | apply Kd.R_alloc | apply Kd.R_drewN | apply Kd.R_drew)); exact Kd.R_mono HO257.out (fun _ hk => ⟨hk.1.1, ⟨hk.1.2.1, ⟨hk.1.2.2, hk.2⟩⟩⟩)), (by (with_reducible repeat (first | apply Kd.R_alloc | apply Kd.R_drewN | apply Kd.R_drew)); exact Kd.R_mono HO274.out (fun _ hk => ⟨hk.1.1, ⟨hk.1.2.1, ⟨hk.1.2.2, hk.2⟩⟩⟩)), (by (with_reducible repeat (first | apply Kd.R_alloc | apply Kd.R_drewN | apply Kd.R_drew)); exact Kd.R_mono HO288.out (fun _ hk => ⟨hk.1.1, ⟨hk.1.2.1, ⟨hk.1.2.2, hk.2⟩⟩⟩)), (by (with_reducible repeat (first | apply Kd.R_alloc | apply Kd.R_drewN | apply Kd.R_drew)); exact Kd.R_mono HO299.out (fun _ hk => ⟨hk.1.1, ⟨hk.1.2.1, ⟨hk.1.2.2, hk.2⟩⟩⟩)), (by (with_reducible repeat (first | apply Kd.R_alloc | apply Kd.R_drewN | apply Kd.R_drew)); exact Kd.R_mono HO310.out (fun _ hk => ⟨hk.1.1.1.2, ⟨hk.1.1.2, ⟨hk.1.2, hk.2⟩⟩⟩)), (by (with_reducible repeat (first | refine blk_drewN ?_ _ | refine blk_drew ?_ | refine blk_alloc ?_ _)); exact BK259.out), (by (with_reducible repeat (first | refine blk_drewN ?_ _ | refine blk_drew ?_ | refine blk_alloc ?_ _)); exact BK290.out), (by (with_reducible repeat (first | refine blk_drewN ?_ _ | refine blk_drew ?_ | refine blk_alloc ?_ _)); exact BK301.out), (by (with_reducible repeat (first | refine blk_drewN ?_ _ | refine blk_drew ?_ | refine blk_alloc ?_ _)); exact BK312.out), GW312.out, GE312.out, NB259_312.out, NB312_259.out, NB290_312.out, NB312_290.out, NB301_312.out, NB312_301.out, (by repeat (first | (with_reducible first | exact HB.out | apply below_alloc | apply pw_below_drewN | apply below_drew1 | refine below_set ?_ GE259.out | refine below_set ?_ GE290.out | refine below_set ?_ GE301.out | refine below_set ?_ GE312.out) | exact HB.out))⟩)
                        rintro ⟨v309, gb312⟩ w70 ⟨hS_, h0_, h1_, h2_, h3_, h4_, h5_, h6_, h7_, h8_, h9_, h10_, h11_, h12_, h13_, h14_, h15_, h16_, h17_⟩
                        have n0_ : Aside0 (Kd.R k26 26 w70 w.heap.size (fun k_ => some k_ ≠ (.slice Ao40 t272.length co40 : Value).ownBlock ∧ some k_ ≠ (.slice Ao55 t286.length co55 : Value).ownBlock ∧ some k_ ≠ (.slice Ao63 t297.length co63 : Value).ownBlock ∧ some k_ ≠ (v309 : Value).ownBlock) (.slice Ao33 t255.length co33) t255) := ⟨h0_⟩
                        have n1_ : Aside0 (Kd.R k26 26 w70 w.heap.size (fun k_ => some k_ ≠ (.slice Ao33 t255.length co33 : Value).ownBlock ∧ some k_ ≠ (.slice Ao55 t286.length co55 : Value).ownBlock ∧ some k_ ≠ (.slice Ao63 t297.length co63 : Value).ownBlock ∧ some k_ ≠ (v309 : Value).ownBlock) (.slice Ao40 t272.length co40) t272) := ⟨h1_⟩
                        have n2_ : Aside0 (Kd.R k26 26 w70 w.heap.size (fun k_ => some k_ ≠ (.slice Ao33 t255.length co33 : Value).ownBlock ∧ some k_ ≠ (.slice Ao40 t272.length co40 : Value).ownBlock ∧ some k_ ≠ (.slice Ao63 t297.length co63 : Value).ownBlock ∧ some k_ ≠ (v309 : Value).ownBlock) (.slice Ao55 t286.length co55) t286) := ⟨h2_⟩
                        have n3_ : Aside0 (Kd.R k26 26 w70 w.heap.size (fun k_ => some k_ ≠ (.slice Ao33 t255.length co33 : Value).ownBlock ∧ some k_ ≠ (.slice Ao40 t272.length co40 : Value).ownBlock ∧ some k_ ≠ (.slice Ao55 t286.length co55 : Value).ownBlock ∧ some k_ ≠ (v309 : Value).ownBlock) (.slice Ao63 t297.length co63) t297) := ⟨h3_⟩
                        have n4_ : Aside0 (Kd.R k26 26 w70 w.heap.size (fun k_ => some k_ ≠ (.slice Ao33 t255.length co33 : Value).ownBlock ∧ some k_ ≠ (.slice Ao40 t272.length co40 : Value).ownBlock ∧ some k_ ≠ (.slice Ao55 t286.length co55 : Value).ownBlock ∧ some k_ ≠ (.slice Ao63 t297.length co63 : Value).ownBlock) v309 t308) := ⟨h4_⟩
                        have n5_ : Aside0 (w70.heap[gb259]? = some (.cells #[.slice Ao40 t272.length co40] 24 (0, 0))) := ⟨h5_⟩
                        have n6_ : Aside0 (w70.heap[gb290]? = some (.cells #[.slice Ao55 t286.length co55] 24 (0, 0))) := ⟨h6_⟩
                        have n7_ : Aside0 (w70.heap[gb301]? = some (.cells #[.slice Ao63 t297.length co63] 24 (0, 0))) := ⟨h7_⟩
                        have n8_ : Aside0 (w70.heap[gb312]? = some (.cells #[.slice none 0 0] 24 (0, 0))) := ⟨h8_⟩
                        have n9_ : Aside0 (w.heap.size ≤ gb312) := ⟨h9_⟩
                        have n10_ : Aside0 (w.heap.size ≤ gb312) := ⟨h10_⟩
                        have n11_ : Aside0 (gb259 ≠ gb312) := ⟨h11_⟩
                        have n12_ : Aside0 (gb312 ≠ gb259) := ⟨h12_⟩
                        have n13_ : Aside0 (gb290 ≠ gb312) := ⟨h13_⟩
                        have n14_ : Aside0 (gb312 ≠ gb290) := ⟨h14_⟩
                        have n15_ : Aside0 (gb301 ≠ gb312) := ⟨h15_⟩
                        have n16_ : Aside0 (gb312 ≠ gb301) := ⟨h16_⟩
                        have n17_ : Aside0 (Below w.heap.size w w70) := ⟨h17_⟩
                        clear HO257
                        clear HO274
                        clear HO288
                        clear HO299
                        clear BK259
                        clear BK290
                        clear BK301
                        clear HB
                        clear h0_ h1_ h2_ h3_ h4_ h5_ h6_ h7_ h8_ h9_ h10_ h11_ h12_ h13_ h14_ h15_ h16_ h17_
                        have HO257 := n0_
                        have HO274 := n1_
                        have HO288 := n2_
                        have HO299 := n3_
                        have HO310 := n4_
                        have BK259 := n5_
                        have BK290 := n6_
                        have BK301 := n7_
                        have BK312 := n8_
                        have GW312 := n9_
                        have GE312 := n10_
                        have NB259_312 := n11_
                        have NB312_259 := n12_
                        have NB290_312 := n13_
                        have NB312_290 := n14_
                        have NB301_312 := n15_
                        have NB312_301 := n16_
                        have HB := n17_
                        clear n0_ n1_ n2_ n3_ n4_ n5_ n6_ n7_ n8_ n9_ n10_ n11_ n12_ n13_ n14_ n15_ n16_ n17_
                        have hHeld : w70.cell? ⟨gb259, 0, none⟩ = some (.slice Ao40 t272.length co40) := hS_
                        obtain ⟨Ao71, co71, eo71⟩ := Kd.R_slice HO310.out
                        (first | subst eo71 | (injection eo71 with f1_ f2_ f3_; have f4_ := f1_.symm; have f5_ := f3_.symm; clear f1_ f2_ f3_; subst f4_; subst f5_))
                        refine norm_ (a' := ?_) ?_ ?_
                        rotate_left
                        · simp only [putAll, Act.put, List.setIfInBounds_toArray, List.set_cons_zero, List.set_cons_succ]
                          rfl
                        refine one_ (i := 7) (N := none) #[true, true, true, true, true, true, true, true, false] rfl rfl (one_of HT_.out (by kernel_rfl)) (by decide) (fun K hK => ?_)
                        have hs72 : w70.cell? ⟨gb312, 0, none⟩ = some (.slice none 0 0) := (blk_cell BK312.out 0).trans rfl
                        have hfs72 := blk_frozen BK312.out 0
                        have hns72_0 := NB259_312.out
                        have hns72_1 := NB290_312.out
                        have hns72_2 := NB301_312.out
                        have hms72_0 := NB312_259.out
                        have hms72_1 := NB312_290.out
                        have hms72_2 := NB312_301.out
                        refine skip_ (w1 := ?_) (by rfl) rfl ?_ ?_
                        rotate_left
                        · go_simp
                          rfl
                        refine hK.out _ _ (((cell_far (p := ⟨gb312, _, none⟩) NB259_312.out _).trans (hHeld))) (fun hHeld => ?_)
                        clear hK K
                        refine pure_ (i := 8) (N := some 10) (v := ?_) (a' := ?_) #[true, true, true, true, true, true, true, true, true] rfl rfl (any_of HT_.out (by kernel_rfl)) (fun _ _ _ h => h) (Or.inl ⟨by rfl, ?_⟩) ?_ ?_
                        rotate_left
                        · intro w'
                          go_simp
                          with_reducible rfl
                        rotate_left
                        · simp only [Act.put, List.setIfInBounds_toArray, List.set_cons_zero, List.set_cons_succ, i64_w, i32_w]
                          rfl
                        refine done_ (done_of HT_.out (by kernel_rfl)) ?_
                        have hnb73 := NB259_290.out
                        have hnc73 := NB290_259.out
                        have hnb74 := NB259_301.out
                        have hnc74 := NB301_259.out
                        have hnb75 := NB259_312.out
                        have hnc75 := NB312_259.out
                        have hcz76_0 : w70.cell? ⟨gb259, 0, none⟩ = some (.slice Ao40 t272.length co40) := (blk_cell BK259.out 0).trans rfl
                        have hfz76_0 := blk_frozen BK259.out 0
                        have hnb77 := NB290_301.out
                        have hnc77 := NB301_290.out
                        have hnb78 := NB290_312.out
                        have hnc78 := NB312_290.out
                        have hcz79_0 : w70.cell? ⟨gb290, 0, none⟩ = some (.slice Ao55 t286.length co55) := (blk_cell BK290.out 0).trans rfl
                        have hfz79_0 := blk_frozen BK290.out 0
                        try go_wp2_with (first | (go_at_call 23; (with_reducible refine (wageofficeref39_Same.calls k _ _ t272 _ _ t286 true _ ?side1 ?side2 ?side3 ?side4 A24.out).mono ?_); (case side1 => refine (Kd.R_reads' (e := 26) (base := w.heap.size) (ok := fun k_ => (some k_ ≠ (.slice Ao33 t255.length co33 : Value).ownBlock ∧ (some k_ ≠ (.slice Ao55 t286.length co55 : Value).ownBlock ∧ (some k_ ≠ (.slice Ao63 t297.length co63 : Value).ownBlock ∧ some k_ ≠ (.slice Ao71 t308.length co71 : Value).ownBlock)))) (n := t272.length) (c := co40) ?_).2.2; exact (by (with_reducible repeat (first | apply Kd.R_alloc | apply Kd.R_drewN | apply Kd.R_drew)); exact (Kd.R_mono (Kd.R_far (p := ⟨gb312, 0, none⟩) (Kd.R_types HO274.out BK312.out (by decide)) (fun _ hk => hk.2) (.slice Ao71 t308.length co71)) (fun _ h_ => h_.1)))); (case side2 => exact (Kd.R_reads' HO274.out).2.1); (case side3 => refine (Kd.R_reads' (e := 26) (base := w.heap.size) (ok := fun k_ => (some k_ ≠ (.slice Ao33 t255.length co33 : Value).ownBlock ∧ (some k_ ≠ (.slice Ao40 t272.length co40 : Value).ownBlock ∧ (some k_ ≠ (.slice Ao63 t297.length co63 : Value).ownBlock ∧ some k_ ≠ (.slice Ao71 t308.length co71 : Value).ownBlock)))) (n := t286.length) (c := co55) ?_).2.2; exact (by (with_reducible repeat (first | apply Kd.R_alloc | apply Kd.R_drewN | apply Kd.R_drew)); exact (Kd.R_mono (Kd.R_far (p := ⟨gb312, 0, none⟩) (Kd.R_types HO288.out BK312.out (by decide)) (fun _ hk => hk.2) (.slice Ao71 t308.length co71)) (fun _ h_ => h_.1)))); (case side4 => exact (Kd.R_reads' HO288.out).2.1); rintro e w80 ⟨rfl, hb⟩; have n0_ := Aside0.mk (Kd.R_below (by (with_reducible repeat (first | apply Kd.R_alloc | apply Kd.R_drewN | apply Kd.R_drew)); exact (Kd.R_mono (Kd.R_far (p := ⟨gb312, 0, none⟩) (Kd.R_types HO257.out BK312.out (by decide)) (fun _ hk => hk.2) (.slice Ao71 t308.length co71)) (fun _ h_ => h_.1))) hb); have n1_ := Aside0.mk (Kd.R_below (by (with_reducible repeat (first | apply Kd.R_alloc | apply Kd.R_drewN | apply Kd.R_drew)); exact (Kd.R_mono (Kd.R_far (p := ⟨gb312, 0, none⟩) (Kd.R_types HO274.out BK312.out (by decide)) (fun _ hk => hk.2) (.slice Ao71 t308.length co71)) (fun _ h_ => h_.1))) hb); have n2_ := Aside0.mk (Kd.R_below (by (with_reducible repeat (first | apply Kd.R_alloc | apply Kd.R_drewN | apply Kd.R_drew)); exact (Kd.R_mono (Kd.R_far (p := ⟨gb312, 0, none⟩) (Kd.R_types HO288.out BK312.out (by decide)) (fun _ hk => hk.2) (.slice Ao71 t308.length co71)) (fun _ h_ => h_.1))) hb); have n3_ := Aside0.mk (Kd.R_below (by (with_reducible repeat (first | apply Kd.R_alloc | apply Kd.R_drewN | apply Kd.R_drew)); exact (Kd.R_mono (Kd.R_far (p := ⟨gb312, 0, none⟩) (Kd.R_types HO299.out BK312.out (by decide)) (fun _ hk => hk.2) (.slice Ao71 t308.length co71)) (fun _ h_ => h_.1))) hb); have n4_ := Aside0.mk (Kd.R_below (by (with_reducible repeat (first | apply Kd.R_alloc | apply Kd.R_drewN | apply Kd.R_drew)); exact (Kd.R_mono (Kd.R_far (p := ⟨gb312, 0, none⟩) (Kd.R_types HO310.out BK312.out (by decide)) (fun _ hk => hk.2) (.slice Ao71 t308.length co71)) (fun _ h_ => h_.1))) hb); have n5_ := Aside0.mk (blk_below (g := gb259) (o := .cells #[.slice Ao40 t272.length co40] 24 (0, 0)) (by (with_reducible repeat (first | refine blk_drewN ?_ _ | refine blk_drew ?_ | refine blk_alloc ?_ _)); refine blk_far ?_ NB259_312.out _; (with_reducible repeat (first | refine blk_drewN ?_ _ | refine blk_drew ?_ | refine blk_alloc ?_ _)); exact BK259.out) hb); have n6_ := Aside0.mk (blk_below (g := gb290) (o := .cells #[.slice Ao55 t286.length co55] 24 (0, 0)) (by (with_reducible repeat (first | refine blk_drewN ?_ _ | refine blk_drew ?_ | refine blk_alloc ?_ _)); refine blk_far ?_ NB290_312.out _; (with_reducible repeat (first | refine blk_drewN ?_ _ | refine blk_drew ?_ | refine blk_alloc ?_ _)); exact BK290.out) hb); have n7_ := Aside0.mk (blk_below (g := gb301) (o := .cells #[.slice Ao63 t297.length co63] 24 (0, 0)) (by (with_reducible repeat (first | refine blk_drewN ?_ _ | refine blk_drew ?_ | refine blk_alloc ?_ _)); refine blk_far ?_ NB301_312.out _; (with_reducible repeat (first | refine blk_drewN ?_ _ | refine blk_drew ?_ | refine blk_alloc ?_ _)); exact BK301.out) hb); have n8_ := Aside0.mk (blk_below (g := gb312) (o := .cells #[.slice Ao71 t308.length co71] 24 (0, 0)) (by (with_reducible repeat (first | refine blk_drewN ?_ _ | refine blk_drew ?_ | refine blk_alloc ?_ _)); refine blk_put (cs := #[.slice none 0 0]) ?_ 0 _ rfl; (with_reducible repeat (first | refine blk_drewN ?_ _ | refine blk_drew ?_ | refine blk_alloc ?_ _)); exact BK312.out) hb); have n9_ := Aside0.mk (below_step (by repeat (first | (with_reducible first | exact HB.out | apply below_alloc | apply pw_below_drewN | apply below_drew1 | refine below_set ?_ GE259.out | refine below_set ?_ GE290.out | refine below_set ?_ GE301.out | refine below_set ?_ GE312.out) | exact HB.out)) hb); clear HO257; clear HO274; clear HO288; clear HO299; clear HO310; clear BK259; clear BK290; clear BK301; clear BK312; clear HB; have HO257 := n0_; have HO274 := n1_; have HO288 := n2_; have HO299 := n3_; have HO310 := n4_; have BK259 := n5_; have BK290 := n6_; have BK301 := n7_; have BK312 := n8_; have HB := n9_; clear n0_ n1_ n2_ n3_ n4_ n5_ n6_ n7_ n8_ n9_; (try clear hb); (try clear hb2); (try clear hk); (try clear hi); have hcz81_0 : w80.cell? ⟨gb259, 0, none⟩ = some (.slice Ao40 t272.length co40) := (blk_cell BK259.out 0).trans rfl; have hfz81_0 := blk_frozen BK259.out 0) | (go_at_call 27; (with_reducible refine (ledger_Accounts.calls _ _ t272 t314 _ ?side1 ?side2 A28.out).mono ?_); (case side1 => repeat (first | exact (Kd.R_reads' HO274.out).2.2 | (with_reducible refine Kd.C_alloc ?_ _) | (with_reducible refine Kd.C_drewN ?_ _) | (with_reducible refine Kd.C_drew ?_))); (case side2 => exact (Kd.R_reads' HO274.out).2.1); rintro e w82 ⟨v315, rfl, ho0, hb⟩; have n0_ := Aside0.mk (Kd.R_below (by (with_reducible repeat (first | apply Kd.R_alloc | apply Kd.R_drewN | apply Kd.R_drew)); exact HO257.out) hb); have n1_ := Aside0.mk (Kd.R_below (by (with_reducible repeat (first | apply Kd.R_alloc | apply Kd.R_drewN | apply Kd.R_drew)); exact HO274.out) hb); have n2_ := Aside0.mk (Kd.R_below (by (with_reducible repeat (first | apply Kd.R_alloc | apply Kd.R_drewN | apply Kd.R_drew)); exact HO288.out) hb); have n3_ := Aside0.mk (Kd.R_below (by (with_reducible repeat (first | apply Kd.R_alloc | apply Kd.R_drewN | apply Kd.R_drew)); exact HO299.out) hb); have n4_ := Aside0.mk (Kd.R_below (by (with_reducible repeat (first | apply Kd.R_alloc | apply Kd.R_drewN | apply Kd.R_drew)); exact HO310.out) hb); have n5_ := Aside0.mk (Kd.R_lower ho0 (below_size (by repeat (first | (with_reducible first | exact HB.out | apply below_alloc | apply pw_below_drewN | apply below_drew1 | refine below_set ?_ GE259.out | refine below_set ?_ GE290.out | refine below_set ?_ GE301.out | refine below_set ?_ GE312.out) | exact HB.out)))); have n6_ := Aside0.mk (blk_below (g := gb259) (o := .cells #[.slice Ao40 t272.length co40] 24 (0, 0)) (by (with_reducible repeat (first | refine blk_drewN ?_ _ | refine blk_drew ?_ | refine blk_alloc ?_ _)); exact BK259.out) hb); have n7_ := Aside0.mk (blk_below (g := gb290) (o := .cells #[.slice Ao55 t286.length co55] 24 (0, 0)) (by (with_reducible repeat (first | refine blk_drewN ?_ _ | refine blk_drew ?_ | refine blk_alloc ?_ _)); exact BK290.out) hb); have n8_ := Aside0.mk (blk_below (g := gb301) (o := .cells #[.slice Ao63 t297.length co63] 24 (0, 0)) (by (with_reducible repeat (first | refine blk_drewN ?_ _ | refine blk_drew ?_ | refine blk_alloc ?_ _)); exact BK301.out) hb); have n9_ := Aside0.mk (blk_below (g := gb312) (o := .cells #[.slice Ao71 t308.length co71] 24 (0, 0)) (by (with_reducible repeat (first | refine blk_drewN ?_ _ | refine blk_drew ?_ | refine blk_alloc ?_ _)); exact BK312.out) hb); have n10_ := Aside0.mk (below_step (by repeat (first | (with_reducible first | exact HB.out | apply below_alloc | apply pw_below_drewN | apply below_drew1 | refine below_set ?_ GE259.out | refine below_set ?_ GE290.out | refine below_set ?_ GE301.out | refine below_set ?_ GE312.out) | exact HB.out)) hb); clear HO257; clear HO274; clear HO288; clear HO299; clear HO310; clear BK259; clear BK290; clear BK301; clear BK312; clear HB; have HO257 := n0_; have HO274 := n1_; have HO288 := n2_; have HO299 := n3_; have HO310 := n4_; have HO316 := n5_; have BK259 := n6_; have BK290 := n7_; have BK301 := n8_; have BK312 := n9_; have HB := n10_; clear n0_ n1_ n2_ n3_ n4_ n5_ n6_ n7_ n8_ n9_ n10_; (try clear hb); (try clear hb2); (try clear hk); (try clear hi); (try clear ho0)) | ((with_reducible refine gate_dst (N := 94) rfl ?_); (try (refine gate_guard (by rfl) ?_; dsimp only)); refine Kd.R_lit Kd.string _ 9 ?hg (N := 94) ?hd (xs := ([(⟨#[98, 97, 110, 107]⟩ : ByteArray), (⟨#[119, 97, 103, 101, 115]⟩ : ByteArray)] : List ByteArray)) (inner := [.string (⟨#[98, 97, 110, 107]⟩ : ByteArray), .string (⟨#[119, 97, 103, 101, 115]⟩ : ByteArray)]) (ok := fun _ => True) (okp := fun _ => True) ?hr ?hp (fun _ hk => hk) trivial (Below.refl _ _) (Nat.le_refl _) (by simp) ?_; (case hd => rfl); (case hg => rfl); (case hr => first | (go_simp; done) | (go_simp; rfl)); (case hp => exact (Reps.one (show Kd.M Kd.string _ _ _ (⟨#[98, 97, 110, 107]⟩ : ByteArray) [.string (⟨#[98, 97, 110, 107]⟩ : ByteArray)] from rfl) (Reps.one (show Kd.M Kd.string _ _ _ (⟨#[119, 97, 103, 101, 115]⟩ : ByteArray) [.string (⟨#[119, 97, 103, 101, 115]⟩ : ByteArray)] from rfl) (Reps.none _ _)))); intro v318 w83 ho84 hb hg_ hnew_; clear hg_ hnew_; (first | rw [← Ny317.out] at ho84 | (simp only [Int.reduceToNat] at ho84; rw [← Ny317.out] at ho84)); have n0_ := Aside0.mk (Kd.R_below (by (with_reducible repeat (first | apply Kd.R_alloc | apply Kd.R_drewN | apply Kd.R_drew)); exact HO257.out) hb); have n1_ := Aside0.mk (Kd.R_below (by (with_reducible repeat (first | apply Kd.R_alloc | apply Kd.R_drewN | apply Kd.R_drew)); exact HO274.out) hb); have n2_ := Aside0.mk (Kd.R_below (by (with_reducible repeat (first | apply Kd.R_alloc | apply Kd.R_drewN | apply Kd.R_drew)); exact HO288.out) hb); have n3_ := Aside0.mk (Kd.R_below (by (with_reducible repeat (first | apply Kd.R_alloc | apply Kd.R_drewN | apply Kd.R_drew)); exact HO299.out) hb); have n4_ := Aside0.mk (Kd.R_below (by (with_reducible repeat (first | apply Kd.R_alloc | apply Kd.R_drewN | apply Kd.R_drew)); exact HO310.out) hb); have n5_ := Aside0.mk (Kd.R_elder' (by (with_reducible repeat (first | apply Kd.R_alloc | apply Kd.R_drewN | apply Kd.R_drew)); exact HO316.out) (Kd.R_base ho84) hb); have n6_ := Aside0.mk (Kd.R_lower (Kd.R_new' ho84 (Kd.R_lt (by (with_reducible repeat (first | apply Kd.R_alloc | apply Kd.R_drewN | apply Kd.R_drew)); exact HO316.out))) (below_size (by repeat (first | (with_reducible first | exact HB.out | apply below_alloc | apply pw_below_drewN | apply below_drew1 | refine below_set ?_ GE259.out | refine below_set ?_ GE290.out | refine below_set ?_ GE301.out | refine below_set ?_ GE312.out) | exact HB.out)))); have n7_ := Aside0.mk (blk_below (g := gb259) (o := .cells #[.slice Ao40 t272.length co40] 24 (0, 0)) (by (with_reducible repeat (first | refine blk_drewN ?_ _ | refine blk_drew ?_ | refine blk_alloc ?_ _)); exact BK259.out) hb); have n8_ := Aside0.mk (blk_below (g := gb290) (o := .cells #[.slice Ao55 t286.length co55] 24 (0, 0)) (by (with_reducible repeat (first | refine blk_drewN ?_ _ | refine blk_drew ?_ | refine blk_alloc ?_ _)); exact BK290.out) hb); have n9_ := Aside0.mk (blk_below (g := gb301) (o := .cells #[.slice Ao63 t297.length co63] 24 (0, 0)) (by (with_reducible repeat (first | refine blk_drewN ?_ _ | refine blk_drew ?_ | refine blk_alloc ?_ _)); exact BK301.out) hb); have n10_ := Aside0.mk (blk_below (g := gb312) (o := .cells #[.slice Ao71 t308.length co71] 24 (0, 0)) (by (with_reducible repeat (first | refine blk_drewN ?_ _ | refine blk_drew ?_ | refine blk_alloc ?_ _)); exact BK312.out) hb); have n11_ := Aside0.mk (below_step (by repeat (first | (with_reducible first | exact HB.out | apply below_alloc | apply pw_below_drewN | apply below_drew1 | refine below_set ?_ GE259.out | refine below_set ?_ GE290.out | refine below_set ?_ GE301.out | refine below_set ?_ GE312.out) | exact HB.out)) hb); clear HO257; clear HO274; clear HO288; clear HO299; clear HO310; clear HO316; clear BK259; clear BK290; clear BK301; clear BK312; clear HB; have HO257 := n0_; have HO274 := n1_; have HO288 := n2_; have HO299 := n3_; have HO310 := n4_; have HO316 := n5_; have HO319 := n6_; have BK259 := n7_; have BK290 := n8_; have BK301 := n9_; have BK312 := n10_; have HB := n11_; clear n0_ n1_ n2_ n3_ n4_ n5_ n6_ n7_ n8_ n9_ n10_ n11_; clear hb ho84; obtain ⟨Ao85, co85, eo85⟩ := Kd.R_slice HO316.out; subst eo85; obtain ⟨Ao86, co86, eo86⟩ := Kd.R_slice HO319.out; subst eo86) | (go_at_call 26; (with_reducible refine (wageofficeref12_Strings.calls k _ _ t314 _ _ y317 t320 _ ?side1 ?side2 ?side3 ?side4 A29.out).mono ?_); (case side1 => repeat (first | exact (Kd.R_reads' HO316.out).2.2 | (with_reducible refine Kd.C_alloc ?_ _) | (with_reducible refine Kd.C_drewN ?_ _) | (with_reducible refine Kd.C_drew ?_))); (case side2 => exact (Kd.R_reads' HO316.out).2.1); (case side3 => repeat (first | exact (Kd.R_reads' HO319.out).2.2 | (with_reducible refine Kd.C_alloc ?_ _) | (with_reducible refine Kd.C_drewN ?_ _) | (with_reducible refine Kd.C_drew ?_))); (case side4 => exact (Kd.R_reads' HO319.out).2.1); rintro e w' ⟨rfl, ⟨nd, rfl⟩⟩))
                        go_ret
                        exact ⟨by first | rfl | (simp [errW_none, errW_some] <;> rfl) | (simp [*, errW_none, errW_some] <;> rfl), by repeat (first | (with_reducible first | exact HB.out | apply below_alloc | apply pw_below_drewN | apply below_drew1 | refine below_set ?_ GE259.out | refine below_set ?_ GE290.out | refine below_set ?_ GE301.out | refine below_set ?_ GE312.out) | exact HB.out)⟩
                      · rw [if_neg c27] at H
                        exact absurd H (by simp)
                    · rw [if_neg c26] at H
                      exact absurd H (by simp)
                  · replace c25 := Bool.eq_false_iff.mpr c25
                    subst c25
                    have H1 : (none) = some r := by rw [if_neg (show ¬ (false = true) by decide)] at H; exact H
                    clear H
                    have H := H1
                    clear H1
                    exact absurd H (by simp)
                · rw [if_neg c23] at H
                  exact absurd H (by simp)
              · rw [if_neg c22] at H
                exact absurd H (by simp)
            · rw [if_neg c14] at H
              exact absurd H (by simp)
          · rw [if_neg c12] at H
            exact absurd H (by simp)
        · rw [if_neg c10] at H
          exact absurd H (by simp)
      · replace c9 := Bool.eq_false_iff.mpr c9
        subst c9
        have H1 : (none) = some r := by rw [if_neg (show ¬ (false = true) by decide)] at H; exact H
        clear H
        have H := H1
        clear H1
        exact absurd H (by simp)
    · rw [if_neg c7] at H
      exact absurd H (by simp)
  · rw [if_neg c6] at H
    exact absurd H (by simp)

end Go.Proofs.Ytbmochegfdljfaa.My
