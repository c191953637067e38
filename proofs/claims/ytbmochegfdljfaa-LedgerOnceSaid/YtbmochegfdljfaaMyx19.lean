-- Written by a program of this session (wip/myprint.py), which drives the kit's print over hand-written fragments. Not trusted: Lean checks it.
import Derived.Test.YtbmochegfdljfaaMyx0
import Derived.Test.YtbmochegfdljfaaMyx21
import Derived.Test.YtbmochegfdljfaaMyx47
import Derived.Test.YtbmochegfdljfaaMyx48
import Derived.Test.YtbmochegfdljfaaMyx50
import Derived.Test.YtbmochegfdljfaaMyx900
namespace Go.Proofs.Ytbmochegfdljfaa.My
open Go.Proofs.Ytbmochegfdljfaa.Aid Go.Proofs.Ytbmochegfdljfaa.KdX
open Go.RowKit Go.Proofs.YtbmochegfdljfaaW.PrintWords Go.Proofs.YtbmochegfdljfaaW.PrintLast Go.Proofs.YtbmochegfdljfaaW.PrintMore
attribute [local go_sem] max2_int min2_int max_two min_two max_three min_three max_four min_four   -- for this text's walks alone
set_option linter.unusedVariables false
set_option linter.unusedSimpArgs false

/-! ### ledger_Post: function 19 (by hand) -/
def idAt (l : List S26) (id : Int) : Option S26 := l.find? fun x => x.f0 == id
def agreeB (x e : S26) : Bool := decide (x.f0 = e.f0) && (decide (x.f1.toList = e.f1.toList) && (decide (x.f2.toList = e.f2.toList) && decide (x.f3 = e.f3 ∧ x.f4 = e.f4)))
def postL (l : List S26) (e : S26) : List S26 × Int :=
  if formB e = false then ([], 1) else if validB l = false then ([], 1) else
  match idAt l e.f0 with
  | some x => if agreeB x e = true then (l, 0) else ([], 5)
  | none => if l.length = 2000 then ([], 2) else if 0 < l.length ∧ e.f5 < (rd_T26 l (l.length - 1 : Int)).f5 then ([], 6) else (l ++ [e], 0)
def ledger_Post.f (l0_0 : List S26) (a1_0 : Int) (a1_1 a1_2 : ByteArray) (a1_3 a1_4 a1_5 : Int) : Option (List S26 × Int) :=
  if l0_0.all szB && szB ⟨a1_0, a1_1, a1_2, a1_3, a1_4, a1_5⟩ then some (postL l0_0 ⟨a1_0, a1_1, a1_2, a1_3, a1_4, a1_5⟩) else none
-- IMPORT Derived.Test.YtbmochegfdljfaaMyx900
set_option maxHeartbeats 400000 in
theorem ledger_Post_1.calls (a0 : Int) (a1 a2 : ByteArray) (a3 a4 a5 : Int) (B : Nat) (id : Int) (w : World) (hB : w.cell? ⟨B, 0, none⟩ = some (.int .i64 id)) :
    Calls Try.prog 49 #[.agg #[.int .i64 a0, .string a1, .string a2, .int .i64 a3, .int .i64 a4, .int .i64 a5], .pointer (some ⟨B, 0, none⟩)] w fun e w' => e = .returned (.bool (a0 == id)) ∧ Below w.heap.size w w' := by
  have hu26 := Try.underlying26
  have hlt := World.block_lt_of_cell? w _ hB
  go_enter Try.func49, Try.ntmps49
  go_wp2
  go_ret
  exact ⟨rfl, below_alloc (Below.refl _ _) _⟩
theorem ledger_Post_1.enter : ∀ args w1, (callFunc 49 args).run Try.prog w1 = .ok (.enter 49 args) w1 := by
  intro args w1
  go_simp
-- IMPORT Derived.Test.YtbmochegfdljfaaMyx48
-- IMPORT Derived.Test.YtbmochegfdljfaaMyx900
-- IMPORT Derived.Deep.QuietTactic
-- IMPORT Derived.BigQuiet
-- IMPORT Derived.Outline
-- IMPORT Derived.IntWalk
-- IMPORT Derived.Deep.RegionHeld3
-- IMPORT Derived.Test.YtbmochegfdljfaaMyx50
theorem own_base0 {α : Type} {d : Kd α} {e base : Nat} {w : World} {v : Value} {xs : List α} {g : Nat} (h : d.R e w base (fun _ => True) v xs) (hg : some g = v.ownBlock) : base ≤ g := ((Kd.R_bound h).1 g hg.symm).2.1
theorem own_lt_abs {g n m : Nat} (h : g < n) (h2 : m ≤ g) (h3 : n ≤ m) : False := absurd (Nat.lt_of_lt_of_le h (Nat.le_trans h3 h2)) (Nat.lt_irrefl _)
theorem one_row26 {W : World} {g t : Nat} {x : S26} (h : W.heap[g]? = some (.cells #[.int .i64 x.f0, .string x.f1, .string x.f2, .int .i64 x.f3, .int .i64 x.f4, .int .i64 x.f5] t (0, 0))) : ReadsRow (fun (x : S26) (cs : List Value) => cs = [.int .i64 x.f0, .string x.f1, .string x.f2, .int .i64 x.f3, .int .i64 x.f4, .int .i64 x.f5]) k26.sz W (some ⟨g, 0, none⟩) 1 [x] := by
  refine ⟨rfl, by omega, fun _ => ⟨_, rfl, fun j p hj => ?_⟩⟩
  obtain ⟨hjl, rfl⟩ := List.getElem?_eq_some_iff.1 hj
  have hj0 : j = 0 := by simp at hjl; omega
  subst hj0
  refine ⟨_, rfl, rfl, fun i u hu => ?_⟩
  rw [add_plain, cell_of_row W g _ _ t _ h]
  simpa using hu
theorem rowM26 {W : World} {base : Nat} : ∀ (x : S26) (cs : List Value), cs = [.int .i64 x.f0, .string x.f1, .string x.f2, .int .i64 x.f3, .int .i64 x.f4, .int .i64 x.f5] → k26.M W base (fun _ => False) x cs := by
  rintro x _ rfl
  exact k26_mkM W base _ x
theorem lt_alloc0 (w : World) (o : Obj) : w.heap.size < (w.alloc o).heap.size := by simp
attribute [local go_sem high] eqA26
theorem idAt_none {l : List S26} {id : Int} (h : l.findIdx? (fun x => x.f0 == id) = none) : idAt l id = none := by
  unfold idAt
  rw [List.find?_eq_none]
  rw [List.findIdx?_eq_none_iff] at h
  exact fun x hx => by rw [h x hx]; simp
theorem idAt_some {l : List S26} {id : Int} {k : Nat} (h : l.findIdx? (fun x => x.f0 == id) = some k) : ∃ hk : k < l.length, idAt l id = some l[k] ∧ l[k].f0 = id := by
  rw [List.findIdx?_eq_some_iff_getElem] at h
  obtain ⟨hk, h1, h2⟩ := h
  refine ⟨hk, ?_, by simpa using h1⟩
  unfold idAt
  rw [List.find?_eq_some_iff_getElem]
  exact ⟨h1, k, hk, rfl, fun j hj => by simpa using h2 j hj⟩
set_option maxRecDepth 100000 in
set_option maxHeartbeats 4000000 in
theorem ledger_Post.calls (A0_0 : Option Addr) (c0_0 : Nat) (l0_0 : List (S26)) (a1_0 : Int) (a1_1 : ByteArray) (a1_2 : ByteArray) (a1_3 : Int) (a1_4 : Int) (a1_5 : Int) (r1 : List (S26)) (r2 : Int) (w : World) (hr0_0 : Kd.C k26 w A0_0 l0_0.length l0_0) (hc0_0 : l0_0.length ≤ c0_0) (h : ledger_Post.f l0_0 a1_0 a1_1 a1_2 a1_3 a1_4 a1_5 = some (r1, r2)) :
    Calls Try.prog 19 #[.agg #[.slice A0_0 l0_0.length c0_0], .agg #[.int .i64 a1_0, .string a1_1, .string a1_2, .int .i64 a1_3, .int .i64 a1_4, .int .i64 a1_5]] w fun e w' => ∃ v0_ : Value, e = .returned (.tuple #[.agg #[v0_], .int .i64 r2]) ∧ Kd.R k26 26 w' w.heap.size (fun _ => True) v0_ r1 ∧ Below w.heap.size w w' := by
  unfold ledger_Post.f at h
  by_cases hz : (l0_0.all szB && szB ⟨a1_0, a1_1, a1_2, a1_3, a1_4, a1_5⟩) = true
  · rw [if_pos hz] at h
    have h := Option.some.inj h
    rw [Bool.and_eq_true] at hz
    have hu24 := Try.underlying24
    have hu26 := Try.underlying26
    have HFM := Aside0.mk (isFormed_eval hz.2)
    have HVA := Aside0.mk (show ledger_Valid.f l0_0 = some (validB l0_0) by unfold ledger_Valid.f; rw [if_pos hz.1])
    have hn0 : l0_0.length ≤ 9223372036854775807 := hr0_0.2.1
    have HR := Aside0.mk hr0_0
    have HC := Aside0.mk hc0_0
    clear hr0_0 hc0_0 hz
    obtain ⟨W1, hW1⟩ : ∃ W1, W1 = ((w.alloc (.cells #[.slice A0_0 l0_0.length c0_0] 24)).alloc (.cells #[.int .i64 a1_0, .string a1_1, .string a1_2, .int .i64 a1_3, .int .i64 a1_4, .int .i64 a1_5] 26)).alloc (.cells #[.slice none 0 0] 24) := ⟨_, rfl⟩
    have hB1 : Below w.heap.size w W1 := by subst hW1; exact below_alloc (below_alloc (below_alloc (Below.refl _ _) _) _) _
    have hk0 : W1.heap[w.heap.size]? = some (.cells #[.slice A0_0 l0_0.length c0_0] 24 (0, 0)) := by subst hW1; exact blk_alloc (blk_alloc (blk_new _ _) _) _
    have hk1 : W1.heap[w.heap.size + 1]? = some (.cells #[.int .i64 a1_0, .string a1_1, .string a1_2, .int .i64 a1_3, .int .i64 a1_4, .int .i64 a1_5] 26 (0, 0)) := by subst hW1; refine blk_alloc ?_ _; have := blk_new (w.alloc (.cells #[.slice A0_0 l0_0.length c0_0] 24)) (.cells #[.int .i64 a1_0, .string a1_1, .string a1_2, .int .i64 a1_3, .int .i64 a1_4, .int .i64 a1_5] 26); rwa [World.size_alloc] at this
    have hk2 : W1.heap[w.heap.size + 1 + 1]? = some (.cells #[.slice none 0 0] 24 (0, 0)) := by subst hW1; have := blk_new ((w.alloc (.cells #[.slice A0_0 l0_0.length c0_0] 24)).alloc (.cells #[.int .i64 a1_0, .string a1_1, .string a1_2, .int .i64 a1_3, .int .i64 a1_4, .int .i64 a1_5] 26)) (.cells #[.slice none 0 0] 24); rwa [World.size_alloc, World.size_alloc] at this
    have HB1 := Aside0.mk hB1
    have HK0 := Aside0.mk hk0
    have HK1 := Aside0.mk hk1
    have HK2 := Aside0.mk hk2
    clear hB1 hk0 hk1 hk2
    go_enter Try.func19, Try.ntmps19
    go_wp2_with fail
    rw [← hW1]
    clear hW1
    refine (ledger_isFormed.calls a1_0 a1_1 a1_2 a1_3 a1_4 a1_5 (formB ⟨a1_0, a1_1, a1_2, a1_3, a1_4, a1_5⟩) _ HFM.out).mono ?_
    rintro e w2 ⟨rfl, hb2⟩
    have HB2 := Aside0.mk (below_step HB1.out hb2)
    have k0 := blk_below HK0.out hb2
    have k1 := blk_below HK1.out hb2
    have k2 := blk_below HK2.out hb2
    have d0 := blk_cell k0 0
    have f2 := blk_frozen k2 0
    have d2 := blk_cell k2 0
    simp at d0 d2
    have HK0 := Aside0.mk k0
    have HK1 := Aside0.mk k1
    have HK2 := Aside0.mk k2
    clear hb2 HB1 k0 k1 k2
    cases hf : formB ⟨a1_0, a1_1, a1_2, a1_3, a1_4, a1_5⟩ with
    | false =>
      rw [show postL l0_0 ⟨a1_0, a1_1, a1_2, a1_3, a1_4, a1_5⟩ = ([], 1) from by unfold postL; rw [if_pos hf]] at h
      obtain ⟨rfl, rfl⟩ := Prod.mk.inj h
      clear h hf
      go_wp2
      refine bodyPost_ret (results_ct rfl _ _ (w.heap.size + 1 + 1) 24 #[.slice none 0 0] (0, 0) _ rfl (by
        refine blk_put (cs := #[.slice none 0 0]) ?_ 0 _ rfl
        exact HK2.out) hu24 rfl (by kernel_rfl)) rfl ?_
      exact ⟨_, rfl, Kd.R_nil _ _ _ _ _, below_set HB2.out (by omega)⟩
    | true =>
      have HF := Aside0.mk hf
      clear hf
      go_wp2_with fail
      refine (ledger_Valid.calls A0_0 c0_0 l0_0 (validB l0_0) _ (Kd.C_below HR.out HB2.out) HC.out HVA.out).mono ?_
      rintro e w3 ⟨rfl, hb3⟩
      have HB3 := Aside0.mk (below_step HB2.out hb3)
      have k0 := blk_below HK0.out hb3
      have k1 := blk_below HK1.out hb3
      have k2 := blk_below HK2.out hb3
      clear d0 f2 d2
      have d0 := blk_cell k0 0
      have f2 := blk_frozen k2 0
      have d2 := blk_cell k2 0
      simp at d0 d2
      have HK0 := Aside0.mk k0
      have HK1 := Aside0.mk k1
      have HK2 := Aside0.mk k2
      clear hb3 HB2 k0 k1 k2
      cases hv : validB l0_0 with
      | false =>
        rw [show postL l0_0 ⟨a1_0, a1_1, a1_2, a1_3, a1_4, a1_5⟩ = ([], 1) from by unfold postL; rw [if_neg (by rw [HF.out]; simp), if_pos hv]] at h
        obtain ⟨rfl, rfl⟩ := Prod.mk.inj h
        clear h hv
        go_wp2
        refine bodyPost_ret (results_ct rfl _ _ (w.heap.size + 1 + 1) 24 #[.slice none 0 0] (0, 0) _ rfl (by
          refine blk_put (cs := #[.slice none 0 0]) ?_ 0 _ rfl
          exact HK2.out) hu24 rfl (by kernel_rfl)) rfl ?_
        exact ⟨_, rfl, Kd.R_nil _ _ _ _ _, below_set HB3.out (by omega)⟩
      | true =>
        have HV := Aside0.mk hv
        clear hv
        have hPL : postL l0_0 ⟨a1_0, a1_1, a1_2, a1_3, a1_4, a1_5⟩ = (match idAt l0_0 a1_0 with
          | some x => if agreeB x ⟨a1_0, a1_1, a1_2, a1_3, a1_4, a1_5⟩ = true then (l0_0, 0) else ([], 5)
          | none => if l0_0.length = 2000 then ([], 2) else if 0 < l0_0.length ∧ a1_5 < (rd_T26 l0_0 (l0_0.length - 1 : Int)).f5 then ([], 6) else (l0_0 ++ [⟨a1_0, a1_1, a1_2, a1_3, a1_4, a1_5⟩], 0)) := by
          unfold postL; rw [if_neg (by rw [HF.out]; simp), if_neg (by rw [HV.out]; simp)]
        rw [hPL] at h
        have HH := Aside0.mk h
        clear h hPL
        have hl2000 : l0_0.length ≤ 2000 := by have := HV.out; unfold validB at this; simp only [Bool.and_eq_true, decide_eq_true_eq] at this; exact this.1
        have HID := Aside0.mk (api_Entry_48.calls 49 #[.pointer (some ⟨w.heap.size + 1, 0, none⟩)] A0_0 c0_0 l0_0 (fun x => x.f0 == a1_0) (fun W => Below w3.heap.size w3 W) w3 ledger_Post_1.enter
          (Kd.C_below HR.out HB3.out) (Below.refl _ _) (fun _ h => h) (fun x w4 hw4 => ((ledger_Post_1.calls x.f0 x.f1 x.f2 x.f3 x.f4 x.f5 (w.heap.size + 1) a1_0 w4 ((blk_cell (blk_below HK1.out hw4) 0).trans rfl)).mono fun e w5 ⟨he, hb5⟩ => ⟨he, below_step hw4 hb5⟩)))
        go_wp2_with fail
        refine (HID.out).mono ?_
        rintro e w4 ⟨rfl, hb4⟩
        clear HID
        have HB4 := Aside0.mk (below_step HB3.out hb4)
        have k0 := blk_below HK0.out hb4
        have k1 := blk_below HK1.out hb4
        have k2 := blk_below HK2.out hb4
        clear d0 f2 d2
        have d0 := blk_cell k0 0
        have f2 := blk_frozen k2 0
        have d2 := blk_cell k2 0
        have e0 := blk_cell k1 0
        have e1 := blk_cell k1 1
        have e2 := blk_cell k1 2
        have e3 := blk_cell k1 3
        have e4 := blk_cell k1 4
        have e5 := blk_cell k1 5
        have fe5 := blk_frozen k1 5
        simp at d0 d2 e0 e1 e2 e3 e4 e5
        have HK0 := Aside0.mk k0
        have HK1 := Aside0.mk k1
        have HK2 := Aside0.mk k2
        clear hb4 HB3 k0 k1 k2
        cases hx : l0_0.findIdx? (fun x => x.f0 == a1_0) with
        | some k =>
          obtain ⟨hkl, hid, hxid⟩ := idAt_some hx
          clear hx
          simp only [Option.elim]
          have hg := HH.out
          rw [hid] at hg
          simp only at hg
          clear hid HH
          obtain ⟨ad, e, g0, g1, g2, g3, g4, g5⟩ := at_T26 HR.out (k : Int) (by omega) (by omega)
          cases e
          rw [Int.toNat_natCast, rd26_at hkl] at g0 g1 g2 g3 g4 g5
          obtain ⟨y, hy⟩ : ∃ y, l0_0[k] = y := ⟨_, rfl⟩
          rw [hy] at g0 g1 g2 g3 g4 g5 hg hxid
          clear hy
          have G0 := Aside0.mk g0
          have G1 := Aside0.mk g1
          have G2 := Aside0.mk g2
          have G3 := Aside0.mk g3
          have G4 := Aside0.mk g4
          have G5 := Aside0.mk g5
          have HG := Aside0.mk hg
          have HXI := Aside0.mk hxid
          clear g0 g1 g2 g3 g4 hg hxid
          replace g5 := (HB4.out.cell (World.block_lt_of_cell? w _ g5)).trans g5
          have hk0 : (0 : Int) ≤ (k : Int) := by omega
          have hk1 : (k : Int) < (l0_0.length : Int) := by omega
          go_upto_region 7 with fail
          obtain ⟨w5, hw5⟩ : ∃ w5, w5 = w4.setCell ⟨w.heap.size + 1, 5, none⟩ (.int .i64 y.f5) := ⟨_, rfl⟩
          rw [← hw5]
          have hB5 : Below w.heap.size w w5 := by subst hw5; exact below_set HB4.out (by omega)
          have k0 : w5.heap[w.heap.size]? = some (.cells #[.slice (some ad) l0_0.length c0_0] 24 (0, 0)) := by subst hw5; exact blk_far HK0.out (by show w.heap.size ≠ w.heap.size + 1; omega) _
          have k1 : w5.heap[w.heap.size + 1]? = some (.cells #[.int .i64 a1_0, .string a1_1, .string a1_2, .int .i64 a1_3, .int .i64 a1_4, .int .i64 y.f5] 26 (0, 0)) := by subst hw5; exact blk_put HK1.out 5 _ rfl
          have k2 : w5.heap[w.heap.size + 1 + 1]? = some (.cells #[.slice none 0 0] 24 (0, 0)) := by subst hw5; exact blk_far HK2.out (by show w.heap.size + 1 + 1 ≠ w.heap.size + 1; omega) _
          clear hw5 HK0 HK1 HK2 HB4 d0 d2 f2 e0 e1 e2 e3 e4 e5 fe5 g5
          have d0 := blk_cell k0 0
          have d2 := blk_cell k2 0
          have f2 := blk_frozen k2 0
          have e0 := blk_cell k1 0
          have e1 := blk_cell k1 1
          have e2 := blk_cell k1 2
          have e3 := blk_cell k1 3
          have e4 := blk_cell k1 4
          have e5 := blk_cell k1 5
          simp at d0 d2 e0 e1 e2 e3 e4 e5
          have g0 := (hB5.cell (World.block_lt_of_cell? w _ G0.out)).trans G0.out
          have g1 := (hB5.cell (World.block_lt_of_cell? w _ G1.out)).trans G1.out
          have g2 := (hB5.cell (World.block_lt_of_cell? w _ G2.out)).trans G2.out
          have g3 := (hB5.cell (World.block_lt_of_cell? w _ G3.out)).trans G3.out
          have g4 := (hB5.cell (World.block_lt_of_cell? w _ G4.out)).trans G4.out
          have g5 := (hB5.cell (World.block_lt_of_cell? w _ G5.out)).trans G5.out
          have HK0 := Aside0.mk k0
          have HK2 := Aside0.mk k2
          have HB5 := Aside0.mk hB5
          clear k0 k1 k2 hB5 G0 G1 G2 G3 G4 G5
          go_quiet (fail)
          go_wp2_with fail
          · have hq : (!y.f0 == a1_0) = true ∨ (!y.f1.toList == a1_1.toList) = true ∨ (!y.f2.toList == a1_2.toList) = true ∨ (!y.f3 == a1_3) = true ∨ (!y.f4 == a1_4) = true := by assumption
            have hag : agreeB y ⟨a1_0, a1_1, a1_2, a1_3, a1_4, a1_5⟩ = false := by
              rw [Bool.eq_false_iff]
              intro ha
              simp [agreeB] at ha
              obtain ⟨h1, h2, h3, h4, h5⟩ := ha
              simp [h1, h2, h3, h4, h5] at hq
            have hg := HG.out
            rw [if_neg (by rw [hag]; simp)] at hg
            obtain ⟨rfl, rfl⟩ := Prod.mk.inj hg
            refine bodyPost_ret (results_ct rfl _ _ (w.heap.size + 1 + 1) 24 #[.slice none 0 0] (0, 0) _ rfl (by
              refine blk_put (cs := #[.slice none 0 0]) ?_ 0 _ rfl
              exact blk_drewN HK2.out _) hu24 rfl (by kernel_rfl)) rfl ?_
            exact ⟨_, rfl, Kd.R_nil _ _ _ _ _, below_set (pw_below_drewN HB5.out _) (by omega)⟩
          · have hq : (!y.f0 == a1_0) = false ∧ (!y.f1.toList == a1_1.toList) = false ∧ (!y.f2.toList == a1_2.toList) = false ∧ (!y.f3 == a1_3) = false ∧ (!y.f4 == a1_4) = false := by assumption
            have hag : agreeB y ⟨a1_0, a1_1, a1_2, a1_3, a1_4, a1_5⟩ = true := by
              simp at hq
              simp [agreeB, hq]
            have hg := HG.out
            rw [if_pos hag] at hg
            obtain ⟨rfl, rfl⟩ := Prod.mk.inj hg
            clear hg hag hq
            have hCL : api_Entry_50.f l0_0 = some l0_0 := by unfold api_Entry_50.f; rw [if_pos (by omega)]
            have HCL := Aside0.mk hCL
            clear hCL
            refine (api_Entry_50.calls (some ad) c0_0 l0_0 l0_0 _ (Kd.C_below HR.out (pw_below_drewN HB5.out _)) HC.out HCL.out).mono ?_
            rintro e wc ⟨vc, rfl, hvc, hbc⟩
            obtain ⟨Ac, cc, rfl⟩ := Kd.R_slice hvc
            have k2 := blk_below (blk_drewN HK2.out nq) hbc
            have d2 := blk_cell k2 0
            have f2 := blk_frozen k2 0
            simp at d2
            have hlt : w.heap.size + 1 + 1 < w5.heap.size := blk_lt HK2.out
            have HBC := Aside0.mk (below_step (pw_below_drewN HB5.out nq) hbc)
            have HVC := Aside0.mk (Kd.R_lower (base' := w.heap.size) hvc (by show w.heap.size ≤ w5.heap.size; omega))
            have K2 := Aside0.mk k2
            clear k2 hvc hbc hlt
            go_wp2
            refine bodyPost_ret (results_ct rfl _ _ (w.heap.size + 1 + 1) 24 #[.slice Ac l0_0.length cc] (0, 0) _ rfl (by
              refine blk_put (cs := #[.slice none 0 0]) ?_ 0 _ rfl
              exact K2.out) hu24 rfl (by kernel_rfl)) rfl ?_
            exact ⟨_, rfl, Kd.R_set HVC.out K2.out (by decide) 0 _, below_set HBC.out (by omega)⟩
        | none =>
          have hid := idAt_none hx
          clear hx
          simp only [Option.elim]
          have hg := HH.out
          rw [hid] at hg
          simp only at hg
          clear hid HH
          by_cases h2 : l0_0.length = 2000
          · rw [if_pos h2] at hg
            obtain ⟨rfl, rfl⟩ := Prod.mk.inj hg
            clear hg
            have h2b : ((l0_0.length : Int) == 2000) = true := by simp; omega
            have HN := Aside0.mk h2
            clear h2
            go_wp2
            refine bodyPost_ret (results_ct rfl _ _ (w.heap.size + 1 + 1) 24 #[.slice none 0 0] (0, 0) _ rfl (by
              refine blk_put (cs := #[.slice none 0 0]) ?_ 0 _ rfl
              exact HK2.out) hu24 rfl (by kernel_rfl)) rfl ?_
            exact ⟨_, rfl, Kd.R_nil _ _ _ _ _, below_set HB4.out (by omega)⟩
          · have h2b : ((l0_0.length : Int) == 2000) = false := by simp; omega
            rw [if_neg h2] at hg
            have HG := Aside0.mk hg
            clear hg
            have HN2 := Aside0.mk h2
            clear h2
            by_cases hpos : (0 : Int) < (l0_0.length : Int)
            · obtain ⟨m, hm⟩ : ∃ m, l0_0.length = m + 1 := ⟨l0_0.length - 1, by omega⟩
              obtain ⟨ad, e, g0, g1, g2, g3, g4, g5⟩ := at_T26 HR.out ((l0_0.length : Int) - 1) (by omega) (by omega)
              cases e
              rw [show ((l0_0.length : Int) - 1).toNat = m from by omega] at g5
              replace g5 := (HB4.out.cell (World.block_lt_of_cell? w _ g5)).trans g5
              clear g0 g1 g2 g3 g4
              have HG' := Aside0.mk (show (if a1_5 < (rd_T26 l0_0 (l0_0.length - 1 : Int)).f5 then (([], 6) : List S26 × Int) else (l0_0 ++ [⟨a1_0, a1_1, a1_2, a1_3, a1_4, a1_5⟩], 0)) = (r1, r2) from by
                have := HG.out
                by_cases hq : a1_5 < (rd_T26 l0_0 (l0_0.length - 1 : Int)).f5
                · rw [if_pos hq]; rw [if_pos ⟨by omega, hq⟩] at this; exact this
                · rw [if_neg hq]; rw [if_neg (fun h => hq h.2)] at this; exact this)
              clear HG
              generalize (rd_T26 l0_0 (l0_0.length - 1 : Int)).f5 = lb at g5 HG'
              have hw1 : IntKind.i64.wrap ((l0_0.length : Int) - 1) = (m : Int) := by rw [IntWalk.i64_in _ (by omega)]; omega
              have hm0 : (0 : Int) ≤ (m : Int) := by omega
              have hm1 : (m : Int) < (l0_0.length : Int) := by omega
              have HM := Aside0.mk hm
              clear hm
              have hpd : decide ((0 : Int) < (l0_0.length : Int)) = true := decide_eq_true hpos
              have hpd2 : decide (0 < l0_0.length) = true := decide_eq_true (by omega)
              by_cases hlb : a1_5 < lb
              · have hg := HG'.out
                rw [if_pos hlb] at hg
                obtain ⟨rfl, rfl⟩ := Prod.mk.inj hg
                clear hg HG'
                go_wp2_with fail
                go_quiet (fail)
                go_wp2
                refine bodyPost_ret (results_ct rfl _ _ (w.heap.size + 1 + 1) 24 #[.slice none 0 0] (0, 0) _ rfl (by
                  refine blk_put (cs := #[.slice none 0 0]) ?_ 0 _ rfl
                  exact blk_drewN HK2.out _) hu24 rfl (by kernel_rfl)) rfl ?_
                exact ⟨_, rfl, Kd.R_nil _ _ _ _ _, below_set (pw_below_drewN HB4.out _) (by omega)⟩
              · have hg := HG'.out
                rw [if_neg hlb] at hg
                obtain ⟨rfl, rfl⟩ := Prod.mk.inj hg
                clear hg HG'
                go_wp2_with fail
                go_quiet (fail)
                go_wp2_with fail
                obtain ⟨wq, hwq⟩ : ∃ wq, wq = w4.drewN nq := ⟨_, rfl⟩
                rw [← hwq]
                have hBq : Below w.heap.size w wq := by subst hwq; exact pw_below_drewN HB4.out _
                have k0 : wq.heap[w.heap.size]? = some (.cells #[.slice (some ad) l0_0.length c0_0] 24 (0, 0)) := by subst hwq; exact HK0.out
                have k1 : wq.heap[w.heap.size + 1]? = some (.cells #[.int .i64 a1_0, .string a1_1, .string a1_2, .int .i64 a1_3, .int .i64 a1_4, .int .i64 a1_5] 26 (0, 0)) := by subst hwq; exact HK1.out
                have k2 : wq.heap[w.heap.size + 1 + 1]? = some (.cells #[.slice none 0 0] 24 (0, 0)) := by subst hwq; exact HK2.out
                clear hwq HK0 HK1 HK2 HB4 d0 d2 f2 e0 e1 e2 e3 e4 e5 fe5
                have d0 := blk_cell k0 0
                have d2 := blk_cell k2 0
                have f2 := blk_frozen k2 0
                have e0 := blk_cell k1 0
                have e1 := blk_cell k1 1
                have e2 := blk_cell k1 2
                have e3 := blk_cell k1 3
                have e4 := blk_cell k1 4
                have e5 := blk_cell k1 5
                simp at d0 d2 e0 e1 e2 e3 e4 e5
                have HK0 := Aside0.mk k0
                have HK1 := Aside0.mk k1
                have HK2 := Aside0.mk k2
                have HBq := Aside0.mk hBq
                have HRq := Aside0.mk (Kd.C_below HR.out hBq)
                have HL := Aside0.mk (show w.heap.size + 1 + 1 < wq.heap.size from blk_lt k2)
                have HCL := Aside0.mk (show api_Entry_50.f l0_0 = some l0_0 by unfold api_Entry_50.f; rw [if_pos (by omega)])
                clear k0 k1 k2 hBq
                generalize hb2e : w.heap.size + 1 + 1 = b2 at d2 f2 HK2 HL ⊢
                have nb1 : w.heap.size ≠ b2 := by omega
                have nb2 : b2 ≠ w.heap.size := by omega
                have nb3 : w.heap.size + 1 ≠ b2 := by omega
                have nb4 : b2 ≠ w.heap.size + 1 := by omega
                have HE2 := Aside0.mk hb2e
                have HL1 := Aside0.mk (show w.heap.size + 1 < wq.heap.size by have := HL.out; omega)
                have HLE := Aside0.mk (show w.heap.size ≤ wq.heap.size by have := HL.out; omega)
                clear hb2e
                go_region_held3 (fun w' => w'.cell? ⟨w.heap.size, 0, none⟩ = some (.slice (some ad) l0_0.length c0_0) ∧ w'.cell? ⟨w.heap.size + 1, 0, none⟩ = some (.int .i64 a1_0) ∧ w'.cell? ⟨w.heap.size + 1, 1, none⟩ = some (.string a1_1) ∧ w'.cell? ⟨w.heap.size + 1, 2, none⟩ = some (.string a1_2) ∧ w'.cell? ⟨w.heap.size + 1, 3, none⟩ = some (.int .i64 a1_3) ∧ w'.cell? ⟨w.heap.size + 1, 4, none⟩ = some (.int .i64 a1_4) ∧ w'.cell? ⟨w.heap.size + 1, 5, none⟩ = some (.int .i64 a1_5)) (go_keep)
                  (first
                    | (go_at_call 50; refine (api_Entry_50.calls (some ad) c0_0 l0_0 l0_0 _ (Kd.C_below HRq.out (by repeat (first | exact Below.refl _ _ | apply below_alloc | apply below_drew1))) HC.out HCL.out).mono ?_; rintro e wc ⟨vc, rfl, hvc, hbc⟩; have hBC : Below wq.heap.size wq wc := below_step (by repeat (first | exact Below.refl _ _ | apply below_alloc | apply below_drew1)) hbc; obtain ⟨Ac, cc, rfl⟩ := Kd.R_slice hvc; have HVC := Aside0.mk hvc; have HBC := Aside0.mk hBC; (try (have yB := Aside0.mk ((hbc.block wq.heap.size (lt_alloc0 wq.drew _)).trans (blk_new wq.drew _)))); have m0 := blk_below HK0.out hBC; have m1 := blk_below HK1.out hBC; have m2 := blk_below HK2.out hBC; have q0 := (blk_cell m0 0).trans rfl; have p0 := (blk_cell m1 0).trans rfl; have p1 := (blk_cell m1 1).trans rfl; have p2 := (blk_cell m1 2).trans rfl; have p3 := (blk_cell m1 3).trans rfl; have p4 := (blk_cell m1 4).trans rfl; have p5 := (blk_cell m1 5).trans rfl; have MK0 := Aside0.mk m0; have MK1 := Aside0.mk m1; have MK2 := Aside0.mk m2; clear hvc hbc hBC m0 m1 m2; have HV0 := Aside0.mk (fun (g : Nat) (hg : g < wq.heap.size) (e : some g = (Value.slice Ac l0_0.length cc).ownBlock) => own_lt_abs hg (own_base0 HVC.out e) (by simp)))
                    | ((revert yB; intro yB; refine Kd.R_append_rows_step k26 (w0 := w) w.heap.size (by rfl) (.tmp 67) (.tmp 69) 22 26 (.agg #[(.int .i64 0), (.string ⟨#[]⟩), (.string ⟨#[]⟩), (.int .i64 0), (.int .i64 0), (.int .i64 0)]) 64 (by rfl) Try.underlying22 info26 rfl (by decide) (by omega) (.slice Ac l0_0.length cc) l0_0 [⟨a1_0, a1_1, a1_2, a1_3, a1_4, a1_5⟩] (some ⟨wq.heap.size, 0, none⟩) 1 1 (fun _ => True) (fun _ => False) (by rfl) (by rfl) (Kd.R_lower HVC.out (Nat.le_trans HLE.out (by simp))) (one_row26 yB.out) rowM26 (fun _ h => h.elim) (fun _ _ => trivial) (below_step HBq.out HBC.out) (Below.size (below_step HBq.out HBC.out)) (by omega) ?_; intro v1 w1 hR1 hb1 hg1 hat1; obtain ⟨A1, c1, rfl⟩ := Kd.R_slice hR1; have n0 := blk_grown MK0.out hg1 (fun e => HV0.out _ (Nat.lt_trans (Nat.lt_succ_self _) HL1.out) e); have n1 := blk_grown MK1.out hg1 (fun e => HV0.out _ HL1.out e); have n2 := blk_grown MK2.out hg1 (fun e => HV0.out _ HL.out e); have z0 := (blk_cell n0 0).trans rfl; have y0 := (blk_cell n1 0).trans rfl; have y1 := (blk_cell n1 1).trans rfl; have y2 := (blk_cell n1 2).trans rfl; have y3 := (blk_cell n1 3).trans rfl; have y4 := (blk_cell n1 4).trans rfl; have y5 := (blk_cell n1 5).trans rfl; have z2 := (blk_cell n2 0).trans rfl; have zf := blk_frozen n2 0; have NK2 := Aside0.mk n2; have HR1 := Aside0.mk hR1; have HB1 := Aside0.mk hb1; clear hR1 hb1 hg1 hat1 n0 n1 n2))
                    | ((revert HBC; intro HBC; refine Kd.R_append_rows_step k26 (w0 := w) w.heap.size (by rfl) (.tmp 67) (.tmp 69) 22 26 (.agg #[(.int .i64 0), (.string ⟨#[]⟩), (.string ⟨#[]⟩), (.int .i64 0), (.int .i64 0), (.int .i64 0)]) 64 (by rfl) Try.underlying22 info26 rfl (by decide) (by omega) (.slice Ac l0_0.length cc) l0_0 [⟨a1_0, a1_1, a1_2, a1_3, a1_4, a1_5⟩] (some ⟨wc.heap.size, 0, none⟩) 1 1 (fun _ => True) (fun _ => False) (by rfl) (by rfl) (Kd.R_alloc (Kd.R_lower HVC.out (Nat.le_trans HLE.out (by simp))) _) (one_row26 (blk_new wc _)) rowM26 (fun _ h => h.elim) (fun _ _ => trivial) (below_alloc (below_step HBq.out HBC.out) _) (Below.size (below_alloc (below_step HBq.out HBC.out) _)) (by omega) ?_; intro v1 w1 hR1 hb1 hg1 hat1; obtain ⟨A1, c1, rfl⟩ := Kd.R_slice hR1; have n0 := blk_grown (blk_alloc MK0.out _) hg1 (fun e => HV0.out _ (Nat.lt_trans (Nat.lt_succ_self _) HL1.out) e); have n1 := blk_grown (blk_alloc MK1.out _) hg1 (fun e => HV0.out _ HL1.out e); have n2 := blk_grown (blk_alloc MK2.out _) hg1 (fun e => HV0.out _ HL.out e); have z0 := (blk_cell n0 0).trans rfl; have y0 := (blk_cell n1 0).trans rfl; have y1 := (blk_cell n1 1).trans rfl; have y2 := (blk_cell n1 2).trans rfl; have y3 := (blk_cell n1 3).trans rfl; have y4 := (blk_cell n1 4).trans rfl; have y5 := (blk_cell n1 5).trans rfl; have z2 := (blk_cell n2 0).trans rfl; have zf := blk_frozen n2 0; have NK2 := Aside0.mk n2; have HR1 := Aside0.mk hR1; have HB1 := Aside0.mk hb1; clear hR1 hb1 hg1 hat1 n0 n1 n2)))
                all_goals
                  go_wp2
                  refine bodyPost_ret (results_ct rfl _ _ b2 24 #[.slice A1 (l0_0.length + 1) c1] (0, 0) _ rfl (by
                    refine blk_put (cs := #[.slice none 0 0]) ?_ 0 _ rfl
                    exact NK2.out) hu24 rfl (by kernel_rfl)) rfl ?_
                  have hR1 := Kd.R_set HR1.out NK2.out (by decide) 0 (.slice A1 (l0_0.length + 1) c1)
                  rw [List.length_append, List.length_singleton] at hR1
                  exact ⟨_, rfl, hR1, below_set HB1.out (by have := HE2.out; omega)⟩
            · have hz0 : l0_0.length = 0 := by omega
              have hpd : decide ((0 : Int) < (l0_0.length : Int)) = false := decide_eq_false hpos
              have hpd2 : decide (0 < l0_0.length) = false := decide_eq_false (by omega)
              have hg := HG.out
              rw [if_neg (by omega)] at hg
              obtain ⟨rfl, rfl⟩ := Prod.mk.inj hg
              clear hg HG
              have HZ0 := Aside0.mk hz0
              clear hz0
              go_wp2_with fail
              go_quiet (fail)
              go_wp2_with fail
              obtain ⟨wq, hwq⟩ : ∃ wq, wq = w4.drewN nq := ⟨_, rfl⟩
              rw [← hwq]
              have hBq : Below w.heap.size w wq := by subst hwq; exact pw_below_drewN HB4.out _
              have k0 : wq.heap[w.heap.size]? = some (.cells #[.slice A0_0 l0_0.length c0_0] 24 (0, 0)) := by subst hwq; exact HK0.out
              have k1 : wq.heap[w.heap.size + 1]? = some (.cells #[.int .i64 a1_0, .string a1_1, .string a1_2, .int .i64 a1_3, .int .i64 a1_4, .int .i64 a1_5] 26 (0, 0)) := by subst hwq; exact HK1.out
              have k2 : wq.heap[w.heap.size + 1 + 1]? = some (.cells #[.slice none 0 0] 24 (0, 0)) := by subst hwq; exact HK2.out
              clear hwq HK0 HK1 HK2 HB4 d0 d2 f2 e0 e1 e2 e3 e4 e5 fe5
              have d0 := blk_cell k0 0
              have d2 := blk_cell k2 0
              have f2 := blk_frozen k2 0
              have e0 := blk_cell k1 0
              have e1 := blk_cell k1 1
              have e2 := blk_cell k1 2
              have e3 := blk_cell k1 3
              have e4 := blk_cell k1 4
              have e5 := blk_cell k1 5
              simp at d0 d2 e0 e1 e2 e3 e4 e5
              have HK0 := Aside0.mk k0
              have HK1 := Aside0.mk k1
              have HK2 := Aside0.mk k2
              have HBq := Aside0.mk hBq
              have HRq := Aside0.mk (Kd.C_below HR.out hBq)
              have HL := Aside0.mk (show w.heap.size + 1 + 1 < wq.heap.size from blk_lt k2)
              have HCL := Aside0.mk (show api_Entry_50.f l0_0 = some l0_0 by unfold api_Entry_50.f; rw [if_pos (by omega)])
              clear k0 k1 k2 hBq
              generalize hb2e : w.heap.size + 1 + 1 = b2 at d2 f2 HK2 HL ⊢
              have nb1 : w.heap.size ≠ b2 := by omega
              have nb2 : b2 ≠ w.heap.size := by omega
              have nb3 : w.heap.size + 1 ≠ b2 := by omega
              have nb4 : b2 ≠ w.heap.size + 1 := by omega
              have HE2 := Aside0.mk hb2e
              have HL1 := Aside0.mk (show w.heap.size + 1 < wq.heap.size by have := HL.out; omega)
              have HLE := Aside0.mk (show w.heap.size ≤ wq.heap.size by have := HL.out; omega)
              clear hb2e
              go_region_held3 (fun w' => w'.cell? ⟨w.heap.size, 0, none⟩ = some (.slice A0_0 l0_0.length c0_0) ∧ w'.cell? ⟨w.heap.size + 1, 0, none⟩ = some (.int .i64 a1_0) ∧ w'.cell? ⟨w.heap.size + 1, 1, none⟩ = some (.string a1_1) ∧ w'.cell? ⟨w.heap.size + 1, 2, none⟩ = some (.string a1_2) ∧ w'.cell? ⟨w.heap.size + 1, 3, none⟩ = some (.int .i64 a1_3) ∧ w'.cell? ⟨w.heap.size + 1, 4, none⟩ = some (.int .i64 a1_4) ∧ w'.cell? ⟨w.heap.size + 1, 5, none⟩ = some (.int .i64 a1_5)) (go_keep)
                (first
                  | (go_at_call 50; refine (api_Entry_50.calls A0_0 c0_0 l0_0 l0_0 _ (Kd.C_below HRq.out (by repeat (first | exact Below.refl _ _ | apply below_alloc | apply below_drew1))) HC.out HCL.out).mono ?_; rintro e wc ⟨vc, rfl, hvc, hbc⟩; have hBC : Below wq.heap.size wq wc := below_step (by repeat (first | exact Below.refl _ _ | apply below_alloc | apply below_drew1)) hbc; obtain ⟨Ac, cc, rfl⟩ := Kd.R_slice hvc; have HVC := Aside0.mk hvc; have HBC := Aside0.mk hBC; (try (have yB := Aside0.mk ((hbc.block wq.heap.size (lt_alloc0 wq.drew _)).trans (blk_new wq.drew _)))); have m0 := blk_below HK0.out hBC; have m1 := blk_below HK1.out hBC; have m2 := blk_below HK2.out hBC; have q0 := (blk_cell m0 0).trans rfl; have p0 := (blk_cell m1 0).trans rfl; have p1 := (blk_cell m1 1).trans rfl; have p2 := (blk_cell m1 2).trans rfl; have p3 := (blk_cell m1 3).trans rfl; have p4 := (blk_cell m1 4).trans rfl; have p5 := (blk_cell m1 5).trans rfl; have MK0 := Aside0.mk m0; have MK1 := Aside0.mk m1; have MK2 := Aside0.mk m2; clear hvc hbc hBC m0 m1 m2; have HV0 := Aside0.mk (fun (g : Nat) (hg : g < wq.heap.size) (e : some g = (Value.slice Ac l0_0.length cc).ownBlock) => own_lt_abs hg (own_base0 HVC.out e) (by simp)))
                  | ((revert yB; intro yB; refine Kd.R_append_rows_step k26 (w0 := w) w.heap.size (by rfl) (.tmp 67) (.tmp 69) 22 26 (.agg #[(.int .i64 0), (.string ⟨#[]⟩), (.string ⟨#[]⟩), (.int .i64 0), (.int .i64 0), (.int .i64 0)]) 64 (by rfl) Try.underlying22 info26 rfl (by decide) (by omega) (.slice Ac l0_0.length cc) l0_0 [⟨a1_0, a1_1, a1_2, a1_3, a1_4, a1_5⟩] (some ⟨wq.heap.size, 0, none⟩) 1 1 (fun _ => True) (fun _ => False) (by rfl) (by rfl) (Kd.R_lower HVC.out (Nat.le_trans HLE.out (by simp))) (one_row26 yB.out) rowM26 (fun _ h => h.elim) (fun _ _ => trivial) (below_step HBq.out HBC.out) (Below.size (below_step HBq.out HBC.out)) (by omega) ?_; intro v1 w1 hR1 hb1 hg1 hat1; obtain ⟨A1, c1, rfl⟩ := Kd.R_slice hR1; have n0 := blk_grown MK0.out hg1 (fun e => HV0.out _ (Nat.lt_trans (Nat.lt_succ_self _) HL1.out) e); have n1 := blk_grown MK1.out hg1 (fun e => HV0.out _ HL1.out e); have n2 := blk_grown MK2.out hg1 (fun e => HV0.out _ HL.out e); have z0 := (blk_cell n0 0).trans rfl; have y0 := (blk_cell n1 0).trans rfl; have y1 := (blk_cell n1 1).trans rfl; have y2 := (blk_cell n1 2).trans rfl; have y3 := (blk_cell n1 3).trans rfl; have y4 := (blk_cell n1 4).trans rfl; have y5 := (blk_cell n1 5).trans rfl; have z2 := (blk_cell n2 0).trans rfl; have zf := blk_frozen n2 0; have NK2 := Aside0.mk n2; have HR1 := Aside0.mk hR1; have HB1 := Aside0.mk hb1; clear hR1 hb1 hg1 hat1 n0 n1 n2))
                  | ((revert HBC; intro HBC; refine Kd.R_append_rows_step k26 (w0 := w) w.heap.size (by rfl) (.tmp 67) (.tmp 69) 22 26 (.agg #[(.int .i64 0), (.string ⟨#[]⟩), (.string ⟨#[]⟩), (.int .i64 0), (.int .i64 0), (.int .i64 0)]) 64 (by rfl) Try.underlying22 info26 rfl (by decide) (by omega) (.slice Ac l0_0.length cc) l0_0 [⟨a1_0, a1_1, a1_2, a1_3, a1_4, a1_5⟩] (some ⟨wc.heap.size, 0, none⟩) 1 1 (fun _ => True) (fun _ => False) (by rfl) (by rfl) (Kd.R_alloc (Kd.R_lower HVC.out (Nat.le_trans HLE.out (by simp))) _) (one_row26 (blk_new wc _)) rowM26 (fun _ h => h.elim) (fun _ _ => trivial) (below_alloc (below_step HBq.out HBC.out) _) (Below.size (below_alloc (below_step HBq.out HBC.out) _)) (by omega) ?_; intro v1 w1 hR1 hb1 hg1 hat1; obtain ⟨A1, c1, rfl⟩ := Kd.R_slice hR1; have n0 := blk_grown (blk_alloc MK0.out _) hg1 (fun e => HV0.out _ (Nat.lt_trans (Nat.lt_succ_self _) HL1.out) e); have n1 := blk_grown (blk_alloc MK1.out _) hg1 (fun e => HV0.out _ HL1.out e); have n2 := blk_grown (blk_alloc MK2.out _) hg1 (fun e => HV0.out _ HL.out e); have z0 := (blk_cell n0 0).trans rfl; have y0 := (blk_cell n1 0).trans rfl; have y1 := (blk_cell n1 1).trans rfl; have y2 := (blk_cell n1 2).trans rfl; have y3 := (blk_cell n1 3).trans rfl; have y4 := (blk_cell n1 4).trans rfl; have y5 := (blk_cell n1 5).trans rfl; have z2 := (blk_cell n2 0).trans rfl; have zf := blk_frozen n2 0; have NK2 := Aside0.mk n2; have HR1 := Aside0.mk hR1; have HB1 := Aside0.mk hb1; clear hR1 hb1 hg1 hat1 n0 n1 n2)))
              all_goals
                go_wp2
                refine bodyPost_ret (results_ct rfl _ _ b2 24 #[.slice A1 (l0_0.length + 1) c1] (0, 0) _ rfl (by
                  refine blk_put (cs := #[.slice none 0 0]) ?_ 0 _ rfl
                  exact NK2.out) hu24 rfl (by kernel_rfl)) rfl ?_
                have hR1 := Kd.R_set HR1.out NK2.out (by decide) 0 (.slice A1 (l0_0.length + 1) c1)
                rw [List.length_append, List.length_singleton] at hR1
                exact ⟨_, rfl, hR1, below_set HB1.out (by have := HE2.out; omega)⟩
  · rw [if_neg hz] at h; cases h


end Go.Proofs.Ytbmochegfdljfaa.My
