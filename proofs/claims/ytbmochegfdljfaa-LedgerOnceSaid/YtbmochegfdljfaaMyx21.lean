-- Written by a program of this session (wip/myprint.py), which drives the kit's print over hand-written fragments. Not trusted: Lean checks it.
import Derived.Test.YtbmochegfdljfaaMyx0
import Derived.Test.YtbmochegfdljfaaMyx47
import Derived.Test.YtbmochegfdljfaaMyx78
import Derived.Test.YtbmochegfdljfaaMyx79
import Derived.Maps.OwnSet
import Derived.Carry
namespace Go.Proofs.Ytbmochegfdljfaa.My
open Go.Proofs.Ytbmochegfdljfaa.Aid Go.Proofs.Ytbmochegfdljfaa.KdX
open Go.RowKit Go.Proofs.YtbmochegfdljfaaW.PrintWords Go.Proofs.YtbmochegfdljfaaW.PrintLast Go.Proofs.YtbmochegfdljfaaW.PrintMore
attribute [local go_sem] max2_int min2_int max_two min_two max_three min_three max_four min_four   -- for this text's walks alone
set_option linter.unusedVariables false
set_option linter.unusedSimpArgs false

/-! ### ledger_Valid: function 21 (by hand) -/
def szB (x : S26) : Bool := (Lit.int .i64 x.f0).wf && (decide (x.f1.size ≤ maxLen) && decide (x.f2.size ≤ maxLen))
def formB (x : S26) : Bool := decide (0 ≤ x.f0 ∧ x.f0 ≤ 1000000000000) && (nameB x.f1 && (nameB x.f2 && (decide (x.f1.toList ≠ x.f2.toList) && decide (0 < x.f3 ∧ x.f3 ≤ 1000000000000 ∧ 0 ≤ x.f4 ∧ x.f4 ≤ 36524 ∧ 0 ≤ x.f5 ∧ x.f5 ≤ 36524))))
def goesB : List Int → Int → List S26 → Bool
  | _, _, [] => true
  | seen, last, x :: l => !seen.contains x.f0 && (formB x && (decide (last ≤ x.f5) && goesB (x.f0 :: seen) x.f5 l))
def validB (l : List S26) : Bool := decide (l.length ≤ 2000) && goesB [] 0 l
def ledger_Valid.f (l0_0 : List S26) : Option Bool := if l0_0.all szB then some (validB l0_0) else none
-- IMPORT Derived.Maps.OwnSet
-- IMPORT Derived.Carry
theorem isFormed_eval {x : S26} (hz : szB x = true) : ledger_isFormed.f x.f0 x.f1 x.f2 x.f3 x.f4 x.f5 = some (formB x) := by
  simp only [szB, Bool.and_eq_true, decide_eq_true_eq] at hz
  unfold ledger_isFormed.f ledger_isDay.f ledger_isName.f formB
  rw [if_pos hz.2.1, if_pos hz.2.2]
  simp only [Option.bind_some]
  cases nameB x.f1 <;> cases nameB x.f2 <;> simp only [Bool.false_eq_true, if_true, if_false] <;> repeat' (first | (simp only [Option.bind_some]) | split)
  all_goals (refine congrArg some ?_; rw [Bool.eq_iff_iff]; simp_all)
  all_goals (try omega)
theorem zero3 (w : World) : (zeroValue 3).run Try.prog w = .ok (.int .i64 0) w := by kernel_rfl
theorem map_below {P : Program} {k : TypeId} {R : Value → Option (DataW Unit × List MemPlace)} {b n : Nat} {D : DataW Unit} {w w' : World} (h : w.ownsMap P k R b n D) (hb : Below w.heap.size w w') : w'.ownsMap P k R b n D := by
  have hlt := h.lt
  obtain ⟨es, clock, h1, r⟩ := h
  exact ⟨es, clock, (hb.block b hlt).trans h1, r⟩
theorem goes_cons (seen : List Int) (last : Int) (x : S26) (l : List S26) : goesB seen last (x :: l) = (!seen.contains x.f0 && (formB x && (decide (last ≤ x.f5) && goesB (x.f0 :: seen) x.f5 l))) := rfl
theorem rd26_at {l : List S26} {k : Nat} (h : k < l.length) : rd_T26 l (k : Int) = l[k] := by
  simp [rd_T26, List.getD_eq_getElem?_getD, h]
set_option maxRecDepth 100000 in
set_option maxHeartbeats 1000000 in
theorem ledger_Valid.calls (A0_0 : Option Addr) (c0_0 : Nat) (l0_0 : List S26) (r : Bool) (w : World) (hr0_0 : Kd.C k26 w A0_0 l0_0.length l0_0) (hc0_0 : l0_0.length ≤ c0_0) (h : ledger_Valid.f l0_0 = some r) :
    Calls Try.prog 21 #[.agg #[.slice A0_0 l0_0.length c0_0]] w fun e w' => e = .returned (.bool r) ∧ Below w.heap.size w w' := by
  unfold ledger_Valid.f at h
  by_cases hz : l0_0.all szB = true
  · rw [if_pos hz] at h
    obtain rfl := Option.some.inj h
    clear h
    have hu24 := Try.underlying24
    have hu26 := Try.underlying26
    have hmm := @run_makeMap Try.prog
    have hn0 : l0_0.length ≤ 9223372036854775807 := hr0_0.2.1
    have HR := Aside0.mk hr0_0
    have HZ := Aside0.mk hz
    clear hr0_0 hz
    by_cases h2 : 2000 < (l0_0.length : Int)
    · have HE := Aside0.mk (show validB l0_0 = false by unfold validB; rw [decide_eq_false (by omega)]; rfl)
      go_enter Try.func21, Try.ntmps21
      go_wp2
      go_ret
      exact ⟨by rw [HE.out]; rfl, below_alloc (Below.refl _ _) _⟩
    · have HE := Aside0.mk (show validB l0_0 = goesB [] 0 l0_0 by unfold validB; rw [decide_eq_true (by omega)]; rfl)
      go_enter Try.func21, Try.ntmps21
      go_wp2_with fail
      obtain ⟨W0, hW0⟩ : ∃ W0, W0 = (w.alloc (.cells #[.slice A0_0 l0_0.length c0_0] 24)).alloc (.map #[] 0) := ⟨_, rfl⟩
      rw [← hW0]
      have HM := Aside0.mk (show W0.ownsMap (H := Unit) Try.prog 3 (plainElem Try.prog 3) (w.heap.size + 1) 0 (.map []) by
        subst hW0; have := World.ownsMap_made (H := Unit) (w.alloc (.cells #[.slice A0_0 l0_0.length c0_0] 24)) Try.prog 3 (plainElem Try.prog 3); rwa [World.size_alloc] at this)
      have HB0 := Aside0.mk (show Below w.heap.size w W0 by subst hW0; exact below_alloc (below_alloc (Below.refl _ _) _) _)
      have hsz0 : W0.heap.size = w.heap.size + 2 := by subst hW0; simp
      clear hW0 hmm
      go_loopw [4, 17] (fun last i wr => ∃ (k : Nat) (x : Int) (D : DataW Unit) (seen : List Int), last = .int .i64 x ∧ i = .int .i64 k ∧ k ≤ l0_0.length ∧ Aside0 (wr.ownsMap Try.prog 3 (plainElem Try.prog 3) (w.heap.size + 1) k D) ∧
          Aside0 (∀ y, Maps.has D (.int .i64 y) = seen.contains y) ∧ Aside0 (goesB [] 0 l0_0 = goesB seen x (l0_0.drop k)) ∧ Aside0 (Below w.heap.size w wr) ∧ Aside0 (w.heap.size + 2 ≤ wr.heap.size))
        (fun _ i _ => l0_0.length - (intOf i).toNat)
      case atStart => exact ⟨0, 0, _, [], rfl, rfl, Nat.zero_le _, HM, ⟨fun y => by simp [Maps.has]⟩, ⟨rfl⟩, HB0, ⟨by omega⟩⟩
      case round =>
        obtain ⟨k, x, D, seen, rfl, rfl, hk, HO, HS, HG, HB, HZS⟩ := hrel
        by_cases hlt : k < l0_0.length
        · obtain ⟨ad, rfl, g0, g1, g2, g3, g4, g5⟩ := at_T26 HR.out (k : Int) (by omega) (by omega)
          rw [Int.toNat_natCast, rd26_at hlt] at g0 g1 g2 g3 g4 g5
          have hsx : szB l0_0[k] = true := List.all_eq_true.1 HZ.out _ (List.getElem_mem hlt)
          have hgo := HG.out
          rw [List.drop_eq_getElem_cons hlt, goes_cons] at hgo
          obtain ⟨y, hy⟩ : ∃ y, l0_0[k] = y := ⟨_, rfl⟩
          rw [hy] at g0 g1 g2 g3 g4 g5 hsx hgo
          have HF := Aside0.mk (isFormed_eval hsx)
          have hwf : (Lit.int .i64 y.f0).wf = true := by simp only [szB, Bool.and_eq_true] at hsx; exact hsx.1
          have HK := Aside0.mk (Maps.keyOf_int_mk Try.underlying3 hwf)
          have HGO := Aside0.mk hgo
          clear hy hsx hgo hwf
          replace g0 := (HB.out.cell (World.block_lt_of_cell? w _ g0)).trans g0
          replace g1 := (HB.out.cell (World.block_lt_of_cell? w _ g1)).trans g1
          replace g2 := (HB.out.cell (World.block_lt_of_cell? w _ g2)).trans g2
          replace g3 := (HB.out.cell (World.block_lt_of_cell? w _ g3)).trans g3
          replace g4 := (HB.out.cell (World.block_lt_of_cell? w _ g4)).trans g4
          replace g5 := (HB.out.cell (World.block_lt_of_cell? w _ g5)).trans g5
          have HAS := Aside0.mk (HS.out y.f0)
          cases hc : seen.contains y.f0 with
          | true =>
            have HEV := Aside0.mk (show validB l0_0 = false by rw [HE.out, HGO.out, hc]; rfl)
            have hhas : Maps.has D (.int .i64 y.f0) = true := by rw [HAS.out, hc]
            clear hc HAS
            go_wp2_with (at_lookup; refine wpList_lookup_own_ok_int _ rfl _ _ 80 rfl 3 3 .i64 (Maps.int_keyed Try.underlying3) Try.underlying80 Try.underlying3 (zero3 _) (w.heap.size + 1) k D rfl (HO.out.alloc _) _ _ rfl HK.out ?_; intro c hat hwc; rw [hhas])
            go_ret
            exact ⟨by rw [HEV.out]; rfl, below_alloc HB.out _⟩
          | false =>
            have hhas : Maps.has D (.int .i64 y.f0) = false := by rw [HAS.out, hc]
            have HCN := Aside0.mk hc
            clear hc HAS
            go_wp2_with (at_lookup; refine wpList_lookup_own_ok_int _ rfl _ _ 80 rfl 3 3 .i64 (Maps.int_keyed Try.underlying3) Try.underlying80 Try.underlying3 (zero3 _) (w.heap.size + 1) k D rfl (HO.out.alloc _) _ _ rfl HK.out ?_; intro c hat hwc; rw [hhas])
            refine (ledger_isFormed.calls y.f0 y.f1 y.f2 y.f3 y.f4 y.f5 (formB y) _ HF.out).mono ?_
            rintro e w2 ⟨rfl, hb2⟩
            have hnew := blk_new wr (.cells #[.int .i64 y.f0, .string y.f1, .string y.f2, .int .i64 y.f3, .int .i64 y.f4, .int .i64 y.f5] 26)
            have hblk := (hb2.block wr.heap.size (blk_lt hnew)).trans hnew
            have HBLK := Aside0.mk hblk
            have HO2 := Aside0.mk (map_below (HO.out.alloc _) hb2)
            have HB2 := Aside0.mk (below_step (below_alloc HB.out _) hb2)
            have hz2 : w.heap.size + 2 ≤ w2.heap.size := by have := hb2.size; have := HZS.out; simp at *; omega
            have HZ2 := Aside0.mk hz2
            have c0 := blk_cell hblk 0
            have c5 := blk_cell hblk 5
            simp at c0 c5
            have hne : wr.heap.size ≠ w.heap.size + 1 := by have := HZS.out; omega
            have HNE := Aside0.mk hne
            have HLT := Aside0.mk (blk_lt hblk)
            clear hb2 hnew hblk hz2 hne g0 g1 g2 g3 g4 g5
            cases hfy : formB y with
            | false =>
              have HEV := Aside0.mk (show validB l0_0 = false by rw [HE.out, HGO.out, HCN.out, hfy]; rfl)
              clear hfy
              go_wp2
              go_ret
              exact ⟨by rw [HEV.out]; rfl, HB2.out⟩
            | true =>
              by_cases hle : y.f5 < x
              · have HEV := Aside0.mk (show validB l0_0 = false by rw [HE.out, HGO.out, HCN.out, hfy, decide_eq_false (by omega)]; rfl)
                clear hfy
                go_wp2
                go_ret
                exact ⟨by rw [HEV.out]; rfl, HB2.out⟩
              · have HGN := Aside0.mk (show goesB [] 0 l0_0 = goesB (y.f0 :: seen) y.f5 (l0_0.drop (k + 1)) by rw [HGO.out, HCN.out, hfy, decide_eq_true (by omega)]; rfl)
                have hkm : k < maxLen := by unfold maxLen; omega
                have hkw : (Lit.int .i64 (k : Int)).wf = true := by
                  have h1 : IntKind.i64.min = -9223372036854775808 := by decide
                  have h2 : IntKind.i64.max = 9223372036854775807 := by decide
                  simp only [Lit.wf, Bool.and_eq_true, decide_eq_true_eq, h1, h2]; omega
                clear hfy
                go_wp2_with (at_mapUpdate; refine wpList_mapUpdate_own _ rfl _ _ _ 80 rfl 3 3 (Maps.int_keyed Try.underlying3) Try.underlying80 (plainElem Try.prog 3) (w.heap.size + 1) k D rfl HO2.out hkm _ _ _ rfl rfl HK.out _ [] (plainElem_int Try.underlying3 hkw) ?_; intro w3 hown3 hgrow3; have HO3 := Aside0.mk hown3; have HG3 := Aside0.mk hgrow3; have d5 := blk_cell ((hgrow3.block wr.heap.size HLT.out (fun e => HNE.out (Option.some.inj e))).trans HBLK.out) 5; simp at d5; clear hown3 hgrow3)
                go_roundw
                case rel => exact ⟨k + 1, y.f5, _, y.f0 :: seen, rfl, by go_num, by omega, HO3, ⟨fun z => by
                    by_cases e : z = y.f0
                    · subst e
                      rw [Maps.has_put_same HO2.out.isMap (by simp [WideAt.IsKeyLit])]; simp
                    · rw [Maps.has_put_other (by simpa using e), HS.out z]; simp [e]⟩, HGN, ⟨(HB2.out.grown HG3.out (by have := HZ2.out; omega) (fun j hj => by cases hj; omega))⟩, ⟨by have := HG3.out.size; have := HZ2.out; omega⟩⟩
                case measure => simp [intOf]; omega
        · have hkl : k = l0_0.length := by omega
          subst hkl
          have HEV := Aside0.mk (show validB l0_0 = true by rw [HE.out, HG.out, List.drop_length]; rfl)
          go_wp2
          go_ret
          exact ⟨by rw [HEV.out]; rfl, HB.out⟩
  · rw [if_neg hz] at h; cases h


end Go.Proofs.Ytbmochegfdljfaa.My
