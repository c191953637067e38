-- Written by a program of this session (wip/myprint.py), which drives the kit's print over hand-written fragments. Not trusted: Lean checks it.
import Derived.Test.YtbmochegfdljfaaMyx0
namespace Go.Proofs.Ytbmochegfdljfaa.My
open Go.Proofs.Ytbmochegfdljfaa.Aid Go.Proofs.Ytbmochegfdljfaa.KdX
open Go.RowKit Go.Proofs.YtbmochegfdljfaaW.PrintWords Go.Proofs.YtbmochegfdljfaaW.PrintLast Go.Proofs.YtbmochegfdljfaaW.PrintMore
attribute [local go_sem] max2_int min2_int max_two min_two max_three min_three max_four min_four   -- for this text's walks alone
set_option linter.unusedVariables false
set_option linter.unusedSimpArgs false

/-! ### ledger_isName: function 78 (by hand) -/
-- (the type of ledgers, for the laws' rows) k24
def nameC (s : ByteArray) (i : Nat) : Bool := (decide (97 ≤ bt s (i : Int)) && decide (bt s (i : Int) ≤ 122)) || (decide (i ≠ 0) && (decide (bt s (i : Int) = 95) || (decide (48 ≤ bt s (i : Int)) && decide (bt s (i : Int) ≤ 57))))
def nameB (s : ByteArray) : Bool := (List.range s.size).all (nameC s) && (decide (0 < s.size) && decide (s.size ≤ 16))
def ledger_isName.f (a0 : ByteArray) : Option Bool := if a0.size ≤ maxLen then some (nameB a0) else none
theorem nameC_iff (s : ByteArray) (i : Nat) : nameC s i = true ↔ ((97 ≤ bt s (i : Int) ∧ bt s (i : Int) ≤ 122) ∨ (i ≠ 0 ∧ (bt s (i : Int) = 95 ∨ (48 ≤ bt s (i : Int) ∧ bt s (i : Int) ≤ 57)))) := by
  unfold nameC; simp
theorem nameB_no {s : ByteArray} {i : Nat} (hi : i < s.size) (h : ¬ ((97 ≤ bt s (i : Int) ∧ bt s (i : Int) ≤ 122) ∨ (i ≠ 0 ∧ (bt s (i : Int) = 95 ∨ (48 ≤ bt s (i : Int) ∧ bt s (i : Int) ≤ 57))))) : nameB s = false := by
  rw [← nameC_iff] at h
  unfold nameB
  rw [show (List.range s.size).all (nameC s) = false from by rw [List.all_eq_false]; exact ⟨i, List.mem_range.2 hi, h⟩]
  rfl
theorem nameB_end {s : ByteArray} (h : ∀ j, j < s.size → nameC s j = true) : nameB s = (decide (0 < s.size) && decide (s.size ≤ 16)) := by
  unfold nameB
  rw [show (List.range s.size).all (nameC s) = true from by rw [List.all_eq_true]; exact fun j hj => h j (List.mem_range.1 hj)]
  rfl
theorem bt_bd (s : ByteArray) (i : Int) : 0 ≤ bt s i ∧ bt s i ≤ 255 := by
  unfold bt; split
  · have := UInt8.toNat_lt (s[i.toNat]'(by assumption)); omega
  · omega
set_option maxHeartbeats 1000000 in
theorem ledger_isName.calls (a0 : ByteArray) (r : Bool) (w : World) (h : ledger_isName.f a0 = some r) :
    Calls Try.prog 78 #[.string a0] w fun e w' => e = .returned (.bool r) ∧ Below w.heap.size w w' := by
  unfold ledger_isName.f at h
  by_cases hs : a0.size ≤ maxLen
  · rw [if_pos hs] at h
    obtain rfl := Option.some.inj h
    clear h
    unfold maxLen at hs
    have hs1 : (a0.size : Int) ≤ 9223372036854775807 := by omega
    obtain ⟨cap, W1, hconv, hcell, hB⟩ : ∃ cap W1, (convert 9 67 (.string a0)).run Try.prog w = .ok (.slice (some ⟨w.heap.size, 0, none⟩) a0.size cap) W1 ∧ (∀ j : Nat, j < a0.size → W1.cell? ⟨w.heap.size, j, none⟩ = some (.int .u8 (bt a0 (j : Int)))) ∧ Below w.heap.size w W1 := by
      refine ⟨_, _, run_bytes_of_string w 9 67 5 a0 Try.underlying9 Try.underlying67 Try.underlying5, ?_, ?_⟩
      · intro j hj
        have h1 := heap_alloc_new w.drew (.cells (bytesRow a0 (grownCap w a0.size 0 5)) 5 ((bytesRow a0 (grownCap w a0.size 0 5)).size, (bytesRow a0 (grownCap w a0.size 0 5)).size + 1))
        have h2 : (bytesRow a0 (grownCap w a0.size 0 5))[j]? = some (.int .u8 (bt a0 (j : Int))) := by
          unfold bytesRow bt
          have hj' : j < a0.data.size := hj
          rw [Array.getElem?_append_left (by simpa using hj')]
          simp [hj, hj']
          rfl
        unfold World.cell?
        show (match (w.drew.alloc (.cells (bytesRow a0 (grownCap w a0.size 0 5)) 5 ((bytesRow a0 (grownCap w a0.size 0 5)).size, (bytesRow a0 (grownCap w a0.size 0 5)).size + 1))).heap[w.drew.heap.size]? with
          | some (.cells c _ _) => if (Addr.mk w.heap.size j none).spot.isSome = true then none else c[j]?
          | _ => none) = _
        rw [h1]
        exact h2
      · exact below_alloc (below_drew1 (Below.refl _ _)) _
    have HC := Aside0.mk hcell
    have HB := Aside0.mk hB
    clear hcell hB
    go_enter Try.func78, Try.ntmps78
    go_wp2
    clear hconv
    go_loop [9] (fun i => ∃ k : Nat, k ≤ a0.size ∧ i = .int .i64 k ∧ Aside0 (∀ j, j < k → nameC a0 j = true)) (fun i => a0.size - (intOf i).toNat)
    case atStart => exact ⟨0, Nat.zero_le _, rfl, ⟨fun j hj => absurd hj (by omega)⟩⟩
    case round =>
      obtain ⟨k, hk, rfl, HN⟩ := hrel
      by_cases hlt : k < a0.size
      · have hck := HC.out k hlt
        have hbd := bt_bd a0 (k : Int)
        obtain ⟨c, hc⟩ : ∃ c, bt a0 (k : Int) = c := ⟨_, rfl⟩
        rw [hc] at hck hbd
        have HX := Aside0.mk hc
        clear hc
        have hyes : ((97 ≤ c ∧ c ≤ 122) ∨ (k ≠ 0 ∧ (c = 95 ∨ (48 ≤ c ∧ c ≤ 57)))) → ∀ j, j < k + 1 → nameC a0 j = true := fun hg j hj => by
          by_cases e : j = k
          · subst e; rw [nameC_iff, HX.out]; exact hg
          · exact HN.out j (by omega)
        have hno : ¬ ((97 ≤ c ∧ c ≤ 122) ∨ (k ≠ 0 ∧ (c = 95 ∨ (48 ≤ c ∧ c ≤ 57)))) → nameB a0 = false := fun hg => nameB_no hlt (by rw [HX.out]; exact hg)
        have HY := Aside0.mk hyes
        have HZ := Aside0.mk hno
        clear hyes hno
        by_cases h1 : 97 ≤ c
        · by_cases h2 : c ≤ 122
          · go_wp2
            go_round
            case rel => exact ⟨k + 1, by omega, by go_num, ⟨HY.out (.inl ⟨h1, h2⟩)⟩⟩
            case measure => simp [intOf]; omega
          · have e1 : (c == 95) = false := by simp; omega
            have e2 : (c != 95) = true := by simp; omega
            have e3 : ¬ c < 48 := by omega
            have e4 : 57 < c := by omega
            have e5 := Aside0.mk (HZ.out (by omega))
            go_wp2
            all_goals (go_ret; exact ⟨by rw [e5.out]; rfl, HB.out⟩)
        · by_cases h0 : k = 0
          · subst h0
            have e5 := Aside0.mk (HZ.out (by omega))
            go_wp2
            all_goals (go_ret; exact ⟨by rw [e5.out]; rfl, HB.out⟩)
          · have e0 : ((k : Int) == 0) = false := by simp; omega
            by_cases h3 : c = 95
            · subst h3
              go_wp2
              go_round
              case rel => exact ⟨k + 1, by omega, by go_num, ⟨HY.out (by omega)⟩⟩
              case measure => simp [intOf]; omega
            · have e1 : (c == 95) = false := by simp; omega
              have e2 : (c != 95) = true := by simp; omega
              by_cases h4 : c < 48
              · have e5 := Aside0.mk (HZ.out (by omega))
                go_wp2
                all_goals (go_ret; exact ⟨by rw [e5.out]; rfl, HB.out⟩)
              · by_cases h5 : 57 < c
                · have e5 := Aside0.mk (HZ.out (by omega))
                  go_wp2
                  all_goals (go_ret; exact ⟨by rw [e5.out]; rfl, HB.out⟩)
                · go_wp2
                  go_round
                  case rel => exact ⟨k + 1, by omega, by go_num, ⟨HY.out (by omega)⟩⟩
                  case measure => simp [intOf]; omega
      · have hke : k = a0.size := by omega
        subst hke
        have HE := Aside0.mk (nameB_end HN.out)
        have e0 : a0.toList.length = a0.size := by rw [ByteArray.toList_eq]; rfl
        by_cases h0 : a0.size = 0
        · have e1 : a0.toList = [] := List.eq_nil_of_length_eq_zero (by omega)
          have e2 := Aside0.mk (show nameB a0 = false by rw [HE.out]; simp [h0])
          clear e0
          go_wp2
          go_ret
          exact ⟨by rw [e2.out]; rfl, HB.out⟩
        · have e1 : a0.toList.isEmpty = false := by cases h : a0.toList with
            | nil => rw [h] at e0; simp at e0; omega
            | cons => rfl
          have e3 : ¬ a0.toList = [] := by intro h; rw [h] at e0; simp at e0; omega
          have e2 := Aside0.mk (show nameB a0 = decide ((a0.size : Int) ≤ 16) by
            rw [HE.out, Bool.eq_iff_iff]; simp; omega)
          clear e0
          go_wp2
          go_ret
          refine ⟨?_, HB.out⟩
          rw [e2.out]; simp [e1]
  · rw [if_neg hs] at h; cases h


end Go.Proofs.Ytbmochegfdljfaa.My
