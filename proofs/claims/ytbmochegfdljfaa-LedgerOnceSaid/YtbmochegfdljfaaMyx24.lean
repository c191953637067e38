-- Written by a program of this session (wip/myprint.py), which drives the kit's print over hand-written fragments. Not trusted: Lean checks it.
import Derived.Test.YtbmochegfdljfaaMyx0
import Derived.Test.YtbmochegfdljfaaMyx21
import Derived.RangeFuncNested
import Derived.RangeFuncBound
import Derived.RangeFuncCalls
import Derived.RangeFuncLeaves
import Derived.Shelf.Abstract
import Derived.Shelf.RegionOpen
import Derived.OwnWalkIn
import Derived.TacticsInMore
import Derived.LoopNIn
import Derived.LoopIn
import Derived.Outline
namespace Go.Proofs.Ytbmochegfdljfaa.My
open Go.Proofs.Ytbmochegfdljfaa.Aid Go.Proofs.Ytbmochegfdljfaa.KdX
open Go.RowKit Go.Proofs.YtbmochegfdljfaaW.PrintWords Go.Proofs.YtbmochegfdljfaaW.PrintLast Go.Proofs.YtbmochegfdljfaaW.PrintMore
attribute [local go_sem] max2_int min2_int max_two min_two max_three min_three max_four min_four   -- for this text's walks alone
set_option linter.unusedVariables false
set_option linter.unusedSimpArgs false

/-! ### ledger_Balance: function 24 (by hand) -/
def movE (a : ByteArray) (x : S26) : Int := if a.toList = x.f1.toList then x.f3 else if a.toList = x.f2.toList then -x.f3 else 0
def balG (l : List S26) (a : ByteArray) (day booked : Int) : Int := (((l.takeWhile fun x => decide (x.f5 ≤ booked)).filter fun x => decide (x.f4 ≤ day)).map (movE a)).sum
def ledger_Balance.f (l0_0 : List S26) (a1 : ByteArray) (a2 a3 : Int) : Option Int := if l0_0.all szB then some (if validB l0_0 = true then balG l0_0 a1 a2 a3 else 0) else none
-- IMPORT Derived.RangeFuncNested
-- IMPORT Derived.RangeFuncBound
-- IMPORT Derived.RangeFuncCalls
-- IMPORT Derived.RangeFuncLeaves
-- IMPORT Derived.Shelf.Abstract
-- IMPORT Derived.Shelf.RegionOpen
-- IMPORT Derived.OwnWalkIn
-- IMPORT Derived.TacticsInMore
-- IMPORT Derived.LoopNIn
-- IMPORT Derived.LoopIn
-- IMPORT Derived.Outline
attribute [local go_sem] Oper.semAt_some
def filtL (day booked : Int) (l : List S26) : List S26 := (l.takeWhile fun x => decide (x.f5 ≤ booked)).filter fun x => decide (x.f4 ≤ day)
theorem takeWhile_take {α : Type} {p : α → Bool} : ∀ {l : List α} {k : Nat}, k ≤ l.length → (∀ j (h : j < l.length), j < k → p l[j] = true) → (k = l.length ∨ ∃ h : k < l.length, p l[k] = false) → l.takeWhile p = l.take k
  | [], k, hk, _, _ => by simp
  | x :: l, 0, _, _, h => by
    rcases h with h | ⟨h, hp⟩
    · simp at h
    · simp at hp; simp [hp]
  | x :: l, k + 1, hk, h1, h => by
    have hx : p x = true := h1 0 (by simp) (by omega)
    rw [List.takeWhile_cons_of_pos hx, List.take_succ_cons]
    congr 1
    refine takeWhile_take (by simpa using hk) (fun j hj hjk => ?_) ?_
    · have := h1 (j + 1) (by simpa using hj) (by omega)
      simpa using this
    · rcases h with h | ⟨h, hp⟩
      · left; simpa using h
      · right; exact ⟨by simpa using h, by simpa using hp⟩
set_option maxRecDepth 100000 in
set_option maxHeartbeats 4000000 in
theorem until1_in (F : Fence) (n : Nat) (h82 : F.fn 82) (hro : F.round = none) (hn : 1 ≤ n) (lp Bl Bb Bd : Nat) (w0 : World) (A0 : Option Addr) (c0 : Nat) (l0 : List S26) (day booked : Int) (J Jx : List S26 → World → Prop)
    (W : World) (hJ : AbidesFrom W.heap.size J)
    (hY : ∀ pre x W1, J pre W1 → pre.length < l0.length → YieldAt F (n - 1) Try.prog lp #[.agg #[.int .i64 x.f0, .string x.f1, .string x.f2, .int .i64 x.f3, .int .i64 x.f4, .int .i64 x.f5]] W1 fun e W' =>
      (e = .returned (.bool true) ∧ J (pre ++ [x]) W' ∧ (Below w0.heap.size W1 W' ∧ W'.heap[Bb]? = W1.heap[Bb]? ∧ W'.heap[Bd]? = W1.heap[Bd]?)) ∨ (e = .returned (.bool false) ∧ Jx (pre ++ [x]) W'))
    (hBl : W.cell? ⟨Bl, 0, none⟩ = some (.slice A0 l0.length c0)) (hBb : W.heap[Bb]? = some (.cells #[.int .i64 booked] 3 (0, 0))) (hBd : W.heap[Bd]? = some (.cells #[.int .i64 day] 3 (0, 0)))
    (hC : Kd.C k26 w0 A0 l0.length l0) (hW : Below w0.heap.size w0 W) (h0 : J [] W) :
    CallsIn F n Try.prog 82 #[.func (.yield lp) #[] #[], .pointer (some ⟨Bl, 0, none⟩), .pointer (some ⟨Bb, 0, none⟩), .pointer (some ⟨Bd, 0, none⟩)] W fun e W' => (∃ v, e = .returned v) ∧
      ((∃ ys, ys = filtL day booked l0 ∧ J ys W') ∨ (∃ pre, True ∧ Jx pre W')) := by
  have hu26 := Try.underlying26
  have hu24 := Try.underlying24
  have hm0 : l0.length ≤ 9223372036854775807 := hC.2.1
  have HC := Aside0.mk hC
  have HJ := Aside0.mk hJ
  have HYY := Aside0.mk hY
  have HBB := Aside0.mk hBb
  have HBD := Aside0.mk hBd
  have HW := Aside0.mk hW
  have H0 := Aside0.mk h0
  clear hC hJ hY hBb hBd hW h0
  refine callsIn_of_wp Try.func82 rfl h82 ?_ hro
  simp only [Try.ntmps82, List.size_toArray, List.length_cons, List.length_nil, Nat.reduceAdd, Nat.reduceSub, Array.replicate_succ, Array.replicate_zero, List.push_toArray, List.append_toArray, List.nil_append, List.cons_append]
  gi_wp2
  gi_loopw [10] (fun i wr => ∃ k : Nat, k ≤ l0.length ∧ i = .int .i64 k ∧ Aside0 (J ((l0.take k).filter fun x => decide (x.f4 ≤ day)) wr) ∧ Aside0 (∀ j (h : j < l0.length), j < k → l0[j].f5 ≤ booked) ∧ Aside0 (Below w0.heap.size w0 wr) ∧ Aside0 (wr.heap[Bb]? = some (.cells #[.int .i64 booked] 3 (0, 0))) ∧ Aside0 (wr.heap[Bd]? = some (.cells #[.int .i64 day] 3 (0, 0))))
    (fun i _ => l0.length - (intOf i).toNat)
  case atStart => exact ⟨0, Nat.zero_le _, rfl, H0, ⟨fun j h hj => absurd hj (by omega)⟩, HW, HBB, HBD⟩
  case round =>
    obtain ⟨k, hk, rfl, HJs, HP, HB, HQb, HQd⟩ := hrel
    by_cases hlt : k < l0.length
    · obtain ⟨ad, rfl, g0, g1, g2, g3, g4, g5⟩ := at_T26 HC.out (k : Int) (by omega) (by omega)
      rw [Int.toNat_natCast, rd26_at hlt] at g0 g1 g2 g3 g4 g5
      have HT := Aside0.mk (show l0.take (k + 1) = l0.take k ++ [l0[k]] from by rw [List.take_succ_eq_append_getElem hlt])
      have HE1 := Aside0.mk (show booked < l0[k].f5 → filtL day booked l0 = (l0.take k).filter fun x => decide (x.f4 ≤ day) from fun h => by
        unfold filtL
        rw [takeWhile_take (p := fun x : S26 => decide (x.f5 ≤ booked)) hk (fun j hj hjk => decide_eq_true (HP.out j hj hjk)) (.inr ⟨hlt, decide_eq_false (by omega)⟩)])
      have HPN := Aside0.mk (show l0[k].f5 ≤ booked → ∀ j (h : j < l0.length), j < k + 1 → l0[j].f5 ≤ booked from fun hf j h hj => by
          by_cases e : j = k
          · subst e; exact hf
          · exact HP.out j h (by omega))
      obtain ⟨y, hy⟩ : ∃ y, l0[k] = y := ⟨_, rfl⟩
      rw [hy] at g0 g1 g2 g3 g4 g5 HT HE1 HPN
      clear hy
      replace g0 := (HB.out.cell (World.block_lt_of_cell? w0 _ g0)).trans g0
      replace g1 := (HB.out.cell (World.block_lt_of_cell? w0 _ g1)).trans g1
      replace g2 := (HB.out.cell (World.block_lt_of_cell? w0 _ g2)).trans g2
      replace g3 := (HB.out.cell (World.block_lt_of_cell? w0 _ g3)).trans g3
      replace g4 := (HB.out.cell (World.block_lt_of_cell? w0 _ g4)).trans g4
      replace g5 := (HB.out.cell (World.block_lt_of_cell? w0 _ g5)).trans g5
      have HBa := Aside0.mk (below_alloc HB.out (.cells #[.int .i64 y.f0, .string y.f1, .string y.f2, .int .i64 y.f3, .int .i64 y.f4, .int .i64 y.f5] 26))
      have HQb2 := Aside0.mk (blk_alloc HQb.out (.cells #[.int .i64 y.f0, .string y.f1, .string y.f2, .int .i64 y.f3, .int .i64 y.f4, .int .i64 y.f5] 26))
      have HQd2 := Aside0.mk (blk_alloc HQd.out (.cells #[.int .i64 y.f0, .string y.f1, .string y.f2, .int .i64 y.f3, .int .i64 y.f4, .int .i64 y.f5] 26))
      have q1 := (blk_cell HQb2.out 0).trans rfl
      have q2 := (blk_cell HQd2.out 0).trans rfl
      have HJa := Aside0.mk (HJ.out _ _ _ none HJs.out (World.grownBy_alloc wr (.cells #[.int .i64 y.f0, .string y.f1, .string y.f2, .int .i64 y.f3, .int .i64 y.f4, .int .i64 y.f5] 26) none) (fun r e => by cases e))
      by_cases hbk : booked < y.f5
      · gi_wp2
        refine bodyPost_ret (results_none rfl _ _ _) rfl ?_
        exact ⟨⟨_, rfl⟩, .inl ⟨_, (HE1.out hbk).symm, HJa.out⟩⟩
      · by_cases hday : y.f4 ≤ day
        · have hlen : ((l0.take k).filter fun x => decide (x.f4 ≤ day)).length < l0.length := by
            have h1 := List.length_filter_le (fun x : S26 => decide (x.f4 ≤ day)) (l0.take k)
            rw [List.length_take] at h1; omega
          obtain ⟨fn, tmps, assign, body, hyy, hR⟩ := HYY.out _ y _ HJa.out hlen
          clear hlen
          gi_wp2
          refine hR.mono ?_
          rintro e W3 (⟨rfl, hJ3, hk3, hk4, hk5⟩ | ⟨rfl, hJx3⟩)
          · have HJ3 := Aside0.mk hJ3
            have HK3 := Aside0.mk (HBa.out.trans hk3)
            have HK4 := Aside0.mk (hk4.trans HQb2.out)
            have HK5 := Aside0.mk (hk5.trans HQd2.out)
            clear hJ3 hk3 hk4 hk5
            gi_wp2
            go_roundw
            case rel => exact ⟨k + 1, by omega, by go_num, ⟨by rw [HT.out, List.filter_append, List.filter_cons_of_pos (by simpa using hday), List.filter_nil]; exact HJ3.out⟩, ⟨HPN.out (by omega)⟩, HK3, HK4, HK5⟩
            case measure => simp [intOf]; omega
          · gi_wp2
            refine bodyPost_ret (results_none rfl _ _ _) rfl ?_
            exact ⟨⟨_, rfl⟩, .inr ⟨_, trivial, hJx3⟩⟩
        · gi_wp2
          refine ⟨fun _ h => (by cases h), ?_⟩
          gi_wp2
          go_roundw
          case rel => exact ⟨k + 1, by omega, by go_num, ⟨by rw [HT.out, List.filter_append, List.filter_cons_of_neg (by simpa using hday), List.filter_nil, List.append_nil]; exact HJa.out⟩, ⟨HPN.out (by omega)⟩, HBa, HQb2, HQd2⟩
          case measure => simp [intOf]; omega
    · have hkl : k = l0.length := by omega
      subst hkl
      have HE := Aside0.mk (show filtL day booked l0 = (l0.take l0.length).filter fun x => decide (x.f4 ≤ day) from by
        unfold filtL
        rw [takeWhile_take (p := fun x : S26 => decide (x.f5 ≤ booked)) (k := l0.length) (Nat.le_refl _) (fun j hj hjk => decide_eq_true (HP.out j hj hjk)) (.inl rfl)])
      gi_wp2
      go_end0
      exact ⟨⟨_, rfl⟩, .inl ⟨_, HE.out.symm, HJs.out⟩⟩
-- (the loop) ledger_Valid
set_option maxHeartbeats 1000000 in
theorem until_in (F : Fence) (n : Nat) (h54 : F.fn 54) (hro : F.round = none) (A0 : Option Addr) (m c0 : Nat) (day booked : Int) (w : World) :
    CallsIn F n Try.prog 54 #[.agg #[.slice A0 m c0], .int .i64 day, .int .i64 booked] w fun e w' => e = .returned (.func (.func 82) #[] #[.pointer (some ⟨w.heap.size, 0, none⟩), .pointer (some ⟨w.heap.size + 1 + 1, 0, none⟩), .pointer (some ⟨w.heap.size + 1, 0, none⟩)]) ∧
      w' = ((w.alloc (.cells #[.slice A0 m c0] 24)).alloc (.cells #[.int .i64 day] 3)).alloc (.cells #[.int .i64 booked] 3) := by
  refine callsIn_of_wp Try.func54 rfl h54 ?_ hro
  simp only [Try.ntmps54, List.size_toArray, List.length_cons, List.length_nil, Nat.reduceAdd, Nat.reduceSub, Array.replicate_succ, Array.replicate_zero, List.push_toArray, List.append_toArray, List.nil_append, List.cons_append]
  gi_wp2
  go_ret
  exact ⟨rfl, rfl⟩
def stepS (a : ByteArray) (s : Int) (x : S26) : Int := if a.toList = x.f1.toList then wrap64 (s + x.f3) else if a.toList = x.f2.toList then wrap64 (s - x.f3) else s
def sumS (a : ByteArray) (l : List S26) : Int := l.foldl (stepS a) 0
theorem sumS_snoc (a : ByteArray) (l : List S26) (x : S26) : sumS a (l ++ [x]) = stepS a (sumS a l) x := by simp [sumS]
theorem goes_form : ∀ {l : List S26} {seen : List Int} {last : Int}, goesB seen last l = true → ∀ x ∈ l, formB x = true
  | [], _, _, _, x, hx => by simp at hx
  | y :: l, seen, last, h, x, hx => by
    rw [goes_cons] at h
    simp only [Bool.and_eq_true] at h
    rcases List.mem_cons.1 hx with rfl | hx
    · exact h.2.1
    · exact goes_form h.2.2.2 x hx
theorem valid_form {l : List S26} (h : validB l = true) : l.length ≤ 2000 ∧ ∀ x ∈ l, formB x = true := by
  unfold validB at h
  simp only [Bool.and_eq_true, decide_eq_true_eq] at h
  exact ⟨h.1, goes_form h.2⟩
theorem form_cents {x : S26} (h : formB x = true) : 0 < x.f3 ∧ x.f3 ≤ 1000000000000 := by
  simp only [formB, Bool.and_eq_true, decide_eq_true_eq] at h
  exact ⟨h.2.2.2.2.1, h.2.2.2.2.2.1⟩
theorem sumS_run (a : ByteArray) : ∀ (l : List S26) (s : Int) (n : Nat), (∀ x ∈ l, formB x = true) → l.length ≤ n → -1000000000000 * ((2000 : Int) - n) ≤ s → s ≤ 1000000000000 * ((2000 : Int) - n) → n ≤ 2000 →
    l.foldl (stepS a) s = s + (l.map (movE a)).sum
  | [], s, n, _, _, _, _, _ => by simp
  | x :: l, s, n, h, hl, h1, h2, hn => by
    have hc := form_cents (h x (by simp))
    obtain ⟨n, rfl⟩ : ∃ m, n = m + 1 := ⟨n - 1, by simp at hl; omega⟩
    have hst : stepS a s x = s + movE a x := by
      unfold stepS movE
      split
      · exact w64 (by omega) (by omega)
      · split
        · rw [w64 (by omega) (by omega)]; omega
        · omega
    have hmv : -1000000000000 ≤ movE a x ∧ movE a x ≤ 1000000000000 := by unfold movE; split <;> (try split) <;> omega
    rw [List.foldl_cons, hst, sumS_run a l (s + movE a x) n (fun y hy => h y (by simp [hy])) (by simpa using hl) (by omega) (by omega) (by omega), List.map_cons, List.sum_cons]
    omega
theorem sumS_eq {l : List S26} {a : ByteArray} {day booked : Int} (h : validB l = true) : sumS a (filtL day booked l) = balG l a day booked := by
  obtain ⟨hl, hf⟩ := valid_form h
  have hm : ∀ x ∈ filtL day booked l, x ∈ l := fun x hx => (List.takeWhile_sublist _).subset (List.mem_filter.1 hx).1
  have hle : (filtL day booked l).length ≤ 2000 := by
    have h1 := List.length_filter_le (fun x : S26 => decide (x.f4 ≤ day)) (l.takeWhile fun x => decide (x.f5 ≤ booked))
    have h2 := (List.takeWhile_sublist (fun x : S26 => decide (x.f5 ≤ booked)) (l := l)).length_le
    unfold filtL; omega
  unfold sumS
  rw [sumS_run a _ 0 2000 (fun x hx => hf x (hm x hx)) hle (by omega) (by omega) (by omega)]
  unfold balG filtL
  omega
theorem ledger_Balance_loop (bl : Nat) (A0 : Option Addr) (c0 : Nat) (l0 : List S26) (day booked : Int) (w0 : World) (w : World) (hro : Fence.wide.round = none)
    (hBl : w.cell? ⟨bl, 0, none⟩ = some (.slice A0 l0.length c0)) (hBd : w.heap[bl + 1]? = some (.cells #[.int .i64 day] 3 (0, 0))) (hBb : w.heap[bl + 1 + 1]? = some (.cells #[.int .i64 booked] 3 (0, 0)))
    (hC : Kd.C k26 w0 A0 l0.length l0) (hW : Below w0.heap.size w0 w) :
    SeqStopsK Fence.wide 3 Try.prog 82 #[.pointer (some ⟨bl, 0, none⟩), .pointer (some ⟨bl + 1 + 1, 0, none⟩), .pointer (some ⟨bl + 1, 0, none⟩)] (fun x : S26 => #[.agg #[.int .i64 x.f0, .string x.f1, .string x.f2, .int .i64 x.f3, .int .i64 x.f4, .int .i64 x.f5]])
      (fun X Y => Below w0.heap.size X Y ∧ Y.heap[bl + 1 + 1]? = X.heap[bl + 1 + 1]? ∧ Y.heap[bl + 1]? = X.heap[bl + 1]?) (fun ys => ys = filtL day booked l0) (fun _ => True) l0.length w := fun lp J Jx W hWW hJ hJx hY h0 =>
  until1_in Fence.wide 3 trivial rfl (by omega) lp bl (bl + 1 + 1) (bl + 1) w0 A0 c0 l0 day booked J Jx W hJ hY
    ((hWW.cell (p := ⟨bl, 0, none⟩) (World.block_lt_of_cell? w _ hBl)).trans hBl) ((hWW.block _ (blk_lt hBb)).trans hBb) ((hWW.block _ (blk_lt hBd)).trans hBd) hC (hW.trans (hWW.mono hW.size)) h0
set_option maxRecDepth 100000 in
set_option maxHeartbeats 4000000 in
theorem ledger_Balance.calls (A0_0 : Option Addr) (c0_0 : Nat) (l0_0 : List S26) (a1 : ByteArray) (a2 a3 : Int) (r : Int) (w : World) (hr0_0 : Kd.C k26 w A0_0 l0_0.length l0_0) (hc0_0 : l0_0.length ≤ c0_0) (h : ledger_Balance.f l0_0 a1 a2 a3 = some r) :
    Calls Try.prog 24 #[.agg #[.slice A0_0 l0_0.length c0_0], .string a1, .int .i64 a2, .int .i64 a3] w fun e w' => e = .returned (.int .i64 r) ∧ Below w.heap.size w w' := by
  unfold ledger_Balance.f at h
  by_cases hz : l0_0.all szB = true
  · rw [if_pos hz] at h
    have h := Option.some.inj h
    have hu24 := Try.underlying24
    have hu26 := Try.underlying26
    have HVA := Aside0.mk (show ledger_Valid.f l0_0 = some (validB l0_0) by unfold ledger_Valid.f; rw [if_pos hz])
    have HR := Aside0.mk hr0_0
    have HC := Aside0.mk hc0_0
    have HH := Aside0.mk h
    clear hr0_0 hc0_0 hz h
    obtain ⟨W1, hW1⟩ : ∃ W1, W1 = (w.alloc (.cells #[.slice A0_0 l0_0.length c0_0] 24)).alloc (.cells #[.string a1] 9) := ⟨_, rfl⟩
    have hB1 : Below w.heap.size w W1 := by subst hW1; exact below_alloc (below_alloc (Below.refl _ _) _) _
    have hk0 : W1.heap[w.heap.size]? = some (.cells #[.slice A0_0 l0_0.length c0_0] 24 (0, 0)) := by subst hW1; exact blk_alloc (blk_new _ _) _
    have hk1 : W1.heap[w.heap.size + 1]? = some (.cells #[.string a1] 9 (0, 0)) := by subst hW1; have := blk_new (w.alloc (.cells #[.slice A0_0 l0_0.length c0_0] 24)) (.cells #[.string a1] 9); rwa [World.size_alloc] at this
    have HB1 := Aside0.mk hB1
    have HK0 := Aside0.mk hk0
    have HK1 := Aside0.mk hk1
    clear hB1 hk0 hk1
    refine (callsIn_wide (n := 4)).1 ?_
    refine callsIn_of_wp_marks Try.func24 rfl trivial ?_ rfl
    simp only [Try.ntmps24, List.size_toArray, List.length_cons, List.length_nil, Nat.reduceAdd, Nat.reduceSub, Array.replicate_succ, Array.replicate_zero, List.push_toArray, List.append_toArray, List.nil_append, List.cons_append]
    gi_wp2_with fail
    rw [← hW1]
    clear hW1
    refine ⟨trivial, ?_⟩
    refine (callsIn_wide.2 (ledger_Valid.calls A0_0 c0_0 l0_0 (validB l0_0) _ (Kd.C_below HR.out HB1.out) HC.out HVA.out)).mono ?_
    rintro e w2 ⟨rfl, hb2⟩
    have HB2 := Aside0.mk (below_step HB1.out hb2)
    have k0 := blk_below HK0.out hb2
    have k1 := blk_below HK1.out hb2
    have d0 := (blk_cell k0 0).trans rfl
    have HK0 := Aside0.mk k0
    have HK1 := Aside0.mk k1
    clear hb2 k0 k1 HB1
    cases hv : validB l0_0 with
    | false =>
      have hh := HH.out
      rw [hv] at hh
      simp only [Bool.false_eq_true, if_false] at hh
      obtain rfl := hh.symm
      clear hv hh
      gi_wp2
      exact ⟨_, results_tmp rfl _ _ _, rfl, HB2.out⟩
    | true =>
      have hh := HH.out
      rw [hv] at hh
      simp only [if_true] at hh
      have HV := Aside0.mk hv
      have HSUM := Aside0.mk hh
      clear hv hh HH
      have e0 : (w2.alloc (.cells #[.int .i64 0] 3)).cell? ⟨w.heap.size, 0, none⟩ = some (.slice A0_0 l0_0.length c0_0) := (blk_cell (blk_alloc HK0.out _) 0).trans rfl
      clear d0
      gi_wp2_with (refine ⟨trivial, ?_⟩; gi_at_call 54; refine (until_in Fence.wide _ trivial rfl A0_0 l0_0.length c0_0 a2 a3 _).mono ?_; rintro e w' ⟨rfl, rfl⟩)
      obtain ⟨WL, hWL⟩ : ∃ WL, WL = (((w2.alloc (.cells #[.int .i64 0] 3)).alloc (.cells #[.slice A0_0 l0_0.length c0_0] 24)).alloc (.cells #[.int .i64 a2] 3)).alloc (.cells #[.int .i64 a3] 3) := ⟨_, rfl⟩
      have hlt1 : w.heap.size + 1 < w2.heap.size := blk_lt HK1.out
      have hsz : WL.heap.size = w2.heap.size + 4 := by subst hWL; simp
      have hBL : Below w.heap.size w WL := by subst hWL; exact below_alloc (below_alloc (below_alloc (below_alloc HB2.out _) _) _) _
      have bS : Boxed WL w2.heap.size 3 (.int .i64 0) := by subst hWL; exact blk_alloc (blk_alloc (blk_alloc (blk_new _ _) _) _) _
      have bA : Boxed WL (w.heap.size + 1) 9 (.string a1) := by subst hWL; exact blk_alloc (blk_alloc (blk_alloc (blk_alloc HK1.out _) _) _) _
      have kl : WL.heap[w2.heap.size + 1]? = some (.cells #[.slice A0_0 l0_0.length c0_0] 24 (0, 0)) := by subst hWL; refine blk_alloc (blk_alloc ?_ _) _; have := blk_new (w2.alloc (.cells #[.int .i64 0] 3)) (.cells #[.slice A0_0 l0_0.length c0_0] 24); rwa [World.size_alloc] at this
      have kd : WL.heap[w2.heap.size + 1 + 1]? = some (.cells #[.int .i64 a2] 3 (0, 0)) := by subst hWL; refine blk_alloc ?_ _; have := blk_new ((w2.alloc (.cells #[.int .i64 0] 3)).alloc (.cells #[.slice A0_0 l0_0.length c0_0] 24)) (.cells #[.int .i64 a2] 3); rwa [World.size_alloc, World.size_alloc] at this
      have kb : WL.heap[w2.heap.size + 1 + 1 + 1]? = some (.cells #[.int .i64 a3] 3 (0, 0)) := by subst hWL; have := blk_new (((w2.alloc (.cells #[.int .i64 0] 3)).alloc (.cells #[.slice A0_0 l0_0.length c0_0] 24)).alloc (.cells #[.int .i64 a2] 3)) (.cells #[.int .i64 a3] 3); rwa [World.size_alloc, World.size_alloc, World.size_alloc] at this
      rw [← hWL]
      clear hWL e0
      refine wpIn_rangeFunc_ownH rfl (by omega) (gf := 82) (lb := #[.pointer (some ⟨w2.heap.size + 1, 0, none⟩), .pointer (some ⟨w2.heap.size + 1 + 1 + 1, 0, none⟩), .pointer (some ⟨w2.heap.size + 1 + 1, 0, none⟩)]) rfl trivial (enters_of Try.func82 (by kernel_rfl) rfl)
        (ledger_Balance_loop (w2.heap.size + 1) A0_0 c0_0 l0_0 a2 a3 w WL rfl ((blk_cell kl 0).trans rfl) kd kb HR.out hBL)
        (fun h k => ⟨h.1.trans k.1, k.2.1.trans h.2.1, k.2.2.trans h.2.2⟩)
        (fun W l o o' hl h i1 i2 => ⟨belowK_b (w := w) (Nat.le_refl _) W l o o' (by omega) h i1 i2, World.putObj_heap_other (by omega), World.putObj_heap_other (by omega)⟩) (Below.refl _ _) (fun _ => rfl)
        (fun pre W => (Boxed W w2.heap.size 3 (.int .i64 (sumS a1 pre)) ∧ Boxed W (w.heap.size + 1) 9 (.string a1)) ∧ (Below w.heap.size w W ∧ w2.heap.size + 4 ≤ W.heap.size))
        (fun _ _ _ => False)
        (OwnFrom.and (OwnFrom.and (Own.from (boxed_own _ _ (fun pre : List S26 => Value.int .i64 (sumS a1 pre))) _) (Own.from (boxed_own _ _ (fun _ : List S26 => Value.string a1)) _)) (OwnFrom.and (ownFrom_below (Nat.le_refl _) (by omega)) (fun _ _ _ _ hs hg _ => Nat.le_trans hs hg.size)))
        (fun _ _ _ _ _ hs _ _ => hs)
        ⟨⟨bS, bA⟩, hBL, by omega⟩
        (fun x a' W => ∃ Bx, w2.heap.size + 4 ≤ Bx ∧ W.heap[Bx]? = some (.cells #[.int .i64 x.f0, .string x.f1, .string x.f2, .int .i64 x.f3, .int .i64 x.f4, .int .i64 x.f5] 26 (0, 0)) ∧ a' = { tmps := #[.agg #[.slice A0_0 l0_0.length c0_0], .string a1, .int .i64 a2, .int .i64 a3, .pointer (some ⟨w.heap.size, 0, none⟩), .pointer (some ⟨w.heap.size + 1, 0, none⟩), undef, undef, .int .i64 0, .pointer (some ⟨w2.heap.size, 0, none⟩), .pointer (some ⟨Bx, 0, none⟩), .agg #[.slice A0_0 l0_0.length c0_0], .bool true, .bool false, .agg #[.slice A0_0 l0_0.length c0_0], .int .i64 a2, .int .i64 a3, .func (.func 82) #[] #[.pointer (some ⟨w2.heap.size + 1, 0, none⟩), .pointer (some ⟨w2.heap.size + 1 + 1 + 1, 0, none⟩), .pointer (some ⟨w2.heap.size + 1 + 1, 0, none⟩)], .agg #[.int .i64 x.f0, .string x.f1, .string x.f2, .int .i64 x.f3, .int .i64 x.f4, .int .i64 x.f5], undef, undef, undef, undef, undef, undef, undef, undef, undef, undef, undef, undef, undef, undef, undef, undef, undef, undef], defers := [] })
        (fun x a' _ X Y row hs hg hr => by obtain ⟨Bx, e1, e2, e3⟩ := hs; exact ⟨Bx, e1, (hg.block Bx (blk_lt e2) (fun e => by obtain ⟨_, o, ho, hc⟩ := hr Bx e.symm; rw [e2] at ho; cases ho; cases hc)).trans e2, e3⟩)
        ?assign ?body ?done ?stop
      case assign =>
        rintro l pre x W K ⟨⟨bS1, bA1⟩, hB1, hz1⟩ hK
        gi_wp2
        exact hK _ _ ((KeepsOthers.alloc _ _).from _) ⟨(Below.refl _ W).alloc hB1.size _, Below.heap_alloc W _ _ (by omega), Below.heap_alloc W _ _ (by omega)⟩ ⟨⟨bS1.alloc _, bA1.alloc _⟩, hB1.alloc hB1.size _, by simp; omega⟩ ⟨W.heap.size, hz1, blk_new W _, rfl⟩
      case body =>
        rintro l pre x a' W hl ⟨r0, hr0⟩ ⟨⟨bS1, bA1⟩, hB1, hz1⟩ ⟨Bx, hBx, bX, rfl⟩ hlt
        have cS := bS1.cell
        have fS := bS1.frozen
        have cA := bA1.cell
        have x1 := (blk_cell bX 1).trans rfl
        have x2 := (blk_cell bX 2).trans rfl
        have x3 := (blk_cell bX 3).trans rfl
        have HS1 := Aside0.mk bS1
        have HA1 := Aside0.mk bA1
        have HB1 := Aside0.mk hB1
        have HZ1 := Aside0.mk hz1
        have HLT := Aside0.mk hlt1
        clear bS1 bA1 hB1 hz1 bX hr0 bS bA kl kd kb hBL hsz hlt1 hlt hl hBx
        gi_wp2
        · have hq : (a1.toList == x.f1.toList) = true := by assumption
          have e : sumS a1 (pre ++ [x]) = wrap64 (sumS a1 pre + x.f3) := by rw [sumS_snoc]; unfold stepS; rw [if_pos (by simpa using hq)]
          exact ⟨(KeepsOthers.setCell _ _ _).from _, ⟨(Below.refl _ W).setCell (p := ⟨w2.heap.size, 0, none⟩) (by show w.heap.size ≤ w2.heap.size; have := HLT.out; omega) _, Below.heap_setCell _ _ _ _ (by show w2.heap.size + 1 + 1 + 1 ≠ w2.heap.size; omega), Below.heap_setCell _ _ _ _ (by show w2.heap.size + 1 + 1 ≠ w2.heap.size; omega)⟩,
            ⟨by rw [e]; exact HS1.out.set _, HA1.out.other (by have := HLT.out; omega) _⟩, HB1.out.setCell (p := ⟨w2.heap.size, 0, none⟩) (by show w.heap.size ≤ w2.heap.size; have := HLT.out; omega) _, by have := HZ1.out; simp; omega⟩
        · have hq : (a1.toList == x.f1.toList) = false := by assumption
          have hq2 : (a1.toList == x.f2.toList) = true := by assumption
          have e : sumS a1 (pre ++ [x]) = wrap64 (sumS a1 pre - x.f3) := by rw [sumS_snoc]; unfold stepS; rw [if_neg (by simpa using hq), if_pos (by simpa using hq2)]
          exact ⟨(KeepsOthers.setCell _ _ _).from _, ⟨(Below.refl _ W).setCell (p := ⟨w2.heap.size, 0, none⟩) (by show w.heap.size ≤ w2.heap.size; have := HLT.out; omega) _, Below.heap_setCell _ _ _ _ (by show w2.heap.size + 1 + 1 + 1 ≠ w2.heap.size; omega), Below.heap_setCell _ _ _ _ (by show w2.heap.size + 1 + 1 ≠ w2.heap.size; omega)⟩,
            ⟨by rw [e]; exact HS1.out.set _, HA1.out.other (by have := HLT.out; omega) _⟩, HB1.out.setCell (p := ⟨w2.heap.size, 0, none⟩) (by show w.heap.size ≤ w2.heap.size; have := HLT.out; omega) _, by have := HZ1.out; simp; omega⟩
        · have hq : (a1.toList == x.f1.toList) = false := by assumption
          have hq2 : (a1.toList == x.f2.toList) = false := by assumption
          have e : sumS a1 (pre ++ [x]) = sumS a1 pre := by rw [sumS_snoc]; unfold stepS; rw [if_neg (by simpa using hq), if_neg (by simpa using hq2)]
          exact ⟨KeepsFrom.refl _ _, ⟨Below.refl _ _, rfl, rfl⟩, ⟨by rw [e]; exact HS1.out, HA1.out⟩, HB1.out, HZ1.out⟩
      case done =>
        rintro D ys W hD rfl ⟨⟨bS1, bA1⟩, hB1, hz1⟩ hK
        have cS := bS1.cell
        gi_wp2
        refine ⟨by simp, .inl ⟨_, _, rfl, run_takeDeferred hK, ?_⟩⟩
        exact ⟨_, results_tmp rfl _ _ _, by rw [← HSUM.out, ← sumS_eq HV.out]; rfl, hB1.trans (belowK_b (w := w) (Nat.le_refl _) W D _ _ (by omega) hK rfl rfl)⟩
      case stop =>
        rintro D c pre W _ _ h _
        exact h.elim
  · rw [if_neg hz] at h; cases h


end Go.Proofs.Ytbmochegfdljfaa.My
