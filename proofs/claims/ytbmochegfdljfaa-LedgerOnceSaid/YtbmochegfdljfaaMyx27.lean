-- Written by a program of this session (wip/myprint.py), which drives the kit's print over hand-written fragments. Not trusted: Lean checks it.
import Derived.Test.YtbmochegfdljfaaMyx0
import Derived.Test.YtbmochegfdljfaaMyx21
import Derived.Test.YtbmochegfdljfaaMyx24
import Derived.Test.YtbmochegfdljfaaSrt
import Derived.Test.YtbmochegfdljfaaMyx24
import Derived.Test.YtbmochegfdljfaaShelf
import Derived.Lib.OwnBridge
import Derived.Sort.OwnSorted
namespace Go.Proofs.Ytbmochegfdljfaa.My
open Go.Proofs.Ytbmochegfdljfaa.Aid Go.Proofs.Ytbmochegfdljfaa.KdX
open Go.RowKit Go.Proofs.YtbmochegfdljfaaW.PrintWords Go.Proofs.YtbmochegfdljfaaW.PrintLast Go.Proofs.YtbmochegfdljfaaW.PrintMore
attribute [local go_sem] max2_int min2_int max_two min_two max_three min_three max_four min_four   -- for this text's walks alone
set_option linter.unusedVariables false
set_option linter.unusedSimpArgs false

/-! ### ledger_Accounts: function 27 (by hand) -/
def insL : List ByteArray → ByteArray → List ByteArray
  | [], s => [s]
  | x :: l, s => if Op.bytesLess x.toList s.toList = true then x :: insL l s else if x.toList = s.toList then x :: l else s :: x :: l
def accF (l : List S26) : List ByteArray := l.foldl (fun out x => insL (insL out x.f1) x.f2) []
def ledger_Accounts.f (l0_0 : List S26) : Option (List ByteArray) := if l0_0.all szB then some (if validB l0_0 = true then accF l0_0 else []) else none
-- IMPORT Derived.Test.YtbmochegfdljfaaSrt
-- IMPORT Derived.Test.YtbmochegfdljfaaMyx24
-- IMPORT Derived.Test.YtbmochegfdljfaaShelf
-- IMPORT Derived.Lib.OwnBridge
-- IMPORT Derived.Sort.OwnSorted
open Go.Proofs.Ytbmochegfdljfaa.Srt in
theorem insL_spec : ∀ {l : List ByteArray} (s : ByteArray), (l.map ByteArray.toList).Pairwise (· < ·) → ((insL l s).map ByteArray.toList).Pairwise (· < ·) ∧ ∀ x, x ∈ (insL l s).map ByteArray.toList ↔ x = s.toList ∨ x ∈ l.map ByteArray.toList
  | [], s, _ => by simp [insL]
  | y :: l, s, h => by
    rw [List.map_cons, List.pairwise_cons] at h
    obtain ⟨h1, h2⟩ := insL_spec (l := l) s h.2
    unfold insL
    rw [Go.Proofs.bytesLess_eq]
    by_cases hlt : y.toList < s.toList
    · rw [if_pos (decide_eq_true hlt), List.map_cons, List.pairwise_cons]
      refine ⟨⟨fun x hx => ?_, h1⟩, fun x => ?_⟩
      · rcases (h2 x).1 hx with rfl | hx
        · exact hlt
        · exact h.1 x hx
      · rw [List.mem_cons, h2, List.map_cons, List.mem_cons]
        constructor
        · rintro (h | h | h)
          · exact .inr (.inl h)
          · exact .inl h
          · exact .inr (.inr h)
        · rintro (h | h | h)
          · exact .inr (.inl h)
          · exact .inl h
          · exact .inr (.inr h)
    · rw [if_neg (by simpa using hlt)]
      by_cases he : y.toList = s.toList
      · rw [if_pos he, List.map_cons]
        refine ⟨List.pairwise_cons.2 h, fun x => ?_⟩
        rw [List.mem_cons, he]
        constructor
        · intro h; exact .inr h
        · rintro (h | h)
          · exact .inl h
          · exact h
      · rw [if_neg he, List.map_cons, List.map_cons]
        have hs : s.toList < y.toList := by
          rcases tri y.toList s.toList with k | k | k
          · exact absurd k hlt
          · exact absurd k he
          · exact k
        refine ⟨List.pairwise_cons.2 ⟨fun x hx => ?_, List.pairwise_cons.2 h⟩, fun x => by rw [List.mem_cons]⟩
        rcases List.mem_cons.1 hx with rfl | hx
        · exact hs
        · exact lt_tr hs (h.1 x hx)
def flatL (l : List S26) : List ByteArray := l.flatMap fun x => [x.f1, x.f2]
theorem accF_spec (l : List S26) : ((accF l).map ByteArray.toList).Pairwise (· < ·) ∧ ∀ x, x ∈ (accF l).map ByteArray.toList ↔ x ∈ (flatL l).map ByteArray.toList := by
  have key : ∀ (l : List S26) (out : List ByteArray), (out.map ByteArray.toList).Pairwise (· < ·) → ((l.foldl (fun out x => insL (insL out x.f1) x.f2) out).map ByteArray.toList).Pairwise (· < ·) ∧
      ∀ x, x ∈ (l.foldl (fun out x => insL (insL out x.f1) x.f2) out).map ByteArray.toList ↔ x ∈ out.map ByteArray.toList ∨ x ∈ (flatL l).map ByteArray.toList := by
    intro l
    induction l with
    | nil => intro out h; exact ⟨h, fun x => by simp [flatL]⟩
    | cons y l ih =>
      intro out h
      obtain ⟨h1, h2⟩ := insL_spec y.f1 h
      obtain ⟨h3, h4⟩ := insL_spec y.f2 h1
      obtain ⟨h5, h6⟩ := ih _ h3
      refine ⟨h5, fun x => ?_⟩
      rw [List.foldl_cons, h6, h4, h2]
      simp only [flatL, List.flatMap_cons, List.map_append, List.mem_append, List.map_cons, List.map_nil, List.mem_cons, List.not_mem_nil, or_false]
      constructor
      · rintro ((h | h | h) | h)
        · exact .inr (.inl (.inr h))
        · exact .inr (.inl (.inl h))
        · exact .inl h
        · exact .inr (.inr h)
      · rintro (h | (h | h) | h)
        · exact .inl (.inr (.inr h))
        · exact .inl (.inr (.inl h))
        · exact .inl (.inl h)
        · exact .inr h
  obtain ⟨h1, h2⟩ := key l [] (by simp)
  exact ⟨h1, fun x => by rw [show accF l = l.foldl (fun out x => insL (insL out x.f1) x.f2) [] from rfl, h2]; simp⟩
theorem acc_eq (l : List S26) : (accF l).map Value.string = (Lib.compact (((flatL l).map (·.data.toList)).mergeSort fun x y => decide (x ≤ y))).map Proofs.encStr := by
  obtain ⟨h1, h2⟩ := accF_spec l
  obtain ⟨h3, h4⟩ := Go.Proofs.Ytbmochegfdljfaa.Srt.sort_spec ((flatL l).map (·.data.toList))
  obtain ⟨h5, h6⟩ := Go.Proofs.Ytbmochegfdljfaa.Srt.compact_spec h3
  have he : (accF l).map ByteArray.toList = Lib.compact (((flatL l).map (·.data.toList)).mergeSort fun x y => decide (x ≤ y)) := by
    refine Go.Proofs.Ytbmochegfdljfaa.Srt.sorted_ext h1 h5 (fun x => ?_)
    rw [h2, h6, h4]
    have : (flatL l).map ByteArray.toList = (flatL l).map (·.data.toList) := List.map_congr_left fun x _ => ByteArray.toList_eq x
    rw [this]
  rw [← he, List.map_map]
  refine List.map_congr_left fun x _ => ?_
  simp [Proofs.encStr, ByteArray.toList_eq]
theorem reps_str {xs : List ByteArray} {inner : List Value} {w : World} {base : Nat} {ok : Nat → Prop} (h : Reps (Kd.string.M w base ok) 1 xs inner) : inner = xs.map Value.string := by
  have hl : inner.length = xs.length := by have := h.1; omega
  apply List.ext_getElem
  · simp [hl]
  · intro j h1 h2
    have hj : j < xs.length := by simpa using h2
    have := h.2 j xs[j] (List.getElem?_eq_getElem hj)
    have h3 : (inner.drop (j * 1)).take 1 = [Value.string xs[j]] := this
    rw [Nat.mul_one, List.drop_eq_getElem_cons h1, List.take_succ_cons, List.take_zero] at h3
    have h4 := List.head_eq_of_cons_eq h3
    rw [h4]; simp
theorem str_reps (xs : List ByteArray) (w : World) (base : Nat) (ok : Nat → Prop) : Reps (Kd.string.M w base ok) 1 xs (xs.map Value.string) := by
  refine ⟨by simp, fun j p hj => ?_⟩
  obtain ⟨hjl, rfl⟩ := List.getElem?_eq_some_iff.1 hj
  show ((xs.map Value.string).drop (j * 1)).take 1 = [Value.string xs[j]]
  rw [Nat.mul_one, List.drop_eq_getElem_cons (by simpa using hjl)]
  simp
theorem R_str_own {w : World} {base : Nat} {v : Value} {xs : List ByteArray} (h : Kd.R Kd.string 9 w base (fun _ => True) v xs) : w.ownsRow base 9 1 v xs.length (xs.map Value.string) := by
  obtain ⟨_, inner, ho, hr⟩ := h
  rw [← reps_str hr]; exact ho
theorem own_R_str {w : World} {base : Nat} {v : Value} {xs : List ByteArray} (h : w.ownsRow base 9 1 v xs.length (xs.map Value.string)) : Kd.R Kd.string 9 w base (fun _ => True) v xs :=
  ⟨fun _ _ => trivial, _, h, str_reps xs w base _⟩
theorem two_rows {W : World} {g t : Nat} {a b : ByteArray} (h : W.heap[g]? = some (.cells #[.string a, .string b] t (0, 0))) : ReadsRow (fun (x : ByteArray) (cs : List Value) => cs = [.string x]) Kd.string.sz W (some ⟨g, 0, none⟩) 2 [a, b] := by
  refine ⟨rfl, by omega, fun _ => ⟨_, rfl, fun j p hj => ?_⟩⟩
  obtain ⟨hjl, rfl⟩ := List.getElem?_eq_some_iff.1 hj
  refine ⟨_, rfl, rfl, fun i u hu => ?_⟩
  rw [add_plain, cell_of_row W g _ _ t _ h]
  have hj2 : j < 2 := hjl
  have hi : i = 0 := by have := (List.getElem?_eq_some_iff.1 hu).1; simp at this; omega
  subst hi
  match j, hj2 with
  | 0, _ => simpa [Kd.string, Kd.scalar] using hu
  | 1, _ => simpa [Kd.string, Kd.scalar] using hu
set_option maxRecDepth 100000 in
set_option maxHeartbeats 2000000 in
theorem ledger_Accounts.calls (A0_0 : Option Addr) (c0_0 : Nat) (l0_0 : List S26) (r : List ByteArray) (w : World) (hr0_0 : Kd.C k26 w A0_0 l0_0.length l0_0) (hc0_0 : l0_0.length ≤ c0_0) (h : ledger_Accounts.f l0_0 = some r) :
    Calls Try.prog 27 #[.agg #[.slice A0_0 l0_0.length c0_0]] w fun e w' => ∃ v : Value, e = .returned v ∧ Kd.R Kd.string 9 w' w.heap.size (fun _ => True) v r ∧ Below w.heap.size w w' := by
  unfold ledger_Accounts.f at h
  by_cases hz : l0_0.all szB = true
  · rw [if_pos hz] at h
    have h := Option.some.inj h
    have hu24 := Try.underlying24
    have hu26 := Try.underlying26
    have HVA := Aside0.mk (show ledger_Valid.f l0_0 = some (validB l0_0) by unfold ledger_Valid.f; rw [if_pos hz])
    have HR := Aside0.mk hr0_0
    have HC := Aside0.mk hc0_0
    have HH := Aside0.mk h
    clear hr0_0 hc0_0 hz h
    go_enter Try.func27, Try.ntmps27
    go_wp2_with fail
    have hk0 := blk_new w (.cells #[.slice A0_0 l0_0.length c0_0] 24)
    refine (ledger_Valid.calls A0_0 c0_0 l0_0 (validB l0_0) _ (Kd.C_below HR.out (below_alloc (Below.refl _ _) _)) HC.out HVA.out).mono ?_
    rintro e w2 ⟨rfl, hb2⟩
    have HB2 := Aside0.mk (below_step (below_alloc (Below.refl _ _) _) hb2)
    have k0 := blk_below hk0 hb2
    have d0 := blk_cell k0 0
    simp at d0
    clear hb2 k0 hk0
    cases hv : validB l0_0 with
    | false =>
      have hh := HH.out
      rw [hv] at hh
      simp only [Bool.false_eq_true, if_false] at hh
      obtain rfl := hh.symm
      clear hv hh
      go_wp2
      go_ret
      exact ⟨_, rfl, Kd.R_nil _ _ _ _ _, HB2.out⟩
    | true =>
      have hh := HH.out
      rw [hv] at hh
      simp only [if_true] at hh
      have hl2 := (valid_form hv).1
      have HRE := Aside0.mk hh
      clear hv hh HH
      go_wp2_with fail
      go_loopw [3, 12] (fun v i wr => ∃ k : Nat, i = .int .i64 k ∧ k ≤ l0_0.length ∧ Aside0 (Kd.R Kd.string 9 wr w.heap.size (fun _ => True) v (flatL (l0_0.take k))) ∧ Aside0 (Below w.heap.size w wr))
        (fun _ i _ => l0_0.length - (intOf i).toNat)
      case atStart => exact ⟨0, rfl, Nat.zero_le _, ⟨Kd.R_nil _ _ _ _ _⟩, HB2⟩
      case round =>
        obtain ⟨k, rfl, hk, HV, HB⟩ := hrel
        by_cases hlt : k < l0_0.length
        · obtain ⟨ad, rfl, g0, g1, g2, g3, g4, g5⟩ := at_T26 HR.out (k : Int) (by omega) (by omega)
          rw [Int.toNat_natCast, rd26_at hlt] at g0 g1 g2 g3 g4 g5
          have HT := Aside0.mk (show flatL (l0_0.take (k + 1)) = flatL (l0_0.take k) ++ [l0_0[k].f1, l0_0[k].f2] from by rw [List.take_succ_eq_append_getElem hlt]; unfold flatL; rw [List.flatMap_append]; rfl)
          have hfl : (flatL (l0_0.take k)).length ≤ 4000 := by
            have h1 : (l0_0.take k).length ≤ 2000 := by rw [List.length_take]; omega
            have h2 : ∀ l : List S26, (flatL l).length = 2 * l.length := fun l => by induction l with
              | nil => rfl
              | cons x l ih => simp [flatL] at *; omega
            rw [h2]; omega
          obtain ⟨y, hy⟩ : ∃ y, l0_0[k] = y := ⟨_, rfl⟩
          rw [hy] at g0 g1 g2 g3 g4 g5 HT
          clear hy
          replace g0 := (HB.out.cell (World.block_lt_of_cell? w _ g0)).trans g0
          replace g1 := (HB.out.cell (World.block_lt_of_cell? w _ g1)).trans g1
          replace g2 := (HB.out.cell (World.block_lt_of_cell? w _ g2)).trans g2
          replace g3 := (HB.out.cell (World.block_lt_of_cell? w _ g3)).trans g3
          replace g4 := (HB.out.cell (World.block_lt_of_cell? w _ g4)).trans g4
          replace g5 := (HB.out.cell (World.block_lt_of_cell? w _ g5)).trans g5
          have HFL := Aside0.mk hfl
          clear hfl
          go_wp2_with (first | ((with_reducible refine gate_builtin (b := .append) (xs := #[.tmp 16, .tmp 21]) rfl ?_); at_builtin; refine Kd.R_append_rows Kd.string (w0 := w) w.heap.size rfl (.tmp 16) (.tmp 21) 35 9 (.string ⟨#[]⟩) 16 rfl Try.underlying35 info9 rfl (by decide) (by omega) _ (flatL (l0_0.take k)) [y.f1, y.f2] _ _ _ (fun _ => True) (fun _ => False) rfl rfl ?aO ?aR (fun _ _ h => h) (fun _ h => h.elim) ?aF ?aB ?aS ?aL ?_; (case aO => exact Kd.R_alloc (Kd.R_alloc HV.out _) _); (case aR => exact two_rows (t := 9) (by have := blk_new (wr.alloc (.cells #[.int .i64 y.f0, .string y.f1, .string y.f2, .int .i64 y.f3, .int .i64 y.f4, .int .i64 y.f5] 26)) (.cells #[.string y.f1, .string y.f2] 9); rwa [World.size_alloc] at this)); (case aF => exact fun _ _ => trivial); (case aB => exact below_alloc (below_alloc HB.out _) _); (case aS => have := HB.out.size; simp; omega); (case aL => have := HFL.out; omega); intro v9 w9 ho hb hg hat; have HO9 := Aside0.mk ho; have HB9 := Aside0.mk hb; clear ho hb hg hat))
          go_roundw
          case rel => exact ⟨k + 1, by go_num, by omega, ⟨by rw [HT.out]; exact HO9.out⟩, HB9⟩
          case measure => simp [intOf]; omega
        · have hkl : k = l0_0.length := by omega
          subst hkl
          have hV := HV.out
          rw [List.take_length] at hV
          have HV := Aside0.mk hV
          obtain ⟨A, c, rfl, hlc, _⟩ := Kd.R_reads hV
          clear hV
          by_cases hnil : flatL l0_0 = []
          · have hr0 : accF l0_0 = [] := by
              have := acc_eq l0_0
              rw [hnil] at this
              simpa [Lib.compact, Lib.compactUpTo] using this
            have HR0 := Aside0.mk (show r = [] by rw [← HRE.out]; exact hr0)
            have hz0 : (flatL l0_0).length = 0 := by rw [hnil]; rfl
            rw [hz0] at *
            have HN := Aside0.mk hnil
            clear hnil hz0 hr0
            go_wp2_with (first | (go_at_call 55; refine (Try.slices_Sort_string_none _ _ _).mono ?_; rintro e w' ⟨rfl, rfl⟩) | (go_at_call 56; refine (Try.slices_Compact_string_empty _ _ _).mono ?_; rintro e w' ⟨rfl, rfl⟩))
            go_ret
            refine ⟨_, rfl, ?_, HB.out⟩
            have hv := HV.out
            rw [show (flatL l0_0).length = 0 by rw [HN.out]; rfl] at hv
            rw [HR0.out, ← HN.out]; exact hv
          · have hpos : 0 < (flatL l0_0).length := List.length_pos_iff.2 hnil
            have hle : (flatL l0_0).length ≤ 4000 := by
              have h2 : ∀ l : List S26, (flatL l).length = 2 * l.length := fun l => by induction l with
                | nil => rfl
                | cons x l ih => simp [flatL] at *; omega
              rw [h2]; omega
            have hown := R_str_own HV.out
            rw [← Lib.map_encStr] at hown
            have hacc := acc_eq l0_0
            rw [HRE.out] at hacc
            obtain ⟨ss, hss⟩ : ∃ ss, ss = (flatL l0_0).map (·.data.toList) := ⟨_, rfl⟩
            rw [← hss] at hown hacc
            have hsl : ss.length = (flatL l0_0).length := by rw [hss, List.length_map]
            clear hss hnil
            generalize (flatL l0_0).length = nn at *
            rcases hown.2 with ⟨e, _⟩ | ⟨g, cap, cur, e, hbase, hb, h1, h2, h3, h4⟩
            · cases e; omega
            cases e
            rw [Nat.mul_one] at h4
            have hS := Try.slices_Sort_string g 0 c ss wr (holds_of_block hb (by rw [hsl]; exact h4)) (Array.getElem?_eq_some_iff.1 hb).1 (by omega)
            rw [hsl] at hS
            obtain ⟨ts, hts⟩ : ∃ ts, ts = ss.mergeSort fun x y => decide (x ≤ y) := ⟨_, rfl⟩
            rw [← hts] at hS hacc
            have htl : ts.length = ss.length := by rw [hts, List.length_mergeSort]
            have HS := Aside0.mk hS
            have HO2 := Aside0.mk (fun (q : Nat) (os : Array Obj) => ownsRow_sorted (w := wr) (n := q) (os := os) htl hbase hb (by rw [hsl]; exact h1) h2 h3)
            have HG2 := Aside0.mk (fun (q : Nat) (os : Array Obj) => HB.out.grown (grownBy_sorted (w := wr) (g := g) (n := q) (os := os) ts.toArray) HB.out.size (fun k e => by cases e; exact hbase))
            have HAC := Aside0.mk hacc
            have HTL := Aside0.mk htl
            have HSL := Aside0.mk hsl
            have HBS := Aside0.mk hbase
            have HH1 := Aside0.mk h1
            clear hS hts hacc htl hsl hown h3 h4 hb HV hbase h1 h2
            go_wp2_with fail
            refine HS.out.mono ?_
            rintro e w3 ⟨rfl, q, os, rfl⟩
            have ho2 := HO2.out q os
            have hg2 := HG2.out q os
            clear HO2 HG2 HS
            generalize Sort.grow (Sort.putRow Proofs.encStr (Sort.ahead wr q) g 0 ts.toArray) os = W2 at ho2 hg2 ⊢
            rw [HSL.out] at ho2
            obtain ⟨g', cap', e, _, hg3, _, _, _, hH⟩ := Lib.holds_of_ownsRow ho2 (by intro e; cases e)
            cases e
            have hcl : (Lib.compact ts).length ≤ ts.length := Lib.compact_length_le ts
            have hCp := Try.slices_Compact_string g 0 c ts W2 hH (by have := HTL.out; have := HSL.out; omega) (by have := HTL.out; have := HSL.out; have := HH1.out; omega)
            rw [HTL.out, HSL.out] at hCp
            have HCP := Aside0.mk hCp
            have HO3 := Aside0.mk (fun (q : Nat) => Lib.ownsRow_putRow (q := q) (ys := Lib.compact ts ++ List.replicate (nn - (Lib.compact ts).length) []) ho2 (by have := HTL.out; have := HSL.out; simp; omega) (by have := HTL.out; have := HSL.out; omega : (Lib.compact ts).length ≤ nn))
            have HB3 := Aside0.mk (fun (q : Nat) => Lib.below_putRow (enc := Proofs.encStr) (q := q) (d := (Lib.compact ts ++ List.replicate (nn - (Lib.compact ts).length) []).toArray) hg2 HBS.out)
            clear hCp ho2 hg2 hH hcl hg3
            go_wp2_with fail
            refine HCP.out.mono ?_
            rintro e w4 ⟨rfl, q2, rfl⟩
            go_wp2
            go_ret
            refine ⟨_, rfl, ?_, HB3.out q2⟩
            have ho3 := HO3.out q2
            rw [List.take_append_of_le_length (Nat.le_refl _), List.take_length, ← HAC.out] at ho3
            have hrl : r.length = (Lib.compact ts).length := by have := congrArg List.length HAC.out; simpa using this
            rw [← hrl] at ho3
            have := own_R_str ho3
            rw [hrl] at this
            exact this
  · rw [if_neg hz] at h; cases h


end Go.Proofs.Ytbmochegfdljfaa.My
