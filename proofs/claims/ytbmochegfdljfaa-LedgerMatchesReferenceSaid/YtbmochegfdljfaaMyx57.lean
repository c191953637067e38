-- Written by a program of this session (wip/myprint.py),which drives the kit's print over hand-written fragments. Not trusted: Lean checks it.
import Derived.Test.YtbmochegfdljfaaMyx0
import Derived.Test.YtbmochegfdljfaaMyx27
namespace Go.Proofs.Ytbmochegfdljfaa.My
open Go.Proofs.Ytbmochegfdljfaa.Aid Go.Proofs.Ytbmochegfdljfaa.KdX
open Go.RowKit Go.Proofs.YtbmochegfdljfaaW.PrintWords Go.Proofs.YtbmochegfdljfaaW.PrintLast Go.Proofs.YtbmochegfdljfaaW.PrintMore
attribute [local go_sem] max2_int min2_int max_two min_two max_three min_three max_four min_four   -- for this text's walks alone
set_option linter.unusedVariables false
set_option linter.unusedSimpArgs false

/-! ### wageofficeref39_insert: function 57 (by hand) -/
-- IMPORT Derived.Test.YtbmochegfdljfaaMyx27
-- IMPORT Derived.Deep.RegionHeld3
theorem emp_own1 (W : World) (o : Obj) {base : Nat} (hb : base ≤ W.heap.size := by simp) : Kd.R Kd.string 9 ((W.alloc o).alloc (.cells #[] 9)) base (fun _ => True) (.slice (some ⟨W.heap.size + 1,0,none⟩) 0 0) [] := by
  have := emp_own (d := Kd.string) (e := 9) (ok := fun _ => True) (base := base) (W := W.alloc o) trivial (by rw [World.size_alloc];omega)
  rwa [World.size_alloc] at this
theorem blk_new1a (w : World) (a b : Obj) : ((w.alloc a).alloc b).heap[w.heap.size + 1]? = some b := by simpa using blk_new (w.alloc a) b
theorem own_ne0 {g h : Nat} (hne : g ≠ h) : some g ≠ (Value.slice (some ⟨h,0,none⟩) 0 0).ownBlock := by
  intro e;simp [Value.ownBlock] at e;exact hne e
theorem one_str {W : World} {g t : Nat} {a : ByteArray} (h : W.heap[g]? = some (.cells #[.string a] t (0,0))) : ReadsRow (fun (x : ByteArray) (cs : List Value) => cs = [.string x]) Kd.string.sz W (some ⟨g,0,none⟩) 1 [a] := by
  refine ⟨rfl,by omega,fun _ => ⟨_,rfl,fun j p hj => ?_⟩⟩
  obtain ⟨hjl,rfl⟩ := List.getElem?_eq_some_iff.1 hj
  have hj0 : j = 0 := by simp at hjl;omega
  subst hj0
  refine ⟨_,rfl,rfl,fun i u hu => ?_⟩
  rw [add_plain,cell_of_row W g _ _ t _ h]
  have hi : i = 0 := by have := (List.getElem?_eq_some_iff.1 hu).1;simp at this;omega
  subst hi
  simpa [Kd.string,Kd.scalar] using hu
theorem at_str {w : World} {A : Option Addr} {n : Nat} {xs : List ByteArray} (h : Kd.C Kd.string w A n xs) (k : Nat) (hk : k < xs.length) : ∃ ad,A = some ad ∧ w.cell? (ad.add k) = some (.string xs[k]) := by
  have hn : xs.length = n := h.1
  obtain ⟨ad,c,rfl,hc,hK,hcell⟩ := Kd.C_get h ByteArray.empty (k : Int) (by omega) (by omega)
  have hK' : c = [.string (xs.getD (k : Int).toNat ByteArray.empty)] := hK
  subst hK'
  have h1 := hcell 0 _ rfl
  rw [Int.toNat_natCast] at h1
  have h2 : xs.getD k ByteArray.empty = xs[k] := by simp [List.getD_eq_getElem?_getD,hk]
  rw [h2] at h1
  refine ⟨ad,rfl,?_⟩
  have h3 : k * Kd.string.sz + 0 = k := by show k * 1 + 0 = k;omega
  rw [h3] at h1
  exact h1
theorem insL_go {l : List ByteArray} {k : Nat} {s : ByteArray} (hk : k < l.length) (h : Op.bytesLess l[k].toList s.toList = true) (hi : insL l s = l.take k ++ insL (l.drop k) s) : insL l s = l.take (k + 1) ++ insL (l.drop (k + 1)) s := by
  rw [hi,List.drop_eq_getElem_cons hk,List.take_succ_eq_append_getElem hk]
  simp only [insL]
  rw [if_pos h,List.append_assoc];rfl
theorem insL_eq {l : List ByteArray} {k : Nat} {s : ByteArray} (hk : k < l.length) (h : Op.bytesLess l[k].toList s.toList = false) (he : l[k].toList = s.toList) (hi : insL l s = l.take k ++ insL (l.drop k) s) : insL l s = l := by
  rw [hi,List.drop_eq_getElem_cons hk]
  simp only [insL]
  rw [if_neg (by rw [h];simp),if_pos he,← List.drop_eq_getElem_cons hk,List.take_append_drop]
theorem insL_ne {l : List ByteArray} {k : Nat} {s : ByteArray} (hk : k < l.length) (h : Op.bytesLess l[k].toList s.toList = false) (he : ¬ l[k].toList = s.toList) (hi : insL l s = l.take k ++ insL (l.drop k) s) : insL l s = (l.take k ++ [s]) ++ l.drop k := by
  rw [hi,List.drop_eq_getElem_cons hk]
  simp only [insL]
  rw [if_neg (by rw [h];simp),if_neg he];simp
theorem insL_end {l : List ByteArray} {s : ByteArray} (hi : insL l s = l.take l.length ++ insL (l.drop l.length) s) : insL l s = (l.take l.length ++ [s]) ++ l.drop l.length := by
  rw [hi,List.drop_length];simp [insL]
set_option maxRecDepth 100000 in
set_option maxHeartbeats 2000000 in
theorem wageofficeref39_insert.calls (base : Nat) (v0 : Value) (l0 : List ByteArray) (s : ByteArray) (w : World) (hr0 : Kd.R Kd.string 9 w base (fun _ => True) v0 l0) (hbase : base ≤ w.heap.size) (hl : l0.length ≤ 1000000) :
    Calls Try.prog 57 #[v0,.string s] w fun e w' => ∃ v : Value,e = .returned v ∧ Kd.R Kd.string 9 w' base (fun _ => True) v (insL l0 s) ∧ Below w.heap.size w w' := by
  obtain ⟨A,c,rfl,hc,hC⟩ := Kd.R_reads hr0
  have HR0 := Aside0.mk hr0
  have HC := Aside0.mk hc
  have HCC := Aside0.mk hC
  have HBS := Aside0.mk hbase
  clear hr0 hc hC hbase
  go_enter Try.func57,Try.ntmps57
  go_wp2_with fail
  go_loop [5] (fun i => ∃ k : Nat,i = .int .i64 k ∧ k ≤ l0.length ∧ Aside0 (insL l0 s = l0.take k ++ insL (l0.drop k) s)) (fun i => l0.length - (intOf i).toNat)
  case atStart => exact ⟨0,rfl,Nat.zero_le _,⟨by simp⟩⟩
  case round =>
    obtain ⟨k,rfl,hk,HI⟩ := hrel
    by_cases hlt : k < l0.length
    · obtain ⟨ad,rfl,g⟩ := at_str HCC.out k hlt
      have HGO := Aside0.mk (fun h => insL_go (s := s) hlt h HI.out)
      have HEQ := Aside0.mk (fun h he => insL_eq (s := s) hlt h he HI.out)
      have HNE := Aside0.mk (fun h he => insL_ne (s := s) hlt h he HI.out)
      obtain ⟨y,hy⟩ : ∃ y,l0[k] = y := ⟨_,rfl⟩
      rw [hy] at g HGO HEQ HNE
      clear hy
      have hi0 : (0 : Int) ≤ (k : Int) := by omega
      have hi1 : (k : Int) < (l0.length : Int) := by omega
      cases hbl : Op.bytesLess y.toList s.toList with
      | true =>
        have H1 := Aside0.mk (HGO.out hbl)
        go_wp2
        go_round
        case rel => exact ⟨k + 1,by go_num,by omega,H1⟩
        case measure => simp [intOf];omega
      | false =>
        by_cases he : y.toList = s.toList
        · have H1 := Aside0.mk (HEQ.out hbl he)
          have hbe : (y.toList == s.toList) = true := by simp [he]
          have HE := Aside0.mk he
          clear he
          go_wp2
          go_ret
          refine ⟨_,rfl,?_,Below.refl _ _⟩
          rw [H1.out];exact HR0.out
        · have hres := HNE.out hbl he
          have hbe : (y.toList == s.toList) = false := by simp [he]
          have HRES := Aside0.mk hres
          have HE := Aside0.mk he
          clear he hres
          go_wp2
          obtain ⟨i0,hi0,_,hsz9,_⟩ := info_parts info9
          obtain ⟨hcut1,hA1,hC1⟩ := print_take_of (P := Try.prog) Value.string ByteArray.empty 35 9 .i64 Try.underlying35 hi0 hsz9 (some ad) c l0 (k : Int) (by omega) (by omega) HC.out
          obtain ⟨A2,hcut2,hA2,hC2⟩ := print_drop_of (P := Try.prog) Value.string ByteArray.empty 35 9 .i64 Try.underlying35 hi0 hsz9 (some ad) c l0 (k : Int) (by omega) (by omega) HC.out
          rw [Int.toNat_natCast] at hcut1 hA1 hC1 hcut2 hA2 hC2
          have HT1 := Aside0.mk (Kd.C_of_reads (h1 := fun _ => rfl) (hA1 _ (Kd.reads_of_C HCC.out)))
          have HT2 := Aside0.mk (Kd.C_of_reads (h1 := fun _ => rfl) (hA2 _ (Kd.reads_of_C HCC.out)))
          clear hA1 hC1 hA2 hC2 hi0 hsz9
          have hk0 : (0 : Int) ≤ (k : Int) := by omega
          have hk1 : (k : Int) ≤ (l0.length : Int) := by omega
          have hk2 : (l0.length : Int) ≤ (c : Int) := by have := HC.out;omega
          have hk3 : (k : Int) ≤ (c : Int) := by omega
          rw [show (l0.take k).length = k by rw [List.length_take];omega] at HT1
          rw [List.length_drop] at HT2
          have HLK := Aside0.mk (show (l0.take k).length = k by rw [List.length_take];omega)
          have HLK2 := Aside0.mk (show (l0.take k ++ [s]).length = k + 1 by rw [List.length_append,List.length_take,List.length_singleton];omega)
          have HST := Aside0.mk trivial
          go_region_held3 (fun w' => True) (trivial)
            (first
              | ((revert yb HB1;intro yb HB1;refine Kd.R_append_rows_step Kd.string (w0 := w) w.heap.size (by rfl) (.tmp 37) (.tmp 39) 35 9 (.string ⟨#[]⟩) 16 (by rfl) Try.underlying35 info9 rfl (by decide) (by omega) _ (l0.take k) [s] _ 1 1 (fun _ => True) (fun _ => False) (by rfl) (by rfl) (by first | exact HR1.out | exact HR1o.out) (one_str yb.out) (fun _ _ h => h) (fun _ h => h.elim) (fun _ _ => trivial) HB1.out (Below.size HB1.out) (by rw [List.length_take];omega) ?_;intro v2 w2 hR2 hb2 hg2 hat2;obtain ⟨A3,c3,rfl⟩ := Kd.R_slice hR2;have HR2o := Aside0.mk hR2;rw [HLK2.out] at hR2;have HR2 := Aside0.mk hR2;have HB2 := Aside0.mk hb2;clear hR2 hb2 hg2 hat2 HB1))
              | ((revert HB1;intro HB1;refine Kd.R_append_rows_step Kd.string (w0 := w) w.heap.size (by rfl) (.tmp 37) (.tmp 39) 35 9 (.string ⟨#[]⟩) 16 (by rfl) Try.underlying35 info9 rfl (by decide) (by omega) _ (l0.take k) [s] _ 1 1 (fun _ => True) (fun _ => False) (by rfl) (by rfl) (by first | exact Kd.R_alloc HR1.out _ | exact Kd.R_alloc HR1o.out _) (one_str (blk_new w1 _)) (fun _ _ h => h) (fun _ h => h.elim) (fun _ _ => trivial) (below_alloc HB1.out _) (Below.size (below_alloc HB1.out _)) (by rw [List.length_take];omega) ?_;intro v2 w2 hR2 hb2 hg2 hat2;obtain ⟨A3,c3,rfl⟩ := Kd.R_slice hR2;have HR2o := Aside0.mk hR2;rw [HLK2.out] at hR2;have HR2 := Aside0.mk hR2;have HB2 := Aside0.mk hb2;clear hR2 hb2 hg2 hat2 HB1))
              | ((revert HST;intro HST;refine Kd.R_append_rows_step Kd.string (w0 := w) w.heap.size (by rfl) (.tmp 33) (.tmp 36) 35 9 (.string ⟨#[]⟩) 16 (by rfl) Try.underlying35 info9 rfl (by decide) (by omega) _ ([] : List ByteArray) (l0.take k) (some ad) k c (fun _ => True) (fun _ => False) (by rfl) (by rfl) (by first | exact emp_own (W := w.drew) trivial (Nat.le_refl _) | exact Kd.R_alloc (emp_own (W := w.drew) trivial (Nat.le_refl _)) _ | exact emp_own1 w.drew _) (Kd.C_below HT1.out (by repeat (first | exact Below.refl _ _ | apply below_alloc | apply below_drew1))) (fun _ _ h => h) (fun _ h => h.elim) (fun _ _ => trivial) (by repeat (first | exact Below.refl _ _ | apply below_alloc | apply below_drew1)) (by first | exact Nat.le_refl _ | (simp;done) | (simp;omega)) (by rw [List.length_nil];omega) ?_;intro v1 w1 hR1 hb1 hg1 hat1;(try (have yb := Aside0.mk (blk_grown (blk_new1a w.drew (.cells #[] 9) (.cells #[.string s] 9)) hg1 (own_ne0 (Nat.succ_ne_self _)))));(try (have yb := Aside0.mk (blk_grown (blk_alloc (blk_new w.drew (.cells #[.string s] 9)) _) hg1 (own_ne0 (Nat.ne_of_lt (Nat.lt_succ_self _))))));obtain ⟨A1,c1,rfl⟩ := Kd.R_slice hR1;have HR1o := Aside0.mk hR1;rw [List.nil_append,HLK.out] at hR1;have HR1 := Aside0.mk hR1;have HB1 := Aside0.mk hb1;clear hR1 hb1 hg1 hat1 HST))
              | ((revert HB2;intro HB2;refine Kd.R_append_rows_step Kd.string (w0 := w) w.heap.size (by rfl) (.tmp 40) (.tmp 43) 35 9 (.string ⟨#[]⟩) 16 (by rfl) Try.underlying35 info9 rfl (by decide) (by omega) _ (l0.take k ++ [s]) (l0.drop k) A2 (l0.length - k) (c - k) (fun _ => True) (fun _ => False) (by rfl) (by rfl) (by first | exact HR2.out | exact HR2o.out) (Kd.C_below HT2.out HB2.out) (fun _ _ h => h) (fun _ h => h.elim) (fun _ _ => trivial) HB2.out (Below.size HB2.out) (by rw [List.length_append,List.length_take,List.length_singleton];omega) ?_;intro v3 w3 hR3 hb3 hg3 hat3;obtain ⟨A4,c4,rfl⟩ := Kd.R_slice hR3;have HR3 := Aside0.mk hR3;have HB3 := Aside0.mk hb3;clear hR3 hb3 hg3 hat3 HB2)))
          all_goals
            go_wp2
            go_ret
            refine ⟨_,rfl,?_,HB3.out⟩
            rw [HRES.out]
            have h3 := Kd.R_lower HR3.out HBS.out
            exact Eq.mp (congrArg (fun n => Kd.R Kd.string 9 w3 base (fun _ => True) (.slice A4 n c4) (l0.take k ++ [s] ++ l0.drop k)) (by simp only [List.length_append,List.length_take,List.length_drop,List.length_singleton];omega)) h3
    · have hkl : k = l0.length := by omega
      have HRES := Aside0.mk (show insL l0 s = (l0.take k ++ [s]) ++ l0.drop k by subst hkl;exact insL_end HI.out)
      clear HI
      have hi1 : ¬ (k : Int) < (l0.length : Int) := by omega
      have hi2 : decide ((k : Int) < (l0.length : Int)) = false := decide_eq_false hi1
      have HKL := Aside0.mk hkl
      clear hkl
      go_wp2
      obtain ⟨i0,hi0,_,hsz9,_⟩ := info_parts info9
      obtain ⟨hcut1,hA1,hC1⟩ := print_take_of (P := Try.prog) Value.string ByteArray.empty 35 9 .i64 Try.underlying35 hi0 hsz9 A c l0 (k : Int) (by omega) (by omega) HC.out
      obtain ⟨A2,hcut2,hA2,hC2⟩ := print_drop_of (P := Try.prog) Value.string ByteArray.empty 35 9 .i64 Try.underlying35 hi0 hsz9 A c l0 (k : Int) (by omega) (by omega) HC.out
      rw [Int.toNat_natCast] at hcut1 hA1 hC1 hcut2 hA2 hC2
      have HT1 := Aside0.mk (Kd.C_of_reads (h1 := fun _ => rfl) (hA1 _ (Kd.reads_of_C HCC.out)))
      have HT2 := Aside0.mk (Kd.C_of_reads (h1 := fun _ => rfl) (hA2 _ (Kd.reads_of_C HCC.out)))
      clear hA1 hC1 hA2 hC2 hi0 hsz9
      have hk0 : (0 : Int) ≤ (k : Int) := by omega
      have hk1 : (k : Int) ≤ (l0.length : Int) := by omega
      have hk2 : (l0.length : Int) ≤ (c : Int) := by have := HC.out;omega
      have hk3 : (k : Int) ≤ (c : Int) := by omega
      rw [show (l0.take k).length = k by rw [List.length_take];omega] at HT1
      rw [List.length_drop] at HT2
      have HLK := Aside0.mk (show (l0.take k).length = k by rw [List.length_take];omega)
      have HLK2 := Aside0.mk (show (l0.take k ++ [s]).length = k + 1 by rw [List.length_append,List.length_take,List.length_singleton];omega)
      have HST := Aside0.mk trivial
      go_region_held3 (fun w' => True) (trivial)
        (first
          | ((revert yb HB1;intro yb HB1;refine Kd.R_append_rows_step Kd.string (w0 := w) w.heap.size (by rfl) (.tmp 37) (.tmp 39) 35 9 (.string ⟨#[]⟩) 16 (by rfl) Try.underlying35 info9 rfl (by decide) (by omega) _ (l0.take k) [s] _ 1 1 (fun _ => True) (fun _ => False) (by rfl) (by rfl) (by first | exact HR1.out | exact HR1o.out) (one_str yb.out) (fun _ _ h => h) (fun _ h => h.elim) (fun _ _ => trivial) HB1.out (Below.size HB1.out) (by rw [List.length_take];omega) ?_;intro v2 w2 hR2 hb2 hg2 hat2;obtain ⟨A3,c3,rfl⟩ := Kd.R_slice hR2;have HR2o := Aside0.mk hR2;rw [HLK2.out] at hR2;have HR2 := Aside0.mk hR2;have HB2 := Aside0.mk hb2;clear hR2 hb2 hg2 hat2 HB1))
          | ((revert HB1;intro HB1;refine Kd.R_append_rows_step Kd.string (w0 := w) w.heap.size (by rfl) (.tmp 37) (.tmp 39) 35 9 (.string ⟨#[]⟩) 16 (by rfl) Try.underlying35 info9 rfl (by decide) (by omega) _ (l0.take k) [s] _ 1 1 (fun _ => True) (fun _ => False) (by rfl) (by rfl) (by first | exact Kd.R_alloc HR1.out _ | exact Kd.R_alloc HR1o.out _) (one_str (blk_new w1 _)) (fun _ _ h => h) (fun _ h => h.elim) (fun _ _ => trivial) (below_alloc HB1.out _) (Below.size (below_alloc HB1.out _)) (by rw [List.length_take];omega) ?_;intro v2 w2 hR2 hb2 hg2 hat2;obtain ⟨A3,c3,rfl⟩ := Kd.R_slice hR2;have HR2o := Aside0.mk hR2;rw [HLK2.out] at hR2;have HR2 := Aside0.mk hR2;have HB2 := Aside0.mk hb2;clear hR2 hb2 hg2 hat2 HB1))
          | ((revert HST;intro HST;refine Kd.R_append_rows_step Kd.string (w0 := w) w.heap.size (by rfl) (.tmp 33) (.tmp 36) 35 9 (.string ⟨#[]⟩) 16 (by rfl) Try.underlying35 info9 rfl (by decide) (by omega) _ ([] : List ByteArray) (l0.take k) A k c (fun _ => True) (fun _ => False) (by rfl) (by rfl) (by first | exact emp_own (W := w.drew) trivial (Nat.le_refl _) | exact Kd.R_alloc (emp_own (W := w.drew) trivial (Nat.le_refl _)) _ | exact emp_own1 w.drew _) (Kd.C_below HT1.out (by repeat (first | exact Below.refl _ _ | apply below_alloc | apply below_drew1))) (fun _ _ h => h) (fun _ h => h.elim) (fun _ _ => trivial) (by repeat (first | exact Below.refl _ _ | apply below_alloc | apply below_drew1)) (by first | exact Nat.le_refl _ | (simp;done) | (simp;omega)) (by rw [List.length_nil];omega) ?_;intro v1 w1 hR1 hb1 hg1 hat1;(try (have yb := Aside0.mk (blk_grown (blk_new1a w.drew (.cells #[] 9) (.cells #[.string s] 9)) hg1 (own_ne0 (Nat.succ_ne_self _)))));(try (have yb := Aside0.mk (blk_grown (blk_alloc (blk_new w.drew (.cells #[.string s] 9)) _) hg1 (own_ne0 (Nat.ne_of_lt (Nat.lt_succ_self _))))));obtain ⟨A1,c1,rfl⟩ := Kd.R_slice hR1;have HR1o := Aside0.mk hR1;rw [List.nil_append,HLK.out] at hR1;have HR1 := Aside0.mk hR1;have HB1 := Aside0.mk hb1;clear hR1 hb1 hg1 hat1 HST))
          | ((revert HB2;intro HB2;refine Kd.R_append_rows_step Kd.string (w0 := w) w.heap.size (by rfl) (.tmp 40) (.tmp 43) 35 9 (.string ⟨#[]⟩) 16 (by rfl) Try.underlying35 info9 rfl (by decide) (by omega) _ (l0.take k ++ [s]) (l0.drop k) A2 (l0.length - k) (c - k) (fun _ => True) (fun _ => False) (by rfl) (by rfl) (by first | exact HR2.out | exact HR2o.out) (Kd.C_below HT2.out HB2.out) (fun _ _ h => h) (fun _ h => h.elim) (fun _ _ => trivial) HB2.out (Below.size HB2.out) (by rw [List.length_append,List.length_take,List.length_singleton];omega) ?_;intro v3 w3 hR3 hb3 hg3 hat3;obtain ⟨A4,c4,rfl⟩ := Kd.R_slice hR3;have HR3 := Aside0.mk hR3;have HB3 := Aside0.mk hb3;clear hR3 hb3 hg3 hat3 HB2)))
      all_goals
        go_wp2
        go_ret
        refine ⟨_,rfl,?_,HB3.out⟩
        rw [HRES.out]
        have h3 := Kd.R_lower HR3.out HBS.out
        exact Eq.mp (congrArg (fun n => Kd.R Kd.string 9 w3 base (fun _ => True) (.slice A4 n c4) (l0.take k ++ [s] ++ l0.drop k)) (by simp only [List.length_append,List.length_take,List.length_drop,List.length_singleton];omega)) h3


end Go.Proofs.Ytbmochegfdljfaa.My
