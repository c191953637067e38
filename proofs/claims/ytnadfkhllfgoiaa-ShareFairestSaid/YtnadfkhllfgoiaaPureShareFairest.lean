/- For every total, at most 64 claims and every division, the sorted parts of the fairest division are lexicographically at least those of the division, and Check takes only a division with these parts. -/
import Derived.Test.YtnadfkhllfgoiaaMyx5
import Derived.Test.YtnadfkhllfgoiaaShE
namespace Go.Proofs.Ytnadfkhllfgoiaa.Pure
set_option linter.unusedVariables false
set_option linter.unusedSimpArgs false
open Go.RowKit Go.Proofs.Ytnadfkhllfgoiaa.My Go.Proofs.Ytnadfkhllfgoiaa.Aid Go.Proofs.Ytnadfkhllfgoiaa.EvA Go.Proofs.Ytnadfkhllfgoiaa.ShM Go.Proofs.Ytnadfkhllfgoiaa.ShP Go.Proofs.Ytnadfkhllfgoiaa.ShE Go.Proofs.YtnadfkhllfgoiaaW.PrintWords Go.Proofs.YtnadfkhllfgoiaaW.PrintLast Go.Proofs.YtnadfkhllfgoiaaW.PrintMore

theorem at_set (l : List Int) (i j : Nat) (v : Int) (h : i < l.length) : at_ (l.set i v) j = if i = j then v else at_ l j := by
  unfold at_
  rw [List.getD_eq_getElem?_getD, List.getElem?_set]
  split
  · rename_i e; subst e; simp
  · rw [List.getD_eq_getElem?_getD]
theorem sum_set {l : List Int} {i : Nat} (v : Int) (h : i < l.length) : (l.set i v).sum = l.sum - at_ l i + v := by
  induction l generalizing i with
  | nil => simp at h
  | cons x l ih =>
    cases i with
    | zero => simp [at_zero]; omega
    | succ i => rw [List.set_cons_succ, List.sum_cons, List.sum_cons, at_succ, ih (by simpa using h)]; omega
structure Div (t : Int) (l d : List Int) : Prop where
  len : d.length = l.length
  bd : ∀ i, i < l.length → 0 ≤ at_ d i ∧ at_ d i ≤ at_ l i
theorem Div.sum {t : Int} {l d : List Int} (h : Div t l d) : 0 ≤ d.sum ∧ d.sum ≤ l.sum := by
  refine ⟨?_, sum_le h.len fun i hi => (h.bd i (by rw [← h.len]; exact hi)).2⟩
  have := sum_le (a := List.replicate d.length 0) (b := d) (by simp) fun i hi => by
    have hi' : i < l.length := by rw [← h.len]; simpa using hi
    have := (h.bd i hi').1
    have e : at_ (List.replicate d.length (0 : Int)) i = 0 := by rw [at_lt hi]; simp
    omega
  have e : (List.replicate d.length (0 : Int)).sum = 0 := by
    generalize d.length = n
    induction n with
    | zero => rfl
    | succ n ih => rw [List.replicate_succ, List.sum_cons, ih]; rfl
  omega
theorem other_l1 {t : Int} {l : List Int} (hok : Ok t l) (d : Nat) : ∀ (i : Nat) (left : Int) (out : List Int), i + d = l.length → Div t l out → 0 ≤ left → left + out.sum = min t l.sum → (left = 0 ∨ ∀ j, j < i → at_ out j = at_ l j) →
    ∃ r, Ev (fun k => wageofficelaw32_other.l1 k l left out (i : Int)) r ∧ Div t l r ∧ r.sum = min t l.sum := by
  have h64 := hok.len
  induction d with
  | zero =>
    intro i left out hi hD h0 hs hc
    refine ⟨out, ?_, hD, ?_⟩
    · refine ev_up ?_
      simp only [wageofficelaw32_other.l1]
      exact ev_no (by omega) (ev_ret _)
    · rcases hc with hc | hc
      · omega
      · have e : out = l := ext_at hD.len fun j hj => hc j (by rw [hD.len] at hj; omega)
        rw [e] at hs ⊢
        omega
  | succ d ih =>
    intro i left out hi hD h0 hs hc
    have hlt : i < l.length := by omega
    have hlo : i < out.length := by rw [hD.len]; exact hlt
    have hb := hD.bd i hlt
    have hci := hok.at_ i hlt
    have hds := hD.sum
    have hls := sum_bd' (M := 1000000000000) (n := 64) (by omega) h64 hok.c
    have ht0 := hok.t0
    have ht1 := hok.t1
    have hmn : mn (at_ l i - at_ out i) left = min (at_ l i - at_ out i) left := mn_min _ _
    obtain ⟨r, hr1, hr2⟩ := ih (i + 1) (left - mn (at_ l i - at_ out i) left) (out.set i (at_ out i + mn (at_ l i - at_ out i) left)) (by omega)
      ⟨by simpa using hD.len, fun j hj => by
        rw [at_set _ _ _ _ hlo]
        split
        · rename_i e; subst e; omega
        · exact hD.bd j hj⟩ (by omega) (by rw [sum_set _ hlo]; omega) (by
        rw [hmn]
        rcases Int.le_total (at_ l i - at_ out i) left with hle | hle
        · rw [Int.min_eq_left hle]
          rcases hc with hc | hc
          · left; omega
          · refine .inr fun j hj => ?_
            rw [at_set _ _ _ _ hlo]
            split
            · rename_i e; subst e; omega
            · exact hc j (by omega)
        · rw [Int.min_eq_right hle]; left; omega)
    refine ⟨r, ?_, hr2⟩
    refine ev_up ?_
    simp only [wageofficelaw32_other.l1]
    rw [rd_at, rd_at, w64 (n := at_ l i - at_ out i) (by omega) (by omega), w64 (n := left - mn (at_ l i - at_ out i) left) (by omega) (by omega), w64 (n := at_ out i + mn (at_ l i - at_ out i) left) (by omega) (by omega), w64 (n := (i : Int) + 1) (by omega) (by omega),
      show (i : Int) + 1 = ((i + 1 : Nat) : Int) from by omega, Int.toNat_natCast]
    exact ev_yes (by omega) (ev_yes (by omega) (ev_yes (by omega) hr1))
theorem other_l0 {t : Int} {l by_ : List Int} (hok : Ok t l) (hby : by_.length * 8 ≤ 140737488351232) (hw : ∀ x ∈ by_, (Lit.int .i64 x).wf = true) (d : Nat) : ∀ (i : Nat) (left : Int) (out : List Int), i + d = l.length → Div t l out → 0 ≤ left → left + out.sum = min t l.sum → (∀ j, i ≤ j → j < l.length → at_ out j = 0) →
    ∃ r, Ev (fun k => wageofficelaw32_other.l0 k l by_ left out (i : Int)) r ∧ Div t l r ∧ r.sum = min t l.sum := by
  have h64 := hok.len
  have hj1 : ∀ (left : Int) (out : List Int), Div t l out → 0 ≤ left → left + out.sum = min t l.sum → ∃ r, Ev (fun k => wageofficelaw32_other.j1 k l left out) r ∧ Div t l r ∧ r.sum = min t l.sum := by
    intro left out hD h0 hs
    obtain ⟨r, hr1, hr2⟩ := other_l1 hok l.length 0 left out (by omega) hD h0 hs (.inr fun j hj => by omega)
    refine ⟨r, ?_, hr2⟩
    refine ev_up ?_
    simp only [wageofficelaw32_other.j1]
    exact hr1
  induction d with
  | zero =>
    intro i left out hi hD h0 hs hz
    obtain ⟨r, hr1, hr2⟩ := hj1 left out hD h0 hs
    refine ⟨r, ?_, hr2⟩
    refine ev_up ?_
    simp only [wageofficelaw32_other.l0]
    exact ev_no (by omega) hr1
  | succ d ih =>
    intro i left out hi hD h0 hs hz
    have hlt : i < l.length := by omega
    have hlo : i < out.length := by rw [hD.len]; exact hlt
    by_cases hlb : i < by_.length
    · have hci := hok.at_ i hlt
      have hds := hD.sum
      have hls := sum_bd' (M := 1000000000000) (n := 64) (by omega) h64 hok.c
      have ht0 := hok.t0
      have ht1 := hok.t1
      have hwi := wf64 (hw _ (List.getElem_mem hlb))
      have hmn : mn (at_ l i) left = min (at_ l i) left := mn_min _ _
      have hp := pickv_bd by_[i] (n := mn (at_ l i) left + 1) (by omega)
      have hzi := hz i (Nat.le_refl _) hlt
      obtain ⟨r, hr1, hr2⟩ := ih (i + 1) (left - pickv by_[i] (mn (at_ l i) left + 1)) (out.set i (pickv by_[i] (mn (at_ l i) left + 1))) (by omega)
        ⟨by simpa using hD.len, fun j hj => by
          rw [at_set _ _ _ _ hlo]
          split
          · rename_i e; subst e; omega
          · exact hD.bd j hj⟩ (by omega) (by rw [sum_set _ hlo]; omega) (fun j h1 h2 => by
          rw [at_set _ _ _ _ hlo, if_neg (by omega)]; exact hz j (by omega) h2)
      refine ⟨r, ?_, hr2⟩
      refine ev_up ?_
      simp only [wageofficelaw32_other.l0]
      rw [rd_nat hlb, rd_at, w64 (n := mn (at_ l i) left + 1) (by omega) (by omega), pick_eval hwi.1 hwi.2 (by omega)]
      simp only [Option.bind_some]
      rw [w64 (n := left - pickv by_[i] (mn (at_ l i) left + 1)) (by omega) (by omega), w64 (n := (i : Int) + 1) (by omega) (by omega), show (i : Int) + 1 = ((i + 1 : Nat) : Int) from by omega, Int.toNat_natCast]
      exact ev_yes (by omega) (ev_yes (by omega) (ev_yes (by omega) (ev_yes (by omega) hr1)))
    · obtain ⟨r, hr1, hr2⟩ := hj1 left out hD h0 hs
      refine ⟨r, ?_, hr2⟩
      refine ev_up ?_
      simp only [wageofficelaw32_other.l0]
      exact ev_yes (by omega) (ev_no (by omega) hr1)
theorem replicate_sum (n : Nat) : (List.replicate n (0 : Int)).sum = 0 := by
  induction n with
  | zero => rfl
  | succ n ih => rw [List.replicate_succ, List.sum_cons, ih]; rfl
theorem at_replicate (n i : Nat) : at_ (List.replicate n (0 : Int)) i = 0 := by
  unfold at_
  rw [List.getD_eq_getElem?_getD, List.getElem?_replicate]
  split <;> rfl
theorem other_ev {t : Int} {l by_ : List Int} (hok : Ok t l) (hby : by_.length * 8 ≤ 140737488351232) (hw : ∀ x ∈ by_, (Lit.int .i64 x).wf = true) : ∃ r, Ev (fun k => wageofficelaw32_other.f k t l by_) r ∧ Div t l r ∧ r.sum = min t l.sum := by
  have h64 := hok.len
  have hls := sum_bd' (M := 1000000000000) (n := 64) (by omega) h64 hok.c
  have ht0 := hok.t0
  obtain ⟨r, hr1, hr2⟩ := other_l0 hok hby hw l.length 0 (mn t l.sum) (List.replicate l.length 0) (by omega) ⟨by simp, fun i hi => by
    rw [at_replicate]; have := hok.at_ i hi; omega⟩ (by rw [mn_min]; omega) (by rw [replicate_sum, mn_min]; omega) (fun j _ _ => at_replicate _ _)
  refine ⟨r, ?_, hr2⟩
  unfold wageofficelaw32_other.f
  refine ev_bnd (sum_ev h64 hok.c) ?_
  refine ev_yes (by omega) (ev_yes (by omega) ?_)
  rw [Int.toNat_natCast]
  exact hr1

def Asc (s : List Int) : Prop := s.Pairwise (· ≤ ·)
theorem ins_perm (s : List Int) (p : Nat) (x : Int) : (s.take p ++ [x] ++ s.drop p).Perm (x :: s) := by
  rw [List.append_assoc, List.singleton_append]
  refine List.perm_middle.trans ?_
  rw [List.take_append_drop]
theorem ins_asc {s : List Int} (h : Asc s) {p : Nat} {x : Int} (h1 : ∀ y ∈ s.take p, y ≤ x) (h2 : ∀ y ∈ s.drop p, x ≤ y) : Asc (s.take p ++ [x] ++ s.drop p) := by
  unfold Asc at *
  rw [List.append_assoc, List.singleton_append, List.pairwise_append]
  refine ⟨h.sublist (List.take_sublist _ _), ?_, ?_⟩
  · rw [List.pairwise_cons]
    exact ⟨h2, h.sublist (List.drop_sublist _ _)⟩
  · intro a ha b hb
    rcases List.mem_cons.1 hb with rfl | hb
    · exact h1 a ha
    · exact Int.le_trans (h1 a ha) (h2 b hb)
theorem sorted_loop (l : List Int) (h64 : l.length ≤ 64) (d : Nat) : ∀ (i : Nat) (s : List Int), i + d = l.length → s.Perm (l.take i) → Asc s → ∃ r, Ev (fun k => wageofficeref32_Sorted.l0 k l s (i : Int)) r ∧ r.Perm l ∧ Asc r := by
  induction d with
  | zero =>
    intro i s hi hp ha
    refine ⟨s, ?_, ?_, ha⟩
    · refine ev_up ?_
      simp only [wageofficeref32_Sorted.l0]
      exact ev_no (by omega) (ev_ret _)
    · rw [List.take_of_length_le (by omega)] at hp; exact hp
  | succ d ih =>
    intro i s hi hp ha
    have hlt : i < l.length := by omega
    have hsl : s.length = i := by rw [hp.length_eq, List.length_take]; omega
    have inner : ∀ (e j : Nat), j + e = s.length → (∀ y ∈ s.take j, y ≤ l[i]) → ∃ r, Ev (fun k => wageofficeref32_Sorted.l1 k l s (i : Int) (j : Int)) r ∧ r.Perm l ∧ Asc r := by
      intro e
      have next : ∀ j, j ≤ s.length → (∀ y ∈ s.take j, y ≤ l[i]) → (∀ y ∈ s.drop j, l[i] ≤ y) → ∃ r, Ev (fun k => wageofficeref32_Sorted.l0 k l (s.take j ++ [l[i]] ++ s.drop j) ((i + 1 : Nat) : Int)) r ∧ r.Perm l ∧ Asc r := by
        intro j hj h1 h2
        apply ih (i + 1) _ (by omega) _ (ins_asc ha h1 h2)
        refine (ins_perm s j l[i]).trans ?_
        rw [take_snoc _ _ hlt]
        exact (List.Perm.cons _ hp).trans (List.perm_append_singleton _ _).symm
      have htl : ∀ j, (s.take j).length ≤ 64 := fun j => by rw [List.length_take]; omega
      have hdl : ∀ j, (s.drop j).length ≤ 64 := fun j => by rw [List.length_drop]; omega
      induction e with
      | zero =>
        intro j hj h1
        obtain ⟨r, hr1, hr2⟩ := next j (by omega) h1 (by rw [List.drop_eq_nil_of_le (by omega)]; simp)
        refine ⟨r, ?_, hr2⟩
        have t1 := htl j
        have t2 := hdl j
        refine ev_up ?_
        simp only [wageofficeref32_Sorted.l1, Int.toNat_natCast]
        refine ev_no (by omega) (ev_yes (by omega) (ev_yes (by omega) ?_))
        simp only [Option.bind_some, List.nil_append, List.length_nil, List.length_append, List.length_singleton]
        rw [rd_nat hlt, w64 (by omega) (by omega), show (i : Int) + 1 = ((i + 1 : Nat) : Int) from by omega]
        exact ev_yes (by omega) (ev_yes (by omega) (ev_yes (by omega) (ev_yes (by omega) (ev_yes (by omega) hr1))))
      | succ e ih2 =>
        intro j hj h1
        have hjs : j < s.length := by omega
        by_cases hle : s[j] ≤ l[i]
        · obtain ⟨r, hr1, hr2⟩ := ih2 (j + 1) (by omega) (fun y hy => by
            rw [take_snoc _ _ hjs, List.mem_append] at hy
            rcases hy with hy | hy
            · exact h1 y hy
            · simp at hy; subst hy; exact hle)
          refine ⟨r, ?_, hr2⟩
          refine ev_up ?_
          simp only [wageofficeref32_Sorted.l1]
          refine ev_yes (by omega) (ev_yes (by omega) (ev_yes (by omega) (ev_yes (by omega) (ev_yes ?_ ?_))))
          · rw [rd_nat hjs, rd_nat hlt]; exact hle
          · rw [w64 (by omega) (by omega), show (j : Int) + 1 = ((j + 1 : Nat) : Int) from by omega]; exact hr1
        · obtain ⟨r, hr1, hr2⟩ := next j (by omega) h1 (fun y hy => by
            rw [List.drop_eq_getElem_cons hjs] at hy
            rcases List.mem_cons.1 hy with rfl | hy
            · omega
            · have hp2 : Asc (s.drop j) := ha.sublist (List.drop_sublist _ _)
              unfold Asc at hp2
              rw [List.drop_eq_getElem_cons hjs, List.pairwise_cons] at hp2
              have := hp2.1 y hy
              omega)
          refine ⟨r, ?_, hr2⟩
          have t1 := htl j
          have t2 := hdl j
          refine ev_up ?_
          simp only [wageofficeref32_Sorted.l1, Int.toNat_natCast]
          refine ev_yes (by omega) (ev_yes (by omega) (ev_yes (by omega) (ev_yes (by omega) (ev_no ?_ (ev_yes (by omega) ?_)))))
          · rw [rd_nat hjs, rd_nat hlt]; exact hle
          · simp only [Option.bind_some, List.nil_append, List.length_nil, List.length_append, List.length_singleton]
            rw [rd_nat hlt, w64 (by omega) (by omega), show (i : Int) + 1 = ((i + 1 : Nat) : Int) from by omega]
            exact ev_yes (by omega) (ev_yes (by omega) (ev_yes (by omega) hr1))
    obtain ⟨r, hr1, hr2⟩ := inner s.length 0 (by omega) (by simp)
    refine ⟨r, ?_, hr2⟩
    refine ev_up ?_
    simp only [wageofficeref32_Sorted.l0]
    exact ev_yes (by omega) hr1
theorem sorted_ev {l : List Int} (h64 : l.length ≤ 64) : ∃ r, Ev (fun k => wageofficeref32_Sorted.f k l) r ∧ r.Perm l ∧ Asc r :=
  sorted_loop l h64 l.length 0 [] (by omega) (by simp) List.Pairwise.nil
theorem perm_sum {a b : List Int} (h : a.Perm b) : a.sum = b.sum := by
  induction h with
  | nil => rfl
  | cons x _ ih => rw [List.sum_cons, List.sum_cons, ih]
  | swap x y l => simp only [List.sum_cons]; omega
  | trans _ _ h1 h2 => exact h1.trans h2
theorem asc_at {s : List Int} (h : Asc s) {i j : Nat} (hij : i ≤ j) (hj : j < s.length) : at_ s i ≤ at_ s j := by
  rcases Nat.lt_or_ge i j with hlt | hge
  · rw [at_lt (by omega), at_lt hj]
    exact List.pairwise_iff_getElem.1 h i j (by omega) hj hlt
  · have : i = j := by omega
    subst this; exact Int.le_refl _
theorem lex {t : Int} {l m d s s' : List Int} (hF : Fairly t l m) (hD : Div t l d) (hds : d.sum = min t l.sum) (hs : s.Perm m) (hs' : s'.Perm d) (ha : Asc s) (ha' : Asc s') {i : Nat} (hi : i < s.length) (heq : ∀ j, j < i → at_ s j = at_ s' j) : ¬ at_ s i < at_ s' i := by
  intro hlt
  have hl : s.length = s'.length := by rw [hs.length_eq, hs'.length_eq, hF.len, hD.len]
  have e1 : (s.map fun x => min x (at_ s i + 1)).sum = (m.map fun x => min x (at_ s i + 1)).sum := perm_sum (hs.map _)
  have e2 : (s'.map fun x => min x (at_ s i + 1)).sum = (d.map fun x => min x (at_ s i + 1)).sum := perm_sum (hs'.map _)
  have key : (s.map fun x => min x (at_ s i + 1)).sum < (s'.map fun x => min x (at_ s i + 1)).sum := by
    apply sum_lt (by simpa using hl) _ i (by simpa using hi)
    · rw [at_map _ _ _ hi, at_map _ _ _ (by omega)]; omega
    · intro j hj
      rw [List.length_map] at hj
      rw [at_map _ _ _ hj, at_map _ _ _ (by omega)]
      rcases Nat.lt_or_ge j i with h | h
      · rw [heq j h]; exact Int.le_refl _
      · have := asc_at ha' h (by omega)
        omega
  rw [e1, e2] at key
  have hml : (m.map fun x => min x (at_ s i + 1)).length = (d.map fun x => min x (at_ s i + 1)).length := by rw [List.length_map, List.length_map, hF.len, hD.len]
  have ⟨j, hj, hj2⟩ : ∃ j, j < l.length ∧ at_ (m.map fun x => min x (at_ s i + 1)) j < at_ (d.map fun x => min x (at_ s i + 1)) j := by
    rcases Classical.em (∃ j, j < l.length ∧ at_ (m.map fun x => min x (at_ s i + 1)) j < at_ (d.map fun x => min x (at_ s i + 1)) j) with h | h
    · exact h
    · have := sum_le hml.symm fun j hj => Int.not_lt.1 fun hlt => h ⟨j, by rw [List.length_map, hD.len] at hj; exact hj, hlt⟩
      omega
  rw [at_map _ _ _ (by rw [hF.len]; exact hj), at_map _ _ _ (by rw [hD.len]; exact hj)] at hj2
  have hdj := hD.bd j hj
  have e3 : (m.map fun x => min x (at_ s i + 1)) = m := by
    apply ext_at (by simp)
    intro q hq
    rw [List.length_map] at hq
    rw [at_map _ _ _ hq]
    have := hF.level q j (by rw [← hF.len]; exact hq) hj (by omega)
    omega
  have h4 : (d.map fun x => min x (at_ s i + 1)).sum ≤ d.sum := sum_le (by simp) fun q hq => by
    rw [List.length_map] at hq
    rw [at_map _ _ _ hq]; omega
  rw [e3] at key
  have := hF.sum
  omega
theorem fairest_l0 {t : Int} {l m d s s' : List Int} (hok : Ok t l) (hF : Fairly t l m) (hD : Div t l d) (hds : d.sum = min t l.sum) (hs : s.Perm m) (hs' : s'.Perm d) (ha : Asc s) (ha' : Asc s') (e : Nat) : ∀ (i : Nat), i + e = s.length → (∀ j, j < i → at_ s j = at_ s' j) →
    Ev (fun k => wageofficelaw32_ShareFairest.l0 k true l t m d s s' (i : Int)) true := by
  have h64 := hok.len
  have hl : s.length = s'.length := by rw [hs.length_eq, hs'.length_eq, hF.len, hD.len]
  have hsl : s.length = l.length := by rw [hs.length_eq, hF.len]
  have fin : ∃ b, Ev (fun k => share_Check.f k t l d) b ∧ b = decide (d = m) := by
    obtain ⟨b, hb1, hb2⟩ := check_ok (m := d) hok (by rw [hD.len]; omega)
    refine ⟨b, hb1, ?_⟩
    rw [Bool.eq_iff_iff, hb2, decide_eq_true_iff]
    exact ⟨fun h => h.unique hF, fun h => h ▸ hF⟩
  obtain ⟨b, hb1, hb2⟩ := fin
  have hsame := same_ev d m (by rw [hD.len]; omega)
  induction e with
  | zero =>
    intro i hi heq
    refine ev_up ?_
    simp only [wageofficelaw32_ShareFairest.l0]
    refine ev_no (by omega) (ev_yes (by simp) (ev_bnd hb1 (ev_bnd hsame (ev_eq (ev_ret _) ?_))))
    rw [hb2]; simp
  | succ e ih =>
    intro i hi heq
    refine ev_up ?_
    simp only [wageofficelaw32_ShareFairest.l0]
    rw [rd_at, rd_at]
    refine ev_yes (by omega) (ev_yes (by omega) (ev_yes (by omega) (ev_ite (fun h => ?_) (fun h => ?_))))
    · rw [w64 (by omega) (by omega), show (i : Int) + 1 = ((i + 1 : Nat) : Int) from by omega]
      exact ih (i + 1) (by omega) fun j hj => by
        by_cases e' : j = i
        · subst e'; exact h
        · exact heq j (by omega)
    · have := lex hF hD hds hs hs' ha ha' (i := i) (by omega) heq
      refine ev_yes (by simp) (ev_yes (by omega) (ev_bnd hb1 (ev_bnd hsame (ev_eq (ev_ret _) ?_))))
      rw [hb2]; simp
theorem ShareFairest : wageofficelaw32_ShareFairest.Pure := by
  intro a0 l1 l2 a3 h0 hm hl hw hm2 hl2 hw2 h2
  have b0 := wf64 h0
  have b2 := wf64 h2
  apply ev_ex
  have hp := pickv_bd a3 (n := 60) (by omega)
  unfold wageofficelaw32_ShareFairest.f
  refine ev_bnd head_ev ?_
  rw [pick_eval b2.1 b2.2 (by omega)]
  simp only [Option.bind_some]
  rw [w64 (n := 1 + pickv a3 60) (by omega) (by omega)]
  refine ev_bnd (amounts_ev l1 _ (by omega) (by omega) hl hw) ?_
  have hA1 := amt_length l1 (1 + pickv a3 60)
  have hA2 := amt_bd l1 (lim := 1 + pickv a3 60) (by omega)
  generalize amt l1 (1 + pickv a3 60) = l at *
  have hA3 : ∀ x ∈ l, 0 ≤ x ∧ x ≤ 1000000000000 := fun x hx => by have := hA2 x hx; omega
  have hs := sum_bd' (M := 60) (n := 64) (by omega) hA1 (fun x hx => by have := hA2 x hx; omega)
  refine ev_bnd (sum_ev hA1 hA3) ?_
  rw [w64 (n := l.sum + 5) (by omega) (by omega), pick_eval b0.1 b0.2 (by omega)]
  simp only [Option.bind_some]
  have hq := pickv_bd a0 (n := l.sum + 5) (by omega)
  generalize pickv a0 (l.sum + 5) = t at *
  have hok : Ok t l := ⟨hA1, by omega, by omega, hA3⟩
  have hF := fairl_fairly hok
  rw [hok.fair]
  simp only [Option.bind_some, if_true]
  refine ev_up ?_
  simp only [wageofficelaw32_ShareFairest.j0]
  refine ev_no (by simp [hF.len]) ?_
  obtain ⟨d, hd1, hd2, hd3⟩ := other_ev hok hl2 hw2
  obtain ⟨s, hs1, hs2, hs3⟩ := sorted_ev (l := fairl t l) (by rw [hF.len]; exact hA1)
  obtain ⟨s', hs1', hs2', hs3'⟩ := sorted_ev (l := d) (by rw [hd2.len]; exact hA1)
  exact ev_bnd hd1 (ev_bnd hs1 (ev_bnd hs1' (fairest_l0 hok hF hd2 hd3 hs2 hs2' hs3 hs3' s.length 0 (by omega) (fun j hj => by omega))))
end Go.Proofs.Ytnadfkhllfgoiaa.Pure
