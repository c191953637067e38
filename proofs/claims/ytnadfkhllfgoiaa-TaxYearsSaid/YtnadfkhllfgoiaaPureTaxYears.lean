/- The bracket of a year: the last one of the greatest year that is not later. -/
import Derived.Test.YtnadfkhllfgoiaaStaTaxYears
import Derived.Test.YtnadfkhllfgoiaaMyx29
import Derived.Test.YtnadfkhllfgoiaaMyx35
import Derived.Test.YtnadfkhllfgoiaaMyx28
import Derived.Test.YtnadfkhllfgoiaaMyx27
import Derived.Test.YtnadfkhllfgoiaaEvA
namespace Go.Proofs.Ytnadfkhllfgoiaa.Pure
set_option linter.unusedVariables false
set_option linter.unusedSimpArgs false
open Go.RowKit Go.Proofs.Ytnadfkhllfgoiaa.My Go.Proofs.Ytnadfkhllfgoiaa.Aid Go.Proofs.Ytnadfkhllfgoiaa.EvA Go.Proofs.YtnadfkhllfgoiaaW.PrintWords Go.Proofs.YtnadfkhllfgoiaaW.PrintLast Go.Proofs.YtnadfkhllfgoiaaW.PrintMore

abbrev Br := S44
/-! ### the last one of the greatest year -/
def stp (y : Int) (o : Option Br) (x : Br) : Option Br :=
  if x.f0 ≤ y then (match o with | none => some x | some b => if b.f0 ≤ x.f0 then some x else some b) else o
def pick (l : List Br) (y : Int) : Option Br := l.foldl (stp y) none
theorem pick_snoc (l : List Br) (x : Br) (y : Int) : pick (l ++ [x]) y = stp y (pick l y) x := by unfold pick; rw [List.foldl_append]; rfl
theorem pick_filter (y : Int) : ∀ (l : List Br) (o : Option Br), (l.filter fun x => decide (x.f0 ≤ y)).foldl (stp y) o = l.foldl (stp y) o
  | [], _ => rfl
  | x :: l, o => by
    by_cases h : x.f0 ≤ y
    · rw [List.filter_cons_of_pos (by simpa using h), List.foldl_cons, List.foldl_cons, pick_filter y l]
    · rw [List.filter_cons_of_neg (by simpa using h), List.foldl_cons, pick_filter y l]
      congr 1
      unfold stp; rw [if_neg h]
structure Top (l : List Br) (y : Int) (b : Br) : Prop where
  ex : ∃ l1 l2, l = l1 ++ b :: l2 ∧ b.f0 ≤ y ∧ (∀ x ∈ l1, x.f0 ≤ y → x.f0 ≤ b.f0) ∧ ∀ x ∈ l2, x.f0 ≤ y → x.f0 < b.f0
theorem pick_spec (y : Int) (n : Nat) : ∀ l : List Br, l.length = n → (pick l y = none ∧ ∀ x ∈ l, ¬ x.f0 ≤ y) ∨ ∃ b, pick l y = some b ∧ Top l y b := by
  induction n with
  | zero =>
    intro l hl
    have : l = [] := List.eq_nil_of_length_eq_zero hl
    subst this
    exact .inl ⟨rfl, by simp⟩
  | succ n ih =>
    intro l hl
    obtain ⟨m, x, rfl⟩ : ∃ m x, l = m ++ [x] := ⟨l.dropLast, l.getLast (by intro e; rw [e] at hl; simp at hl), (List.dropLast_concat_getLast _).symm⟩
    rw [pick_snoc]
    have hm : m.length = n := by rw [List.length_append, List.length_singleton] at hl; omega
    by_cases hx : x.f0 ≤ y
    · unfold stp
      rw [if_pos hx]
      rcases ih m hm with ⟨h1, h2⟩ | ⟨b, h1, l1, l2, rfl, hb, h3, h4⟩
      · rw [h1]
        exact .inr ⟨x, rfl, ⟨m, [], by simp, hx, fun z hz hzy => absurd hzy (h2 z hz), by simp⟩⟩
      · rw [h1]
        by_cases hbx : b.f0 ≤ x.f0
        · refine .inr ⟨x, by simp [hbx], ⟨l1 ++ b :: l2, [], by simp, hx, fun z hz hzy => ?_, by simp⟩⟩
          rcases List.mem_append.1 hz with hz | hz
          · have := h3 z hz hzy; omega
          · rcases List.mem_cons.1 hz with rfl | hz
            · exact hbx
            · have := h4 z hz hzy; omega
        · refine .inr ⟨b, by simp [hbx], ⟨l1, l2 ++ [x], by simp, hb, h3, fun z hz hzy => ?_⟩⟩
          rcases List.mem_append.1 hz with hz | hz
          · exact h4 z hz hzy
          · rw [List.mem_singleton.1 hz]; omega
    · unfold stp
      rw [if_neg hx]
      rcases ih m hm with ⟨h1, h2⟩ | ⟨b, h1, l1, l2, rfl, hb, h3, h4⟩
      · refine .inl ⟨h1, fun z hz => ?_⟩
        rcases List.mem_append.1 hz with hz | hz
        · exact h2 z hz
        · rw [List.mem_singleton.1 hz]; exact hx
      · refine .inr ⟨b, h1, ⟨l1, l2 ++ [x], by simp, hb, h3, fun z hz hzy => ?_⟩⟩
        rcases List.mem_append.1 hz with hz | hz
        · exact h4 z hz hzy
        · rw [List.mem_singleton.1 hz] at hzy; exact absurd hzy hx
theorem keep_some {y : Int} {b : Br} : ∀ {l : List Br}, (∀ x ∈ l, x.f0 ≤ y → x.f0 < b.f0) → l.foldl (stp y) (some b) = some b
  | [], _ => rfl
  | x :: l, h => by
    rw [List.foldl_cons]
    have : stp y (some b) x = some b := by
      unfold stp
      by_cases hx : x.f0 ≤ y
      · have := h x (by simp) hx
        rw [if_pos hx]; simp only; rw [if_neg (by omega)]
      · rw [if_neg hx]
    rw [this]
    exact keep_some fun z hz => h z (by simp [hz])
theorem Top.pick {l : List Br} {y : Int} {b : Br} (h : Top l y b) : pick l y = some b := by
  obtain ⟨l1, l2, rfl, hb, h3, h4⟩ := h.ex
  unfold Pure.pick
  rw [List.foldl_append, List.foldl_cons]
  have : stp y (l1.foldl (stp y) none) b = some b := by
    rcases pick_spec y l1.length l1 rfl with ⟨h1, h2⟩ | ⟨c, h1, m1, m2, e, hc, _⟩
    · have h1' : l1.foldl (stp y) none = none := h1
      rw [h1']; unfold stp; rw [if_pos hb]
    · have h1' : l1.foldl (stp y) none = some c := h1
      have hcb : c.f0 ≤ b.f0 := h3 c (by rw [e]; simp) hc
      rw [h1']; unfold stp; rw [if_pos hb]; simp only; rw [if_pos hcb]
  rw [this]
  exact keep_some h4
theorem Top.later {l : List Br} {y z : Int} {b : Br} (h : Top l y b) (h1 : b.f0 ≤ z) (h2 : z ≤ y) : Top l z b := by
  obtain ⟨l1, l2, e, hb, h3, h4⟩ := h.ex
  exact ⟨l1, l2, e, h1, fun x hx hz => h3 x hx (by omega), fun x hx hz => h4 x hx (by omega)⟩
theorem Top.mem {l : List Br} {y : Int} {b : Br} (h : Top l y b) : b ∈ l := by
  obtain ⟨l1, l2, rfl, _⟩ := h.ex; simp
theorem Top.le {l : List Br} {y : Int} {b : Br} (h : Top l y b) : ∀ x ∈ l, x.f0 ≤ y → x.f0 ≤ b.f0 := by
  obtain ⟨l1, l2, rfl, _, h3, h4⟩ := h.ex
  intro x hx hy
  rcases List.mem_append.1 hx with hx | hx
  · exact h3 x hx hy
  · rcases List.mem_cons.1 hx with rfl | hx
    · exact Int.le_refl _
    · have := h4 x hx hy; omega

/-! ### what Find comes to -/
theorem rd44_at {l : List Br} {k : Nat} (h : k < l.length) : rd_T44 l (k : Int) = l[k] := by
  simp [rd_T44, List.getD_eq_getElem?_getD, h]
theorem lat_pick (l : List Br) (y : Int) (k : Nat) (hk : k ≤ l.length) : (lat l y k = -1 ∧ pick (l.take k) y = none) ∨ ∃ j, ∃ h : j < l.length, lat l y k = (j : Int) ∧ pick (l.take k) y = some l[j] := by
  induction k with
  | zero => exact .inl ⟨rfl, rfl⟩
  | succ k ih =>
    have hlt : k < l.length := by omega
    rw [lat_succ, take_snoc _ _ hlt, pick_snoc]
    have hy : lyr l (k : Int) = l[k].f0 := by
      show (rd_T44 l (k : Int)).f0 = _
      rw [rd44_at hlt]
    unfold lstep stp
    rcases ih (by omega) with ⟨h1, h2⟩ | ⟨j, hj, h1, h2⟩
    · rw [h1, h2, hy]
      by_cases c : l[k].f0 ≤ y
      · rw [if_pos ⟨c, .inl (by omega)⟩, if_pos c]
        exact .inr ⟨k, hlt, rfl, rfl⟩
      · rw [if_neg fun h => c h.1, if_neg c]
        exact .inl ⟨rfl, rfl⟩
    · have hyj : lyr l (j : Int) = l[j].f0 := by
        show (rd_T44 l (j : Int)).f0 = _
        rw [rd44_at hj]
      rw [h1, h2, hy, hyj]
      by_cases c : l[k].f0 ≤ y
      · rw [if_pos c]
        simp only
        by_cases c2 : l[j].f0 ≤ l[k].f0
        · rw [if_pos ⟨c, .inr c2⟩, if_pos c2]
          exact .inr ⟨k, hlt, rfl, rfl⟩
        · rw [if_neg fun h => h.2.elim (fun q => by omega) c2, if_neg c2]
          exact .inr ⟨j, hj, rfl, rfl⟩
      · rw [if_neg fun h => c h.1, if_neg c]
        exact .inr ⟨j, hj, rfl, rfl⟩
theorem find_eval {l : List Br} (hp : ∀ x ∈ l, x.f1.f1.length ≤ 1000000000) (y : Int) : tax_Find.f l y = some (match pick l y with | none => (0, 0, [], false) | some b => (b.f0, b.f1.f0, b.f1.f1, true)) := by
  unfold tax_Find.f
  have h := lat_pick l y l.length (Nat.le_refl _)
  rw [List.take_length] at h
  rcases h with ⟨h1, h2⟩ | ⟨j, hj, h1, h2⟩
  · rw [h1, h2, if_pos (by omega)]
  · rw [h1, h2, if_neg (by omega), rd44_at hj]
    unfold api_Piece.f
    rw [if_pos (hp _ (List.getElem_mem hj))]
    rfl

/-! ### equal brackets, short lists -/
theorem same_loop {l m : List S75} (hlm : l.length = m.length) (hl : l.length ≤ 1000000000) {a b c e : Int} (d : Nat) : ∀ i : Nat, i + d = l.length → ∃ r, Ev (fun k => wageofficeref28_Same.l0 k (i : Int) a b l c e m) r ∧ (l = m → r = true) := by
  induction d with
  | zero =>
    intro i hi
    refine ⟨true, ev_up ?_, fun _ => rfl⟩
    simp only [wageofficeref28_Same.l0]
    exact ev_no (by omega) (ev_ret _)
  | succ d ih =>
    intro i hi
    by_cases hc : (!(((rd_T75 l (i : Int)).f0) == ((rd_T75 m (i : Int)).f0)) || (!(((rd_T75 l (i : Int)).f1) == ((rd_T75 m (i : Int)).f1)) || (!(((rd_T75 l (i : Int)).f2) == ((rd_T75 m (i : Int)).f2))))) = true
    · refine ⟨false, ev_up ?_, fun e => ?_⟩
      · simp only [wageofficeref28_Same.l0]
        exact ev_yes (by omega) (ev_yes (by omega) (ev_yes (by omega) (ev_yes hc (ev_ret _))))
      · subst e; simp at hc
    · obtain ⟨r, h1, h2⟩ := ih (i + 1) (by omega)
      refine ⟨r, ev_up ?_, h2⟩
      simp only [wageofficeref28_Same.l0]
      rw [w64 (by omega) (by omega), show (i : Int) + 1 = ((i + 1 : Nat) : Int) from by omega]
      exact ev_yes (by omega) (ev_yes (by omega) (ev_yes (by omega) (ev_no hc h1)))
theorem same_ex (a b : Int) (l : List S75) (c e : Int) (m : List S75) (hl : l.length ≤ 1000000000) : ∃ r, Ev (fun k => wageofficeref28_Same.f k a b l c e m) r ∧ (a = c → b = e → l = m → r = true) := by
  have no : Ev (fun k => wageofficeref28_Same.j0 k true a b l c e m) false := by
    refine ev_up ?_
    simp only [wageofficeref28_Same.j0]
    exact ev_yes (by simp) (ev_ret _)
  unfold wageofficeref28_Same.f
  by_cases h1 : a = c
  · by_cases h2 : b = e
    · by_cases h3 : l.length = m.length
      · obtain ⟨r, g1, g2⟩ := same_loop (a := a) (b := b) (c := c) (e := e) h3 hl l.length 0 (by omega)
        refine ⟨r, ev_yes h1 (ev_yes h2 (ev_up ?_)), fun _ _ => g2⟩
        rw [show ((l.length : Int) != (m.length : Int)) = false from by simp [h3]]
        simp only [wageofficeref28_Same.j0]
        exact ev_no (by simp) g1
      · refine ⟨false, ev_yes h1 (ev_yes h2 ?_), fun _ _ q => absurd (congrArg List.length q) h3⟩
        rw [show ((l.length : Int) != (m.length : Int)) = true from by simp; omega]
        exact no
    · exact ⟨false, ev_yes h1 (ev_no h2 no), fun _ q => absurd q h2⟩
  · exact ⟨false, ev_no h1 no, fun q => absurd q h1⟩
theorem short_loop {l : List Br} (hl : l.length ≤ 9223372036854775807) (d : Nat) : ∀ i : Nat, i + d = l.length → (∀ j (h : j < l.length), j < i → l[j].f1.f1.length ≤ 66) → ∃ r, Ev (fun k => wageofficelaw28_short.l0 k l l (l.length : Int) (i : Int)) r ∧ (r = true → l.length ≤ 40 ∧ ∀ x ∈ l, x.f1.f1.length ≤ 66) := by
  induction d with
  | zero =>
    intro i hi hj
    refine ⟨decide ((l.length : Int) ≤ 40), ev_up ?_, fun h => ?_⟩
    · simp only [wageofficelaw28_short.l0]
      exact ev_no (by omega) (ev_ret _)
    · refine ⟨by have := of_decide_eq_true h; omega, fun x hx => ?_⟩
      obtain ⟨j, hj1, rfl⟩ := List.getElem_of_mem hx
      exact hj j hj1 (by omega)
  | succ d ih =>
    intro i hi hj
    have hlt : i < l.length := by omega
    by_cases c : ((l[i].f1.f1.length : Int) > 66)
    · refine ⟨false, ev_up ?_, fun h => by simp at h⟩
      simp only [wageofficelaw28_short.l0]
      rw [rd44_at hlt]
      exact ev_yes (by omega) (ev_yes (by omega) (ev_yes (by omega) (ev_yes c (ev_ret _))))
    · obtain ⟨r, h1, h2⟩ := ih (i + 1) (by omega) (fun j hj1 hj2 => by
        by_cases e : j = i
        · subst e; omega
        · exact hj j hj1 (by omega))
      refine ⟨r, ev_up ?_, h2⟩
      simp only [wageofficelaw28_short.l0]
      rw [rd44_at hlt, w64 (by omega) (by omega), show (i : Int) + 1 = ((i + 1 : Nat) : Int) from by omega]
      exact ev_yes (by omega) (ev_yes (by omega) (ev_yes (by omega) (ev_no c h1)))

/-! ### the law's loops -/
theorem years_down {l : List Br} (hp : ∀ x ∈ l, x.f1.f1.length ≤ 66) {year : Int} {b : Br} (hy : -100000 ≤ year ∧ year ≤ 100000) (ht : Top l year b) (d : Nat) :
    ∀ z : Int, z ≤ year → (z - (year - 20)).toNat = d → Ev (fun k => wageofficelaw28_TaxYears.l1 k l year true z b.f0 b.f1.f0 b.f1.f1) true := by
  have hw : wrap64 (year - 20) = year - 20 := w64 (by omega) (by omega)
  induction d with
  | zero =>
    intro z hz hd
    refine ev_up ?_
    simp only [wageofficelaw28_TaxYears.l1]
    rw [hw, decide_eq_false (show ¬ z > year - 20 by omega)]
    have : Ev (fun k => wageofficelaw28_TaxYears.j4 k l year true z false b.f0 b.f1.f0 b.f1.f1) true := by
      refine ev_up ?_
      simp only [wageofficelaw28_TaxYears.j4]
      exact ev_no (by simp) (ev_ret _)
    exact ev_ite (fun _ => this) (fun _ => this)
  | succ d ih =>
    intro z hz hd
    refine ev_up ?_
    simp only [wageofficelaw28_TaxYears.l1]
    rw [hw, decide_eq_true (show z > year - 20 by omega)]
    refine ev_ite (fun c => ev_up ?_) (fun c => ev_up ?_)
    · simp only [wageofficelaw28_TaxYears.j4]
      refine ev_yes (by simp) ?_
      have ht2 := ht.later c hz
      rw [find_eval (fun x hx => by have := hp x hx; omega), ht2.pick]
      simp only [Option.bind_some]
      refine ev_yes (by simp) ?_
      obtain ⟨r, h1, h2⟩ := same_ex b.f0 b.f1.f0 b.f1.f1 b.f0 b.f1.f0 b.f1.f1 (by have := hp b ht.mem; omega)
      rw [h2 rfl rfl rfl] at h1
      refine ev_bnd h1 (ev_yes (by simp) ?_)
      rw [w64 (by omega) (by omega)]
      exact ih (z - 1) (by omega) (by omega)
    · simp only [wageofficelaw28_TaxYears.j4]
      exact ev_no (by simp) (ev_ret _)
theorem years_loop {l : List Br} (hl : l.length ≤ 40) (hp : ∀ x ∈ l, x.f1.f1.length ≤ 66) {year : Int} {ok : Bool} {b0 b1 : Int} {b2 : List S75} (hb2 : b2.length ≤ 66) (hno : ok = true → ∀ x ∈ l, x.f0 ≤ year → x.f0 ≤ b0)
    (hfin : ∀ q : Bool, ((∃ x ∈ l, x.f0 = b0 ∧ x.f1.f0 = b1 ∧ x.f1.f1 = b2) → q = true) → Ev (fun k => wageofficelaw28_TaxYears.l0 k l year true ok (l.filter fun x => decide (x.f0 ≤ year)) q l (l.length : Int) (l.length : Int) b0 b1 b2) true) (d : Nat) :
    ∀ (i : Nat) (q : Bool), i + d = l.length → ((∃ x ∈ l.take i, x.f0 = b0 ∧ x.f1.f0 = b1 ∧ x.f1.f1 = b2) → q = true) →
      Ev (fun k => wageofficelaw28_TaxYears.l0 k l year true ok ((l.take i).filter fun x => decide (x.f0 ≤ year)) q l (l.length : Int) (i : Int) b0 b1 b2) true := by
  induction d with
  | zero =>
    intro i q hi hq
    have : i = l.length := by omega
    subst this
    rw [List.take_length] at hq ⊢
    exact hfin q hq
  | succ d ih =>
    intro i q hi hq
    have hlt : i < l.length := by omega
    have hfl : ((l.take i).filter fun x => decide (x.f0 ≤ year)).length ≤ 40 := by
      have h1 := List.length_filter_le (fun x : Br => decide (x.f0 ≤ year)) (l.take i)
      rw [List.length_take] at h1; omega
    have hnext : ∀ q' : Bool, ((∃ x ∈ l.take (i + 1), x.f0 = b0 ∧ x.f1.f0 = b1 ∧ x.f1.f1 = b2) → q' = true) → Ev (fun k => wageofficelaw28_TaxYears.l0 k l year true ok (((l.take i).filter fun x => decide (x.f0 ≤ year)) ++ ([l[i]].filter fun x => decide (x.f0 ≤ year))) q' l (l.length : Int) (wrap64 ((i : Int) + 1)) b0 b1 b2) true := fun q' hq' => by
      have h := ih (i + 1) q' (by omega) hq'
      rw [w64 (by omega) (by omega), show (i : Int) + 1 = ((i + 1 : Nat) : Int) from by omega]
      rw [take_snoc _ _ hlt, List.filter_append] at h
      exact h
    have hsplit : ∀ {P : Prop}, (∃ x ∈ l.take (i + 1), x.f0 = b0 ∧ x.f1.f0 = b1 ∧ x.f1.f1 = b2) → ((∃ x ∈ l.take i, x.f0 = b0 ∧ x.f1.f0 = b1 ∧ x.f1.f1 = b2) → P) → (l[i].f0 = b0 → l[i].f1.f0 = b1 → l[i].f1.f1 = b2 → P) → P := fun h h1 h2 => by
      rw [take_snoc _ _ hlt] at h
      obtain ⟨x, hx, h3⟩ := h
      rcases List.mem_append.1 hx with hx | hx
      · exact h1 ⟨x, hx, h3⟩
      · rw [List.mem_singleton.1 hx] at h3; exact h2 h3.1 h3.2.1 h3.2.2
    have hx := hp l[i] (List.getElem_mem hlt)
    have hnoi := fun h => hno h l[i] (List.getElem_mem hlt)
    have htrue := hnext true (fun _ => rfl)
    obtain ⟨r, hs1, hs2⟩ := same_ex b0 b1 b2 l[i].f0 l[i].f1.f0 l[i].f1.f1 (by omega)
    have hsame : r ≠ true → Ev (fun k => wageofficelaw28_TaxYears.l0 k l year true ok (((l.take i).filter fun x => decide (x.f0 ≤ year)) ++ ([l[i]].filter fun x => decide (x.f0 ≤ year))) q l (l.length : Int) (wrap64 ((i : Int) + 1)) b0 b1 b2) true := fun hr =>
      hnext q fun h => hsplit h hq fun e1 e2 e3 => absurd (hs2 e1.symm e2.symm e3.symm) hr
    have hdiff : l[i].f0 ≠ b0 → Ev (fun k => wageofficelaw28_TaxYears.l0 k l year true ok (((l.take i).filter fun x => decide (x.f0 ≤ year)) ++ ([l[i]].filter fun x => decide (x.f0 ≤ year))) q l (l.length : Int) (wrap64 ((i : Int) + 1)) b0 b1 b2) true := fun hr =>
      hnext q fun h => hsplit h hq fun e1 _ _ => absurd e1 hr
    refine ev_up ?_
    simp only [wageofficelaw28_TaxYears.l0, Option.bind_some]
    rw [rd44_at hlt]
    refine ev_yes (by omega) (ev_yes (by omega) (ev_yes (by omega) (ev_ite (fun c => ev_yes (Nat.lt_of_le_of_lt hfl (by omega)) ?_) (fun c => ?_))))
    · rw [List.filter_cons_of_pos (by simpa using c), List.filter_nil] at htrue hsame hdiff
      refine ev_ite (fun c1 => ev_bnd hs1 (ev_ite (fun c2 => ev_ite (fun c3 => ev_no ?_ htrue) (fun c3 => htrue)) (fun c2 => ev_ite (fun c3 => ev_no ?_ (hsame c2)) (fun c3 => hsame c2)))) (fun c1 => ev_ite (fun c3 => ev_no ?_ (hdiff c1)) (fun c3 => hdiff c1))
      · have := hnoi c3 c; omega
      · have := hnoi c3 c; omega
      · have := hnoi c3 c; omega
    · rw [List.filter_cons_of_neg (by simpa using c), List.filter_nil, List.append_nil] at htrue hsame hdiff
      refine ev_ite (fun c1 => ev_bnd hs1 (ev_ite (fun c2 => ev_ite (fun c3 => ev_ite (fun _ => htrue) (fun _ => htrue)) (fun c3 => htrue)) (fun c2 => ev_ite (fun c3 => ev_ite (fun _ => hsame c2) (fun _ => hsame c2)) (fun c3 => hsame c2)))) (fun c1 => ev_ite (fun c3 => ev_ite (fun _ => hdiff c1) (fun _ => hdiff c1)) (fun c3 => hdiff c1))
theorem TaxYears : wageofficelaw28_TaxYears.Pure := by
  intro l year hl hy
  apply ev_ex
  have hlm : l.length ≤ 9223372036854775807 := by have := hl.1; unfold maxLen at this; omega
  have hstop : Ev (fun k => wageofficelaw28_TaxYears.j0 k l year true true) true := by
    refine ev_up ?_
    simp only [wageofficelaw28_TaxYears.j0]
    exact ev_yes (by simp) (ev_ret _)
  obtain ⟨s, hs1, hs2⟩ := short_loop hlm l.length 0 (by omega) (fun j _ h => absurd h (by omega))
  have hs1' : Ev (fun k => wageofficelaw28_short.f k l) s := by unfold wageofficelaw28_short.f; exact hs1
  unfold wageofficelaw28_TaxYears.f
  rw [show wageofficelaw28_head.f = some true from rfl]
  simp only [Option.bind_some]
  refine ev_bnd hs1' (ev_ite (fun c => ev_ite (fun _ => hstop) (fun c1 => ?_)) (fun _ => hstop))
  by_cases c2 : year > 100000
  · rw [decide_eq_true c2]; exact hstop
  rw [decide_eq_false c2]
  obtain ⟨hl40, hp⟩ := hs2 c
  have hp9 : ∀ x ∈ l, x.f1.f1.length ≤ 1000000000 := fun x hx => by have := hp x hx; omega
  have hpe : ∀ x ∈ (l.filter fun x : Br => decide (x.f0 ≤ year)), x.f1.f1.length ≤ 1000000000 := fun x hx => hp9 x (List.mem_filter.1 hx).1
  refine ev_up ?_
  simp only [wageofficelaw28_TaxYears.j0]
  refine ev_no (by simp) ?_
  rw [find_eval hp9]
  simp only [Option.bind_some]
  rcases pick_spec year l.length l rfl with ⟨h1, h2⟩ | ⟨b, h1, ht⟩
  · rw [h1]
    refine years_loop hl40 hp (by simp) (fun h => by simp at h) (fun q hq => ?_) l.length 0 false (by omega) (fun ⟨x, hx, _⟩ => by simp at hx)
    refine ev_up ?_
    simp only [wageofficelaw28_TaxYears.l0]
    refine ev_no (by omega) (ev_no (by simp) (ev_yes (by simp) (ev_eq (ev_ret _) ?_)))
    rw [show (l.filter fun x : Br => decide (x.f0 ≤ year)) = [] from by rw [List.filter_eq_nil_iff]; intro x hx; simpa using h2 x hx]
    rfl
  · rw [h1]
    have hb := hp b ht.mem
    have hby : b.f0 ≤ year := by obtain ⟨_, _, _, h, _⟩ := ht.ex; exact h
    refine years_loop hl40 hp hb (fun _ => ht.le) (fun q hq => ?_) l.length 0 false (by omega) (fun ⟨x, hx, _⟩ => by simp at hx)
    refine ev_up ?_
    simp only [wageofficelaw28_TaxYears.l0]
    refine ev_no (by omega) (ev_yes (by simp) ?_)
    rw [find_eval hpe, show pick (l.filter fun x : Br => decide (x.f0 ≤ year)) year = some b from (pick_filter year l none).trans h1]
    simp only [Option.bind_some]
    obtain ⟨r, g1, g2⟩ := same_ex b.f0 b.f1.f0 b.f1.f1 b.f0 b.f1.f0 b.f1.f1 (by omega)
    rw [g2 rfl rfl rfl] at g1
    refine ev_yes (hq ⟨b, ht.mem, rfl, rfl, rfl⟩) (ev_no (by omega) (ev_yes (by simp) (ev_bnd g1 (ev_up ?_))))
    simp only [wageofficelaw28_TaxYears.j2]
    exact ev_no (by simp) (years_down hp ⟨by omega, by omega⟩ ht _ year (by omega) rfl)
end Go.Proofs.Ytnadfkhllfgoiaa.Pure
