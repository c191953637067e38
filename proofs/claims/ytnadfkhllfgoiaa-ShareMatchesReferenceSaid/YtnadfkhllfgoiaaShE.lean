/- What the functions of the layer share, and of its law, come to: plain lemmas over the printed functions. -/
import Derived.Test.YtnadfkhllfgoiaaMyx19
import Derived.Test.YtnadfkhllfgoiaaMyx22
import Derived.Test.YtnadfkhllfgoiaaMyx15
import Derived.Test.YtnadfkhllfgoiaaMyx17
import Derived.Test.YtnadfkhllfgoiaaMyx16
import Derived.Test.YtnadfkhllfgoiaaMyx18
import Derived.Test.YtnadfkhllfgoiaaMyx21
import Derived.Test.YtnadfkhllfgoiaaShP
import Derived.Test.YtnadfkhllfgoiaaEvA
namespace Go.Proofs.Ytnadfkhllfgoiaa.ShE
open Go.RowKit Go.Proofs.Ytnadfkhllfgoiaa.My Go.Proofs.Ytnadfkhllfgoiaa.Aid Go.Proofs.Ytnadfkhllfgoiaa.EvA Go.Proofs.Ytnadfkhllfgoiaa.ShM Go.Proofs.Ytnadfkhllfgoiaa.ShP Go.Proofs.YtnadfkhllfgoiaaW.PrintWords Go.Proofs.YtnadfkhllfgoiaaW.PrintLast Go.Proofs.YtnadfkhllfgoiaaW.PrintMore
set_option linter.unusedVariables false
set_option linter.unusedSimpArgs false

theorem head_ev : Ev (fun k => wageofficelaw32_head.f k) true := by
  have h : wageofficelaw32_head.f 20 = some true := by decide +kernel
  exact Ev.of (fun k => wageofficelaw32_head.mono k) h
def pickv (c n : Int) : Int := (if c < 0 then -(c + 1) else c) % n
theorem pickv_bd (c : Int) {n : Int} (hn : 0 < n) : 0 ≤ pickv c n ∧ pickv c n < n := ⟨Int.emod_nonneg _ (by omega), Int.emod_lt_of_pos _ hn⟩
theorem pick_eval {c n : Int} (h0 : -9223372036854775808 ≤ c) (h1 : c ≤ 9223372036854775807) (hn : 0 < n) : wageofficelaw32_pick.f c n = some (pickv c n) := by
  unfold wageofficelaw32_pick.f pickv
  split
  · rw [if_neg (by omega), w64 (n := c + 1) (by omega) (by omega), w64 (by omega) (by omega), Int.tmod_eq_emod_of_nonneg (by omega)]
  · rw [if_neg (by omega), Int.tmod_eq_emod_of_nonneg (by omega)]
def amt (l : List Int) (lim : Int) : List Int := (l.take 64).map fun c => pickv c (lim + 1)
theorem amt_length (l : List Int) (lim : Int) : (amt l lim).length ≤ 64 := by unfold amt; rw [List.length_map, List.length_take]; omega
theorem amt_bd (l : List Int) {lim : Int} (h : 0 ≤ lim) : ∀ x ∈ amt l lim, 0 ≤ x ∧ x ≤ lim := by
  intro x hx
  obtain ⟨y, _, rfl⟩ := List.mem_map.1 hx
  have := pickv_bd y (n := lim + 1) (by omega)
  omega
theorem amounts_loop (l : List Int) (lim : Int) (h0 : 0 ≤ lim) (h1 : lim ≤ 1000000000000) (hl : l.length ≤ 140737488351232) (hw : ∀ x ∈ l, (Lit.int .i64 x).wf = true) (d : Nat) : ∀ (i : Nat), i + d = min l.length 64 →
    Ev (fun k => wageofficelaw32_amounts.l0 k l lim (amt (l.take i) lim) (i : Int)) (amt l lim) := by
  induction d with
  | zero =>
    intro i hi
    refine ev_up ?_
    simp only [wageofficelaw32_amounts.l0]
    have e : amt (l.take i) lim = amt l lim := by
      unfold amt
      rw [List.take_take]
      rcases Nat.le_total l.length 64 with h | h
      · rw [List.take_of_length_le (by omega), List.take_of_length_le (by omega)]
      · rw [show min 64 i = 64 from by omega]
    rw [e]
    refine ev_ite (fun _ => ev_no (by omega) (ev_ret _)) (fun _ => ev_ret _)
  | succ d ih =>
    intro i hi
    have hlt : i < l.length := by omega
    have hb := wf64 (hw _ (List.getElem_mem hlt))
    have hal := amt_length (l.take i) lim
    refine ev_up ?_
    simp only [wageofficelaw32_amounts.l0]
    refine ev_yes (by omega) (ev_yes (by omega) (ev_yes (by omega) ?_))
    rw [rd_nat hlt, w64 (n := lim + 1) (by omega) (by omega), pick_eval hb.1 hb.2 (by omega)]
    simp only [Option.bind_some]
    refine ev_yes (by omega) ?_
    rw [w64 (by omega) (by omega), show (i : Int) + 1 = ((i + 1 : Nat) : Int) from by omega]
    have e : amt (l.take i) lim ++ [pickv l[i] (lim + 1)] = amt (l.take (i + 1)) lim := by
      unfold amt
      rw [List.take_take, List.take_take, show min 64 i = i from by omega, show min 64 (i + 1) = i + 1 from by omega, take_snoc _ _ hlt, List.map_append]; rfl
    rw [e]
    exact ih (i + 1) (by omega)
theorem amounts_ev (l : List Int) (lim : Int) (h0 : 0 ≤ lim) (h1 : lim ≤ 1000000000000) (hl : l.length * 8 ≤ 140737488351232) (hw : ∀ x ∈ l, (Lit.int .i64 x).wf = true) : Ev (fun k => wageofficelaw32_amounts.f k l lim) (amt l lim) :=
  amounts_loop l lim h0 h1 (by omega) hw (min l.length 64) 0 (by omega)
theorem sum_loop (l : List Int) (hl : l.length ≤ 64) (hb : ∀ x ∈ l, 0 ≤ x ∧ x ≤ 1000000000000) (d : Nat) : ∀ (i : Nat), i + d = l.length → Ev (fun k => wageofficelaw32_sum.l0 k l (l.take i).sum (i : Int)) l.sum := by
  induction d with
  | zero =>
    intro i hi
    refine ev_up ?_
    simp only [wageofficelaw32_sum.l0]
    rw [List.take_of_length_le (by omega)]
    exact ev_no (by omega) (ev_ret _)
  | succ d ih =>
    intro i hi
    have hlt : i < l.length := by omega
    have h1 := hb _ (List.getElem_mem hlt)
    have h2 := sum_bd' (l := l.take i) (M := 1000000000000) (n := 64) (by omega) (by rw [List.length_take]; omega) (fun x hx => hb x (mem_take hx))
    refine ev_up ?_
    simp only [wageofficelaw32_sum.l0]
    refine ev_yes (by omega) (ev_yes (by omega) ?_)
    rw [rd_nat hlt, w64 (by omega) (by omega), w64 (by omega) (by omega), show (i : Int) + 1 = ((i + 1 : Nat) : Int) from by omega, ← sum_snoc, ← take_snoc _ _ hlt]
    exact ih (i + 1) (by omega)
theorem sum_ev {l : List Int} (hl : l.length ≤ 64) (hb : ∀ x ∈ l, 0 ≤ x ∧ x ≤ 1000000000000) : Ev (fun k => wageofficelaw32_sum.f k l) l.sum := sum_loop l hl hb l.length 0 (by omega)
theorem rd_at (l : List Int) (i : Nat) : rd l (i : Int) = at_ l i := by simp [rd, at_]
theorem take_at {l : List Int} {i : Nat} (h : i < l.length) : (l.take (i + 1)).sum = (l.take i).sum + at_ l i := by rw [take_snoc _ _ h, sum_snoc, at_lt h]

structure Inv (l m : List Int) (i : Nat) (s al least first : Int) : Prop where
  bd : ∀ j, j < i → 0 ≤ at_ m j ∧ at_ m j ≤ at_ l j
  s : s = (m.take i).sum
  al : al = (l.take i).sum
  op : (least = 1000000000001 ∧ ∀ j, j < i → ¬ at_ m j < at_ l j) ∨ (∃ f : Nat, first = f ∧ f < i ∧ at_ m f < at_ l f ∧ least = at_ m f ∧ ∀ j, j < i → at_ m j < at_ l j → least ≤ at_ m j ∧ (at_ m j = least → f ≤ j))
theorem sum_same (l : List Int) (t : Int) (m : List Int) : ∀ (d i : Nat), i + d = m.length → ∀ (s al least first : Int), Inv l m m.length s al least first → Ok t l → m.length = l.length →
    (∀ j, j < i → ¬ at_ m j > least + 1 ∧ ¬ (at_ m j = least + 1 ∧ (j : Int) > first)) →
    ∃ b, Ev (fun k => share_Check.l1 k t m s al least first (m.length : Int) (i : Int)) b ∧ (b = true ↔ Fairly t l m) := by
  intro d
  induction d with
  | zero =>
    intro i hi s al least first hI hok hml hp
    refine ⟨s == mn t al, ?_, ?_⟩
    · refine ev_up ?_
      simp only [share_Check.l1]
      exact ev_no (by omega) (ev_ret _)
    · rw [beq_iff_eq]
      have es : s = m.sum := by rw [hI.s, List.take_of_length_le (Nat.le_refl _)]
      have ea : al = l.sum := by rw [hI.al, hml, List.take_of_length_le (Nat.le_refl _)]
      rw [es, ea, mn_min]
      refine ⟨fun h => ⟨hml, fun i hi => hI.bd i (by omega), fun i k hi hk hlt => ?_, h⟩, fun h => h.sum⟩
      have h1 := hp i (by omega)
      rcases hI.op with ⟨_, h2⟩ | ⟨f, h2, h3, h4, h5, h6⟩
      · exact absurd hlt (h2 k (by omega))
      · have h7 := h6 k (by omega) hlt
        by_cases e : at_ m i = least + 1
        · by_cases e2 : at_ m k = least
          · have := h7.2 e2
            refine .inr ⟨by omega, ?_⟩
            have h8 : ¬ ((i : Int) > first) := fun h => h1.2 ⟨e, h⟩
            have h9 : i ≠ f := fun h => by subst h; omega
            omega
          · left; omega
        · left; omega
  | succ d ih =>
    intro i hi s al least first hI hok hml hp
    have hlt : i < m.length := by omega
    have hle : least ≤ 1000000000001 ∧ 0 ≤ least := by
      rcases hI.op with ⟨h, _⟩ | ⟨f, _, h3, h4, h5, _⟩
      · omega
      · have := hok.at_ f (by omega); have := hI.bd f (by omega); omega
    have hfl : Fairly t l m → ¬ (at_ m i > least + 1 ∨ (at_ m i = least + 1 ∧ (i : Int) > first)) := by
      intro hF hb
      rcases hI.op with ⟨h1, h2⟩ | ⟨f, h2, h3, h4, h5, h6⟩
      · have := hok.at_ i (by omega); have := hF.bd i (by omega); omega
      · have := hF.level i f (by omega) (by omega) h4; omega
    by_cases h1 : at_ m i > least + 1
    · refine ⟨false, ?_, by simp; exact fun h => hfl h (.inl h1)⟩
      refine ev_up ?_
      simp only [share_Check.l1]
      refine ev_yes (by omega) (ev_yes (by omega) (ev_yes (by omega) (ev_yes ?_ (ev_ret _))))
      rw [rd_at, w64 (by omega) (by omega)]; exact h1
    · by_cases h2 : at_ m i = least + 1 ∧ (i : Int) > first
      · refine ⟨false, ?_, by simp; exact fun h => hfl h (.inr h2)⟩
        refine ev_up ?_
        simp only [share_Check.l1]
        rw [rd_at, w64 (n := least + 1) (by omega) (by omega)]
        exact ev_yes (by omega) (ev_yes (by omega) (ev_yes (by omega) (ev_no h1 (ev_yes h2.1 (ev_yes h2.2 (ev_ret _))))))
      · obtain ⟨b, hb1, hb2⟩ := ih (i + 1) (by omega) s al least first hI hok hml (fun j hj => by
          by_cases e : j = i
          · subst e; exact ⟨h1, h2⟩
          · exact hp j (by omega))
        refine ⟨b, ?_, hb2⟩
        refine ev_up ?_
        simp only [share_Check.l1]
        rw [rd_at, w64 (n := least + 1) (by omega) (by omega), w64 (n := (i : Int) + 1) (by have := hok.len; omega) (by have := hok.len; omega), show (i : Int) + 1 = ((i + 1 : Nat) : Int) from by omega]
        refine ev_yes (by omega) (ev_yes (by omega) (ev_yes (by omega) (ev_no h1 (ev_ite (fun e => ev_no (fun h => h2 ⟨e, h⟩) hb1) (fun _ => hb1)))))
theorem check_loop (l : List Int) (t : Int) (m : List Int) (hok : Ok t l) (hml : m.length = l.length) : ∀ (d i : Nat), i + d = l.length → ∀ (s al least first : Int), Inv l m i s al least first →
    ∃ b, Ev (fun k => share_Check.l0 k t l m s al least first l (l.length : Int) (i : Int)) b ∧ (b = true ↔ Fairly t l m) := by
  have h64 := hok.len
  intro d
  induction d with
  | zero =>
    intro i hi s al least first hI
    obtain rfl : i = m.length := by omega
    obtain ⟨b, hb1, hb2⟩ := sum_same l t m m.length 0 (by omega) s al least first hI hok hml (fun j hj => by omega)
    refine ⟨b, ?_, hb2⟩
    refine ev_up ?_
    simp only [share_Check.l0]
    refine ev_no (by omega) ?_
    rw [← hml]; exact hb1
  | succ d ih =>
    intro i hi s al least first hI
    have hlt : i < l.length := by omega
    have hc := hok.at_ i hlt
    have hle : least ≤ 1000000000001 ∧ 0 ≤ least := by
      rcases hI.op with ⟨h, _⟩ | ⟨f, _, h3, h4, h5, _⟩
      · omega
      · have := hok.at_ f (by omega); have := hI.bd f (by omega); omega
    by_cases hbad : at_ m i < 0 ∨ at_ m i > at_ l i
    · refine ⟨false, ?_, by simp; exact fun h => by have := h.bd i hlt; omega⟩
      refine ev_up ?_
      simp only [share_Check.l0]
      rw [rd_at, rd_at]
      refine ev_yes (by omega) (ev_yes (by omega) (ev_yes (by omega) (ev_yes (by omega) ?_)))
      refine ev_ite (fun _ => ?_) (fun _ => ?_)
      · refine ev_up ?_
        simp only [share_Check.j2]
        exact ev_yes (by simp) (ev_ret _)
      · refine ev_up ?_
        simp only [share_Check.j2]
        exact ev_yes (by simp; omega) (ev_ret _)
    · have hm0 : 0 ≤ at_ m i ∧ at_ m i ≤ at_ l i := by omega
      have hsb := sum_bd' (l := l.take i) (M := 1000000000000) (n := 64) (by omega) (by rw [List.length_take]; omega) (fun x hx => hok.c x (mem_take hx))
      have hsm : 0 ≤ (m.take i).sum ∧ (m.take i).sum ≤ 1000000000000 * 64 := by
        refine sum_bd' (M := 1000000000000) (n := 64) (by omega) (by rw [List.length_take]; omega) fun x hx => ?_
        obtain ⟨j, hj, rfl⟩ := List.getElem_of_mem hx
        rw [List.length_take] at hj
        have h1 := hI.bd j (by omega)
        have h2 := hok.at_ j (by omega)
        rw [List.getElem_take, ← at_lt]; omega
      have es := hI.s
      have ea := hI.al
      have key : ∀ least' first', Inv l m (i + 1) (s + at_ m i) (al + at_ l i) least' first' → ∃ b, Ev (fun k => share_Check.l0 k t l m (wrap64 (s + at_ m i)) (wrap64 (al + at_ l i)) least' first' l (l.length : Int) (wrap64 ((i : Int) + 1))) b ∧ (b = true ↔ Fairly t l m) := by
        intro least' first' h
        rw [w64 (n := s + at_ m i) (by omega) (by omega), w64 (n := al + at_ l i) (by omega) (by omega), w64 (n := (i : Int) + 1) (by omega) (by omega), show (i : Int) + 1 = ((i + 1 : Nat) : Int) from by omega]
        exact ih (i + 1) (by omega) _ _ _ _ h
      have hbd : ∀ j, j < i + 1 → 0 ≤ at_ m j ∧ at_ m j ≤ at_ l j := fun j hj => by
        by_cases e : j = i
        · subst e; exact hm0
        · exact hI.bd j (by omega)
      have e1 : s + at_ m i = (m.take (i + 1)).sum := by rw [take_at (by omega), es]
      have e2 : al + at_ l i = (l.take (i + 1)).sum := by rw [take_at (by omega), ea]
      have hgo : ∀ {b : Bool} {least' first' : Int}, ((at_ m i < at_ l i ∧ at_ m i < least ∧ least' = at_ m i ∧ first' = i) ∨ (¬ (at_ m i < at_ l i ∧ at_ m i < least) ∧ least' = least ∧ first' = first)) →
          Ev (fun k => share_Check.l0 k t l m (wrap64 (s + at_ m i)) (wrap64 (al + at_ l i)) least' first' l (l.length : Int) (wrap64 ((i : Int) + 1))) b →
          Ev (fun k => share_Check.l0 k t l m s al least first l (l.length : Int) (i : Int)) b := by
        intro b least' first' hc hev
        refine ev_up ?_
        simp only [share_Check.l0]
        rw [rd_at, rd_at]
        refine ev_yes (by omega) (ev_yes (by omega) (ev_yes (by omega) (ev_yes (by omega) (ev_no (by omega) ?_))))
        refine ev_up ?_
        simp only [share_Check.j2]
        rw [rd_at]
        refine ev_no (by simp; omega) (ev_yes (by omega) (ev_yes (by omega) ?_))
        rcases hc with ⟨c1, c2, rfl, rfl⟩ | ⟨c1, rfl, rfl⟩
        · exact ev_yes c1 (ev_yes c2 hev)
        · exact ev_ite (fun h => ev_no (fun h' => c1 ⟨h, h'⟩) hev) (fun _ => hev)
      by_cases hop : at_ m i < at_ l i ∧ at_ m i < least
      · obtain ⟨b, hb1, hb2⟩ := key (at_ m i) (i : Int) ⟨hbd, e1, e2, .inr ⟨i, rfl, by omega, hop.1, rfl, fun j hj hlt => by
          by_cases e : j = i
          · subst e; omega
          · rcases hI.op with ⟨h, h2⟩ | ⟨f, h2, h3, h4, h5, h6⟩
            · exact absurd hlt (h2 j (by omega))
            · have := (h6 j (by omega) hlt).1; omega⟩⟩
        exact ⟨b, hgo (.inl ⟨hop.1, hop.2, rfl, rfl⟩) hb1, hb2⟩
      · obtain ⟨b, hb1, hb2⟩ := key least first ⟨hbd, e1, e2, by
          rcases hI.op with ⟨h, h2⟩ | ⟨f, h2, h3, h4, h5, h6⟩
          · refine .inl ⟨h, fun j hj => ?_⟩
            by_cases e : j = i
            · subst e; omega
            · exact h2 j (by omega)
          · refine .inr ⟨f, h2, by omega, h4, h5, fun j hj hlt => ?_⟩
            by_cases e : j = i
            · subst e; omega
            · exact h6 j (by omega) hlt⟩
        exact ⟨b, hgo (.inr ⟨hop, rfl, rfl⟩) hb1, hb2⟩
theorem check_ok {t : Int} {l m : List Int} (hok : Ok t l) (hm : m.length ≤ 9223372036854775807) : ∃ b, Ev (fun k => share_Check.f k t l m) b ∧ (b = true ↔ Fairly t l m) := by
  by_cases hml : m.length = l.length
  · obtain ⟨b, hb1, hb2⟩ := check_loop l t m hok hml l.length 0 (by omega) 0 0 1000000000001 0 ⟨fun j hj => by omega, by simp, by simp, .inl ⟨rfl, fun j hj => by omega⟩⟩
    refine ⟨b, ?_, hb2⟩
    unfold share_Check.f
    rw [hok.wrong]
    simp only [Option.bind_some, if_true]
    refine ev_up ?_
    simp only [share_Check.j0]
    exact ev_no (by simp; omega) hb1
  · refine ⟨false, ?_, by simp; exact fun h => hml h.len⟩
    unfold share_Check.f
    rw [hok.wrong]
    simp only [Option.bind_some, if_true]
    refine ev_up ?_
    simp only [share_Check.j0]
    exact ev_yes (by simp; omega) (ev_ret _)
theorem check_wrong {t : Int} {l m : List Int} {e : Int} (h : share_wrong.f t l = some e) (he : e ≠ 0) : Ev (fun k => share_Check.f k t l m) false := by
  unfold share_Check.f
  rw [h]
  simp only [Option.bind_some, if_neg he]
  refine ev_up ?_
  simp only [share_Check.j0]
  exact ev_yes (by simp) (ev_ret _)
theorem same_loop (a b : List Int) (hab : a.length = b.length) (ha : a.length ≤ 140737488351232) (d : Nat) : ∀ (i : Nat), i + d = a.length → (∀ j, j < i → at_ a j = at_ b j) → Ev (fun k => wageofficeref32_Same.l0 k a b (i : Int)) (decide (a = b)) := by
  induction d with
  | zero =>
    intro i hi h
    refine ev_up ?_
    simp only [wageofficeref32_Same.l0]
    refine ev_no (by omega) (ev_eq (ev_ret _) ?_)
    exact (decide_eq_true (ext_at hab fun j hj => h j (by omega))).symm
  | succ d ih =>
    intro i hi h
    refine ev_up ?_
    simp only [wageofficeref32_Same.l0]
    rw [rd_at, rd_at]
    refine ev_yes (by omega) (ev_yes (by omega) (ev_yes (by omega) (ev_ite (fun e => ?_) (fun e => ?_))))
    · rw [w64 (by omega) (by omega), show (i : Int) + 1 = ((i + 1 : Nat) : Int) from by omega]
      exact ih (i + 1) (by omega) fun j hj => by
        by_cases e' : j = i
        · subst e'; exact e
        · exact h j (by omega)
    · exact ev_eq (ev_ret _) (decide_eq_false fun e' => e (by rw [e'])).symm
theorem same_ev (a b : List Int) (ha : a.length ≤ 140737488351232) : Ev (fun k => wageofficeref32_Same.f k a b) (decide (a = b)) := by
  unfold wageofficeref32_Same.f
  refine ev_ite (fun h => same_loop a b (by omega) ha a.length 0 (by omega) (fun j hj => by omega)) (fun h => ev_eq (ev_ret _) (decide_eq_false fun e => h (by rw [e])).symm)
end Go.Proofs.Ytnadfkhllfgoiaa.ShE
