/- What the functions of piecewise come to on numbers and lists: validity, the piece of an argument, the value, rounding down. -/
import Derived.Test.YteapeglolkfimaaMyx47
import Derived.Test.YteapeglolkfimaaMyx43
import Derived.Test.YteapeglolkfimaaMyx26
import Derived.Test.YteapeglolkfimaaMyx67
import Derived.Test.YteapeglolkfimaaMyx19
import Derived.Test.YteapeglolkfimaaMyx46
import Derived.Test.YteapeglolkfimaaEvA
namespace Go.Proofs.Yteapeglolkfimaa.PwE
open Go.RowKit Go.Proofs.Yteapeglolkfimaa.My Go.Proofs.Yteapeglolkfimaa.Aid Go.Proofs.Yteapeglolkfimaa.EvA Go.Proofs.YteapeglolkfimaaW.PrintWords Go.Proofs.YteapeglolkfimaaW.PrintLast Go.Proofs.YteapeglolkfimaaW.PrintMore
set_option linter.unusedVariables false
set_option linter.unusedSimpArgs false

abbrev Pc := S39
def fr (l : List Pc) (i : Nat) : Int := (rd_T39 l i).f0
def at' (l : List Pc) (i : Nat) : Int := (rd_T39 l i).f1
def sp (l : List Pc) (i : Nat) : Int := (rd_T39 l i).f2
structure Good (l : List Pc) (i : Nat) : Prop where
  hi : fr l i ≤ 1000000000000
  sl : -1000000 ≤ sp l i ∧ sp l i ≤ 1000000
  a : -1000000000000000000 ≤ at' l i ∧ at' l i ≤ 1000000000000000000
structure Vld (den : Int) (l : List Pc) : Prop where
  d1 : 1 ≤ den
  d2 : den ≤ 1000000
  n1 : 1 ≤ l.length
  n2 : l.length ≤ 64
  z : fr l 0 = 0
  inc : ∀ i, i + 1 < l.length → fr l i < fr l (i + 1)
  good : ∀ i, i < l.length → Good l i
theorem within_eval (a : Int) {m : Int} (h0 : 0 ≤ m) (h1 : m ≤ 9223372036854775807) : piecewise_within.f a m = some (decide (-m ≤ a ∧ a ≤ m)) := by
  unfold piecewise_within.f
  rw [w64 (by omega) (by omega)]
  split
  · rename_i h
    congr 1
    rw [Bool.eq_iff_iff]; simp; omega
  · rw [decide_eq_false (by omega)]
theorem rwithin_eval (a : Int) {m : Int} (h0 : 0 ≤ m) (h1 : m ≤ 9223372036854775807) : wageofficeref05_within.f a m = some (decide (-m ≤ a ∧ a ≤ m)) := by
  unfold wageofficeref05_within.f
  rw [w64 (by omega) (by omega)]
  split
  · rename_i h
    congr 1
    rw [Bool.eq_iff_iff]; simp; omega
  · rw [decide_eq_false (by omega)]
def lastf (l : List Pc) (i : Nat) : Int := if i = 0 then -1 else fr l (i - 1)
theorem valid_loop (den : Int) (l : List Pc) (hd : 1 ≤ den ∧ den ≤ 1000000) (hn : 1 ≤ l.length ∧ l.length ≤ 64) (hz : fr l 0 = 0) (d : Nat) : ∀ i : Nat, i + d = l.length → (∀ j, j < i → Good l j) → (∀ j, j + 1 < i → fr l j < fr l (j + 1)) →
    ∃ b, Ev (fun k => piecewise_Valid.l0 k (lastf l i) l (l.length : Int) (i : Int)) b ∧ (b = true ↔ Vld den l) := by
  induction d with
  | zero =>
    intro i hi hg hinc
    obtain rfl : i = l.length := by omega
    refine ⟨true, ?_, by simp; exact ⟨hd.1, hd.2, hn.1, hn.2, hz, hinc, hg⟩⟩
    refine ev_up ?_
    simp only [piecewise_Valid.l0]
    exact ev_no (by omega) (ev_ret _)
  | succ d ih =>
    intro i hi hg hinc
    have hlt : i < l.length := by omega
    have hlast : Vld den l → lastf l i < fr l i := fun h => by
      unfold lastf
      split
      · rename_i e; subst e; rw [hz]; omega
      · have := h.inc (i - 1) (by omega)
        rw [show i - 1 + 1 = i from by omega] at this; exact this
    have e0 : (rd_T39 l (i : Int)).f0 = fr l i := rfl
    have e1 : (rd_T39 l (i : Int)).f1 = at' l i := rfl
    have e2 : (rd_T39 l (i : Int)).f2 = sp l i := rfl
    by_cases c1 : fr l i ≤ lastf l i
    · refine ⟨false, ?_, by simp; exact fun h => by have := hlast h; omega⟩
      refine ev_up ?_
      simp only [piecewise_Valid.l0, e0, e1, e2]
      exact ev_yes (by omega) (ev_yes (by omega) (ev_yes (by omega) (ev_yes c1 (ev_ret _))))
    · by_cases c2 : fr l i > 1000000000000
      · refine ⟨false, ?_, by simp; exact fun h => by have := (h.good i hlt).hi; omega⟩
        refine ev_up ?_
        simp only [piecewise_Valid.l0, e0, e1, e2]
        exact ev_yes (by omega) (ev_yes (by omega) (ev_yes (by omega) (ev_no c1 (ev_yes c2 (ev_ret _)))))
      · by_cases c3 : -1000000 ≤ sp l i ∧ sp l i ≤ 1000000
        · by_cases c4 : -1000000000000000000 ≤ at' l i ∧ at' l i ≤ 1000000000000000000
          · obtain ⟨b, hb1, hb2⟩ := ih (i + 1) (by omega) (fun j hj => by
              by_cases e : j = i
              · subst e; exact ⟨by omega, c3, c4⟩
              · exact hg j (by omega)) (fun j hj => by
              by_cases e : j + 1 = i
              · subst e
                unfold lastf at c1
                rw [if_neg (by omega)] at c1
                simpa using c1
              · exact hinc j (by omega))
            refine ⟨b, ?_, hb2⟩
            refine ev_up ?_
            simp only [piecewise_Valid.l0, e0, e1, e2]
            refine ev_yes (by omega) (ev_yes (by omega) (ev_yes (by omega) (ev_no c1 (ev_no c2 ?_))))
            rw [within_eval _ (by omega) (by omega), within_eval _ (by omega) (by omega), decide_eq_true c3, decide_eq_true c4]
            simp only [Option.bind_some]
            refine ev_yes (by simp) (ev_yes (by simp) ?_)
            rw [w64 (by omega) (by omega), show (i : Int) + 1 = ((i + 1 : Nat) : Int) from by omega]
            have e : lastf l (i + 1) = fr l i := by unfold lastf; rw [if_neg (by omega)]; rfl
            rw [e] at hb1
            exact hb1
          · refine ⟨false, ?_, by simp; exact fun h => c4 (h.good i hlt).a⟩
            refine ev_up ?_
            simp only [piecewise_Valid.l0, e0, e1, e2]
            refine ev_yes (by omega) (ev_yes (by omega) (ev_yes (by omega) (ev_no c1 (ev_no c2 ?_))))
            rw [within_eval _ (by omega) (by omega), within_eval _ (by omega) (by omega), decide_eq_true c3, decide_eq_false c4]
            simp only [Option.bind_some]
            exact ev_yes (by simp) (ev_no (by simp) (ev_ret _))
        · refine ⟨false, ?_, by simp; exact fun h => c3 (h.good i hlt).sl⟩
          refine ev_up ?_
          simp only [piecewise_Valid.l0, e0, e1, e2]
          refine ev_yes (by omega) (ev_yes (by omega) (ev_yes (by omega) (ev_no c1 (ev_no c2 ?_))))
          rw [within_eval _ (by omega) (by omega), decide_eq_false c3]
          simp only [Option.bind_some]
          exact ev_no (by simp) (ev_ret _)
theorem valid_ev (den : Int) (l : List Pc) : ∃ b, Ev (fun k => piecewise_Valid.f k den l) b ∧ (b = true ↔ Vld den l) := by
  have hj : ∀ {P : Prop}, ¬ P → ∃ b, Ev (fun k => piecewise_Valid.j0 k true den l) b ∧ (b = true ↔ P) := fun hP => by
    refine ⟨false, ?_, by simp; exact hP⟩
    refine ev_up ?_
    simp only [piecewise_Valid.j0]
    exact ev_yes (by simp) (ev_ret _)
  unfold piecewise_Valid.f
  by_cases c1 : den < 1
  · simp only [if_pos c1]; exact hj fun h => by have := h.d1; omega
  · by_cases c2 : den > 1000000
    · simp only [if_neg c1, if_pos c2]; exact hj fun h => by have := h.d2; omega
    · by_cases c3 : (l.length : Int) < 1
      · simp only [if_neg c1, if_neg c2, if_pos c3]; exact hj fun h => by have := h.n1; omega
      · by_cases c4 : (l.length : Int) > 64
        · simp only [if_neg c1, if_neg c2, if_neg c3, if_pos c4]; exact hj fun h => by have := h.n2; omega
        · have c5 : 0 < (l.length : Int) := by omega
          simp only [if_neg c1, if_neg c2, if_neg c3, if_neg c4, if_pos c5]
          have e0 : (rd_T39 l 0).f0 = fr l 0 := rfl
          by_cases c6 : fr l 0 = 0
          · obtain ⟨b, hb1, hb2⟩ := valid_loop den l (by omega) (by omega) c6 l.length 0 (by omega) (fun j hj => by omega) (fun j hj => by omega)
            refine ⟨b, ?_, hb2⟩
            refine ev_up ?_
            simp only [piecewise_Valid.j0, e0]
            exact ev_no (by simp [c6]) hb1
          · refine ⟨false, ?_, by simp; exact fun h => c6 h.z⟩
            refine ev_up ?_
            simp only [piecewise_Valid.j0, e0]
            exact ev_yes (by simpa using c6) (ev_ret _)
theorem rvalid_loop (den : Int) (l : List Pc) (hd : 1 ≤ den ∧ den ≤ 1000000) (hn : 1 ≤ l.length ∧ l.length ≤ 64) (d : Nat) : ∀ i : Nat, i + d = l.length → (0 < i → fr l 0 = 0) → (∀ j, j < i → Good l j) → (∀ j, j + 1 < i → fr l j < fr l (j + 1)) →
    ∃ b, Ev (fun k => wageofficeref05_Valid.l0 k (i : Int) den l) b ∧ (b = true ↔ Vld den l) := by
  induction d with
  | zero =>
    intro i hi hz hg hinc
    obtain rfl : i = l.length := by omega
    refine ⟨true, ?_, by simp; exact ⟨hd.1, hd.2, hn.1, hn.2, hz (by omega), hinc, hg⟩⟩
    refine ev_up ?_
    simp only [wageofficeref05_Valid.l0]
    exact ev_no (by omega) (ev_ret _)
  | succ d ih =>
    intro i hi hz hg hinc
    have hlt : i < l.length := by omega
    have e0 : (rd_T39 l (i : Int)).f0 = fr l i := rfl
    have e1 : (rd_T39 l (i : Int)).f1 = at' l i := rfl
    have e2 : (rd_T39 l (i : Int)).f2 = sp l i := rfl
    by_cases c3 : -1000000 ≤ sp l i ∧ sp l i ≤ 1000000
    · by_cases c4 : -1000000000000000000 ≤ at' l i ∧ at' l i ≤ 1000000000000000000
      · by_cases c2 : fr l i > 1000000000000
        · refine ⟨false, ?_, by simp; exact fun h => by have := (h.good i hlt).hi; omega⟩
          refine ev_up ?_
          simp only [wageofficeref05_Valid.l0, e0, e1, e2]
          refine ev_yes (by omega) (ev_yes (by omega) ?_)
          rw [rwithin_eval _ (by omega) (by omega), rwithin_eval _ (by omega) (by omega), decide_eq_true c3, decide_eq_true c4]
          simp only [Option.bind_some]
          exact ev_yes (by simp) (ev_yes (by simp) (ev_yes c2 (ev_ret _)))
        · by_cases ci : i = 0
          · subst ci
            by_cases c0 : fr l 0 = 0
            · obtain ⟨b, hb1, hb2⟩ := ih 1 (by omega) (fun _ => c0) (fun j hj => by
                obtain rfl : j = 0 := by omega
                exact ⟨by omega, c3, c4⟩) (fun j hj => by omega)
              refine ⟨b, ?_, hb2⟩
              refine ev_up ?_
              simp only [wageofficeref05_Valid.l0, e0, e1, e2]
              refine ev_yes (by omega) (ev_yes (by omega) ?_)
              rw [rwithin_eval _ (by omega) (by omega), rwithin_eval _ (by omega) (by omega), decide_eq_true c3, decide_eq_true c4]
              simp only [Option.bind_some]
              refine ev_yes (by simp) (ev_yes (by simp) (ev_no c2 (ev_yes (by simp) (ev_yes c0 (ev_no (by simp) ?_)))))
              rw [w64 (by omega) (by omega)]
              exact hb1
            · refine ⟨false, ?_, by simp; exact fun h => c0 h.z⟩
              refine ev_up ?_
              simp only [wageofficeref05_Valid.l0, e0, e1, e2]
              refine ev_yes (by omega) (ev_yes (by omega) ?_)
              rw [rwithin_eval _ (by omega) (by omega), rwithin_eval _ (by omega) (by omega), decide_eq_true c3, decide_eq_true c4]
              simp only [Option.bind_some]
              exact ev_yes (by simp) (ev_yes (by simp) (ev_no c2 (ev_yes (by simp) (ev_no c0 (ev_ret _)))))
          · have ew : wrap64 ((i : Int) - 1) = ((i - 1 : Nat) : Int) := by rw [w64 (by omega) (by omega)]; omega
            have e3 : (rd_T39 l ((i - 1 : Nat) : Int)).f0 = fr l (i - 1) := rfl
            by_cases c1 : fr l i ≤ fr l (i - 1)
            · refine ⟨false, ?_, by simp; exact fun h => by have := h.inc (i - 1) (by omega); rw [show i - 1 + 1 = i from by omega] at this; omega⟩
              refine ev_up ?_
              simp only [wageofficeref05_Valid.l0, ew, e0, e1, e2, e3]
              refine ev_yes (by omega) (ev_yes (by omega) ?_)
              rw [rwithin_eval _ (by omega) (by omega), rwithin_eval _ (by omega) (by omega), decide_eq_true c3, decide_eq_true c4]
              simp only [Option.bind_some]
              exact ev_yes (by simp) (ev_yes (by simp) (ev_no c2 (ev_no (by omega) (ev_yes (by omega) (ev_yes (by omega) (ev_yes (by omega) (ev_yes c1 (ev_ret _))))))))
            · obtain ⟨b, hb1, hb2⟩ := ih (i + 1) (by omega) (fun _ => hz (by omega)) (fun j hj => by
                by_cases e : j = i
                · subst e; exact ⟨by omega, c3, c4⟩
                · exact hg j (by omega)) (fun j hj => by
                by_cases e : j + 1 = i
                · subst e; simpa using c1
                · exact hinc j (by omega))
              refine ⟨b, ?_, hb2⟩
              refine ev_up ?_
              simp only [wageofficeref05_Valid.l0, ew, e0, e1, e2, e3]
              refine ev_yes (by omega) (ev_yes (by omega) ?_)
              rw [rwithin_eval _ (by omega) (by omega), rwithin_eval _ (by omega) (by omega), decide_eq_true c3, decide_eq_true c4]
              simp only [Option.bind_some]
              refine ev_yes (by simp) (ev_yes (by simp) (ev_no c2 (ev_no (by omega) (ev_yes (by omega) (ev_yes (by omega) (ev_yes (by omega) (ev_no c1 ?_)))))))
              rw [w64 (by omega) (by omega), show (i : Int) + 1 = ((i + 1 : Nat) : Int) from by omega]
              exact hb1
      · refine ⟨false, ?_, by simp; exact fun h => c4 (h.good i hlt).a⟩
        refine ev_up ?_
        simp only [wageofficeref05_Valid.l0, e0, e1, e2]
        refine ev_yes (by omega) (ev_yes (by omega) ?_)
        rw [rwithin_eval _ (by omega) (by omega), rwithin_eval _ (by omega) (by omega), decide_eq_true c3, decide_eq_false c4]
        simp only [Option.bind_some]
        exact ev_yes (by simp) (ev_no (by simp) (ev_ret _))
    · refine ⟨false, ?_, by simp; exact fun h => c3 (h.good i hlt).sl⟩
      refine ev_up ?_
      simp only [wageofficeref05_Valid.l0, e0, e1, e2]
      refine ev_yes (by omega) (ev_yes (by omega) ?_)
      rw [rwithin_eval _ (by omega) (by omega), rwithin_eval _ (by omega) (by omega), decide_eq_false c3]
      simp only [Option.bind_some]
      exact ev_no (by simp) (ev_ret _)
theorem rvalid_ev (den : Int) (l : List Pc) : ∃ b, Ev (fun k => wageofficeref05_Valid.f k den l) b ∧ (b = true ↔ Vld den l) := by
  have hj : ∀ {P : Prop}, ¬ P → ∃ b, Ev (fun k => wageofficeref05_Valid.j0 k true den l) b ∧ (b = true ↔ P) := fun hP => by
    refine ⟨false, ?_, by simp; exact hP⟩
    refine ev_up ?_
    simp only [wageofficeref05_Valid.j0]
    exact ev_yes (by simp) (ev_ret _)
  unfold wageofficeref05_Valid.f
  by_cases c1 : den < 1
  · simp only [if_pos c1]; exact hj fun h => by have := h.d1; omega
  · by_cases c2 : den > 1000000
    · simp only [if_neg c1, if_pos c2]; exact hj fun h => by have := h.d2; omega
    · by_cases c3 : (l.length : Int) < 1
      · simp only [if_neg c1, if_neg c2, if_pos c3]; exact hj fun h => by have := h.n1; omega
      · simp only [if_neg c1, if_neg c2, if_neg c3]
        by_cases c4 : (l.length : Int) > 64
        · rw [decide_eq_true c4]; exact hj fun h => by have := h.n2; omega
        · rw [decide_eq_false c4]
          obtain ⟨b, hb1, hb2⟩ := rvalid_loop den l (by omega) (by omega) l.length 0 (by omega) (fun h => by omega) (fun j hj => by omega) (fun j hj => by omega)
          refine ⟨b, ?_, hb2⟩
          refine ev_up ?_
          simp only [wageofficeref05_Valid.j0]
          exact ev_no (by simp) hb1

/-! the piece of an argument -/
theorem Vld.mono {den : Int} {l : List Pc} (h : Vld den l) : ∀ (d i : Nat), i + d < l.length → fr l i ≤ fr l (i + d) := by
  intro d
  induction d with
  | zero => intro i _; exact Int.le_refl _
  | succ d ih =>
    intro i hi
    have h1 := ih i (by omega)
    have h2 := h.inc (i + d) (by omega)
    rw [show i + (d + 1) = i + d + 1 from by omega]; omega
theorem Vld.le {den : Int} {l : List Pc} (h : Vld den l) {i j : Nat} (hij : i ≤ j) (hj : j < l.length) : fr l i ≤ fr l j := by
  have := h.mono (j - i) i (by omega)
  rwa [show i + (j - i) = j from by omega] at this
theorem Vld.lt {den : Int} {l : List Pc} (h : Vld den l) {i j : Nat} (hij : i < j) (hj : j < l.length) : fr l i < fr l j := by
  have h1 := h.inc i (by omega)
  have h2 := h.le (i := i + 1) (j := j) (by omega) hj
  omega
theorem Vld.fr0 {den : Int} {l : List Pc} (h : Vld den l) {i : Nat} (hi : i < l.length) : 0 ≤ fr l i := by
  have := h.le (Nat.zero_le i) hi
  rw [h.z] at this; exact this
structure At (l : List Pc) (x : Int) (q : Nat) : Prop where
  lt : q < l.length
  le : fr l q ≤ x
  nx : ∀ j, q < j → j < l.length → x < fr l j
theorem At.unique {l : List Pc} {x : Int} {p q : Nat} (hp : At l x p) (hq : At l x q) : p = q := by
  rcases Nat.lt_trichotomy p q with h | h | h
  · have := hp.nx q h hq.lt; have := hq.le; omega
  · exact h
  · have := hq.nx p h hp.lt; have := hp.le; omega
theorem frm_fr (l : List Pc) (i : Nat) : frm l (i : Int) = fr l i := rfl
theorem bsk_at {den : Int} {l : List Pc} (h : Vld den l) {x : Int} (h0 : 0 ≤ x) : ∃ q : Nat, bsk l x = ((q + 1 : Nat) : Int) ∧ At l x q := by
  have hb := bs_spec (fun i => decide (x < frm l i)) (l.length : Int) 64 0 (l.length : Int) (by omega) (by omega) (by omega) (by have := h.n2; omega) (fun h => by omega) (fun h => by omega)
  change 0 ≤ bsk l x ∧ bsk l x ≤ _ ∧ (0 < bsk l x → _) ∧ (bsk l x < _ → _) at hb
  obtain ⟨b1, b2, b3, b4⟩ := hb
  obtain ⟨m, hm⟩ := Int.eq_ofNat_of_zero_le b1
  have b4 : bsk l x < (l.length : Int) → decide (x < frm l (bsk l x)) = true := b4
  have b3 : 0 < bsk l x → decide (x < frm l (bsk l x - 1)) = false := b3
  rw [hm] at b2 b3 b4 ⊢
  have hn1 := h.n1
  have hm0 : m ≠ 0 := by
    rintro rfl
    have := b4 (by omega)
    rw [frm_fr, h.z] at this
    simp at this; omega
  refine ⟨m - 1, by omega, by omega, ?_, fun j hj hjl => ?_⟩
  · have := b3 (by omega)
    rw [show (m : Int) - 1 = ((m - 1 : Nat) : Int) from by omega, frm_fr] at this
    simpa using this
  · have := b4 (by omega)
    rw [frm_fr] at this
    have h2 := h.le (i := m) (j := j) (by omega) hjl
    simp at this; omega
theorem at_ex {den : Int} {l : List Pc} (h : Vld den l) {x : Int} (h0 : 0 ≤ x) : ∃ q, At l x q := by
  obtain ⟨q, _, hq⟩ := bsk_at h h0
  exact ⟨q, hq⟩
def num (l : List Pc) (q : Nat) (x : Int) : Int := at' l q + sp l q * (x - fr l q)
theorem mul_bd {s d S D : Int} (h0 : -S ≤ s) (h1 : s ≤ S) (h2 : 0 ≤ d) (h3 : d ≤ D) (hS : 0 ≤ S) : -(S * D) ≤ s * d ∧ s * d ≤ S * D := by
  have a1 : s * d ≤ S * d := Int.mul_le_mul_of_nonneg_right h1 h2
  have a2 : S * d ≤ S * D := Int.mul_le_mul_of_nonneg_left h3 hS
  have a3 : -S * d ≤ s * d := Int.mul_le_mul_of_nonneg_right h0 h2
  rw [Int.neg_mul] at a3
  omega
theorem num_bd {den : Int} {l : List Pc} (h : Vld den l) {x : Int} {q : Nat} (hq : At l x q) (h1 : x ≤ 1000000000000) :
    (-1000000000000000000 ≤ sp l q * (x - fr l q) ∧ sp l q * (x - fr l q) ≤ 1000000000000000000) ∧ -2000000000000000000 ≤ num l q x ∧ num l q x ≤ 2000000000000000000 := by
  have g := h.good q hq.lt
  have f0 := h.fr0 hq.lt
  have := mul_bd g.sl.1 g.sl.2 (d := x - fr l q) (D := 1000000000000) (by have := hq.le; omega) (by omega) (by omega)
  have ga := g.a
  unfold num
  omega
theorem num_wrap {den : Int} {l : List Pc} (h : Vld den l) {x : Int} {q : Nat} (hq : At l x q) (h0 : 0 ≤ x) (h1 : x ≤ 1000000000000) : wrap64 (at' l q + wrap64 (sp l q * wrap64 (x - fr l q))) = num l q x := by
  have hb := num_bd h hq h1
  have f0 := h.fr0 hq.lt
  have f1 := (h.good q hq.lt).hi
  unfold num at hb ⊢
  rw [w64 (n := x - fr l q) (by omega) (by omega), w64 (n := sp l q * (x - fr l q)) (by omega) (by omega), w64 (by omega) (by omega)]
theorem eval_ok {den : Int} {l : List Pc} (h : Vld den l) {x : Int} {q : Nat} (hq : At l x q) (h0 : 0 ≤ x) (h1 : x ≤ 1000000000000) : Ev (fun k => piecewise_Eval.f k den l x) (num l q x, den, 0) := by
  obtain ⟨b, hb1, hb2⟩ := valid_ev den l
  obtain rfl := hb2.2 h
  unfold piecewise_Eval.f
  refine ev_bnd hb1 (ev_yes (by simp) ?_)
  have ea : piecewise_isArgument.f x = some true := by unfold piecewise_isArgument.f; rw [if_pos (by omega), decide_eq_true h1]
  rw [ea]
  simp only [Option.bind_some]
  refine ev_up ?_
  simp only [piecewise_Eval.j0]
  refine ev_no (by simp) ?_
  obtain ⟨q', hq1, hq2⟩ := bsk_at h h0
  obtain rfl := hq2.unique hq
  have eb : piecewise_belongs.f den l x = some (fr l q', at' l q', sp l q') := by
    unfold piecewise_belongs.f
    rw [if_pos (by have := h.n2; omega), if_pos (by omega), hq1, show ((q' + 1 : Nat) : Int) - 1 = (q' : Int) from by omega]
    rfl
  rw [eb]
  simp only [Option.bind_some, piecewise_numerator.f]
  rw [num_wrap h hq h0 h1]
  exact ev_ret _
theorem eval_no {den : Int} {l : List Pc} {x : Int} (h : ¬ (Vld den l ∧ 0 ≤ x ∧ x ≤ 1000000000000)) : Ev (fun k => piecewise_Eval.f k den l x) (0, 0, 1) := by
  obtain ⟨b, hb1, hb2⟩ := valid_ev den l
  have hj : Ev (fun k => piecewise_Eval.j0 k x true den l) (0, 0, 1) := by
    refine ev_up ?_
    simp only [piecewise_Eval.j0]
    exact ev_yes (by simp) (ev_ret _)
  unfold piecewise_Eval.f
  refine ev_bnd hb1 (ev_ite (fun e => ?_) (fun _ => hj))
  have hv := hb2.1 e
  have ea : piecewise_isArgument.f x = some false := by
    unfold piecewise_isArgument.f
    split
    · rw [decide_eq_false (fun h2 => h ⟨hv, by omega, h2⟩)]
    · rfl
  rw [ea]
  simp only [Option.bind_some]
  exact hj
theorem rpiece_loop {den : Int} {l : List Pc} (h : Vld den l) {x : Int} {q : Nat} (hq : At l x q) (d : Nat) : ∀ i : Nat, i + d = l.length → ∀ kk : Nat, kk = (min i (q + 1)) - 1 → Ev (fun k => wageofficeref05_Piece.l0 k x (kk : Int) (i : Int) den l) (q : Int) := by
  have hlt := hq.lt
  induction d with
  | zero =>
    intro i hi kk hk
    refine ev_up ?_
    simp only [wageofficeref05_Piece.l0]
    refine ev_no (by omega) (ev_eq (ev_ret _) ?_)
    omega
  | succ d ih =>
    intro i hi kk hk
    have hn := h.n2
    refine ev_up ?_
    simp only [wageofficeref05_Piece.l0]
    have e0 : (rd_T39 l (i : Int)).f0 = fr l i := rfl
    rw [e0, w64 (by omega) (by omega), show (i : Int) + 1 = ((i + 1 : Nat) : Int) from by omega]
    refine ev_yes (by omega) (ev_yes (by omega) (ev_ite (fun c => ?_) (fun c => ?_)))
    · have : i ≤ q := by
        rcases Nat.lt_or_ge q i with h1 | h1
        · have := hq.nx i h1 (by omega); omega
        · exact h1
      exact ih (i + 1) (by omega) i (by omega)
    · have : q < i := by
        rcases Nat.lt_or_ge q i with h1 | h1
        · exact h1
        · have := h.le h1 hq.lt; have := hq.le; omega
      exact ih (i + 1) (by omega) kk (by omega)
theorem rat_ev {den : Int} {l : List Pc} (h : Vld den l) {x : Int} {q : Nat} (hq : At l x q) (h0 : 0 ≤ x) (h1 : x ≤ 1000000000000) : Ev (fun k => wageofficeref05_At.f k den l x) (num l q x) := by
  unfold wageofficeref05_At.f wageofficeref05_Piece.f
  refine ev_bnd (rpiece_loop h hq l.length 0 (by omega) 0 (by omega)) ?_
  have hlt := hq.lt
  refine ev_yes (by omega) (ev_yes (by omega) ?_)
  rw [show wrap64 ((rd_T39 l (q : Int)).f1 + wrap64 ((rd_T39 l (q : Int)).f2 * wrap64 (x - (rd_T39 l (q : Int)).f0))) = num l q x from num_wrap h hq h0 h1]
  exact ev_ret _
theorem reval_ok {den : Int} {l : List Pc} (h : Vld den l) {x : Int} {q : Nat} (hq : At l x q) (h0 : 0 ≤ x) (h1 : x ≤ 1000000000000) : Ev (fun k => wageofficeref05_Eval.f k den l x) (num l q x, den, 0) := by
  obtain ⟨b, hb1, hb2⟩ := rvalid_ev den l
  obtain rfl := hb2.2 h
  unfold wageofficeref05_Eval.f
  exact ev_bnd hb1 (ev_yes (by simp) (ev_no (by omega) (ev_no (by omega) (ev_bnd (rat_ev h hq h0 h1) (ev_ret _)))))
theorem reval_no {den : Int} {l : List Pc} {x : Int} (h : ¬ (Vld den l ∧ 0 ≤ x ∧ x ≤ 1000000000000)) : Ev (fun k => wageofficeref05_Eval.f k den l x) (0, 0, 1) := by
  obtain ⟨b, hb1, hb2⟩ := rvalid_ev den l
  unfold wageofficeref05_Eval.f
  refine ev_bnd hb1 (ev_ite (fun e => ev_ite (fun _ => ev_ret _) (fun c1 => ev_ite (fun _ => ev_ret _) (fun c2 => ?_))) (fun _ => ev_ret _))
  exact absurd ⟨hb2.1 e, by omega, by omega⟩ h
/-! rounding down -/
theorem divide_eval {n d : Int} (hd : 0 < d) (h0 : -9223372036854775807 ≤ n) (h1 : n ≤ 9223372036854775807) (hd1 : d ≤ 1000000000000) : piecewise_divide.f n d = some (n / d, n % d) := by
  have m0 := Int.emod_nonneg n (show d ≠ 0 by omega)
  have m1 := Int.emod_lt_of_pos n hd
  have key := Int.mul_ediv_add_emod n d
  have hq : -9223372036854775807 ≤ n / d ∧ n / d ≤ 9223372036854775807 := by
    refine ⟨?_, ?_⟩
    · have : (-9223372036854775807 : Int) ≤ n / d := by
        rw [Int.le_ediv_iff_mul_le hd]
        have : (-9223372036854775807 : Int) * d ≤ -9223372036854775807 * 1 := by
          rw [Int.neg_mul, Int.neg_mul]
          have := Int.mul_le_mul_of_nonneg_left (show (1 : Int) ≤ d by omega) (show (0 : Int) ≤ 9223372036854775807 by omega)
          omega
        omega
      exact this
    · have : n / d < 9223372036854775807 + 1 := by
        rw [Int.ediv_lt_iff_lt_mul hd]
        have := Int.mul_le_mul_of_nonneg_left (show (1 : Int) ≤ d by omega) (show (0 : Int) ≤ 9223372036854775807 + 1 by omega)
        omega
      omega
  unfold piecewise_divide.f
  rw [if_neg (by omega), Int.tmod_eq_emod, Int.tdiv_eq_ediv]
  have hna : ((d.natAbs : Nat) : Int) = d := by omega
  by_cases c : 0 ≤ n ∨ d ∣ n
  · simp only [if_pos c]
    rw [if_neg (by omega), w64 (by omega) (by omega)]
    simp
  · simp only [if_neg c, hna, Int.sign_eq_one_of_pos hd]
    have hr : 0 < n % d := by
      rcases Int.lt_or_le 0 (n % d) with h | h
      · exact h
      · exact absurd (Int.dvd_of_emod_eq_zero (by omega)) (fun h => c (.inr h))
    have hn : n < 0 := by omega
    have hqn : n / d < 0 := Int.ediv_neg_of_neg_of_pos hn hd
    rw [if_pos (by omega), w64 (n := n / d + 1) (by omega) (by omega), w64 (by omega) (by omega), w64 (by omega) (by omega)]
    congr 2 <;> omega
def rdown (n d : Int) : Int × Int := if -1000000000000 ≤ n / d ∧ n / d ≤ 1000000000000 then (n / d, 0) else (0, 3)
theorem round_ok {den : Int} {l : List Pc} (h : Vld den l) {x : Int} {q : Nat} (hq : At l x q) (h0 : 0 ≤ x) (h1 : x ≤ 1000000000000) : Ev (fun k => piecewise_Round.f k den l x 0) (rdown (num l q x) den) := by
  have hb := (num_bd h hq h1).2
  have d1 := h.d1
  have d2 := h.d2
  unfold piecewise_Round.f
  refine ev_bnd (eval_ok h hq h0 h1) (ev_yes (by simp) (ev_no (by omega) ?_))
  refine ev_up ?_
  simp only [piecewise_Round.j0]
  refine ev_no (by simp) ?_
  rw [divide_eval (by omega) (by omega) (by omega) (by omega)]
  simp only [Option.bind_some]
  have fin : ∀ up : Bool, Ev (fun k => piecewise_Round.j1 k 0 (num l q x / den) up) (rdown (num l q x) den) := by
    intro up
    have h2 : Ev (fun k => piecewise_Round.j2 k (num l q x / den) false) (rdown (num l q x) den) := by
      refine ev_up ?_
      simp only [piecewise_Round.j2]
      refine ev_no (by simp) ?_
      rw [within_eval _ (by omega) (by omega)]
      simp only [Option.bind_some, decide_eq_true_eq]
      unfold rdown
      exact ev_ite (fun c => by rw [if_pos c]; exact ev_ret _) (fun c => by rw [if_neg c]; exact ev_ret _)
    refine ev_up ?_
    simp only [piecewise_Round.j1]
    exact ev_ite (fun _ => h2) (fun _ => h2)
  exact ev_ite (fun _ => ev_no (by omega) (ev_no (by omega) (fin _))) (fun _ => fin _)
theorem round_no {den : Int} {l : List Pc} {x m : Int} (h : ¬ (Vld den l ∧ 0 ≤ x ∧ x ≤ 1000000000000)) : Ev (fun k => piecewise_Round.f k den l x m) (0, 1) := by
  unfold piecewise_Round.f
  refine ev_bnd (eval_no h) (ev_no (by simp) ?_)
  refine ev_up ?_
  simp only [piecewise_Round.j0]
  exact ev_yes (by simp) (ev_ret _)
end Go.Proofs.Yteapeglolkfimaa.PwE
