-- Merged by a program of this session (wip/sh/merge.py) from texts of mine.
import Derived.Test.YtnadfkhllfgoiaaAid
import Derived.Test.YtnadfkhllfgoiaaMyx51
import Derived.Test.YtnadfkhllfgoiaaMyx62
import Derived.Test.YtnadfkhllfgoiaaMyx53
import Derived.Test.YtnadfkhllfgoiaaMyx68
import Derived.Test.YtnadfkhllfgoiaaMyx38
import Derived.Test.YtnadfkhllfgoiaaMyx41
import Derived.Test.YtnadfkhllfgoiaaMyx0
import Derived.Test.YtnadfkhllfgoiaaMyx31
import Derived.Test.YtnadfkhllfgoiaaMyx33
import Derived.Test.YtnadfkhllfgoiaaMyx36
import Derived.Test.YtnadfkhllfgoiaaMyx28
import Derived.Test.YtnadfkhllfgoiaaMyx27
import Derived.Test.YtnadfkhllfgoiaaKdX
import Derived.ChangeArms
import Derived.WideShapes
import Derived.Lib.SmallJoins
import Derived.Deep.Slices
import Derived.Test.YtnadfkhllfgoiaaMyx13
section
/- Plain lemmas on functions with a number of rounds: what they come to with enough rounds. -/

namespace Go.Proofs.Ytnadfkhllfgoiaa.EvA
open Go.RowKit Go.Proofs.YtnadfkhllfgoiaaW.PrintWords Go.Proofs.YtnadfkhllfgoiaaW.PrintLast Go.Proofs.YtnadfkhllfgoiaaW.PrintMore Go.Proofs.Ytnadfkhllfgoiaa.Aid
set_option linter.unusedVariables false
set_option linter.unusedSimpArgs false

theorem ev_ret {α : Type} (r : α) : Ev (fun _ => some r) r := ⟨0, fun _ _ => rfl⟩
theorem ev_lift {α : Type} {o : Option α} {r : α} (h : o = some r) : Ev (fun _ => o) r := ⟨0, fun _ _ => h⟩
theorem ev_bnd {α β : Type} {g : Nat → Option α} {a : α} {f : Nat → α → Option β} {r : β} (h : Ev g a) (h2 : Ev (fun k => f k a) r) : Ev (fun k => (g k).bind (f k)) r := by
  obtain ⟨K, hK⟩ := h
  obtain ⟨L, hL⟩ := h2
  refine ⟨K + L, fun k hk => ?_⟩
  show (g k).bind (f k) = some r
  rw [hK k (by omega)]
  exact hL k (by omega)
theorem ev_up {α : Type} {g : Nat → Option α} {r : α} (h : Ev (fun k => g (k + 1)) r) : Ev g r := by
  obtain ⟨K, hK⟩ := h
  refine ⟨K + 1, fun k hk => ?_⟩
  obtain ⟨m, rfl⟩ : ∃ m, k = m + 1 := ⟨k - 1, by omega⟩
  exact hK m (by omega)
theorem ev_yes {α : Type} {c : Prop} [Decidable c] {A B : Nat → Option α} {r : α} (hc : c) (h : Ev A r) : Ev (fun k => if c then A k else B k) r := by
  simp only [if_pos hc]; exact h
theorem ev_no {α : Type} {c : Prop} [Decidable c] {A B : Nat → Option α} {r : α} (hc : ¬ c) (h : Ev B r) : Ev (fun k => if c then A k else B k) r := by
  simp only [if_neg hc]; exact h
theorem ev_ite {α : Type} {c : Prop} [Decidable c] {A B : Nat → Option α} {r : α} (h1 : c → Ev A r) (h2 : ¬ c → Ev B r) : Ev (fun k => if c then A k else B k) r := by
  by_cases hc : c
  · exact ev_yes hc (h1 hc)
  · exact ev_no hc (h2 hc)
theorem ev_ex {α : Type} {g : Nat → Option α} {r : α} (h : Ev g r) : ∃ k, g k = some r := by
  obtain ⟨K, hK⟩ := h
  exact ⟨K, hK K (Nat.le_refl _)⟩
theorem ev_eq {α : Type} {g : Nat → Option α} {r r' : α} (h : Ev g r) (e : r = r') : Ev g r' := e ▸ h
theorem ev_fn {α : Type} {g g' : Nat → Option α} {r : α} (h : Ev g r) (e : ∀ k, g' k = g k) : Ev g' r := by
  obtain ⟨K, hK⟩ := h
  exact ⟨K, fun k hk => (e k).trans (hK k hk)⟩
theorem ev_unique {α : Type} {g : Nat → Option α} {r r' : α} (h : Ev g r) (h' : Ev g r') : r = r' := by
  obtain ⟨K, hK⟩ := h
  obtain ⟨L, hL⟩ := h'
  have a := hK (K + L) (by omega)
  have b := hL (K + L) (by omega)
  rw [a] at b; exact Option.some.inj b
theorem wf64 {x : Int} (h : (Lit.int .i64 x).wf = true) : -9223372036854775808 ≤ x ∧ x ≤ 9223372036854775807 := by
  simp only [Lit.wf, Bool.and_eq_true, decide_eq_true_eq] at h
  have h1 : IntKind.i64.min = -9223372036854775808 := by decide
  have h2 : IntKind.i64.max = 9223372036854775807 := by decide
  rw [h1, h2] at h
  exact h
end Go.Proofs.Ytnadfkhllfgoiaa.EvA
end
section
/- What the functions of piecewise come to on numbers and lists: validity, the piece of an argument, the value, rounding down. -/







namespace Go.Proofs.Ytnadfkhllfgoiaa.PwE
open Go.RowKit Go.Proofs.Ytnadfkhllfgoiaa.My Go.Proofs.Ytnadfkhllfgoiaa.Aid Go.Proofs.Ytnadfkhllfgoiaa.EvA Go.Proofs.YtnadfkhllfgoiaaW.PrintWords Go.Proofs.YtnadfkhllfgoiaaW.PrintLast Go.Proofs.YtnadfkhllfgoiaaW.PrintMore
set_option linter.unusedVariables false
set_option linter.unusedSimpArgs false

abbrev Pc := S75
def fr (l : List Pc) (i : Nat) : Int := (rd_T75 l i).f0
def at' (l : List Pc) (i : Nat) : Int := (rd_T75 l i).f1
def sp (l : List Pc) (i : Nat) : Int := (rd_T75 l i).f2
structure Good (l : List Pc) (i : Nat) : Prop where
  hi : fr l i ≤ 1000000000000
  sl : -1000000 ≤ sp l i ∧ sp l i ≤ 1000000
  a : -1000000000000000000 ≤ at' l i ∧ at' l i ≤ 1000000000000000000
structure Vld (den : Int) (l : List Pc) : Prop where
  d1 : 1 ≤ den
  d2 : den ≤ 1000000
  n1 : 1 ≤ l.length
  n2 : l.length ≤ 64
  z : fr l 0 = 0
  inc : ∀ i, i + 1 < l.length → fr l i < fr l (i + 1)
  good : ∀ i, i < l.length → Good l i
theorem within_eval (a : Int) {m : Int} (h0 : 0 ≤ m) (h1 : m ≤ 9223372036854775807) : piecewise_within.f a m = some (decide (-m ≤ a ∧ a ≤ m)) := by
  unfold piecewise_within.f
  rw [w64 (by omega) (by omega)]
  split
  · rename_i h
    congr 1
    rw [Bool.eq_iff_iff]; simp; omega
  · rw [decide_eq_false (by omega)]
theorem rwithin_eval (a : Int) {m : Int} (h0 : 0 ≤ m) (h1 : m ≤ 9223372036854775807) : wageofficeref05_within.f a m = some (decide (-m ≤ a ∧ a ≤ m)) := by
  unfold wageofficeref05_within.f
  rw [w64 (by omega) (by omega)]
  split
  · rename_i h
    congr 1
    rw [Bool.eq_iff_iff]; simp; omega
  · rw [decide_eq_false (by omega)]
def lastf (l : List Pc) (i : Nat) : Int := if i = 0 then -1 else fr l (i - 1)
theorem valid_loop (den : Int) (l : List Pc) (hd : 1 ≤ den ∧ den ≤ 1000000) (hn : 1 ≤ l.length ∧ l.length ≤ 64) (hz : fr l 0 = 0) (d : Nat) : ∀ i : Nat, i + d = l.length → (∀ j, j < i → Good l j) → (∀ j, j + 1 < i → fr l j < fr l (j + 1)) →
    ∃ b, Ev (fun k => piecewise_Valid.l0 k (lastf l i) l (l.length : Int) (i : Int)) b ∧ (b = true ↔ Vld den l) := by
  induction d with
  | zero =>
    intro i hi hg hinc
    obtain rfl : i = l.length := by omega
    refine ⟨true, ?_, by simp; exact ⟨hd.1, hd.2, hn.1, hn.2, hz, hinc, hg⟩⟩
    refine ev_up ?_
    simp only [piecewise_Valid.l0]
    exact ev_no (by omega) (ev_ret _)
  | succ d ih =>
    intro i hi hg hinc
    have hlt : i < l.length := by omega
    have hlast : Vld den l → lastf l i < fr l i := fun h => by
      unfold lastf
      split
      · rename_i e; subst e; rw [hz]; omega
      · have := h.inc (i - 1) (by omega)
        rw [show i - 1 + 1 = i from by omega] at this; exact this
    have e0 : (rd_T75 l (i : Int)).f0 = fr l i := rfl
    have e1 : (rd_T75 l (i : Int)).f1 = at' l i := rfl
    have e2 : (rd_T75 l (i : Int)).f2 = sp l i := rfl
    by_cases c1 : fr l i ≤ lastf l i
    · refine ⟨false, ?_, by simp; exact fun h => by have := hlast h; omega⟩
      refine ev_up ?_
      simp only [piecewise_Valid.l0, e0, e1, e2]
      exact ev_yes (by omega) (ev_yes (by omega) (ev_yes (by omega) (ev_yes c1 (ev_ret _))))
    · by_cases c2 : fr l i > 1000000000000
      · refine ⟨false, ?_, by simp; exact fun h => by have := (h.good i hlt).hi; omega⟩
        refine ev_up ?_
        simp only [piecewise_Valid.l0, e0, e1, e2]
        exact ev_yes (by omega) (ev_yes (by omega) (ev_yes (by omega) (ev_no c1 (ev_yes c2 (ev_ret _)))))
      · by_cases c3 : -1000000 ≤ sp l i ∧ sp l i ≤ 1000000
        · by_cases c4 : -1000000000000000000 ≤ at' l i ∧ at' l i ≤ 1000000000000000000
          · obtain ⟨b, hb1, hb2⟩ := ih (i + 1) (by omega) (fun j hj => by
              by_cases e : j = i
              · subst e; exact ⟨by omega, c3, c4⟩
              · exact hg j (by omega)) (fun j hj => by
              by_cases e : j + 1 = i
              · subst e
                unfold lastf at c1
                rw [if_neg (by omega)] at c1
                simpa using c1
              · exact hinc j (by omega))
            refine ⟨b, ?_, hb2⟩
            refine ev_up ?_
            simp only [piecewise_Valid.l0, e0, e1, e2]
            refine ev_yes (by omega) (ev_yes (by omega) (ev_yes (by omega) (ev_no c1 (ev_no c2 ?_))))
            rw [within_eval _ (by omega) (by omega), within_eval _ (by omega) (by omega), decide_eq_true c3, decide_eq_true c4]
            simp only [Option.bind_some]
            refine ev_yes (by simp) (ev_yes (by simp) ?_)
            rw [w64 (by omega) (by omega), show (i : Int) + 1 = ((i + 1 : Nat) : Int) from by omega]
            have e : lastf l (i + 1) = fr l i := by unfold lastf; rw [if_neg (by omega)]; rfl
            rw [e] at hb1
            exact hb1
          · refine ⟨false, ?_, by simp; exact fun h => c4 (h.good i hlt).a⟩
            refine ev_up ?_
            simp only [piecewise_Valid.l0, e0, e1, e2]
            refine ev_yes (by omega) (ev_yes (by omega) (ev_yes (by omega) (ev_no c1 (ev_no c2 ?_))))
            rw [within_eval _ (by omega) (by omega), within_eval _ (by omega) (by omega), decide_eq_true c3, decide_eq_false c4]
            simp only [Option.bind_some]
            exact ev_yes (by simp) (ev_no (by simp) (ev_ret _))
        · refine ⟨false, ?_, by simp; exact fun h => c3 (h.good i hlt).sl⟩
          refine ev_up ?_
          simp only [piecewise_Valid.l0, e0, e1, e2]
          refine ev_yes (by omega) (ev_yes (by omega) (ev_yes (by omega) (ev_no c1 (ev_no c2 ?_))))
          rw [within_eval _ (by omega) (by omega), decide_eq_false c3]
          simp only [Option.bind_some]
          exact ev_no (by simp) (ev_ret _)
theorem valid_ev (den : Int) (l : List Pc) : ∃ b, Ev (fun k => piecewise_Valid.f k den l) b ∧ (b = true ↔ Vld den l) := by
  have hj : ∀ {P : Prop}, ¬ P → ∃ b, Ev (fun k => piecewise_Valid.j0 k true den l) b ∧ (b = true ↔ P) := fun hP => by
    refine ⟨false, ?_, by simp; exact hP⟩
    refine ev_up ?_
    simp only [piecewise_Valid.j0]
    exact ev_yes (by simp) (ev_ret _)
  unfold piecewise_Valid.f
  by_cases c1 : den < 1
  · simp only [if_pos c1]; exact hj fun h => by have := h.d1; omega
  · by_cases c2 : den > 1000000
    · simp only [if_neg c1, if_pos c2]; exact hj fun h => by have := h.d2; omega
    · by_cases c3 : (l.length : Int) < 1
      · simp only [if_neg c1, if_neg c2, if_pos c3]; exact hj fun h => by have := h.n1; omega
      · by_cases c4 : (l.length : Int) > 64
        · simp only [if_neg c1, if_neg c2, if_neg c3, if_pos c4]; exact hj fun h => by have := h.n2; omega
        · have c5 : 0 < (l.length : Int) := by omega
          simp only [if_neg c1, if_neg c2, if_neg c3, if_neg c4, if_pos c5]
          have e0 : (rd_T75 l 0).f0 = fr l 0 := rfl
          by_cases c6 : fr l 0 = 0
          · obtain ⟨b, hb1, hb2⟩ := valid_loop den l (by omega) (by omega) c6 l.length 0 (by omega) (fun j hj => by omega) (fun j hj => by omega)
            refine ⟨b, ?_, hb2⟩
            refine ev_up ?_
            simp only [piecewise_Valid.j0, e0]
            exact ev_no (by simp [c6]) hb1
          · refine ⟨false, ?_, by simp; exact fun h => c6 h.z⟩
            refine ev_up ?_
            simp only [piecewise_Valid.j0, e0]
            exact ev_yes (by simpa using c6) (ev_ret _)
theorem rvalid_loop (den : Int) (l : List Pc) (hd : 1 ≤ den ∧ den ≤ 1000000) (hn : 1 ≤ l.length ∧ l.length ≤ 64) (d : Nat) : ∀ i : Nat, i + d = l.length → (0 < i → fr l 0 = 0) → (∀ j, j < i → Good l j) → (∀ j, j + 1 < i → fr l j < fr l (j + 1)) →
    ∃ b, Ev (fun k => wageofficeref05_Valid.l0 k (i : Int) den l) b ∧ (b = true ↔ Vld den l) := by
  induction d with
  | zero =>
    intro i hi hz hg hinc
    obtain rfl : i = l.length := by omega
    refine ⟨true, ?_, by simp; exact ⟨hd.1, hd.2, hn.1, hn.2, hz (by omega), hinc, hg⟩⟩
    refine ev_up ?_
    simp only [wageofficeref05_Valid.l0]
    exact ev_no (by omega) (ev_ret _)
  | succ d ih =>
    intro i hi hz hg hinc
    have hlt : i < l.length := by omega
    have e0 : (rd_T75 l (i : Int)).f0 = fr l i := rfl
    have e1 : (rd_T75 l (i : Int)).f1 = at' l i := rfl
    have e2 : (rd_T75 l (i : Int)).f2 = sp l i := rfl
    by_cases c3 : -1000000 ≤ sp l i ∧ sp l i ≤ 1000000
    · by_cases c4 : -1000000000000000000 ≤ at' l i ∧ at' l i ≤ 1000000000000000000
      · by_cases c2 : fr l i > 1000000000000
        · refine ⟨false, ?_, by simp; exact fun h => by have := (h.good i hlt).hi; omega⟩
          refine ev_up ?_
          simp only [wageofficeref05_Valid.l0, e0, e1, e2]
          refine ev_yes (by omega) (ev_yes (by omega) ?_)
          rw [rwithin_eval _ (by omega) (by omega), rwithin_eval _ (by omega) (by omega), decide_eq_true c3, decide_eq_true c4]
          simp only [Option.bind_some]
          exact ev_yes (by simp) (ev_yes (by simp) (ev_yes c2 (ev_ret _)))
        · by_cases ci : i = 0
          · subst ci
            by_cases c0 : fr l 0 = 0
            · obtain ⟨b, hb1, hb2⟩ := ih 1 (by omega) (fun _ => c0) (fun j hj => by
                obtain rfl : j = 0 := by omega
                exact ⟨by omega, c3, c4⟩) (fun j hj => by omega)
              refine ⟨b, ?_, hb2⟩
              refine ev_up ?_
              simp only [wageofficeref05_Valid.l0, e0, e1, e2]
              refine ev_yes (by omega) (ev_yes (by omega) ?_)
              rw [rwithin_eval _ (by omega) (by omega), rwithin_eval _ (by omega) (by omega), decide_eq_true c3, decide_eq_true c4]
              simp only [Option.bind_some]
              refine ev_yes (by simp) (ev_yes (by simp) (ev_no c2 (ev_yes (by simp) (ev_yes c0 (ev_no (by simp) ?_)))))
              rw [w64 (by omega) (by omega)]
              exact hb1
            · refine ⟨false, ?_, by simp; exact fun h => c0 h.z⟩
              refine ev_up ?_
              simp only [wageofficeref05_Valid.l0, e0, e1, e2]
              refine ev_yes (by omega) (ev_yes (by omega) ?_)
              rw [rwithin_eval _ (by omega) (by omega), rwithin_eval _ (by omega) (by omega), decide_eq_true c3, decide_eq_true c4]
              simp only [Option.bind_some]
              exact ev_yes (by simp) (ev_yes (by simp) (ev_no c2 (ev_yes (by simp) (ev_no c0 (ev_ret _)))))
          · have ew : wrap64 ((i : Int) - 1) = ((i - 1 : Nat) : Int) := by rw [w64 (by omega) (by omega)]; omega
            have e3 : (rd_T75 l ((i - 1 : Nat) : Int)).f0 = fr l (i - 1) := rfl
            by_cases c1 : fr l i ≤ fr l (i - 1)
            · refine ⟨false, ?_, by simp; exact fun h => by have := h.inc (i - 1) (by omega); rw [show i - 1 + 1 = i from by omega] at this; omega⟩
              refine ev_up ?_
              simp only [wageofficeref05_Valid.l0, ew, e0, e1, e2, e3]
              refine ev_yes (by omega) (ev_yes (by omega) ?_)
              rw [rwithin_eval _ (by omega) (by omega), rwithin_eval _ (by omega) (by omega), decide_eq_true c3, decide_eq_true c4]
              simp only [Option.bind_some]
              exact ev_yes (by simp) (ev_yes (by simp) (ev_no c2 (ev_no (by omega) (ev_yes (by omega) (ev_yes (by omega) (ev_yes (by omega) (ev_yes c1 (ev_ret _))))))))
            · obtain ⟨b, hb1, hb2⟩ := ih (i + 1) (by omega) (fun _ => hz (by omega)) (fun j hj => by
                by_cases e : j = i
                · subst e; exact ⟨by omega, c3, c4⟩
                · exact hg j (by omega)) (fun j hj => by
                by_cases e : j + 1 = i
                · subst e; simpa using c1
                · exact hinc j (by omega))
              refine ⟨b, ?_, hb2⟩
              refine ev_up ?_
              simp only [wageofficeref05_Valid.l0, ew, e0, e1, e2, e3]
              refine ev_yes (by omega) (ev_yes (by omega) ?_)
              rw [rwithin_eval _ (by omega) (by omega), rwithin_eval _ (by omega) (by omega), decide_eq_true c3, decide_eq_true c4]
              simp only [Option.bind_some]
              refine ev_yes (by simp) (ev_yes (by simp) (ev_no c2 (ev_no (by omega) (ev_yes (by omega) (ev_yes (by omega) (ev_yes (by omega) (ev_no c1 ?_)))))))
              rw [w64 (by omega) (by omega), show (i : Int) + 1 = ((i + 1 : Nat) : Int) from by omega]
              exact hb1
      · refine ⟨false, ?_, by simp; exact fun h => c4 (h.good i hlt).a⟩
        refine ev_up ?_
        simp only [wageofficeref05_Valid.l0, e0, e1, e2]
        refine ev_yes (by omega) (ev_yes (by omega) ?_)
        rw [rwithin_eval _ (by omega) (by omega), rwithin_eval _ (by omega) (by omega), decide_eq_true c3, decide_eq_false c4]
        simp only [Option.bind_some]
        exact ev_yes (by simp) (ev_no (by simp) (ev_ret _))
    · refine ⟨false, ?_, by simp; exact fun h => c3 (h.good i hlt).sl⟩
      refine ev_up ?_
      simp only [wageofficeref05_Valid.l0, e0, e1, e2]
      refine ev_yes (by omega) (ev_yes (by omega) ?_)
      rw [rwithin_eval _ (by omega) (by omega), rwithin_eval _ (by omega) (by omega), decide_eq_false c3]
      simp only [Option.bind_some]
      exact ev_no (by simp) (ev_ret _)
theorem rvalid_ev (den : Int) (l : List Pc) : ∃ b, Ev (fun k => wageofficeref05_Valid.f k den l) b ∧ (b = true ↔ Vld den l) := by
  have hj : ∀ {P : Prop}, ¬ P → ∃ b, Ev (fun k => wageofficeref05_Valid.j0 k true den l) b ∧ (b = true ↔ P) := fun hP => by
    refine ⟨false, ?_, by simp; exact hP⟩
    refine ev_up ?_
    simp only [wageofficeref05_Valid.j0]
    exact ev_yes (by simp) (ev_ret _)
  unfold wageofficeref05_Valid.f
  by_cases c1 : den < 1
  · simp only [if_pos c1]; exact hj fun h => by have := h.d1; omega
  · by_cases c2 : den > 1000000
    · simp only [if_neg c1, if_pos c2]; exact hj fun h => by have := h.d2; omega
    · by_cases c3 : (l.length : Int) < 1
      · simp only [if_neg c1, if_neg c2, if_pos c3]; exact hj fun h => by have := h.n1; omega
      · simp only [if_neg c1, if_neg c2, if_neg c3]
        by_cases c4 : (l.length : Int) > 64
        · rw [decide_eq_true c4]; exact hj fun h => by have := h.n2; omega
        · rw [decide_eq_false c4]
          obtain ⟨b, hb1, hb2⟩ := rvalid_loop den l (by omega) (by omega) l.length 0 (by omega) (fun h => by omega) (fun j hj => by omega) (fun j hj => by omega)
          refine ⟨b, ?_, hb2⟩
          refine ev_up ?_
          simp only [wageofficeref05_Valid.j0]
          exact ev_no (by simp) hb1

/-! the piece of an argument -/
theorem Vld.mono {den : Int} {l : List Pc} (h : Vld den l) : ∀ (d i : Nat), i + d < l.length → fr l i ≤ fr l (i + d) := by
  intro d
  induction d with
  | zero => intro i _; exact Int.le_refl _
  | succ d ih =>
    intro i hi
    have h1 := ih i (by omega)
    have h2 := h.inc (i + d) (by omega)
    rw [show i + (d + 1) = i + d + 1 from by omega]; omega
theorem Vld.le {den : Int} {l : List Pc} (h : Vld den l) {i j : Nat} (hij : i ≤ j) (hj : j < l.length) : fr l i ≤ fr l j := by
  have := h.mono (j - i) i (by omega)
  rwa [show i + (j - i) = j from by omega] at this
theorem Vld.lt {den : Int} {l : List Pc} (h : Vld den l) {i j : Nat} (hij : i < j) (hj : j < l.length) : fr l i < fr l j := by
  have h1 := h.inc i (by omega)
  have h2 := h.le (i := i + 1) (j := j) (by omega) hj
  omega
theorem Vld.fr0 {den : Int} {l : List Pc} (h : Vld den l) {i : Nat} (hi : i < l.length) : 0 ≤ fr l i := by
  have := h.le (Nat.zero_le i) hi
  rw [h.z] at this; exact this
structure At (l : List Pc) (x : Int) (q : Nat) : Prop where
  lt : q < l.length
  le : fr l q ≤ x
  nx : ∀ j, q < j → j < l.length → x < fr l j
theorem At.unique {l : List Pc} {x : Int} {p q : Nat} (hp : At l x p) (hq : At l x q) : p = q := by
  rcases Nat.lt_trichotomy p q with h | h | h
  · have := hp.nx q h hq.lt; have := hq.le; omega
  · exact h
  · have := hq.nx p h hp.lt; have := hp.le; omega
theorem frm_fr (l : List Pc) (i : Nat) : frm l (i : Int) = fr l i := rfl
theorem bsk_at {den : Int} {l : List Pc} (h : Vld den l) {x : Int} (h0 : 0 ≤ x) : ∃ q : Nat, bsk l x = ((q + 1 : Nat) : Int) ∧ At l x q := by
  have hb := bs_spec (fun i => decide (x < frm l i)) (l.length : Int) 64 0 (l.length : Int) (by omega) (by omega) (by omega) (by have := h.n2; omega) (fun h => by omega) (fun h => by omega)
  change 0 ≤ bsk l x ∧ bsk l x ≤ _ ∧ (0 < bsk l x → _) ∧ (bsk l x < _ → _) at hb
  obtain ⟨b1, b2, b3, b4⟩ := hb
  obtain ⟨m, hm⟩ := Int.eq_ofNat_of_zero_le b1
  have b4 : bsk l x < (l.length : Int) → decide (x < frm l (bsk l x)) = true := b4
  have b3 : 0 < bsk l x → decide (x < frm l (bsk l x - 1)) = false := b3
  rw [hm] at b2 b3 b4 ⊢
  have hn1 := h.n1
  have hm0 : m ≠ 0 := by
    rintro rfl
    have := b4 (by omega)
    rw [frm_fr, h.z] at this
    simp at this; omega
  refine ⟨m - 1, by omega, by omega, ?_, fun j hj hjl => ?_⟩
  · have := b3 (by omega)
    rw [show (m : Int) - 1 = ((m - 1 : Nat) : Int) from by omega, frm_fr] at this
    simpa using this
  · have := b4 (by omega)
    rw [frm_fr] at this
    have h2 := h.le (i := m) (j := j) (by omega) hjl
    simp at this; omega
theorem at_ex {den : Int} {l : List Pc} (h : Vld den l) {x : Int} (h0 : 0 ≤ x) : ∃ q, At l x q := by
  obtain ⟨q, _, hq⟩ := bsk_at h h0
  exact ⟨q, hq⟩
def num (l : List Pc) (q : Nat) (x : Int) : Int := at' l q + sp l q * (x - fr l q)
theorem mul_bd {s d S D : Int} (h0 : -S ≤ s) (h1 : s ≤ S) (h2 : 0 ≤ d) (h3 : d ≤ D) (hS : 0 ≤ S) : -(S * D) ≤ s * d ∧ s * d ≤ S * D := by
  have a1 : s * d ≤ S * d := Int.mul_le_mul_of_nonneg_right h1 h2
  have a2 : S * d ≤ S * D := Int.mul_le_mul_of_nonneg_left h3 hS
  have a3 : -S * d ≤ s * d := Int.mul_le_mul_of_nonneg_right h0 h2
  rw [Int.neg_mul] at a3
  omega
theorem num_bd {den : Int} {l : List Pc} (h : Vld den l) {x : Int} {q : Nat} (hq : At l x q) (h1 : x ≤ 1000000000000) :
    (-1000000000000000000 ≤ sp l q * (x - fr l q) ∧ sp l q * (x - fr l q) ≤ 1000000000000000000) ∧ -2000000000000000000 ≤ num l q x ∧ num l q x ≤ 2000000000000000000 := by
  have g := h.good q hq.lt
  have f0 := h.fr0 hq.lt
  have := mul_bd g.sl.1 g.sl.2 (d := x - fr l q) (D := 1000000000000) (by have := hq.le; omega) (by omega) (by omega)
  have ga := g.a
  unfold num
  omega
theorem num_wrap {den : Int} {l : List Pc} (h : Vld den l) {x : Int} {q : Nat} (hq : At l x q) (h0 : 0 ≤ x) (h1 : x ≤ 1000000000000) : wrap64 (at' l q + wrap64 (sp l q * wrap64 (x - fr l q))) = num l q x := by
  have hb := num_bd h hq h1
  have f0 := h.fr0 hq.lt
  have f1 := (h.good q hq.lt).hi
  unfold num at hb ⊢
  rw [w64 (n := x - fr l q) (by omega) (by omega), w64 (n := sp l q * (x - fr l q)) (by omega) (by omega), w64 (by omega) (by omega)]
theorem eval_ok {den : Int} {l : List Pc} (h : Vld den l) {x : Int} {q : Nat} (hq : At l x q) (h0 : 0 ≤ x) (h1 : x ≤ 1000000000000) : Ev (fun k => piecewise_Eval.f k den l x) (num l q x, den, 0) := by
  obtain ⟨b, hb1, hb2⟩ := valid_ev den l
  obtain rfl := hb2.2 h
  unfold piecewise_Eval.f
  refine ev_bnd hb1 (ev_yes (by simp) ?_)
  have ea : piecewise_isArgument.f x = some true := by unfold piecewise_isArgument.f; rw [if_pos (by omega), decide_eq_true h1]
  rw [ea]
  simp only [Option.bind_some]
  refine ev_up ?_
  simp only [piecewise_Eval.j0]
  refine ev_no (by simp) ?_
  obtain ⟨q', hq1, hq2⟩ := bsk_at h h0
  obtain rfl := hq2.unique hq
  have eb : piecewise_belongs.f den l x = some (fr l q', at' l q', sp l q') := by
    unfold piecewise_belongs.f
    rw [if_pos (by have := h.n2; omega), if_pos (by omega), hq1, show ((q' + 1 : Nat) : Int) - 1 = (q' : Int) from by omega]
    rfl
  rw [eb]
  simp only [Option.bind_some, piecewise_numerator.f]
  rw [num_wrap h hq h0 h1]
  exact ev_ret _
theorem eval_no {den : Int} {l : List Pc} {x : Int} (h : ¬ (Vld den l ∧ 0 ≤ x ∧ x ≤ 1000000000000)) : Ev (fun k => piecewise_Eval.f k den l x) (0, 0, 1) := by
  obtain ⟨b, hb1, hb2⟩ := valid_ev den l
  have hj : Ev (fun k => piecewise_Eval.j0 k x true den l) (0, 0, 1) := by
    refine ev_up ?_
    simp only [piecewise_Eval.j0]
    exact ev_yes (by simp) (ev_ret _)
  unfold piecewise_Eval.f
  refine ev_bnd hb1 (ev_ite (fun e => ?_) (fun _ => hj))
  have hv := hb2.1 e
  have ea : piecewise_isArgument.f x = some false := by
    unfold piecewise_isArgument.f
    split
    · rw [decide_eq_false (fun h2 => h ⟨hv, by omega, h2⟩)]
    · rfl
  rw [ea]
  simp only [Option.bind_some]
  exact hj
theorem rpiece_loop {den : Int} {l : List Pc} (h : Vld den l) {x : Int} {q : Nat} (hq : At l x q) (d : Nat) : ∀ i : Nat, i + d = l.length → ∀ kk : Nat, kk = (min i (q + 1)) - 1 → Ev (fun k => wageofficeref05_Piece.l0 k x (kk : Int) (i : Int) den l) (q : Int) := by
  have hlt := hq.lt
  induction d with
  | zero =>
    intro i hi kk hk
    refine ev_up ?_
    simp only [wageofficeref05_Piece.l0]
    refine ev_no (by omega) (ev_eq (ev_ret _) ?_)
    omega
  | succ d ih =>
    intro i hi kk hk
    have hn := h.n2
    refine ev_up ?_
    simp only [wageofficeref05_Piece.l0]
    have e0 : (rd_T75 l (i : Int)).f0 = fr l i := rfl
    rw [e0, w64 (by omega) (by omega), show (i : Int) + 1 = ((i + 1 : Nat) : Int) from by omega]
    refine ev_yes (by omega) (ev_yes (by omega) (ev_ite (fun c => ?_) (fun c => ?_)))
    · have : i ≤ q := by
        rcases Nat.lt_or_ge q i with h1 | h1
        · have := hq.nx i h1 (by omega); omega
        · exact h1
      exact ih (i + 1) (by omega) i (by omega)
    · have : q < i := by
        rcases Nat.lt_or_ge q i with h1 | h1
        · exact h1
        · have := h.le h1 hq.lt; have := hq.le; omega
      exact ih (i + 1) (by omega) kk (by omega)
theorem rat_ev {den : Int} {l : List Pc} (h : Vld den l) {x : Int} {q : Nat} (hq : At l x q) (h0 : 0 ≤ x) (h1 : x ≤ 1000000000000) : Ev (fun k => wageofficeref05_At.f k den l x) (num l q x) := by
  unfold wageofficeref05_At.f wageofficeref05_Piece.f
  refine ev_bnd (rpiece_loop h hq l.length 0 (by omega) 0 (by omega)) ?_
  have hlt := hq.lt
  refine ev_yes (by omega) (ev_yes (by omega) ?_)
  rw [show wrap64 ((rd_T75 l (q : Int)).f1 + wrap64 ((rd_T75 l (q : Int)).f2 * wrap64 (x - (rd_T75 l (q : Int)).f0))) = num l q x from num_wrap h hq h0 h1]
  exact ev_ret _
theorem reval_ok {den : Int} {l : List Pc} (h : Vld den l) {x : Int} {q : Nat} (hq : At l x q) (h0 : 0 ≤ x) (h1 : x ≤ 1000000000000) : Ev (fun k => wageofficeref05_Eval.f k den l x) (num l q x, den, 0) := by
  obtain ⟨b, hb1, hb2⟩ := rvalid_ev den l
  obtain rfl := hb2.2 h
  unfold wageofficeref05_Eval.f
  exact ev_bnd hb1 (ev_yes (by simp) (ev_no (by omega) (ev_no (by omega) (ev_bnd (rat_ev h hq h0 h1) (ev_ret _)))))
theorem reval_no {den : Int} {l : List Pc} {x : Int} (h : ¬ (Vld den l ∧ 0 ≤ x ∧ x ≤ 1000000000000)) : Ev (fun k => wageofficeref05_Eval.f k den l x) (0, 0, 1) := by
  obtain ⟨b, hb1, hb2⟩ := rvalid_ev den l
  unfold wageofficeref05_Eval.f
  refine ev_bnd hb1 (ev_ite (fun e => ev_ite (fun _ => ev_ret _) (fun c1 => ev_ite (fun _ => ev_ret _) (fun c2 => ?_))) (fun _ => ev_ret _))
  exact absurd ⟨hb2.1 e, by omega, by omega⟩ h
/-! rounding down -/
theorem divide_eval {n d : Int} (hd : 0 < d) (h0 : -9223372036854775807 ≤ n) (h1 : n ≤ 9223372036854775807) (hd1 : d ≤ 1000000000000) : piecewise_divide.f n d = some (n / d, n % d) := by
  have m0 := Int.emod_nonneg n (show d ≠ 0 by omega)
  have m1 := Int.emod_lt_of_pos n hd
  have key := Int.mul_ediv_add_emod n d
  have hq : -9223372036854775807 ≤ n / d ∧ n / d ≤ 9223372036854775807 := by
    refine ⟨?_, ?_⟩
    · have : (-9223372036854775807 : Int) ≤ n / d := by
        rw [Int.le_ediv_iff_mul_le hd]
        have : (-9223372036854775807 : Int) * d ≤ -9223372036854775807 * 1 := by
          rw [Int.neg_mul, Int.neg_mul]
          have := Int.mul_le_mul_of_nonneg_left (show (1 : Int) ≤ d by omega) (show (0 : Int) ≤ 9223372036854775807 by omega)
          omega
        omega
      exact this
    · have : n / d < 9223372036854775807 + 1 := by
        rw [Int.ediv_lt_iff_lt_mul hd]
        have := Int.mul_le_mul_of_nonneg_left (show (1 : Int) ≤ d by omega) (show (0 : Int) ≤ 9223372036854775807 + 1 by omega)
        omega
      omega
  unfold piecewise_divide.f
  rw [if_neg (by omega), Int.tmod_eq_emod, Int.tdiv_eq_ediv]
  have hna : ((d.natAbs : Nat) : Int) = d := by omega
  by_cases c : 0 ≤ n ∨ d ∣ n
  · simp only [if_pos c]
    rw [if_neg (by omega), w64 (by omega) (by omega)]
    simp
  · simp only [if_neg c, hna, Int.sign_eq_one_of_pos hd]
    have hr : 0 < n % d := by
      rcases Int.lt_or_le 0 (n % d) with h | h
      · exact h
      · exact absurd (Int.dvd_of_emod_eq_zero (by omega)) (fun h => c (.inr h))
    have hn : n < 0 := by omega
    have hqn : n / d < 0 := Int.ediv_neg_of_neg_of_pos hn hd
    rw [if_pos (by omega), w64 (n := n / d + 1) (by omega) (by omega), w64 (by omega) (by omega), w64 (by omega) (by omega)]
    congr 2 <;> omega
def rdown (n d : Int) : Int × Int := if -1000000000000 ≤ n / d ∧ n / d ≤ 1000000000000 then (n / d, 0) else (0, 3)
theorem round_ok {den : Int} {l : List Pc} (h : Vld den l) {x : Int} {q : Nat} (hq : At l x q) (h0 : 0 ≤ x) (h1 : x ≤ 1000000000000) : Ev (fun k => piecewise_Round.f k den l x 0) (rdown (num l q x) den) := by
  have hb := (num_bd h hq h1).2
  have d1 := h.d1
  have d2 := h.d2
  unfold piecewise_Round.f
  refine ev_bnd (eval_ok h hq h0 h1) (ev_yes (by simp) (ev_no (by omega) ?_))
  refine ev_up ?_
  simp only [piecewise_Round.j0]
  refine ev_no (by simp) ?_
  rw [divide_eval (by omega) (by omega) (by omega) (by omega)]
  simp only [Option.bind_some]
  have fin : ∀ up : Bool, Ev (fun k => piecewise_Round.j1 k 0 (num l q x / den) up) (rdown (num l q x) den) := by
    intro up
    have h2 : Ev (fun k => piecewise_Round.j2 k (num l q x / den) false) (rdown (num l q x) den) := by
      refine ev_up ?_
      simp only [piecewise_Round.j2]
      refine ev_no (by simp) ?_
      rw [within_eval _ (by omega) (by omega)]
      simp only [Option.bind_some, decide_eq_true_eq]
      unfold rdown
      exact ev_ite (fun c => by rw [if_pos c]; exact ev_ret _) (fun c => by rw [if_neg c]; exact ev_ret _)
    refine ev_up ?_
    simp only [piecewise_Round.j1]
    exact ev_ite (fun _ => h2) (fun _ => h2)
  exact ev_ite (fun _ => ev_no (by omega) (ev_no (by omega) (fin _))) (fun _ => fin _)
theorem round_no {den : Int} {l : List Pc} {x m : Int} (h : ¬ (Vld den l ∧ 0 ≤ x ∧ x ≤ 1000000000000)) : Ev (fun k => piecewise_Round.f k den l x m) (0, 1) := by
  unfold piecewise_Round.f
  refine ev_bnd (eval_no h) (ev_no (by simp) ?_)
  refine ev_up ?_
  simp only [piecewise_Round.j0]
  exact ev_yes (by simp) (ev_ret _)
end Go.Proofs.Ytnadfkhllfgoiaa.PwE
end
section
-- Written by a program of this session (wip/myprint.py), which drives the kit's print over hand-written fragments. Not trusted: Lean checks it.

namespace Go.Proofs.Ytnadfkhllfgoiaa.My
open Go.Proofs.Ytnadfkhllfgoiaa.Aid Go.Proofs.Ytnadfkhllfgoiaa.KdX
open Go.RowKit Go.Proofs.YtnadfkhllfgoiaaW.PrintWords Go.Proofs.YtnadfkhllfgoiaaW.PrintLast Go.Proofs.YtnadfkhllfgoiaaW.PrintMore
attribute [local go_sem] max2_int min2_int max_two min_two max_three min_three max_four min_four   -- for this text's walks alone
set_option linter.unusedVariables false
set_option linter.unusedSimpArgs false

/-! ### wageofficelaw28_total: function 37 -/
def wageofficelaw28_total.l0 : Nat → Int → List Int → Int → Int → Option (Int)
  | 0, _, _, _, _ => none
  | k + 1, x3, x6, x7, x8 => if x8 < x7 then (if 0 ≤ x8 then (if x8 < (x6.length : Int) then (wageofficelaw28_total.l0 k (wrap64 (x3 + (rd x6 x8))) x6 x7 (wrap64 (x8 + 1))) else (none)) else (none)) else (some x3)
def wageofficelaw28_total.f (k : Nat) (l0 : List Int) : Option (Int) := wageofficelaw28_total.l0 k 0 l0 (l0.length : Int) 0
theorem wageofficelaw28_total.mono_l : ∀ k, (∀ y0 y1 y2 y3, LeO (wageofficelaw28_total.l0 k y0 y1 y2 y3) (wageofficelaw28_total.l0 (k + 1) y0 y1 y2 y3))
  | 0 => fun _ _ _ _ r h => by simp [wageofficelaw28_total.l0] at h
  | k + 1 => by
    have ih0 := wageofficelaw28_total.mono_l k
    · intro y0 y1 y2 y3
      unfold wageofficelaw28_total.l0
      repeat' first
      | (with_reducible exact ih0 _ _ _ _)
      | (with_reducible exact LeO.refl _)
      | (with_reducible exact LeO.none _)
      | (with_reducible refine LeO.ite ?_ ?_)
      | (with_reducible refine LeO.bind ?_ (fun _ => ?_))
      | exact ih0 _ _ _ _
      | exact LeO.none _
      | refine LeO.ite ?_ ?_
      | refine LeO.bind ?_ (fun _ => ?_)
theorem wageofficelaw28_total.mono : ∀ a0 k, LeO (wageofficelaw28_total.f k a0) (wageofficelaw28_total.f (k + 1) a0) := by
  intro a0 k
  have ih0 := wageofficelaw28_total.mono_l k
  unfold wageofficelaw28_total.f
  repeat' first
      | (with_reducible exact ih0 _ _ _ _)
      | (with_reducible exact LeO.refl _)
      | (with_reducible exact LeO.none _)
      | (with_reducible refine LeO.ite ?_ ?_)
      | (with_reducible refine LeO.bind ?_ (fun _ => ?_))
      | exact ih0 _ _ _ _
      | exact LeO.none _
      | refine LeO.ite ?_ ?_
      | refine LeO.bind ?_ (fun _ => ?_)
set_option maxHeartbeats 8000000 in
set_option maxRecDepth 100000 in
theorem wageofficelaw28_total.calls (k : Nat) (A0 : Option Addr) (c0 : Nat) (l0 : List Int) (r : Int) (w : World) (hr0 : Kd.C (Kd.int .i64) w A0 l0.length l0) (hc0 : l0.length ≤ c0) (h : wageofficelaw28_total.f k l0 = some r) :
    Calls Try.prog 37 #[.slice A0 l0.length c0] w fun e w' => e = .returned (.int .i64 r) ∧ Drawn0 w w' := by
  have HR0 := Aside0.mk hr0
  have HC0 := Aside0.mk hc0
  clear hr0 hc0
  have H : (wageofficelaw28_total.l0 k 0 l0 (l0.length : Int) 0) = some r := h
  clear h
  have H' := Aside0.mk H
  clear H
  go_enter Try.func37, Try.ntmps37
  go_wp2
  go_loopg [3, 8] k (fun kq v3 v8 w' => ∃ (x3_1 : Int) (x8_1 : Int), v3 = .int .i64 x3_1 ∧ v8 = .int .i64 x8_1 ∧ Aside0 (wageofficelaw28_total.l0 kq x3_1 l0 (l0.length : Int) x8_1 = some r) ∧ Aside0 (kq ≤ k) ∧ Drawn0 w w')
  case atStart => exact ⟨(0), (0), (by first | rfl | (simp; done) | (simp [*]; done)), (by first | rfl | (simp; done) | (simp [*]; done)), H', ⟨Nat.le_refl _⟩, by repeat (first | exact Drawn0.refl _ | apply Drawn0.step)⟩
  case round =>
    clear H'
    obtain ⟨x3_1, x8_1, rfl, rfl, HA, HK1, ⟨m1, rfl⟩⟩ := hrel
    cases gk with
    | zero => exact absurd HA.out (by simp [wageofficelaw28_total.l0])
    | succ k1 =>
      have H := HA.out
      clear HA
      simp only [wageofficelaw28_total.l0] at H
      by_cases c2 : x8_1 < (l0.length : Int)
      · rw [if_pos c2] at H
        have c2b0 : decide (x8_1 < (l0.length : Int)) = true := decide_eq_true c2
        clear c2
        by_cases c3 : 0 ≤ x8_1
        · rw [if_pos c3] at H
          have c3b0 : decide (0 ≤ x8_1) = true := decide_eq_true c3
          clear c3
          by_cases c4 : x8_1 < (l0.length : Int)
          · rw [if_pos c4] at H
            have c4b0 : decide (x8_1 < (l0.length : Int)) = true := decide_eq_true c4
            clear c4
            have H' := Aside0.mk H
            clear H
            have p605 : 0 ≤ (x8_1 : Int) := of_decide_eq_true (by first | (with_reducible assumption) | assumption)
            have q605 : x8_1 < (l0.length : Int) := of_decide_eq_true (by first | (with_reducible assumption) | assumption)
            obtain ⟨ad605, e605, hx605_0⟩ := Kd.at_int HR0.out x8_1 p605 q605
            cases e605
            replace p605 := eq_true p605
            replace q605 := eq_true q605
            go_wp2
            go_roundg k1
            case measure => have := HK1.out; omega
            case rel => exact ⟨(wrap64 (x3_1 + (rd l0 x8_1))), (wrap64 (x8_1 + 1)), (by first | rfl | (simp; done) | (simp [*]; done)), (by first | rfl | (simp; done) | (simp [*]; done)), H', ⟨by have := HK1.out; omega⟩, by repeat (first | exact Drawn0.refl _ | apply Drawn0.step)⟩
          · rw [if_neg c4] at H
            exact absurd H (by simp)
        · rw [if_neg c3] at H
          exact absurd H (by simp)
      · rw [if_neg c2] at H
        have c2b0 : decide (x8_1 < (l0.length : Int)) = false := decide_eq_false c2
        clear c2
        obtain rfl := Option.some.inj H
        go_wp2
        go_ret
        exact ⟨by first | rfl | (simp; done) | (simp [*]; done), by repeat (first | exact Drawn0.refl _ | apply Drawn0.step)⟩

end Go.Proofs.Ytnadfkhllfgoiaa.My
end
section
/- What the functions of tax and of its laws come to on numbers and lists. -/







namespace Go.Proofs.Ytnadfkhllfgoiaa.TaxE
open Go.RowKit Go.Proofs.Ytnadfkhllfgoiaa.My Go.Proofs.Ytnadfkhllfgoiaa.Aid Go.Proofs.Ytnadfkhllfgoiaa.EvA Go.Proofs.Ytnadfkhllfgoiaa.PwE Go.Proofs.YtnadfkhllfgoiaaW.PrintWords Go.Proofs.YtnadfkhllfgoiaaW.PrintLast Go.Proofs.YtnadfkhllfgoiaaW.PrintMore
set_option linter.unusedVariables false
set_option linter.unusedSimpArgs false

def inR (n : Int) : Prop := -1000000000000 ≤ n ∧ n ≤ 1000000000000
theorem in1_eval (a : Int) : tax_in.f [a] = some (decide (-1000000000000 ≤ a ∧ a ≤ 1000000000000)) := by
  unfold tax_in.f
  congr 1
  rw [Bool.eq_iff_iff]; simp
theorem in3_eval (a b c : Int) : tax_in.f [a, b, c] = some (decide ((-1000000000000 ≤ a ∧ a ≤ 1000000000000) ∧ (-1000000000000 ≤ b ∧ b ≤ 1000000000000) ∧ (-1000000000000 ≤ c ∧ c ≤ 1000000000000))) := by
  unfold tax_in.f
  congr 1
  rw [Bool.eq_iff_iff]; simp
/-- The tax on an amount: a value and no error, or no value and an error. -/
def Tax (den : Int) (l : List Pc) (g : Int) (r : Int × Int) : Prop :=
  (Vld den l ∧ inR g ∧ ∃ q, At l (max g 0) q ∧ r = rdown (num l q (max g 0)) den) ∨ (¬ (Vld den l ∧ inR g) ∧ r = (0, 1))
theorem Tax.ex (den : Int) (l : List Pc) (g : Int) : ∃ r, Tax den l g r := by
  rcases Classical.em (Vld den l ∧ inR g) with h | h
  · obtain ⟨q, hq⟩ := at_ex h.1 (x := max g 0) (by omega)
    exact ⟨_, .inl ⟨h.1, h.2, q, hq, rfl⟩⟩
  · exact ⟨_, .inr ⟨h, rfl⟩⟩
theorem Tax.unique {den : Int} {l : List Pc} {g : Int} {r r' : Int × Int} (h : Tax den l g r) (h' : Tax den l g r') : r = r' := by
  rcases h with ⟨h1, h2, q, h3, rfl⟩ | ⟨h1, rfl⟩ <;> rcases h' with ⟨k1, k2, q', k3, rfl⟩ | ⟨k1, rfl⟩
  · rw [h3.unique k3]
  · exact absurd ⟨h1, h2⟩ k1
  · exact absurd ⟨k1, k2⟩ h1
  · rfl
theorem rdown_ok {n d : Int} (h : (rdown n d).2 = 0) : (rdown n d).1 = n / d ∧ inR (n / d) := by
  unfold rdown at *
  split at h
  · rename_i c; rw [if_pos c]; exact ⟨rfl, c⟩
  · simp at h
theorem rdown_err (n d : Int) : (rdown n d).2 = 0 ∨ ((rdown n d).2 = 3 ∧ (rdown n d).1 = 0) := by
  unfold rdown; split <;> simp
theorem year_ev {den y : Int} {l : List Pc} {g : Int} {r : Int × Int} (h : Tax den l g r) : Ev (fun k => tax_Year.f k y den l g) r := by
  obtain ⟨b, hb1, hb2⟩ := valid_ev den l
  unfold tax_Year.f
  rcases h with ⟨h1, h2, q, hq, rfl⟩ | ⟨h1, rfl⟩
  · obtain rfl := hb2.2 h1
    unfold inR at h2
    refine ev_bnd hb1 (ev_yes (by simp) ?_)
    rw [in1_eval, decide_eq_true h2]
    simp only [Option.bind_some]
    rw [mx_max]
    exact ev_yes (by simp) (ev_bnd (round_ok h1 hq (by omega) (by omega)) (ev_ret _))
  · refine ev_bnd hb1 (ev_ite (fun e => ?_) (fun _ => ev_ret _))
    rw [in1_eval, decide_eq_false (p := -1000000000000 ≤ g ∧ g ≤ 1000000000000) (fun h => h1 ⟨hb2.1 e, h⟩)]
    simp only [Option.bind_some]
    exact ev_no (by simp) (ev_ret _)
/-- What is withheld in a month. -/
def Mon (den : Int) (l : List Pc) (before wh g : Int) (r : Int × Int) : Prop :=
  (∃ t, Vld den l ∧ inR before ∧ inR wh ∧ inR g ∧ inR (before + g) ∧ Tax den l (before + g) (t, 0) ∧ inR (t - wh) ∧ r = (t - wh, 0)) ∨
  ((¬ ∃ t, Vld den l ∧ inR before ∧ inR wh ∧ inR g ∧ inR (before + g) ∧ Tax den l (before + g) (t, 0) ∧ inR (t - wh)) ∧ r.2 ≠ 0)
theorem month_ev {den y : Int} {l : List Pc} (before wh g : Int) : ∃ r, Ev (fun k => tax_Month.f k y den l before wh g) r ∧ Mon den l before wh g r := by
  obtain ⟨b, hb1, hb2⟩ := valid_ev den l
  have hj : (¬ ∃ t, Vld den l ∧ inR before ∧ inR wh ∧ inR g ∧ inR (before + g) ∧ Tax den l (before + g) (t, 0) ∧ inR (t - wh)) → ∃ r, Ev (fun k => tax_Month.j0 k before wh g true y den l) r ∧ Mon den l before wh g r := fun hn => by
    refine ⟨(0, 1), ?_, .inr ⟨hn, by simp⟩⟩
    refine ev_up ?_
    simp only [tax_Month.j0]
    exact ev_yes (by simp) (ev_ret _)
  unfold tax_Month.f
  by_cases hv : b = true
  · subst hv
    have h1 := hb2.1 rfl
    by_cases h3 : (-1000000000000 ≤ before ∧ before ≤ 1000000000000) ∧ (-1000000000000 ≤ wh ∧ wh ≤ 1000000000000) ∧ (-1000000000000 ≤ g ∧ g ≤ 1000000000000)
    · by_cases h4 : -1000000000000 ≤ before + g ∧ before + g ≤ 1000000000000
      · obtain ⟨⟨t, e⟩, ht⟩ := Tax.ex den l (before + g)
        have hy := year_ev (y := y) ht
        have hgo : ∀ {r}, Ev (fun k => (tax_Year.f k y den l (before + g)).bind fun bt467 => (if bt467.2 = 0 then ((tax_in.f (([wrap64 (bt467.1 - wh)] : List Int))).bind fun t472 => (if t472 = true then (some (wrap64 (bt467.1 - wh), 0)) else (some (0, 3)))) else (some (0, bt467.2)))) r →
            Ev (fun k => (piecewise_Valid.f k den l).bind fun t458 => (if t458 = true then ((tax_in.f (([before, wh, g] : List Int))).bind fun t462 => (tax_Month.j0 k before wh g (!t462) y den l)) else (tax_Month.j0 k before wh g true y den l))) r := by
          intro r hr
          refine ev_bnd hb1 (ev_yes (by simp) ?_)
          rw [in3_eval, decide_eq_true h3]
          simp only [Option.bind_some]
          refine ev_up ?_
          simp only [tax_Month.j0]
          refine ev_no (by simp) ?_
          rw [w64 (n := before + g) (by omega) (by omega), in1_eval, decide_eq_true h4]
          simp only [Option.bind_some]
          exact ev_yes (by simp) hr
        by_cases he : e = 0
        · subst he
          have ht2 : inR t := by
            rcases ht with ⟨_, _, q, hq, hr⟩ | ⟨_, hr⟩
            · have h5 : (rdown (num l q (max (before + g) 0)) den).2 = 0 := by rw [← hr]
              have h6 := rdown_ok h5
              rw [← hr] at h6
              rw [show t = num l q (max (before + g) 0) / den from h6.1]; exact h6.2
            · simp at hr
          unfold inR at ht2
          by_cases h5 : -1000000000000 ≤ t - wh ∧ t - wh ≤ 1000000000000
          · refine ⟨(t - wh, 0), hgo (ev_bnd hy (ev_yes (by simp) ?_)), .inl ⟨t, h1, h3.1, h3.2.1, h3.2.2, h4, ht, h5, rfl⟩⟩
            rw [w64 (n := t - wh) (by omega) (by omega), in1_eval, decide_eq_true h5]
            simp only [Option.bind_some]
            exact ev_yes (by simp) (ev_ret _)
          · refine ⟨(0, 3), hgo (ev_bnd hy (ev_yes (by simp) ?_)), .inr ⟨?_, by simp⟩⟩
            · rw [w64 (n := t - wh) (by omega) (by omega), in1_eval, decide_eq_false h5]
              simp only [Option.bind_some]
              exact ev_no (by simp) (ev_ret _)
            · rintro ⟨t', _, _, _, _, _, h6, h7⟩
              have := ht.unique h6
              simp at this
              subst this
              exact h5 h7
        · refine ⟨(0, e), hgo (ev_bnd hy (ev_no (by simpa using he) (ev_ret _))), .inr ⟨?_, by simpa using he⟩⟩
          rintro ⟨t', _, _, _, _, _, h6, h7⟩
          have := ht.unique h6
          simp at this
          exact he this.2
      · refine ⟨(0, 3), ?_, .inr ⟨?_, by simp⟩⟩
        · refine ev_bnd hb1 (ev_yes (by simp) ?_)
          rw [in3_eval, decide_eq_true h3]
          simp only [Option.bind_some]
          refine ev_up ?_
          simp only [tax_Month.j0]
          refine ev_no (by simp) ?_
          rw [w64 (n := before + g) (by omega) (by omega), in1_eval, decide_eq_false h4]
          simp only [Option.bind_some]
          exact ev_no (by simp) (ev_ret _)
        · rintro ⟨t', _, _, _, _, h6, _⟩
          exact h4 h6
    · obtain ⟨r, hr1, hr2⟩ := hj (by
        rintro ⟨t', _, h6, h7, h8, _⟩
        exact h3 ⟨h6, h7, h8⟩)
      refine ⟨r, ?_, hr2⟩
      refine ev_bnd hb1 (ev_yes (by simp) ?_)
      rw [in3_eval, decide_eq_false h3]
      simp only [Option.bind_some]
      exact hr1
  · obtain ⟨r, hr1, hr2⟩ := hj (by
      rintro ⟨t', h6, _⟩
      exact hv (hb2.2 h6))
    refine ⟨r, ?_, hr2⟩
    exact ev_bnd hb1 (ev_no hv hr1)
theorem head_ok : wageofficelaw28_head.f = some true := rfl
theorem short_ev (a b : Int) (l : List Pc) (hl : l.length ≤ 9223372036854775807) : Ev (fun k => wageofficelaw28_short.f k [⟨a, ⟨b, l⟩⟩]) (decide (l.length ≤ 66)) := by
  unfold wageofficelaw28_short.f
  refine ev_up ?_
  simp only [wageofficelaw28_short.l0]
  refine ev_yes (by simp) (ev_yes (by simp) (ev_yes (by simp) ?_))
  have e : (rd_T44 [(⟨a, ⟨b, l⟩⟩ : S44)] 0).f1.f1 = l := rfl
  rw [e]
  refine ev_ite (fun c => ev_eq (ev_ret _) (decide_eq_false (by omega)).symm) (fun c => ?_)
  refine ev_up ?_
  simp only [wageofficelaw28_short.l0]
  refine ev_no (by rw [w64 (by omega) (by omega)]; simp) (ev_eq (ev_ret _) ?_)
  rw [decide_eq_true (by omega : l.length ≤ 66)]; simp
/-- What is withheld month by month. -/
inductive Wh (den : Int) (l : List Pc) : Int → Int → List Int → Int × Int × Bool → Prop where
  | nil (b t : Int) : Wh den l b t [] (b, t, true)
  | cons {b t g u : Int} {gs : List Int} {r : Int × Int × Bool} (hm : Mon den l b t g (u - t, 0)) (hu : Tax den l (b + g) (u, 0)) (hr : Wh den l (b + g) u gs r) : Wh den l b t (g :: gs) r
  | stop {b t g : Int} {gs : List Int} {m : Int × Int} (hm : Mon den l b t g m) (he : m.2 ≠ 0) : Wh den l b t (g :: gs) (0, 0, false)
theorem wh_loop {den y : Int} {l : List Pc} (ms : List Int) (hms : ms.length ≤ 1000000) (d : Nat) : ∀ (i : Nat) (b t : Int), i + d = ms.length → ∃ r, Ev (fun k => wageofficelaw28_withheld.l0 k b t ms (ms.length : Int) (i : Int) y den l) r ∧ Wh den l b t (ms.drop i) r := by
  induction d with
  | zero =>
    intro i b t hi
    refine ⟨(b, t, true), ?_, by rw [List.drop_eq_nil_of_le (by omega)]; exact .nil b t⟩
    refine ev_up ?_
    simp only [wageofficelaw28_withheld.l0]
    exact ev_no (by omega) (ev_ret _)
  | succ d ih =>
    intro i b t hi
    have hlt : i < ms.length := by omega
    obtain ⟨m, hm1, hm2⟩ := month_ev (y := y) (den := den) (l := l) b t ms[i]
    rw [List.drop_eq_getElem_cons hlt]
    by_cases he : m.2 = 0
    · rcases hm2 with ⟨u, h1, h2, h3, h4, h5, h6, h7, rfl⟩ | ⟨_, h⟩
      · obtain ⟨r, hr1, hr2⟩ := ih (i + 1) (b + ms[i]) u (by omega)
        refine ⟨r, ?_, .cons (.inl ⟨u, h1, h2, h3, h4, h5, h6, h7, rfl⟩) h6 hr2⟩
        refine ev_up ?_
        simp only [wageofficelaw28_withheld.l0]
        refine ev_yes (by omega) (ev_yes (by omega) (ev_yes (by omega) ?_))
        rw [rd_nat hlt]
        refine ev_bnd hm1 (ev_yes (by simp) ?_)
        unfold inR at *
        rw [w64 (n := b + ms[i]) (by omega) (by omega), w64 (n := t + (u - t, (0 : Int)).1) (by simp; omega) (by simp; omega), w64 (n := (i : Int) + 1) (by omega) (by omega), show (i : Int) + 1 = ((i + 1 : Nat) : Int) from by omega, show t + (u - t, (0 : Int)).1 = u from by simp; omega]
        exact hr1
      · exact absurd he h
    · refine ⟨(0, 0, false), ?_, .stop hm2 he⟩
      refine ev_up ?_
      simp only [wageofficelaw28_withheld.l0]
      refine ev_yes (by omega) (ev_yes (by omega) (ev_yes (by omega) ?_))
      rw [rd_nat hlt]
      exact ev_bnd hm1 (ev_no he (ev_ret _))
theorem wh_ev {den y : Int} {l : List Pc} (b t : Int) (ms : List Int) (hms : ms.length ≤ 1000000) : ∃ r, Ev (fun k => wageofficelaw28_withheld.f k y den l b t ms) r ∧ Wh den l b t ms r := by
  obtain ⟨r, h1, h2⟩ := wh_loop (y := y) (den := den) (l := l) ms hms ms.length 0 b t (by omega)
  exact ⟨r, h1, by simpa using h2⟩
theorem Mon.unique0 {den : Int} {l : List Pc} {b t g : Int} {r r' : Int × Int} (h : Mon den l b t g r) (h' : Mon den l b t g r') (e : r.2 = 0) : r = r' := by
  rcases h with ⟨u, h1, h2, h3, h4, h5, h6, h7, rfl⟩ | ⟨_, h⟩
  · rcases h' with ⟨u', k1, k2, k3, k4, k5, k6, k7, rfl⟩ | ⟨k, _⟩
    · have := h6.unique k6
      simp at this
      rw [this]
    · exact absurd ⟨u, h1, h2, h3, h4, h5, h6, h7⟩ k
  · exact absurd e h
/-- Where all went well: the sum; and the tax on it. -/
theorem Wh.sum {den : Int} {l : List Pc} {b t : Int} {ms : List Int} {r : Int × Int × Bool} (h : Wh den l b t ms r) (hr : r.2.2 = true) : r.1 = b + ms.sum ∧ (ms = [] → r.2.1 = t) ∧ (ms ≠ [] → Tax den l r.1 (r.2.1, 0)) ∧ ∀ g ∈ ms, inR g := by
  induction h with
  | nil b t => simp
  | @cons b t g u gs r hm hu hw ih =>
    obtain ⟨i1, i2, i3, i4⟩ := ih hr
    refine ⟨by rw [i1, List.sum_cons]; omega, fun h => by simp at h, fun _ => ?_, fun x hx => ?_⟩
    · by_cases e : gs = []
      · subst e
        rw [i2 rfl, i1]; simpa using hu
      · exact i3 e
    · rcases List.mem_cons.1 hx with rfl | hx
      · rcases hm with ⟨u', h1, h2, h3, h4, _⟩ | ⟨_, h⟩
        · exact h4
        · simp at h
      · exact i4 x hx
  | stop hm he => simp at hr
theorem Wh.unique {den : Int} {l : List Pc} {b t : Int} {ms : List Int} {r r' : Int × Int × Bool} (h : Wh den l b t ms r) (h' : Wh den l b t ms r') : r = r' := by
  induction h generalizing r' with
  | nil b t => cases h'; rfl
  | @cons b t g u gs r hm hu hw ih =>
    cases h' with
    | @cons _ _ _ u' _ _ hm' hu' hw' =>
      have := hu.unique hu'
      simp at this
      subst this
      exact ih hw'
    | stop hm' he => have := hm.unique0 hm' rfl; rw [← this] at he; simp at he
  | @stop b t g gs m hm he =>
    cases h' with
    | @cons _ _ _ u' _ _ hm' hu' hw' => have := hm'.unique0 hm rfl; rw [← this] at he; simp at he
    | stop hm' he' => rfl
/-- One list of months behind another. -/
theorem Wh.append {den : Int} {l : List Pc} {b t : Int} {ms ns : List Int} {r : Int × Int × Bool} (h : Wh den l b t ms r) (hr : r.2.2 = true) {q : Int × Int × Bool} (h' : Wh den l r.1 r.2.1 ns q) : Wh den l b t (ms ++ ns) q := by
  induction h with
  | nil b t => exact h'
  | cons hm hu hw ih => exact .cons hm hu (ih hr h')
  | stop hm he => simp at hr
end Go.Proofs.Ytnadfkhllfgoiaa.TaxE
end
section
/- A value that can be read as data is a value of the print's kinds: numbers, bools, strings, slices, structs, to any depth. -/





namespace Go.Proofs.Ytnadfkhllfgoiaa.Opn
open Go Go.RowKit Go.Proofs.YtnadfkhllfgoiaaW.PrintWords Go.Proofs.YtnadfkhllfgoiaaW.PrintLast Go.Proofs.YtnadfkhllfgoiaaW.PrintMore
set_option linter.unusedVariables false
set_option linter.unusedSimpArgs false

def Opn (P : Program) (t : TypeId) {α : Type} (d : Kd α) (B : α → Prop) : Prop :=
  ∀ {H : Type} (enc : TypeId × Value → H) (w : World) (base : Nat) (spare : Nat → Bool) (held : Bool) (fuel : Nat) (cs : List Value) (x : DataW H × List MemPlace),
    DataW.trod enc P w base spare held fuel t cs = some x → ∃ a : α, Kd.FK d w (fun _ => True) a cs ∧ B a
theorem Opn.int {P : Program} {t : TypeId} {k : IntKind} (ht : P.underlying t = some (.int k)) : Opn P t (Kd.int k) (fun n => (Lit.int k n).wf = true) := by
  intro H enc w base spare held fuel cs x h
  obtain ⟨n, rfl, _, hw⟩ := DataW.trod_int ht h
  exact ⟨n, fun _ _ => rfl, hw⟩
theorem Opn.bool {P : Program} {t : TypeId} (ht : P.underlying t = some .bool) : Opn P t Kd.bool (fun _ => True) := by
  intro H enc w base spare held fuel cs x h
  obtain ⟨n, rfl, _⟩ := DataW.trod_bool ht h
  exact ⟨n, fun _ _ => rfl, trivial⟩
theorem Opn.string {P : Program} {t : TypeId} (ht : P.underlying t = some .string) : Opn P t Kd.string (fun s => s.size ≤ maxLen) := by
  intro H enc w base spare held fuel cs x h
  obtain ⟨s, rfl, _, hs⟩ := DataW.trod_string ht h
  exact ⟨s, fun _ _ => rfl, hs⟩
theorem cell_same {w W : World} {a : Addr} {v : Value} (h : w.cell? a = some v) (hW : ∀ k, True → k < w.heap.size → W.heap[k]? = w.heap[k]?) : W.cell? a = w.cell? a := by
  have := hW a.block trivial (World.block_lt_of_cell? w a h)
  unfold World.cell?
  rw [this]
theorem list_of {α : Type} {n : Nat} {p : Nat → α → Prop} (h : ∀ i, i < n → ∃ x, p i x) : ∃ xs : List α, xs.length = n ∧ ∀ i (hi : i < xs.length), p i xs[i] := by
  induction n with
  | zero => exact ⟨[], rfl, fun i hi => absurd hi (by simp)⟩
  | succ n ih =>
    obtain ⟨xs, hl, hx⟩ := ih fun i hi => h i (by omega)
    obtain ⟨x, hp⟩ := h n (by omega)
    refine ⟨xs ++ [x], by simp [hl], fun i hi => ?_⟩
    rw [List.length_append] at hi
    by_cases e : i < xs.length
    · rw [List.getElem_append_left e]; exact hx i e
    · have : i = n := by simp at hi; omega
      subst this
      rw [List.getElem_append_right (by omega)]
      simp [hl]; exact hp
theorem Opn.slice {P : Program} {t e : TypeId} {α : Type} {d : Kd α} {B : α → Prop} (ht : P.underlying t = some (.slice e)) (hc : P.cellsOf e = d.sz) (he : Opn P e d B) :
    Opn P t (Kd.slice e d) (fun l => l.length ≤ maxLen ∧ ∀ x ∈ l, B x) := by
  intro H enc w base spare held fuel cs x h
  rcases DataW.trod_slice ht h with ⟨rfl, _⟩ | ⟨a, len, cap, elems, rest, n, _, rfl, _, hb, hl, hm, hlen, hel, _⟩
  · exact ⟨[], fun _ _ => ⟨none, 0, rfl, Nat.le_refl _, ⟨rfl, by simp, fun h => absurd h (by simp)⟩⟩, by simp, fun x hx => by simp at hx⟩
  · have hx : ∀ i, i < len → ∃ y : α, (∃ ci, w.cells? base (a.add (i * P.cellsOf e)) (P.cellsOf e) = some ci ∧ Kd.FK d w (fun _ => True) y ci) ∧ B y := by
      intro i hi
      have h1 := hel i hi
      rw [List.getElem?_eq_getElem (by omega)] at h1
      obtain ⟨ci, hci, hy⟩ := Option.bind_eq_some_iff.1 h1
      obtain ⟨y, hK, hB⟩ := he enc w base spare held n ci _ hy
      exact ⟨y, ⟨ci, hci, hK⟩, hB⟩
    obtain ⟨xs, hxl, hxs⟩ := list_of hx
    subst hxl
    refine ⟨xs, fun W' hW' => ⟨some a, cap, rfl, hl, ⟨rfl, by unfold maxLen at hm; omega, fun _ => ⟨a, rfl, fun j p hj => ?_⟩⟩⟩, by omega, fun x hx => ?_⟩
    · obtain ⟨hjl, rfl⟩ := List.getElem?_eq_some_iff.1 hj
      obtain ⟨⟨ci, hci, hK⟩, _⟩ := hxs j hjl
      refine ⟨ci, d.K_len (hK W' hW'), hK W' hW', fun i u hu => ?_⟩
      unfold World.cells? at hci
      split at hci
      · have hcl := mapM_some_length hci
        have hi : i < ci.length := (List.getElem?_eq_some_iff.1 hu).1
        have hg := mapM_some_get hci i i (by rw [List.getElem?_range (by simpa [hcl] using hi)])
        rw [hu] at hg
        rw [← hc, ← Go.Deep.add_add]
        exact (cell_same hg hW').trans hg
      · cases hci
    · obtain ⟨i, hi, rfl⟩ := List.getElem_of_mem hx
      exact (hxs i hi).2

def OpnFs (P : Program) (fs : List Field) (off : Nat) {α : Type} (d : Kd α) (B : α → Prop) : Prop :=
  ∀ {H : Type} (enc : TypeId × Value → H) (w : World) (base : Nat) (spare : Nat → Bool) (held : Bool) (n : Nat) (cs : List Value),
    (∀ (i : Nat) (f : Field), fs[i]? = some f → ∃ y, DataW.trod enc P w base spare held n f.type ((cs.drop f.offset).take (P.cellsOf f.type)) = some y) → cs.length = off + d.sz → ∃ a : α, Kd.FK d w (fun _ => True) a (cs.drop off) ∧ B a
theorem OpnFs.one {P : Program} {f : Field} {off : Nat} {α : Type} {d : Kd α} {B : α → Prop} (ho : f.offset = off) (hc : P.cellsOf f.type = d.sz) (h : Opn P f.type d B) : OpnFs P [f] off d B := by
  intro H enc w base spare held n cs hf hl
  obtain ⟨y, hy⟩ := hf 0 f rfl
  rw [ho, List.take_of_length_le (by rw [List.length_drop]; omega)] at hy
  exact h enc w base spare held n _ _ hy
theorem OpnFs.cons {P : Program} {f : Field} {fs : List Field} {off : Nat} {α β : Type} {a : Kd α} {b : Kd β} {Ba : α → Prop} {Bb : β → Prop} (ho : f.offset = off) (hc : P.cellsOf f.type = a.sz) (h : Opn P f.type a Ba)
    (hs : OpnFs P fs (off + a.sz) b Bb) : OpnFs P (f :: fs) off (Kd.pair a b) (fun x => Ba x.1 ∧ Bb x.2) := by
  intro H enc w base spare held n cs hf hl
  have hl' : cs.length = off + (a.sz + b.sz) := hl
  obtain ⟨y, hy⟩ := hf 0 f rfl
  obtain ⟨x1, hK1, hB1⟩ := h enc w base spare held n _ _ hy
  obtain ⟨x2, hK2, hB2⟩ := hs enc w base spare held n cs (fun i g hg => hf (i + 1) g (by simpa using hg)) (by omega)
  refine ⟨(x1, x2), fun W' hW' => ⟨(cs.drop off).take a.sz, cs.drop (off + a.sz), ?_, ?_, hK2 W' hW'⟩, hB1, hB2⟩
  · rw [← List.drop_drop, List.take_append_drop]
  · rw [ho, hc] at hK1; exact hK1 W' hW'
theorem OpnFs.iso {P : Program} {fs : List Field} {off : Nat} {α β : Type} {d : Kd α} {B : α → Prop} (f : β → α) (g : α → β) (hg : ∀ a, f (g a) = a) (h : OpnFs P fs off d B) : OpnFs P fs off (Kd.iso d f) (fun x => B (f x)) := by
  intro H enc w base spare held n cs hf hl
  obtain ⟨a, hK, hB⟩ := h enc w base spare held n cs hf hl
  exact ⟨g a, fun W' hW' => show d.K W' (f (g a)) _ from (hg a).symm ▸ hK W' hW', show B (f (g a)) from (hg a).symm ▸ hB⟩
theorem Opn.struct {P : Program} {t : TypeId} {fs : Array Field} {α : Type} {d : Kd α} {B : α → Prop} (ht : P.underlying t = some (.struct fs)) (hc : P.cellsOf t = d.sz) (h : OpnFs P fs.toList 0 d B) : Opn P t d B := by
  intro H enc w base spare held fuel cs x hx
  obtain ⟨xs, n, _, _, hl, hxl, hf⟩ := DataW.trod_struct ht hx
  obtain ⟨a, hK, hB⟩ := h enc w base spare held n cs (fun i f hi => by
    have hi' : fs[i]? = some f := by simpa using hi
    have h1 := hf i f hi'
    have hlt : i < xs.length := by rw [hxl]; exact (Array.getElem?_eq_some_iff.1 hi').1
    rw [List.getElem?_eq_getElem hlt] at h1
    exact ⟨_, h1⟩) (by omega)
  exact ⟨a, hK, hB⟩
theorem Opn.mono {P : Program} {t : TypeId} {α : Type} {d : Kd α} {B B' : α → Prop} (h : Opn P t d B) (hB : ∀ a, B a → B' a) : Opn P t d B' := by
  intro H enc w base spare held fuel cs x hx
  obtain ⟨a, hK, hb⟩ := h enc w base spare held fuel cs x hx
  exact ⟨a, hK, hB a hb⟩
theorem arr_of {cs : Array Value} {l : List Value} (h : cs.toList = l) : cs = l.toArray := by subst h; simp
end Go.Proofs.Ytnadfkhllfgoiaa.Opn
end
section
-- Written by a program of this session (wip/myprint.py), which drives the kit's print over hand-written fragments. Not trusted: Lean checks it.


namespace Go.Proofs.Ytnadfkhllfgoiaa.My
open Go.RowKit Go.Proofs.Ytnadfkhllfgoiaa.My Go.Proofs.YtnadfkhllfgoiaaW.PrintWords Go.Proofs.YtnadfkhllfgoiaaW.PrintLast Go.Proofs.YtnadfkhllfgoiaaW.PrintMore Go.Proofs.Ytnadfkhllfgoiaa.Opn
set_option linter.unusedVariables false
set_option linter.unusedSimpArgs false
def B75 (x : S75) : Prop := ((Lit.int .i64 x.f0).wf = true) ∧ ((Lit.int .i64 x.f1).wf = true) ∧ ((Lit.int .i64 x.f2).wf = true)
theorem opn75 : Opn Try.prog 75 k75 B75 :=
  Opn.mono (Opn.struct Try.underlying75 (by kernel_rfl) (OpnFs.iso (fun x : S75 => (x.f0, x.f1, x.f2)) (fun a => (⟨a.1, a.2.1, a.2.2⟩ : S75)) (fun _ => rfl) (OpnFs.cons rfl (by kernel_rfl) (Opn.int Try.underlying3) (OpnFs.cons rfl (by kernel_rfl) (Opn.int Try.underlying3) (OpnFs.one rfl (by kernel_rfl) (Opn.int Try.underlying3)))))) (fun _ h => h)
def B42 (x : S42) : Prop := ((Lit.int .i64 x.f0).wf = true) ∧ ((x.f1.length ≤ maxLen ∧ ∀ y ∈ x.f1, B75 y))
theorem opn42 : Opn Try.prog 42 k42 B42 :=
  Opn.mono (Opn.struct Try.underlying42 (by kernel_rfl) (OpnFs.iso (fun x : S42 => (x.f0, x.f1)) (fun a => (⟨a.1, a.2⟩ : S42)) (fun _ => rfl) (OpnFs.cons rfl (by kernel_rfl) (Opn.int Try.underlying3) (OpnFs.one rfl (by kernel_rfl) (Opn.slice Try.underlying40 (by kernel_rfl) opn75))))) (fun _ h => h)
def B44 (x : S44) : Prop := ((Lit.int .i64 x.f0).wf = true) ∧ (B42 x.f1)
theorem opn44 : Opn Try.prog 44 k44 B44 :=
  Opn.mono (Opn.struct Try.underlying44 (by kernel_rfl) (OpnFs.iso (fun x : S44 => (x.f0, x.f1)) (fun a => (⟨a.1, a.2⟩ : S44)) (fun _ => rfl) (OpnFs.cons rfl (by kernel_rfl) (Opn.int Try.underlying3) (OpnFs.one rfl (by kernel_rfl) opn42)))) (fun _ h => h)
end Go.Proofs.Ytnadfkhllfgoiaa.My
end
section
-- Written by a program of this session (wip/myprint.py), which drives the kit's print over hand-written fragments. Not trusted: Lean checks it.


namespace Go.Proofs.Ytnadfkhllfgoiaa.My
open Go.RowKit Go.Proofs.Ytnadfkhllfgoiaa.My Go.Proofs.YtnadfkhllfgoiaaW.PrintWords Go.Proofs.YtnadfkhllfgoiaaW.PrintLast Go.Proofs.YtnadfkhllfgoiaaW.PrintMore Go.Proofs.Ytnadfkhllfgoiaa.Opn
set_option linter.unusedVariables false
set_option linter.unusedSimpArgs false
def wageofficelaw28_TaxCorrections.Pure : Prop := ∀ (a0_0 : Int) (a0_1 : Int) (l0_2 : List (S75)) (l1 : List Int) (a2 : Int) (a3 : Int), ((Lit.int .i64 a0_0).wf = true) → ((Lit.int .i64 a0_1).wf = true) → ((l0_2.length ≤ maxLen ∧ ∀ y ∈ l0_2, B75 y)) → ((l1.length ≤ maxLen ∧ ∀ y ∈ l1, (Lit.int .i64 y).wf = true)) → ((Lit.int .u8 a2).wf = true) → ((Lit.int .i64 a3).wf = true) → ∃ k, wageofficelaw28_TaxCorrections.f k a0_0 a0_1 l0_2 l1 a2 a3 = some true
theorem wageofficelaw28_TaxCorrections.truth (P : wageofficelaw28_TaxCorrections.Pure) (a0_0 : Int) (a0_1 : Int) (A0_2 : Option Addr) (c0_2 : Nat) (l0_2 : List (S75)) (A1 : Option Addr) (c1 : Nat) (l1 : List Int) (a2 : Int) (a3 : Int) (w : World) (hr0_2 : Kd.F k75 w (fun _ => True) A0_2 l0_2.length l0_2) (hc0_2 : l0_2.length ≤ c0_2) (hr1 : Kd.F (Kd.int .i64) w (fun _ => True) A1 l1.length l1) (hc1 : l1.length ≤ c1) (hb0_0 : (Lit.int .i64 a0_0).wf = true) (hb0_1 : (Lit.int .i64 a0_1).wf = true) (hb0_2 : (l0_2.length ≤ maxLen ∧ ∀ y ∈ l0_2, B75 y)) (hb1 : (l1.length ≤ maxLen ∧ ∀ y ∈ l1, (Lit.int .i64 y).wf = true)) (hb2 : (Lit.int .u8 a2).wf = true) (hb3 : (Lit.int .i64 a3).wf = true) :
    Calls Try.prog 13 #[.agg #[.int .i64 a0_0, .int .i64 a0_1, .slice A0_2 l0_2.length c0_2], .slice A1 l1.length c1, .int .u8 a2, .int .i64 a3] w fun e w' => e = .returned (.bool true) ∧ Below w.heap.size w w' := by
  obtain ⟨k, h⟩ := P a0_0 a0_1 l0_2 l1 a2 a3 hb0_0 hb0_1 hb0_2 hb1 hb2 hb3
  exact (wageofficelaw28_TaxCorrections.calls k a0_0 a0_1 (fun _ => True) A0_2 c0_2 l0_2 A1 c1 l1 a2 a3 true w (Kd.V_mk hc0_2 hr0_2) (Kd.F_now hr1) hc1 h).mono (fun e w' he => ⟨he.1, he.2⟩)
end Go.Proofs.Ytnadfkhllfgoiaa.My
end
section
/- A correction in a later month leads to what would have been withheld. -/


namespace Go.Proofs.Ytnadfkhllfgoiaa.Pure
set_option linter.unusedVariables false
set_option linter.unusedSimpArgs false
open Go.RowKit Go.Proofs.Ytnadfkhllfgoiaa.My Go.Proofs.Ytnadfkhllfgoiaa.Aid Go.Proofs.Ytnadfkhllfgoiaa.EvA Go.Proofs.Ytnadfkhllfgoiaa.PwE Go.Proofs.Ytnadfkhllfgoiaa.TaxE Go.Proofs.YtnadfkhllfgoiaaW.PrintWords Go.Proofs.YtnadfkhllfgoiaaW.PrintLast Go.Proofs.YtnadfkhllfgoiaaW.PrintMore

theorem rin_eval (a : Int) : wageofficeref28_In.f a = some (decide (-1000000000000 ≤ a ∧ a ≤ 1000000000000)) := by
  unfold wageofficeref28_In.f
  split
  · congr 1; rw [Bool.eq_iff_iff]; simp; omega
  · rw [decide_eq_false (by omega)]
theorem sum_set (l : List Int) (i : Nat) (v : Int) (h : i < l.length) : (l.set i v).sum = l.sum + (v - l[i]) := by
  induction l generalizing i with
  | nil => simp at h
  | cons a l ih =>
    cases i with
    | zero => simp [List.sum_cons]; omega
    | succ i =>
      simp only [List.set_cons_succ, List.sum_cons, List.getElem_cons_succ]
      rw [ih i (by simpa using h)]; omega
theorem TaxCorrections : wageofficelaw28_TaxCorrections.Pure := by
  intro y den l ms pick right hy hd hl hms hpick hright
  apply ev_ex
  have hj : Ev (fun k => wageofficelaw28_TaxCorrections.j0 k ms pick right true true y den l) true := by
    refine ev_up ?_
    simp only [wageofficelaw28_TaxCorrections.j0]
    exact ev_yes (by simp) (ev_ret _)
  unfold wageofficelaw28_TaxCorrections.f
  rw [head_ok]
  simp only [Option.bind_some]
  refine ev_bnd (short_ev y den l (by have := hl.1; simp only [maxLen] at this; omega)) (ev_ite (fun _ => ?_) (fun _ => hj))
  refine ev_ite (fun _ => hj) (fun c1 => ev_ite (fun _ => hj) (fun c2 => ?_))
  rw [rin_eval]
  simp only [Option.bind_some]
  by_cases c3 : -1000000000000 ≤ right ∧ right ≤ 1000000000000
  rotate_left
  · rw [decide_eq_false c3]; exact hj
  rw [decide_eq_true c3]
  have hp : 0 ≤ pick ∧ pick ≤ 255 := by
    simp only [Lit.wf, Bool.and_eq_true, decide_eq_true_eq] at hpick
    have h1 : IntKind.u8.min = 0 := by decide
    have h2 : IntKind.u8.max = 255 := by decide
    rw [h1, h2] at hpick
    exact hpick
  have ew : wrap64 pick = pick := w64 (by omega) (by omega)
  obtain ⟨q, hq, hqd⟩ : ∃ q : Nat, Int.tmod (wrap64 pick) (ms.length : Int) = (q : Int) ∧ q < ms.length := by
    rw [ew, Int.tmod_eq_emod_of_nonneg hp.1]
    have h0 := Int.emod_nonneg pick (show (ms.length : Int) ≠ 0 from c1)
    have h1 := Int.emod_lt_of_pos pick (show 0 < (ms.length : Int) by omega)
    exact ⟨(pick % (ms.length : Int)).toNat, by omega, by omega⟩
  refine ev_up ?_
  simp only [wageofficelaw28_TaxCorrections.j0, hq]
  refine ev_no (by simp) (ev_no (by omega) (ev_yes (by omega) (ev_yes (by omega) ?_)))
  rw [rin_eval, rd_nat hqd]
  simp only [Option.bind_some, List.nil_append]
  refine ev_ite (fun c4 => ?_) (fun _ => ev_ret _)
  have c4 := of_decide_eq_true c4
  refine ev_yes (by simp only [List.length_nil]; omega) (ev_yes (by omega) (ev_yes (by simp only [List.length_nil]; omega) (ev_yes (by simp; omega) ?_)))
  rw [w64 (n := right - ms[q]) (by omega) (by omega), show ((q : Int)).toNat = q from by omega]
  obtain ⟨r, hr1, hr2⟩ := wh_ev (y := y) (den := den) (l := l) 0 0 (ms ++ [right - ms[q]]) (by simp; omega)
  obtain ⟨s, hs1, hs2⟩ := wh_ev (y := y) (den := den) (l := l) 0 0 (ms.set q right) (by simp; omega)
  refine ev_bnd hr1 (ev_bnd hs1 (ev_yes (by simp) (ev_ite (fun d1 => ev_ite (fun d2 => ?_) (fun _ => ev_ret _)) (fun _ => ev_ret _))))
  have h1 := hr2.sum d1
  have h2 := hs2.sum d2
  have e : r.1 = s.1 := by
    rw [h1.1, h2.1, sum_set _ _ _ hqd, List.sum_append, List.sum_cons, List.sum_nil]; omega
  have t1 := h1.2.2.1 (by simp)
  have t2 := h2.2.2.1 (by intro h0; have := congrArg List.length h0; simp at this; subst this; simp at hqd)
  rw [e] at t1
  have t3 := t1.unique t2
  simp at t3
  exact ev_yes e (ev_eq (ev_ret _) (by rw [t3]; simp))
end Go.Proofs.Ytnadfkhllfgoiaa.Pure
end
