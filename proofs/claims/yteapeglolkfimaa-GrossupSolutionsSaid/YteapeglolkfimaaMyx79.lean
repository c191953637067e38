-- Written by a program of this session (wip/myprint.py), which drives the kit's print over hand-written fragments. Not trusted: Lean checks it.
import Derived.Test.YteapeglolkfimaaMyx0
namespace Go.Proofs.Yteapeglolkfimaa.My
open Go.Proofs.Yteapeglolkfimaa.Aid Go.Proofs.Yteapeglolkfimaa.KdX
open Go.RowKit Go.Proofs.YteapeglolkfimaaW.PrintWords Go.Proofs.YteapeglolkfimaaW.PrintLast Go.Proofs.YteapeglolkfimaaW.PrintMore
attribute [local go_sem] max2_int min2_int max_two min_two max_three min_three max_four min_four   -- for this text's walks alone
set_option linter.unusedVariables false
set_option linter.unusedSimpArgs false

/-! ### span_edge_79: function 79 (by hand) -/
def span_edge_79.f (l0 : List (S87)) : Option (List (S87)) := if l0.length ≤ 1000000000 then some l0 else none
set_option maxHeartbeats 400000 in
theorem span_edge_79.calls (A0 : Option Addr) (c0 : Nat) (l0 : List (S87)) (r : List (S87)) (w : World) (hr0 : Kd.C k87 w A0 l0.length l0) (hc0 : l0.length ≤ c0) (h : span_edge_79.f l0 = some r) :
    Calls Try.prog 79 #[.slice A0 l0.length c0] w fun e w' => ∃ v0_ : Value, e = .returned v0_ ∧ Kd.R k87 87 w' w.heap.size (fun _ => True) v0_ r ∧ Below w.heap.size w w' := by
  unfold span_edge_79.f at h
  by_cases hl : l0.length ≤ 1000000000
  · rw [if_pos hl] at h
    obtain rfl := Option.some.inj h
    clear h
    have hq : ∀ (W : World) (a : Option Addr) (n c : Nat), (binOp .eql 85 (.slice a n c) (.slice none 0 0)).run Try.prog W = .ok (.bool a.isNone) W := fun W a n c => eql_nil W 85 87 a n c Try.underlying85
    have HR := Aside0.mk hr0
    clear hr0
    cases A0 with
    | none =>
      have hz : l0 = [] := by
        rcases Nat.eq_zero_or_pos l0.length with h0 | h0
        · exact List.eq_nil_of_length_eq_zero h0
        · obtain ⟨ad, e, _⟩ := HR.out.2.2 h0; cases e
      subst hz
      go_enter Try.func79, Try.ntmps79
      go_wp2
      go_ret
      exact ⟨_, rfl, Kd.R_nil _ _ _ _ _, Below.refl _ _⟩
    | some ad =>
      go_enter Try.func79, Try.ntmps79
      go_wp2_with (first | ((with_reducible refine gate_builtin (b := .append) (xs := #[.tmp 5, .tmp 6]) rfl ?_); at_builtin; refine Kd.R_append_rows k87 (w0 := w) w.heap.size rfl (.tmp 5) (.tmp 6) 85 87 (.agg #[(.int .i64 0), (.int .i64 0), (.int .i64 0)]) 24 rfl Try.underlying85 info87 rfl (by decide) (by omega) (.slice (some ⟨w.heap.size, 0, none⟩) 0 0) ([] : List (S87)) l0 _ _ _ (fun _ => True) (fun _ => False) rfl rfl ?aO ?aR (fun _ _ h => h) (fun _ h => h.elim) ?aF ?aB ?aS ?aL ?_; (case aO => exact emp_own trivial (Nat.le_refl _)); (case aR => exact Kd.C_alloc HR.out _); (case aF => exact fun _ _ => trivial); (case aB => exact below_alloc (Below.refl _ _) _); (case aS => simp); (case aL => simp; omega); intro v9 w9 ho hb hg hat; have HO9 := Aside0.mk ho; have HB9 := Aside0.mk hb; clear ho hb hg hat))
      go_ret
      exact ⟨_, rfl, HO9.out, HB9.out⟩
  · rw [if_neg hl] at h; cases h

end Go.Proofs.Yteapeglolkfimaa.My
