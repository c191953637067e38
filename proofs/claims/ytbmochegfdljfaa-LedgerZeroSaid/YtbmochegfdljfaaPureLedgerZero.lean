/- For every ledger and two days, the balances of all its accounts add up to 0, and other accounts have the balance 0. -/
import Derived.Test.YtbmochegfdljfaaStaLedgerZero
import Derived.Test.YtbmochegfdljfaaLdE
namespace Go.Proofs.Ytbmochegfdljfaa.Pure
set_option linter.unusedVariables false
set_option linter.unusedSimpArgs false
open Go.RowKit Go.Proofs.Ytbmochegfdljfaa.My Go.Proofs.Ytbmochegfdljfaa.Aid Go.Proofs.Ytbmochegfdljfaa.EvA Go.Proofs.Ytbmochegfdljfaa.LdE Go.Proofs.YtbmochegfdljfaaW.PrintWords Go.Proofs.YtbmochegfdljfaaW.PrintLast Go.Proofs.YtbmochegfdljfaaW.PrintMore


theorem map_add {α : Type} (f g : α → Int) (l : List α) : (l.map fun x => f x + g x).sum = (l.map f).sum + (l.map g).sum := by
  induction l with
  | nil => rfl
  | cons x l ih => simp only [List.map_cons, List.sum_cons, ih]; omega
theorem map_zero {α : Type} (f : α → Int) (l : List α) (h : ∀ x ∈ l, f x = 0) : (l.map f).sum = 0 := by
  induction l with
  | nil => rfl
  | cons x l ih => rw [List.map_cons, List.sum_cons, h x (by simp), ih (fun y hy => h y (by simp [hy]))]; rfl
theorem if_other {p s : List UInt8} {l : List (List UInt8)} {v : Int} (h : ¬ p = s) : (if p ∈ s :: l then v else 0) = if p ∈ l then v else 0 := by
  by_cases h3 : p ∈ l
  · rw [if_pos h3, if_pos (List.mem_cons_of_mem _ h3)]
  · rw [if_neg h3, if_neg (by rw [List.mem_cons]; exact fun h' => h'.elim h h3)]
theorem if_here {p s : List UInt8} {l : List (List UInt8)} {v : Int} (h : p = s) : (if p ∈ s :: l then v else 0) = v := if_pos (by rw [h]; simp)
theorem mov_sum {x : S26} (hne : x.f1.toList ≠ x.f2.toList) : ∀ {ns : List ByteArray}, (ns.map ByteArray.toList).Pairwise (· ≠ ·) →
    (ns.map fun s => movE s x).sum = (if x.f1.toList ∈ ns.map ByteArray.toList then x.f3 else 0) - (if x.f2.toList ∈ ns.map ByteArray.toList then x.f3 else 0)
  | [], _ => by simp
  | s :: ns, h => by
    rw [List.map_cons, List.pairwise_cons] at h
    rw [List.map_cons, List.sum_cons, mov_sum hne h.2, List.map_cons]
    unfold movE
    by_cases h1 : s.toList = x.f1.toList
    · have n1 : x.f1.toList ∉ ns.map ByteArray.toList := fun hm => h.1 _ hm h1
      have n2 : ¬ x.f2.toList = s.toList := fun e => hne (h1.symm.trans e.symm)
      have e0 : (if x.f1.toList ∈ ns.map ByteArray.toList then x.f3 else 0) = 0 := if_neg n1
      rw [if_pos h1, e0, if_here h1.symm, if_other n2]; omega
    · have n1 : ¬ x.f1.toList = s.toList := fun e => h1 e.symm
      rw [if_neg h1, if_other n1]
      by_cases h2 : s.toList = x.f2.toList
      · have n2 : x.f2.toList ∉ ns.map ByteArray.toList := fun hm => h.1 _ hm h2
        have e0 : (if x.f2.toList ∈ ns.map ByteArray.toList then x.f3 else 0) = 0 := if_neg n2
        rw [if_pos h2, e0, if_here h2.symm]; omega
      · rw [if_neg h2, if_other fun e => h2 e.symm]; omega
theorem zero_sum {ns : List ByteArray} {d b : Int} (hp : (ns.map ByteArray.toList).Pairwise (· ≠ ·)) : ∀ {l : List S26}, (∀ x ∈ l, formB x = true) → (∀ x ∈ l, x.f1.toList ∈ ns.map ByteArray.toList ∧ x.f2.toList ∈ ns.map ByteArray.toList) →
    (ns.map fun s => balF l s d b).sum = 0
  | [], _, _ => map_zero _ _ fun s _ => rfl
  | x :: l, hf, hm => by
    have h1 : (ns.map fun s => balF (x :: l) s d b).sum = (ns.map fun s => val s d b x).sum + (ns.map fun s => balF l s d b).sum := by
      rw [← map_add]; exact congrArg List.sum (List.map_congr_left fun s _ => balF_cons x l s d b)
    rw [h1, zero_sum hp (fun y hy => hf y (by simp [hy])) (fun y hy => hm y (by simp [hy]))]
    have hx := hm x (by simp)
    have hne := (form_parts (hf x (by simp))).2.2.2.2.1
    by_cases c : x.f5 ≤ b ∧ x.f4 ≤ d
    · have : (ns.map fun s => val s d b x) = ns.map fun s => movE s x := List.map_congr_left fun s _ => by unfold val; rw [if_pos c]
      rw [this, mov_sum hne hp, if_pos hx.1, if_pos hx.2]; omega
    · have : (ns.map fun s => val s d b x).sum = 0 := map_zero _ _ fun s _ => by unfold val; rw [if_neg c]
      rw [this]; rfl
theorem zero_bd {ns : List ByteArray} {l : List S26} {d b : Int} : -2000000000000000 * (ns.length : Int) ≤ (ns.map fun s => bal l s d b).sum ∧ (ns.map fun s => bal l s d b).sum ≤ 2000000000000000 * (ns.length : Int) := by
  induction ns with
  | nil => simp
  | cons s ns ih =>
    have := bal_bd l s d b
    rw [List.map_cons, List.sum_cons, List.length_cons]; omega
theorem zero_loop {l : List S26} {ns : List ByteArray} {a : ByteArray} {d b : Int} (hz : l.all szB = true) (hlen : ns.length ≤ 600) (hsum : (ns.map fun s => bal l s d b).sum = 0)
    (hnot : (∀ s ∈ ns, s.toList ≠ a.toList) → bal l a d b = 0) (n : Nat) : ∀ (i : Nat) (q : Bool), i + n = ns.length → (q = true ↔ ∃ s ∈ ns.take i, s.toList = a.toList) →
    Ev (fun k => wageofficelaw39_LedgerZero.l0 k a d b true ns ((ns.take i).map fun s => bal l s d b).sum q (i : Int) l) true := by
  induction n with
  | zero =>
    intro i q hi hq
    have hil : i = ns.length := by omega
    subst hil
    rw [List.take_length] at hq ⊢
    refine ev_up ?_
    simp only [wageofficelaw39_LedgerZero.l0]
    refine ev_no (by omega) (ev_yes (by simp) (ev_yes hsum (ev_ite (fun _ => ev_ret _) (fun c => ?_))))
    simp only [bal_eval hz, Option.bind_some]
    refine ev_eq (ev_ret _) ?_
    rw [beq_iff_eq]
    exact hnot fun s hs e => c (hq.2 ⟨s, hs, e⟩)
  | succ n ih =>
    intro i q hi hq
    have hlt : i < ns.length := by omega
    have hrd : rdOf ByteArray.empty ns (i : Int) = ns[i] := by simp [rdOf, List.getD_eq_getElem?_getD, hlt]
    have b1 := zero_bd (ns := ns.take i) (l := l) (d := d) (b := b)
    have b2 := bal_bd l ns[i] d b
    rw [List.length_take] at b1
    refine ev_up ?_
    simp only [wageofficelaw39_LedgerZero.l0]
    refine ev_yes (by omega) (ev_yes (by omega) ?_)
    rw [hrd]
    simp only [bal_eval hz, Option.bind_some]
    rw [w64 (n := (i : Int) + 1) (by omega) (by omega), show (i : Int) + 1 = ((i + 1 : Nat) : Int) from by omega, w64 (by omega) (by omega)]
    have hs : ((ns.take i).map fun s => bal l s d b).sum + bal l ns[i] d b = ((ns.take (i + 1)).map fun s => bal l s d b).sum := by
      rw [take_snoc _ _ hlt, List.map_append, List.sum_append]; simp
    rw [hs]
    refine ev_ite (fun c => ih (i + 1) true (by omega) ?_) (fun c => ih (i + 1) _ (by omega) ?_)
    · refine ⟨fun _ => ?_, fun _ => rfl⟩
      obtain ⟨s, h1, h2⟩ := hq.1 c
      exact ⟨s, by rw [take_snoc _ _ hlt]; exact List.mem_append_left _ h1, h2⟩
    · rw [beq_iff_eq]
      constructor
      · intro h; rw [take_snoc _ _ hlt]; exact ⟨ns[i], List.mem_append_right _ (List.mem_singleton.2 rfl), h⟩
      · rintro ⟨s, h1, h2⟩
        rw [take_snoc _ _ hlt] at h1
        rcases List.mem_append.1 h1 with h1 | h1
        · exact absurd (hq.2 ⟨s, h1, h2⟩) c
        · rw [← List.mem_singleton.1 h1]; exact h2
theorem LedgerZero : wageofficelaw39_LedgerZero.Pure := by
  intro l a d b hl ha hd hb
  have hz := sz_all hl.2
  apply ev_ex
  unfold wageofficelaw39_LedgerZero.f
  refine ev_bnd head_ev (ev_ite (fun _ => ev_ret _) (fun c => ?_))
  rw [acc_eval hz]
  simp only [Option.bind_some]
  by_cases hv : validB l = true
  · have hvl := valid_iff.1 hv
    rw [if_pos hv]
    have hal := acc_len l
    refine ev_no (by omega) ?_
    have hp : ((accF l).map ByteArray.toList).Pairwise (· ≠ ·) := (accF_spec l).1.imp fun {u v} h e => by subst e; exact Go.Proofs.Ytbmochegfdljfaa.Srt.lt_irr _ h
    have hsum : ((accF l).map fun s => bal l s d b).sum = 0 := by
      have : ((accF l).map fun s => bal l s d b) = (accF l).map fun s => balF l s d b := List.map_congr_left fun s _ => bal_eq hvl s d b
      rw [this]; exact zero_sum hp hvl.form fun x hx => acc_mem hx
    refine zero_loop hz (by omega) hsum (fun hn => ?_) (accF l).length 0 false (by omega) (by simp)
    rw [bal_eq hvl]
    refine map_zero _ _ fun x hx => ?_
    unfold val movE
    have hm := acc_mem hx
    obtain ⟨s1, h1, e1⟩ := List.mem_map.1 hm.1
    obtain ⟨s2, h2, e2⟩ := List.mem_map.1 hm.2
    have g1 : ¬ a.toList = x.f1.toList := fun h => hn s1 h1 (e1.trans h.symm)
    have g2 : ¬ a.toList = x.f2.toList := fun h => hn s2 h2 (e2.trans h.symm)
    rw [if_neg g1, if_neg g2]
    split <;> rfl
  · rw [if_neg hv]
    refine ev_no (by simp) ?_
    have h0 : ∀ s, bal l s d b = 0 := fun s => by unfold bal; rw [if_neg hv]
    exact zero_loop (ns := []) hz (by simp) rfl (fun _ => h0 a) 0 0 false rfl (by simp)
end Go.Proofs.Ytbmochegfdljfaa.Pure
