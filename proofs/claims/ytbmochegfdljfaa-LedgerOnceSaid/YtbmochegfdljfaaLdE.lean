/- What the functions of ledger, and of its laws, come to on lists of entries. -/
import Derived.Test.YtbmochegfdljfaaMyx21
import Derived.Test.YtbmochegfdljfaaMyx19
import Derived.Test.YtbmochegfdljfaaMyx24
import Derived.Test.YtbmochegfdljfaaMyx27
import Derived.Test.YtbmochegfdljfaaMyx18
import Derived.Test.YtbmochegfdljfaaMyx23
import Derived.Test.YtbmochegfdljfaaMyx26
import Derived.Test.YtbmochegfdljfaaOpnT
import Derived.Test.YtbmochegfdljfaaEvA
import Derived.Test.YtbmochegfdljfaaSrt
namespace Go.Proofs.Ytbmochegfdljfaa.LdE
open Go.RowKit Go.Proofs.Ytbmochegfdljfaa.My Go.Proofs.Ytbmochegfdljfaa.Aid Go.Proofs.Ytbmochegfdljfaa.EvA Go.Proofs.YtbmochegfdljfaaW.PrintWords Go.Proofs.YtbmochegfdljfaaW.PrintLast Go.Proofs.YtbmochegfdljfaaW.PrintMore
set_option linter.unusedVariables false
set_option linter.unusedSimpArgs false

abbrev En := S26
theorem head_ev : Ev (fun k => wageofficelaw39_head.f k) true := by
  have h : wageofficelaw39_head.f 20 = some true := by decide +kernel
  exact Ev.of (fun k => wageofficelaw39_head.mono k) h
theorem sz_of {x : En} (h : B26 x) : szB x = true := by
  unfold szB
  rw [h.1, decide_eq_true h.2.1, decide_eq_true h.2.2.1]; rfl
theorem sz_all {l : List En} (h : ∀ x ∈ l, B26 x) : l.all szB = true := List.all_eq_true.2 fun x hx => sz_of (h x hx)
def bal (l : List En) (a : ByteArray) (d b : Int) : Int := if validB l = true then balG l a d b else 0
theorem bal_eval {l : List En} (h : l.all szB = true) (a : ByteArray) (d b : Int) : ledger_Balance.f l a d b = some (bal l a d b) := by
  unfold ledger_Balance.f bal; rw [if_pos h]
theorem acc_eval {l : List En} (h : l.all szB = true) : ledger_Accounts.f l = some (if validB l = true then accF l else []) := by
  unfold ledger_Accounts.f; rw [if_pos h]
theorem val_eval {l : List En} (h : l.all szB = true) : ledger_Valid.f l = some (validB l) := by
  unfold ledger_Valid.f; rw [if_pos h]
theorem post_eval {l : List En} (h : l.all szB = true) {a0 : Int} {a1 a2 : ByteArray} {a3 a4 a5 : Int} (he : szB ⟨a0, a1, a2, a3, a4, a5⟩ = true) : ledger_Post.f l a0 a1 a2 a3 a4 a5 = some (postL l ⟨a0, a1, a2, a3, a4, a5⟩) := by
  unfold ledger_Post.f; rw [if_pos (by rw [h, he]; rfl)]

/-! ### valid ledgers -/
structure Vl (l : List En) : Prop where
  len : l.length ≤ 2000
  form : ∀ x ∈ l, formB x = true
  dis : l.Pairwise fun a b => a.f0 ≠ b.f0
  srt : l.Pairwise fun a b => a.f5 ≤ b.f5
theorem goes_iff : ∀ {l : List En} {seen : List Int} {last : Int}, goesB seen last l = true ↔
    (∀ x ∈ l, formB x = true) ∧ (∀ x ∈ l, x.f0 ∉ seen) ∧ (l.Pairwise fun a b => a.f0 ≠ b.f0) ∧ (∀ x ∈ l, last ≤ x.f5) ∧ (l.Pairwise fun a b => a.f5 ≤ b.f5)
  | [], _, _ => by simp [goesB]
  | x :: l, seen, last => by
    rw [goes_cons]
    simp only [Bool.and_eq_true, Bool.not_eq_true', decide_eq_true_eq, List.contains_eq_mem, decide_eq_false_iff_not]
    rw [goes_iff (l := l)]
    simp only [List.pairwise_cons, List.mem_cons, forall_eq_or_imp]
    constructor
    · rintro ⟨h1, h2, h3, h4, h5, h6, h7, h8⟩
      exact ⟨⟨h2, h4⟩, ⟨h1, fun y hy h => h5 y hy (.inr h)⟩, ⟨fun y hy e => h5 y hy (.inl e.symm), h6⟩, ⟨h3, fun y hy => Int.le_trans h3 (h7 y hy)⟩, h7, h8⟩
    · rintro ⟨⟨h1, h2⟩, ⟨h3, h4⟩, ⟨h5, h6⟩, ⟨h7, h8⟩, h9, h10⟩
      exact ⟨h3, h1, h7, h2, fun y hy h => h.elim (fun e => h5 y hy e.symm) (h4 y hy), h6, h9, h10⟩
theorem form_parts {x : En} (h : formB x = true) : 0 ≤ x.f0 ∧ x.f0 ≤ 1000000000000 ∧ nameB x.f1 = true ∧ nameB x.f2 = true ∧ x.f1.toList ≠ x.f2.toList ∧ 0 < x.f3 ∧ x.f3 ≤ 1000000000000 ∧ 0 ≤ x.f4 ∧ x.f4 ≤ 36524 ∧ 0 ≤ x.f5 ∧ x.f5 ≤ 36524 := by
  simp only [formB, Bool.and_eq_true, decide_eq_true_eq] at h
  obtain ⟨⟨h1, h2⟩, h3, h4, h5, h6, h7, h8, h9, h10, h11⟩ := h
  exact ⟨h1, h2, h3, h4, h5, h6, h7, h8, h9, h10, h11⟩
theorem form_mk {x : En} (h : 0 ≤ x.f0 ∧ x.f0 ≤ 1000000000000 ∧ nameB x.f1 = true ∧ nameB x.f2 = true ∧ x.f1.toList ≠ x.f2.toList ∧ 0 < x.f3 ∧ x.f3 ≤ 1000000000000 ∧ 0 ≤ x.f4 ∧ x.f4 ≤ 36524 ∧ 0 ≤ x.f5 ∧ x.f5 ≤ 36524) : formB x = true := by
  obtain ⟨h1, h2, h3, h4, h5, h6⟩ := h
  simp only [formB, Bool.and_eq_true, decide_eq_true_eq]
  exact ⟨⟨h1, h2⟩, h3, h4, h5, h6⟩
theorem valid_iff {l : List En} : validB l = true ↔ Vl l := by
  unfold validB
  simp only [Bool.and_eq_true, decide_eq_true_eq]
  rw [goes_iff]
  constructor
  · rintro ⟨h1, h2, _, h3, _, h4⟩; exact ⟨h1, h2, h3, h4⟩
  · rintro ⟨h1, h2, h3, h4⟩
    exact ⟨h1, h2, fun x _ => by simp, h3, fun x hx => (form_parts (h2 x hx)).2.2.2.2.2.2.2.2.2.1, h4⟩
theorem Vl.nil : Vl [] := ⟨by simp, by simp, List.Pairwise.nil, List.Pairwise.nil⟩
theorem Vl.snoc {l : List En} {e : En} (h : Vl l) (hf : formB e = true) (hl : l.length < 2000) (hd : ∀ x ∈ l, x.f0 ≠ e.f0) (hs : ∀ x ∈ l, x.f5 ≤ e.f5) : Vl (l ++ [e]) := by
  refine ⟨by simp; omega, fun x hx => ?_, ?_, ?_⟩
  · rcases List.mem_append.1 hx with hx | hx
    · exact h.form x hx
    · rw [List.mem_singleton.1 hx]; exact hf
  · rw [List.pairwise_append]; exact ⟨h.dis, by simp, fun x hx y hy => by rw [List.mem_singleton.1 hy]; exact hd x hx⟩
  · rw [List.pairwise_append]; exact ⟨h.srt, by simp, fun x hx y hy => by rw [List.mem_singleton.1 hy]; exact hs x hx⟩
theorem dis_unique : ∀ {l : List En}, (l.Pairwise fun a b => a.f0 ≠ b.f0) → ∀ {x y : En}, x ∈ l → y ∈ l → x.f0 = y.f0 → x = y
  | [], _, _, _, h, _, _ => by simp at h
  | a :: l, h, x, y, hx, hy, e => by
    rw [List.pairwise_cons] at h
    rcases List.mem_cons.1 hx with ex | hx'
    · rcases List.mem_cons.1 hy with ey | hy'
      · rw [ex, ey]
      · rw [ex] at e; exact absurd e (h.1 y hy')
    · rcases List.mem_cons.1 hy with ey | hy'
      · rw [ey] at e; exact absurd e.symm (h.1 x hx')
      · exact dis_unique h.2 hx' hy' e

/-! ### balances -/
def val (a : ByteArray) (d b : Int) (x : En) : Int := if x.f5 ≤ b ∧ x.f4 ≤ d then movE a x else 0
def balF (l : List En) (a : ByteArray) (d b : Int) : Int := (l.map (val a d b)).sum
theorem balF_append (l m : List En) (a : ByteArray) (d b : Int) : balF (l ++ m) a d b = balF l a d b + balF m a d b := by simp [balF]
theorem balF_cons (x : En) (l : List En) (a : ByteArray) (d b : Int) : balF (x :: l) a d b = val a d b x + balF l a d b := by simp [balF]
theorem filter_sum (p : En → Bool) (g : En → Int) : ∀ l : List En, ((l.filter p).map g).sum = (l.map fun x => if p x = true then g x else 0).sum
  | [] => rfl
  | x :: l => by
    rw [List.map_cons, List.sum_cons, ← filter_sum p g l]
    by_cases h : p x = true
    · rw [List.filter_cons_of_pos h, if_pos h]; simp
    · rw [List.filter_cons_of_neg h, if_neg h]; omega
theorem takeWhile_filter (b : Int) : ∀ {l : List En}, (l.Pairwise fun x y => x.f5 ≤ y.f5) → (l.takeWhile fun x => decide (x.f5 ≤ b)) = l.filter fun x => decide (x.f5 ≤ b)
  | [], _ => rfl
  | x :: l, h => by
    rw [List.pairwise_cons] at h
    by_cases hx : x.f5 ≤ b
    · rw [List.takeWhile_cons_of_pos (by simpa using hx), List.filter_cons_of_pos (by simpa using hx), takeWhile_filter b h.2]
    · rw [List.takeWhile_cons_of_neg (by simpa using hx), List.filter_cons_of_neg (by simpa using hx)]
      symm
      rw [List.filter_eq_nil_iff]
      intro y hy
      have := h.1 y hy
      simp; omega
theorem balG_eq {l : List En} (h : Vl l) (a : ByteArray) (d b : Int) : balG l a d b = balF l a d b := by
  unfold balG balF
  rw [takeWhile_filter b h.srt, List.filter_filter, filter_sum]
  congr 1
  refine List.map_congr_left fun x _ => ?_
  unfold val
  by_cases h1 : x.f5 ≤ b <;> by_cases h2 : x.f4 ≤ d <;> simp [h1, h2]
theorem bal_eq {l : List En} (h : Vl l) (a : ByteArray) (d b : Int) : bal l a d b = balF l a d b := by
  unfold bal; rw [if_pos (valid_iff.2 h), balG_eq h]
theorem mov_bd {x : En} (h : formB x = true) (a : ByteArray) : -1000000000000 ≤ movE a x ∧ movE a x ≤ 1000000000000 := by
  have := form_parts h
  unfold movE; split <;> (try split) <;> omega
theorem val_bd {x : En} (h : formB x = true) (a : ByteArray) (d b : Int) : -1000000000000 ≤ val a d b x ∧ val a d b x ≤ 1000000000000 := by
  have := mov_bd h a
  unfold val; split <;> omega
theorem balF_bd {l : List En} (h : ∀ x ∈ l, formB x = true) (a : ByteArray) (d b : Int) : -1000000000000 * (l.length : Int) ≤ balF l a d b ∧ balF l a d b ≤ 1000000000000 * (l.length : Int) := by
  induction l with
  | nil => simp [balF]
  | cons x l ih =>
    have h1 := val_bd (h x (by simp)) a d b
    have h2 := ih fun y hy => h y (by simp [hy])
    rw [balF_cons, List.length_cons]; omega
theorem bal_bd (l : List En) (a : ByteArray) (d b : Int) : -2000000000000000 ≤ bal l a d b ∧ bal l a d b ≤ 2000000000000000 := by
  by_cases h : validB l = true
  · have hv := valid_iff.1 h
    rw [bal_eq hv]
    have := balF_bd hv.form a d b
    have := hv.len
    omega
  · unfold bal; rw [if_neg h]; omega

/-! ### posting -/
theorem agree_iff {x e : En} : agreeB x e = true ↔ x.f0 = e.f0 ∧ x.f1.toList = e.f1.toList ∧ x.f2.toList = e.f2.toList ∧ x.f3 = e.f3 ∧ x.f4 = e.f4 := by
  unfold agreeB; simp [and_assoc]
theorem idAt_of {l : List En} (h : Vl l) {x : En} {id : Int} (hx : x ∈ l) (he : x.f0 = id) : idAt l id = some x := by
  unfold idAt
  cases hf : l.find? (fun x => x.f0 == id) with
  | none =>
    rw [List.find?_eq_none] at hf
    exact absurd he (by simpa using hf x hx)
  | some y =>
    have h1 := List.mem_of_find?_eq_some hf
    have h2 := List.find?_some hf
    simp at h2
    rw [dis_unique h.dis h1 hx (by omega)]
theorem idAt_not {l : List En} {id : Int} (h : ∀ x ∈ l, x.f0 ≠ id) : idAt l id = none := by
  unfold idAt; rw [List.find?_eq_none]; intro x hx; simpa using h x hx
theorem last_le {l : List En} (h : l.Pairwise fun a b => a.f5 ≤ b.f5) {e : En} : (¬ (0 < l.length ∧ e.f5 < (rd_T26 l (l.length - 1 : Int)).f5)) ↔ ∀ x ∈ l, x.f5 ≤ e.f5 := by
  rcases Nat.eq_zero_or_pos l.length with h0 | h0
  · have : l = [] := List.eq_nil_of_length_eq_zero h0
    subst this; simp
  · have hr : rd_T26 l (l.length - 1 : Int) = l[l.length - 1] := by
      have : (l.length - 1 : Int) = ((l.length - 1 : Nat) : Int) := by omega
      rw [this, rd26_at (by omega)]
    rw [hr]
    constructor
    · intro hn x hx
      obtain ⟨j, hj, rfl⟩ := List.getElem_of_mem hx
      have h1 : l[j].f5 ≤ l[l.length - 1].f5 := by
        by_cases e : j = l.length - 1
        · subst e; exact Int.le_refl _
        · exact List.pairwise_iff_getElem.1 h j (l.length - 1) hj (by omega) (by omega)
      have : ¬ e.f5 < l[l.length - 1].f5 := fun hh => hn ⟨h0, hh⟩
      omega
    · rintro hn ⟨_, hh⟩
      have := hn _ (List.getElem_mem (show l.length - 1 < l.length by omega))
      omega
theorem post_known {l : List En} {e x : En} (h : Vl l) (hf : formB e = true) (hx : x ∈ l) (ha : agreeB x e = true) : postL l e = (l, 0) := by
  unfold postL
  rw [if_neg (by rw [hf]; simp), if_neg (by rw [valid_iff.2 h]; simp), idAt_of h hx (agree_iff.1 ha).1]
  simp only
  rw [if_pos ha]
theorem post_twice {l : List En} {e x : En} (h : Vl l) (hf : formB e = true) (hx : x ∈ l) (hi : x.f0 = e.f0) (ha : ¬ agreeB x e = true) : postL l e = ([], 5) := by
  unfold postL
  rw [if_neg (by rw [hf]; simp), if_neg (by rw [valid_iff.2 h]; simp), idAt_of h hx hi]
  simp only
  rw [if_neg ha]
theorem post_new {l : List En} {e : En} (h : Vl l) (hf : formB e = true) (hd : ∀ x ∈ l, x.f0 ≠ e.f0) (hl : l.length ≠ 2000) (hs : ∀ x ∈ l, x.f5 ≤ e.f5) : postL l e = (l ++ [e], 0) := by
  unfold postL
  rw [if_neg (by rw [hf]; simp), if_neg (by rw [valid_iff.2 h]; simp), idAt_not hd]
  simp only
  rw [if_neg hl, if_neg ((last_le h.srt).2 hs)]
/-- What posting does: nothing new; or a new entry at the end; or an error. -/
inductive Posted (l : List En) (e : En) : List En × Int → Prop
  | known (x : En) (h : Vl l) (hf : formB e = true) (hx : x ∈ l) (ha : agreeB x e = true) : Posted l e (l, 0)
  | new (h : Vl l) (hf : formB e = true) (hd : ∀ x ∈ l, x.f0 ≠ e.f0) (hl : l.length < 2000) (hs : ∀ x ∈ l, x.f5 ≤ e.f5) : Posted l e (l ++ [e], 0)
  | err (c : Int) (hc : c ≠ 0) : Posted l e ([], c)
theorem posted (l : List En) (e : En) : Posted l e (postL l e) := by
  unfold postL
  by_cases hf : formB e = false
  · rw [if_pos hf]; exact .err 1 (by omega)
  · rw [if_neg hf]
    have hf : formB e = true := by simpa using hf
    by_cases hv : validB l = false
    · rw [if_pos hv]; exact .err 1 (by omega)
    · rw [if_neg hv]
      have hv : Vl l := valid_iff.1 (by simpa using hv)
      cases hi : idAt l e.f0 with
      | some x =>
        simp only
        have hx : x ∈ l := List.mem_of_find?_eq_some hi
        by_cases ha : agreeB x e = true
        · rw [if_pos ha]; exact .known x hv hf hx ha
        · rw [if_neg ha]; exact .err 5 (by omega)
      | none =>
        simp only
        have hd : ∀ x ∈ l, x.f0 ≠ e.f0 := fun x hx => by
          have := (List.find?_eq_none.1 hi) x hx
          simpa using this
        by_cases h2 : l.length = 2000
        · rw [if_pos h2]; exact .err 2 (by omega)
        · rw [if_neg h2]
          by_cases hb : 0 < l.length ∧ e.f5 < (rd_T26 l (l.length - 1 : Int)).f5
          · rw [if_pos hb]; exact .err 6 (by omega)
          · rw [if_neg hb]; exact .new hv hf hd (by have := hv.len; omega) ((last_le hv.srt).1 hb)
theorem posted_sz {l : List En} {e : En} (h : l.all szB = true) (he : szB e = true) : (postL l e).1.all szB = true := by
  have hp := posted l e
  generalize postL l e = r at hp ⊢
  cases hp with
  | known => exact h
  | new => simp only [List.all_append, h, List.all_cons, he, List.all_nil]; rfl
  | err => rfl

/-! ### accounts -/
theorem ins_len (l : List ByteArray) (s : ByteArray) : (insL l s).length ≤ l.length + 1 := by
  induction l with
  | nil => simp [insL]
  | cons x l ih => unfold insL; split <;> (try split) <;> simp <;> omega
theorem acc_len (l : List En) : (accF l).length ≤ 2 * l.length := by
  have key : ∀ (l : List En) (out : List ByteArray), (l.foldl (fun out x => insL (insL out x.f1) x.f2) out).length ≤ out.length + 2 * l.length := by
    intro l
    induction l with
    | nil => intro out; simp
    | cons x l ih =>
      intro out
      have h1 := ih (insL (insL out x.f1) x.f2)
      have h2 := ins_len (insL out x.f1) x.f2
      have h3 := ins_len out x.f1
      rw [List.foldl_cons, List.length_cons]; omega
  have := key l []
  simpa [accF] using this
theorem acc_mem {l : List En} {x : En} (hx : x ∈ l) : x.f1.toList ∈ (accF l).map ByteArray.toList ∧ x.f2.toList ∈ (accF l).map ByteArray.toList := by
  have h := (accF_spec l).2
  refine ⟨(h _).2 (List.mem_map_of_mem ?_), (h _).2 (List.mem_map_of_mem ?_)⟩
  · exact List.mem_flatMap.2 ⟨x, hx, by simp⟩
  · exact List.mem_flatMap.2 ⟨x, hx, by simp⟩
theorem acc_same {l m : List En} (h : ∀ x, x ∈ l ↔ x ∈ m) : (accF l).map ByteArray.toList = (accF m).map ByteArray.toList := by
  refine Go.Proofs.Ytbmochegfdljfaa.Srt.sorted_ext (accF_spec l).1 (accF_spec m).1 (fun y => ?_)
  rw [(accF_spec l).2, (accF_spec m).2]
  simp only [flatL, List.mem_map, List.mem_flatMap, h]

/-! ### equal lists -/
theorem same_loop (l : List En) (hl : l.length ≤ 140737488351232) (d : Nat) : ∀ i : Nat, i + d = l.length → Ev (fun k => wageofficeref39_Same.l0 k (i : Int) l l) true := by
  induction d with
  | zero =>
    intro i hi
    refine ev_up ?_
    simp only [wageofficeref39_Same.l0]
    exact ev_no (by omega) (ev_ret _)
  | succ d ih =>
    intro i hi
    refine ev_up ?_
    simp only [wageofficeref39_Same.l0]
    refine ev_yes (by omega) (ev_yes (by omega) (ev_yes (by omega) (ev_no (by simp) ?_)))
    rw [w64 (by omega) (by omega), show (i : Int) + 1 = ((i + 1 : Nat) : Int) from by omega]
    exact ih (i + 1) (by omega)
theorem same_ev (l : List En) (hl : l.length ≤ 140737488351232) : Ev (fun k => wageofficeref39_Same.f k l l) true := by
  unfold wageofficeref39_Same.f
  exact ev_yes rfl (same_loop l hl l.length 0 (by omega))
theorem strings_loop (l m : List ByteArray) (hm : l.map ByteArray.toList = m.map ByteArray.toList) (hl : l.length ≤ 140737488351232) (d : Nat) : ∀ i : Nat, i + d = l.length → Ev (fun k => wageofficeref12_Strings.l0 k l m (i : Int)) true := by
  have hlm : l.length = m.length := by have := congrArg List.length hm; simpa using this
  induction d with
  | zero =>
    intro i hi
    refine ev_up ?_
    simp only [wageofficeref12_Strings.l0]
    exact ev_no (by omega) (ev_ret _)
  | succ d ih =>
    intro i hi
    refine ev_up ?_
    simp only [wageofficeref12_Strings.l0]
    have he : (rdOf ByteArray.empty l (i : Int)).toList = (rdOf ByteArray.empty m (i : Int)).toList := by
      have h1 : (l.map ByteArray.toList)[i]? = (m.map ByteArray.toList)[i]? := by rw [hm]
      have hi1 : i < l.length := by omega
      have hi2 : i < m.length := by omega
      rw [List.getElem?_map, List.getElem?_map, List.getElem?_eq_getElem hi1, List.getElem?_eq_getElem hi2] at h1
      simpa [rdOf, List.getD_eq_getElem?_getD, hi1, hi2] using h1
    refine ev_yes (by omega) (ev_yes (by omega) (ev_yes (by omega) (ev_yes he ?_)))
    rw [w64 (by omega) (by omega), show (i : Int) + 1 = ((i + 1 : Nat) : Int) from by omega]
    exact ih (i + 1) (by omega)
theorem strings_ev (l m : List ByteArray) (hm : l.map ByteArray.toList = m.map ByteArray.toList) (hl : l.length ≤ 140737488351232) : Ev (fun k => wageofficeref12_Strings.f k l m) true := by
  have hlm : l.length = m.length := by have := congrArg List.length hm; simpa using this
  unfold wageofficeref12_Strings.f
  exact ev_yes (by omega) (strings_loop l m hm hl l.length 0 (by omega))
end Go.Proofs.Ytbmochegfdljfaa.LdE
