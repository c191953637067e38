/- What the reference's division comes to: the fair one. -/
import Derived.Test.YtnadfkhllfgoiaaMyx46
import Derived.Test.YtnadfkhllfgoiaaMyx20
import Derived.Test.YtnadfkhllfgoiaaMyx23
import Derived.Test.YtnadfkhllfgoiaaShE
namespace Go.Proofs.Ytnadfkhllfgoiaa.ShR
open Go.RowKit Go.Proofs.Ytnadfkhllfgoiaa.My Go.Proofs.Ytnadfkhllfgoiaa.Aid Go.Proofs.Ytnadfkhllfgoiaa.EvA Go.Proofs.Ytnadfkhllfgoiaa.ShM Go.Proofs.Ytnadfkhllfgoiaa.ShP Go.Proofs.Ytnadfkhllfgoiaa.ShE Go.Proofs.YtnadfkhllfgoiaaW.PrintWords Go.Proofs.YtnadfkhllfgoiaaW.PrintLast Go.Proofs.YtnadfkhllfgoiaaW.PrintMore
set_option linter.unusedVariables false
set_option linter.unusedSimpArgs false

theorem at_mid (a : List Int) (p : Int) (b : List Int) : at_ (a ++ p :: b) a.length = p := by
  simp [at_, List.getD_eq_getElem?_getD]
theorem rd_mid {a : List Int} {p : Int} {b : List Int} {n : Nat} (h : n = a.length) : rd (a ++ p :: b) (n : Int) = p := by
  rw [rd_at, h, at_mid]
theorem set_mid {a : List Int} {p v : Int} {b : List Int} {n : Nat} (h : n = a.length) : (a ++ p :: b).set n v = a ++ v :: b := by
  subst h
  induction a with
  | nil => rfl
  | cons x a ih => simp [ih]
def cnt (l : List Int) (L : Int) : Int := ((l.countP fun c => decide (L < c) : Nat) : Int)
theorem cnt_cons (x : Int) (l : List Int) (L : Int) : cnt (x :: l) L = cnt l L + if L < x then 1 else 0 := by
  unfold cnt
  rw [List.countP_cons]
  by_cases h : L < x <;> simp [h]
theorem cnt_snoc (x : Int) (l : List Int) (L : Int) : cnt (l ++ [x]) L = cnt l L + if L < x then 1 else 0 := by
  unfold cnt
  rw [List.countP_append, List.countP_cons, List.countP_nil]
  by_cases h : L < x <;> simp [h]
theorem cnt_bd (l : List Int) (L : Int) : 0 ≤ cnt l L ∧ cnt l L ≤ l.length := by
  unfold cnt
  have := List.countP_le_length (p := fun c => decide (L < c)) (l := l)
  omega
theorem cnt_zero {l : List Int} {L : Int} (h : cnt l L = 0) : ∀ x ∈ l, x ≤ L := by
  induction l with
  | nil => intro x hx; simp at hx
  | cons a l ih =>
    rw [cnt_cons] at h
    have := (cnt_bd l L).1
    intro x hx
    by_cases c : L < a
    · rw [if_pos c] at h; omega
    · rw [if_neg c] at h
      rcases List.mem_cons.1 hx with rfl | hx
      · omega
      · exact ih (by omega) x hx
theorem cnt_mono {l : List Int} {L K : Int} (h : L ≤ K) : cnt l K ≤ cnt l L := by
  induction l with
  | nil => simp [cnt]
  | cons a l ih =>
    rw [cnt_cons, cnt_cons]
    by_cases c : K < a
    · rw [if_pos c, if_pos (by omega)]; omega
    · rw [if_neg c]; split <;> omega
theorem cnt_lt {l : List Int} {L K : Int} (h : L ≤ K) {x : Int} (hx : x ∈ l) (h1 : L < x) (h2 : x ≤ K) : cnt l K + 1 ≤ cnt l L := by
  induction l with
  | nil => simp at hx
  | cons a l ih =>
    rw [cnt_cons, cnt_cons]
    rcases List.mem_cons.1 hx with rfl | hx
    · rw [if_neg (by omega), if_pos h1]
      have := cnt_mono (l := l) h
      omega
    · have := ih hx
      by_cases c : K < a
      · rw [if_pos c, if_pos (by omega)]; omega
      · rw [if_neg c]; split <;> omega
theorem cnt_same {l : List Int} {L K : Int} (h : ∀ x ∈ l, L < x → K < x) : cnt l L ≤ cnt l K := by
  induction l with
  | nil => simp [cnt]
  | cons a l ih =>
    rw [cnt_cons, cnt_cons]
    have := ih (fun x hx => h x (by simp [hx]))
    by_cases c : L < a
    · rw [if_pos c, if_pos (h a (by simp) c)]; omega
    · rw [if_neg c]; split <;> omega
theorem lsum_cons (x : Int) (l : List Int) (L : Int) : lsum (x :: l) L = mn x L + lsum l L := by
  unfold lsum; rw [List.map_cons, List.sum_cons]
theorem lsum_add {l : List Int} {L e : Int} (he : 0 ≤ e) (h : ∀ x ∈ l, L < x → L + e ≤ x) : lsum l (L + e) = lsum l L + e * cnt l L := by
  induction l with
  | nil => simp [lsum, cnt]
  | cons a l ih =>
    rw [lsum_cons, lsum_cons, cnt_cons, ih (fun x hx => h x (by simp [hx]))]
    have ha := h a (by simp)
    by_cases c : L < a
    · have := ha c
      rw [if_pos c, Int.mul_add]
      unfold mn; omega
    · rw [if_neg c, Int.add_zero]
      unfold mn; omega
theorem lsum_all {l : List Int} {L : Int} (h : ∀ x ∈ l, x ≤ L) : (l.map fun c => mn c L) = l := by
  induction l with
  | nil => rfl
  | cons a l ih =>
    rw [List.map_cons, ih (fun x hx => h x (by simp [hx]))]
    have := h a (by simp)
    congr 1; unfold mn; omega
/-- Whatever the level: where what is left is less than one for each, its distribution is fair. -/
theorem dist_fairly {t : Int} {l : List Int} (h : Ok t l) {L : Int} (hL : 0 ≤ L) (h1 : lsum l L ≤ t) (h2 : t < lsum l (L + 1)) : Fairly t l (dist (t - lsum l L) (l.map fun c => mn c L) l) := by
  have hpl : (l.map fun c => mn c L).length = l.length := by simp
  have hp : ∀ i, i < l.length → at_ (l.map fun c => mn c L) i = mn (at_ l i) L := fun i hi => at_map _ l i hi
  obtain ⟨a1, a2, a3, a4⟩ := dist_spec (l.map fun c => mn c L) (t - lsum l L) l (by omega) hpl (fun i hi => by rw [hp i (by omega)]; unfold mn; omega)
  have hs : (l.map fun c => mn c L).sum = lsum l L := rfl
  rw [hs] at a3 a4
  have hlen : (dist (t - lsum l L) (l.map fun c => mn c L) l).length = l.length := by rw [dist_length, hpl]
  generalize dist (t - lsum l L) (l.map fun c => mn c L) l = r at *
  rw [hpl] at a1 a2 a4
  refine ⟨hlen, fun i hi => ?_, fun i k hi hk hlt => ?_, ?_⟩
  · have b1 := a1 i hi
    have b2 := h.at_ i hi
    rw [hp i hi] at b1
    unfold mn at b1; omega
  · have b1 := a1 i hi
    have b2 := a1 k hk
    have b3 := a2 i k hi hk
    rw [hp i hi] at b1 b3
    rw [hp k hk] at b2 b3
    unfold mn at b1 b2 b3
    omega
  · rcases a4 with a4 | a4
    · have hle : r.sum ≤ l.sum := sum_le hlen (fun i hi => (a1 i (by omega)).2.2)
      rw [a4] at hle ⊢
      omega
    · have e : r = l.map fun c => mn c (L + 1) := by
        apply ext_at (by rw [hlen]; simp)
        intro i hi
        have b1 := a1 i (by omega)
        have b2 := a4 i (by omega)
        rw [at_map _ l i (by omega)]
        rw [hp i (by omega)] at b1 b2
        unfold mn at *
        omega
      have : r.sum = lsum l (L + 1) := by rw [e]; rfl
      omega
theorem all_fairly {t : Int} {l : List Int} (h : Ok t l) (hs : l.sum ≤ t) : Fairly t l l :=
  ⟨rfl, fun i hi => ⟨(h.at_ i hi).1, Int.le_refl _⟩, fun i k hi hk hlt => by omega, by omega⟩
theorem l3_ev (b : List Int) : ∀ (b' a a' : List Int) (x : Int), a.length = a'.length → b.length = b'.length → 0 ≤ x → x ≤ 1000000000000 → (∀ y ∈ b, 0 ≤ y ∧ y ≤ 1000000000000) → a.length + b.length ≤ 64 →
    Ev (fun k => wageofficeref32_Fair.l3 k (a' ++ b') (a ++ b) x (a.length : Int)) (a ++ dist x b b', 0) := by
  induction b with
  | nil =>
    intro b' a a' x h1 h2 h3 h4 h5 h6
    obtain rfl : b' = [] := List.length_eq_zero_iff.1 (by simpa using h2.symm)
    refine ev_up ?_
    simp only [wageofficeref32_Fair.l3]
    refine ev_no (by simp; omega) (ev_eq (ev_ret _) ?_)
    simp [dist]
  | cons p b ih =>
    intro b' a a' x h1 h2 h3 h4 h5 h6
    cases b' with
    | nil => simp at h2
    | cons c b' =>
      have hp := h5 p (by simp)
      simp only [List.length_cons] at h2 h6
      refine ev_up ?_
      simp only [wageofficeref32_Fair.l3]
      rw [rd_mid rfl, rd_mid h1, show ((a.length : Int)).toNat = a.length from by omega, set_mid rfl, w64 (n := p + 1) (by omega) (by omega), w64 (n := x - 1) (by omega) (by omega), w64 (n := (a.length : Int) + 1) (by omega) (by omega)]
      have nx : ∀ (v y : Int), 0 ≤ y → y ≤ 1000000000000 → Ev (fun k => wageofficeref32_Fair.l3 k (a' ++ c :: b') (a ++ v :: b) y ((a.length : Int) + 1)) (a ++ v :: dist y b b', 0) := fun v y hy0 hy1 => by
        have := ih b' (a ++ [v]) (a' ++ [c]) y (by simp [h1]) (by omega) hy0 hy1 (fun z hz => h5 z (by simp [hz])) (by simp; omega)
        simpa using this
      refine ev_yes (by simp; omega) (ev_yes (by omega) (ev_yes (by simp; omega) (ev_ite (fun c1 => ev_ite (fun c2 => ?_) (fun c2 => ?_)) (fun c1 => ?_))))
      · have e : dist x (p :: b) (c :: b') = (p + 1) :: dist (x - 1) b b' := by simp only [dist]; rw [if_neg (by omega), if_pos c1]
        rw [e]
        exact nx (p + 1) (x - 1) (by omega) (by omega)
      · obtain rfl : x = 0 := by omega
        have := nx p 0 (by omega) (by omega)
        rw [dist_zero] at this ⊢
        exact this
      · have e : dist x (p :: b) (c :: b') = p :: dist x b b' := by
          simp only [dist]
          split
          · rename_i hx; subst hx; rw [dist_zero]
          · first | rfl | rw [if_neg c1]
        rw [e]
        exact nx p x h3 h4
theorem l2_ev {t L e : Int} {r : Int} {res : List Int × Int} (hL0 : 0 ≤ L) (he : 0 ≤ e) (hL1 : L + e ≤ 1000000000000) (ht : 0 ≤ t ∧ t ≤ 1000000000000) (b : List Int) : ∀ (a : List Int), (∀ x ∈ a ++ b, 0 ≤ x ∧ x ≤ 1000000000000) → (∀ x ∈ b, L < x → L + e ≤ x) → (a ++ b).length ≤ 64 →
    Ev (fun k => wageofficeref32_Fair.l0 k (a ++ b) ((a ++ b).map fun c => mn c (L + e)) (t - lsum (a ++ b) (L + e)) (wrap64 (r + 1))) res →
    Ev (fun k => wageofficeref32_Fair.l2 k (a ++ b) ((a.map fun c => mn c (L + e)) ++ (b.map fun c => mn c L)) (t - (lsum a (L + e) + lsum b L)) r e (a.length : Int)) res := by
  induction b with
  | nil =>
    intro a h1 h2 h3 h4
    refine ev_up ?_
    simp only [wageofficeref32_Fair.l2]
    refine ev_no (by simp) ?_
    simpa [lsum] using h4
  | cons c b ih =>
    intro a h1 h2 h3 h4
    have hc := h1 c (by simp)
    simp only [List.length_append, List.length_cons] at h3
    have hsa : 0 ≤ lsum a (L + e) ∧ lsum a (L + e) ≤ 64000000000000 := lsum_bd _ (by omega) (by omega) (fun x hx => h1 x (by simp [hx]))
    have hsb : 0 ≤ lsum b L ∧ lsum b L ≤ 64000000000000 := lsum_bd _ (by omega) (by omega) (fun x hx => h1 x (by simp [hx]))
    have ha : (a ++ [c]) ++ b = a ++ c :: b := by simp
    have hmc : 0 ≤ mn c L ∧ mn c L ≤ 1000000000000 := by unfold mn; omega
    have nx := ih (a ++ [c]) (by rw [ha]; exact h1) (fun x hx => h2 x (by simp [hx])) (by rw [ha]; simp; omega) (by rw [ha]; exact h4)
    rw [ha] at nx
    have es : lsum (a ++ [c]) (L + e) = lsum a (L + e) + mn c (L + e) := by unfold lsum; rw [List.map_append, List.sum_append]; simp
    rw [es, show ((a ++ [c]).map fun c => mn c (L + e)) = (a.map fun c => mn c (L + e)) ++ [mn c (L + e)] from by simp, show (((a ++ [c]).length : Nat) : Int) = (a.length : Int) + 1 from by simp] at nx
    refine ev_up ?_
    simp only [wageofficeref32_Fair.l2, List.map_cons]
    rw [rd_mid (n := a.length) (by simp), rd_mid rfl, show ((a.length : Int)).toNat = a.length from by omega, set_mid (by simp), lsum_cons,
      w64 (n := mn c L + e) (by omega) (by omega), w64 (n := t - (lsum a (L + e) + (mn c L + lsum b L)) - e) (by omega) (by omega), w64 (n := (a.length : Int) + 1) (by omega) (by omega)]
    refine ev_yes (by simp; omega) (ev_yes (by omega) (ev_yes (by simp; omega) (ev_ite (fun c1 => ?_) (fun c1 => ?_))))
    · have hlt : L < c := by unfold mn at c1; omega
      have h5 := h2 c (by simp) hlt
      have e1 : mn c L = L := by unfold mn; omega
      have e2 : mn c (L + e) = L + e := by unfold mn; omega
      rw [e2] at nx
      rw [e1]
      rw [show t - (lsum a (L + e) + (L + lsum b L)) - e = t - (lsum a (L + e) + (L + e) + lsum b L) from by omega]
      simpa using nx
    · have hle : c ≤ L := by unfold mn at c1; omega
      have e1 : mn c L = c := by unfold mn; omega
      have e2 : mn c (L + e) = c := by unfold mn; omega
      rw [e2] at nx
      rw [e1]
      rw [show t - (lsum a (L + e) + (c + lsum b L)) = t - (lsum a (L + e) + c + lsum b L) from by omega]
      simpa using nx
structure LInv (L : Int) (a : List Int) (m : Int) : Prop where
  le : ∀ x ∈ a, L < x → m ≤ x - L
  at' : m = 1000000000000 ∨ ∃ x ∈ a, L < x ∧ m = x - L
  p : 0 < m
  q : m ≤ 1000000000000
theorem l1_ev {L left r : Int} {res : List Int × Int} (hL : 0 ≤ L) (l : List Int) (hb : ∀ x ∈ l, 0 ≤ x ∧ x ≤ 1000000000000) (hl : l.length ≤ 64)
    (hz : cnt l L = 0 → res = (l.map (fun c => mn c L), 0))
    (hn : ∀ m, LInv L l m → cnt l L ≠ 0 → Ev (fun k => wageofficeref32_Fair.l2 k l (l.map fun c => mn c L) left r (mn m (wrap64 (Int.tdiv left (cnt l L)))) 0) res) (b : List Int) : ∀ (a : List Int) (m : Int), a ++ b = l → LInv L a m →
    Ev (fun k => wageofficeref32_Fair.l1 k l (l.map fun c => mn c L) left r (cnt a L) m (a.length : Int)) res := by
  induction b with
  | nil =>
    intro a m h1 h2
    obtain rfl : a = l := by simpa using h1
    refine ev_up ?_
    simp only [wageofficeref32_Fair.l1]
    exact ev_no (by omega) (ev_ite (fun c => ev_eq (ev_ret _) (hz c).symm) (fun c => hn m h2 c))
  | cons c b ih =>
    intro a m h1 h2
    have hll : l.length = a.length + (b.length + 1) := by rw [← h1]; simp
    have hc := hb c (by rw [← h1]; simp)
    have e1 : rd l (a.length : Int) = c := by rw [← h1]; exact rd_mid rfl
    have e2 : rd (l.map fun c => mn c L) (a.length : Int) = mn c L := by
      rw [← h1, List.map_append, List.map_cons]; exact rd_mid (by simp)
    have hcb := cnt_bd a L
    have e3 : ((a ++ [c]).length : Int) = (a.length : Int) + 1 := by simp
    refine ev_up ?_
    simp only [wageofficeref32_Fair.l1]
    rw [e1, e2, w64 (n := cnt a L + 1) (by omega) (by omega), w64 (n := (a.length : Int) + 1) (by omega) (by omega)]
    refine ev_yes (by omega) (ev_yes (by omega) (ev_yes (by simp; omega) (ev_ite (fun c1 => ?_) (fun c1 => ?_))))
    · have hlt : L < c := by unfold mn at c1; omega
      have em : mn c L = L := by unfold mn; omega
      rw [em, w64 (n := c - L) (by omega) (by omega)]
      have := ih (a ++ [c]) (mn m (c - L)) (by simp [h1]) ⟨fun x hx hx2 => by
          rcases List.mem_append.1 hx with hx | hx
          · have := h2.le x hx hx2; unfold mn; omega
          · obtain rfl : x = c := by simpa using hx
            unfold mn; omega, by
          rcases Int.lt_or_le (c - L) m with hm | hm
          · exact .inr ⟨c, by simp, hlt, by unfold mn; omega⟩
          · have e : mn m (c - L) = m := by unfold mn; omega
            rw [e]
            rcases h2.at' with h | ⟨x, hx, h3, h4⟩
            · exact .inl h
            · exact .inr ⟨x, by simp [hx], h3, h4⟩, by have := h2.p; unfold mn; omega, by have := h2.q; unfold mn; omega⟩
      rw [cnt_snoc, if_pos hlt, e3] at this
      exact this
    · have hle : c ≤ L := by unfold mn at c1; omega
      have := ih (a ++ [c]) m (by simp [h1]) ⟨fun x hx hx2 => by
          rcases List.mem_append.1 hx with hx | hx
          · exact h2.le x hx hx2
          · obtain rfl : x = c := by simpa using hx
            omega, by
          rcases h2.at' with h | ⟨x, hx, h3, h4⟩
          · exact .inl h
          · exact .inr ⟨x, by simp [hx], h3, h4⟩, h2.p, h2.q⟩
      rw [cnt_snoc, if_neg (by omega), e3, Int.add_zero] at this
      exact this
theorem l0_ev {t : Int} {l : List Int} (h : Ok t l) (d : Nat) : ∀ (r : Nat) (L : Int), r + d = l.length + 1 → 0 ≤ L → L ≤ 1000000000000 → lsum l L ≤ t → (cnt l L + r ≤ l.length ∨ t - lsum l L < cnt l L) →
    ∃ m, Ev (fun k => wageofficeref32_Fair.l0 k l (l.map fun c => mn c L) (t - lsum l L) (r : Int)) (m, 0) ∧ Fairly t l m := by
  have hlen := h.len
  have ht0 := h.t0
  have ht1 := h.t1
  induction d with
  | zero =>
    intro r L hr hL hL1 hs hp
    have hcb := cnt_bd l L
    have hp2 : t - lsum l L < cnt l L := hp.resolve_left (by omega)
    have hs0 := lsum_bd L hL hlen h.c
    refine ⟨dist (t - lsum l L) (l.map fun c => mn c L) l, ?_, dist_fairly h hL hs ?_⟩
    · refine ev_up ?_
      simp only [wageofficeref32_Fair.l0]
      refine ev_no (by omega) ?_
      have := l3_ev (l.map fun c => mn c L) l [] [] (t - lsum l L) rfl (by simp) (by omega) (by omega) (fun y hy => by
        obtain ⟨x, hx, rfl⟩ := List.mem_map.1 hy
        have := h.c x hx
        unfold mn; omega) (by simp; omega)
      simpa using this
    · rw [lsum_add (by omega) (fun x hx hlt => by omega)]; omega
  | succ d ih =>
    intro r L hr hL hL1 hs hp
    have hcb := cnt_bd l L
    have hs0 := lsum_bd L hL hlen h.c
    by_cases hz : cnt l L = 0
    · have hall := cnt_zero hz
      have ea := lsum_all hall
      refine ⟨l.map fun c => mn c L, ?_, ?_⟩
      · refine ev_up ?_
        simp only [wageofficeref32_Fair.l0]
        refine ev_yes (by omega) ?_
        exact l1_ev hL l h.c hlen (fun _ => rfl) (fun m _ hne => absurd hz hne) l [] 1000000000000 rfl ⟨fun x hx => by simp at hx, .inl rfl, by omega, by omega⟩
      · rw [ea]
        refine all_fairly h ?_
        have : lsum l L = l.sum := by unfold lsum; rw [ea]
        omega
    · -- what each gets
      have key : ∀ m, LInv L l m → ∃ e, e = mn m ((t - lsum l L) / cnt l L) ∧ 0 ≤ e ∧ (∀ x ∈ l, L < x → L + e ≤ x) ∧ L + e ≤ 1000000000000 ∧ lsum l (L + e) ≤ t ∧ (cnt l (L + e) + (r + 1 : Nat) ≤ l.length ∨ t - lsum l (L + e) < cnt l (L + e)) := fun m hm => by
        have hq0 : 0 ≤ (t - lsum l L) / cnt l L := Int.ediv_nonneg (by omega) (by omega)
        have hqm := Int.mul_ediv_add_emod (t - lsum l L) (cnt l L)
        have hm0 := Int.emod_nonneg (t - lsum l L) hz
        have hm1 := Int.emod_lt_of_pos (t - lsum l L) (show 0 < cnt l L by omega)
        refine ⟨mn m ((t - lsum l L) / cnt l L), rfl, ?_⟩
        generalize (t - lsum l L) / cnt l L = q at *
        have hep := hm.p
        have he0 : 0 ≤ mn m q := by unfold mn; omega
        have hle : ∀ x ∈ l, L < x → L + mn m q ≤ x := fun x hx hlt => by have := hm.le x hx hlt; unfold mn; omega
        have hadd := lsum_add he0 hle
        have heq : mn m q ≤ q := by unfold mn; omega
        have hmul : mn m q * cnt l L ≤ cnt l L * q := by
          rw [Int.mul_comm]
          exact Int.mul_le_mul_of_nonneg_left heq hcb.1
        -- there is one that is open
        have hex : ∃ x ∈ l, L < x := by
          rcases Classical.em (∃ x ∈ l, L < x) with hh | hh
          · exact hh
          · exact absurd (by
              have := cnt_same (l := l) (L := L) (K := 1000000000000) (fun x hx hlt => absurd ⟨x, hx, hlt⟩ hh)
              have h0 : cnt l 1000000000000 ≤ 0 := by
                rcases Int.lt_or_le 0 (cnt l 1000000000000) with hpos | hpos
                · have : ¬ (∀ x ∈ l, ¬ (1000000000000 < x)) := fun hno => by
                    have : cnt l 1000000000000 = 0 := by
                      unfold cnt
                      rw [List.countP_eq_zero.2 (fun x hx => by have := hno x hx; simpa using this)]
                      rfl
                    omega
                  exact absurd (fun x hx => by have := h.c x hx; omega) this
                · exact hpos
              omega) hz
        obtain ⟨x0, hx0, hx0l⟩ := hex
        have hx0b := h.c x0 hx0
        refine ⟨he0, hle, by have := hle x0 hx0 hx0l; omega, by omega, ?_⟩
        by_cases hc : mn m q = m
        · -- one is served
          rcases hp with hp | hp
          · refine .inl ?_
            have : ∃ x ∈ l, L < x ∧ x ≤ L + mn m q := by
              rcases hm.at' with hm2 | ⟨x, hx, h3, h4⟩
              · exact ⟨x0, hx0, hx0l, by rw [hc]; omega⟩
              · exact ⟨x, hx, h3, by rw [hc]; omega⟩
            obtain ⟨x, hx, h3, h4⟩ := this
            have := cnt_lt (K := L + mn m q) (by omega) hx h3 h4
            omega
          · -- nothing is given
            have hq : q = 0 := by
              rcases Int.lt_or_le 0 q with hpos | hpos
              · have : cnt l L * 1 ≤ cnt l L * q := Int.mul_le_mul_of_nonneg_left (by omega) hcb.1
                omega
              · omega
            have : mn m q = 0 := by unfold mn; omega
            omega
        · -- none is served: less than one each is left
          have hmq : mn m q = q := by unfold mn at *; omega
          refine .inr ?_
          have hsame := cnt_same (l := l) (L := L) (K := L + mn m q) (fun x hx hlt => by
            have := hm.le x hx hlt
            have : mn m q < m := by unfold mn at *; omega
            omega)
          have e5 : mn m q * cnt l L = cnt l L * q := by rw [hmq, Int.mul_comm]
          omega
      have step : ∀ m, LInv L l m → ∃ res, Fairly t l res ∧ Ev (fun k => wageofficeref32_Fair.l2 k l (l.map fun c => mn c L) (t - lsum l L) (r : Int) (mn m (wrap64 (Int.tdiv (t - lsum l L) (cnt l L)))) 0) (res, 0) := fun m hm => by
        obtain ⟨e, he, he0, hle, hL2, hs2, hp2⟩ := key m hm
        obtain ⟨res, hr1, hr2⟩ := ih (r + 1) (L + e) (by omega) (by omega) hL2 hs2 hp2
        refine ⟨res, hr2, ?_⟩
        have hq0 : 0 ≤ (t - lsum l L) / cnt l L := Int.ediv_nonneg (by omega) (by omega)
        have hq1 : (t - lsum l L) / cnt l L ≤ t - lsum l L := Int.ediv_le_self _ (by omega)
        rw [Int.tdiv_eq_ediv_of_nonneg (by omega), w64 (by omega) (by omega), ← he]
        have := l2_ev (t := t) (L := L) (e := e) (r := (r : Int)) (res := (res, 0)) hL he0 hL2 ⟨ht0, ht1⟩ l [] (by simpa using h.c) hle (by simpa using hlen) (by
          rw [w64 (by omega) (by omega), show (r : Int) + 1 = ((r + 1 : Nat) : Int) from by omega]
          simpa using hr1)
        simpa [lsum] using this
      -- the least that is missing is the same wherever it is asked for
      have uniq : ∀ m m', LInv L l m → LInv L l m' → m = m' := fun m m' h1 h2 => by
        have one : ∀ m m', LInv L l m → LInv L l m' → m ≤ m' := fun m m' h1 h2 => by
          rcases h2.at' with h | ⟨x, hx, h3, h4⟩
          · rw [h]; exact h1.q
          · rw [h4]; exact h1.le x hx h3
        have := one m m' h1 h2
        have := one m' m h2 h1
        omega
      rcases Classical.em (∃ m, LInv L l m) with ⟨m, hm⟩ | hno
      · obtain ⟨res, hr2, hr1⟩ := step m hm
        refine ⟨res, ?_, hr2⟩
        refine ev_up ?_
        simp only [wageofficeref32_Fair.l0]
        refine ev_yes (by omega) ?_
        exact l1_ev hL l h.c hlen (fun hz' => absurd hz' hz) (fun m' hm' _ => by rw [uniq m' m hm' hm]; exact hr1) l [] 1000000000000 rfl ⟨fun x hx => by simp at hx, .inl rfl, by omega, by omega⟩
      · refine ⟨fairl t l, ?_, fairl_fairly h⟩
        refine ev_up ?_
        simp only [wageofficeref32_Fair.l0]
        refine ev_yes (by omega) ?_
        exact l1_ev hL l h.c hlen (fun hz' => absurd hz' hz) (fun m' hm' _ => absurd ⟨m', hm'⟩ hno) l [] 1000000000000 rfl ⟨fun x hx => by simp at hx, .inl rfl, by omega, by omega⟩
theorem wrong_l1 {l : List Int} (hl : l.length ≤ 64) (b : List Int) : ∀ (a : List Int) (x : Int), a ++ b = l → Ev (fun k => wageofficeref32_Wrong.l1 k l x (a.length : Int)) (if b.any (fun y => decide (y < 0)) then 1 else x) := by
  induction b with
  | nil =>
    intro a x h1
    obtain rfl : a = l := by simpa using h1
    refine ev_up ?_
    simp only [wageofficeref32_Wrong.l1]
    exact ev_no (by omega) (ev_eq (ev_ret _) (by simp))
  | cons c b ih =>
    intro a x h1
    have hll : l.length = a.length + (b.length + 1) := by rw [← h1]; simp
    have e1 : rd l (a.length : Int) = c := by rw [← h1]; exact rd_mid rfl
    have nx := fun x => ih (a ++ [c]) x (by simp [h1])
    rw [show ((a ++ [c]).length : Int) = (a.length : Int) + 1 from by simp] at nx
    refine ev_up ?_
    simp only [wageofficeref32_Wrong.l1]
    rw [e1, w64 (n := (a.length : Int) + 1) (by omega) (by omega)]
    refine ev_yes (by omega) (ev_yes (by omega) (ev_ite (fun c1 => ?_) (fun c1 => ?_)))
    · refine ev_eq (nx 1) ?_
      simp [c1]
    · refine ev_eq (nx x) ?_
      simp [c1]
theorem wrong_l0 {t : Int} {l : List Int} (hl : l.length ≤ 64) (b : List Int) : ∀ (a : List Int) (x : Int), a ++ b = l →
    Ev (fun k => wageofficeref32_Wrong.l0 k t l x (a.length : Int)) (if l.any (fun y => decide (y < 0)) then 1 else if t < 0 then 1 else if b.any (fun y => decide (1000000000000 < y)) then 3 else x) := by
  induction b with
  | nil =>
    intro a x h1
    obtain rfl : a = l := by simpa using h1
    refine ev_up ?_
    simp only [wageofficeref32_Wrong.l0]
    have hj : ∀ x, Ev (fun k => wageofficeref32_Wrong.j2 k a x) (if a.any (fun y => decide (y < 0)) then 1 else x) := fun x => by
      refine ev_up ?_
      simp only [wageofficeref32_Wrong.j2]
      exact wrong_l1 hl a [] x rfl
    refine ev_no (by omega) (ev_ite (fun c => ev_eq (hj 1) ?_) (fun c => ev_eq (hj x) ?_))
    · rw [if_pos c]
    · rw [if_neg c]; simp
  | cons c b ih =>
    intro a x h1
    have hll : l.length = a.length + (b.length + 1) := by rw [← h1]; simp
    have e1 : rd l (a.length : Int) = c := by rw [← h1]; exact rd_mid rfl
    have nx := fun x => ih (a ++ [c]) x (by simp [h1])
    rw [show ((a ++ [c]).length : Int) = (a.length : Int) + 1 from by simp] at nx
    refine ev_up ?_
    simp only [wageofficeref32_Wrong.l0]
    rw [e1, w64 (n := (a.length : Int) + 1) (by omega) (by omega)]
    refine ev_yes (by omega) (ev_yes (by omega) (ev_ite (fun c1 => ?_) (fun c1 => ?_)))
    · refine ev_eq (nx 3) ?_
      simp [show (1000000000000 : Int) < c from c1]
    · refine ev_eq (nx x) ?_
      simp [show ¬ (1000000000000 : Int) < c from c1]
theorem rwrong_ev (t : Int) (l : List Int) : ∃ e, share_wrong.f t l = some e ∧ Ev (fun k => wageofficeref32_Wrong.f k t l) e := by
  unfold share_wrong.f wageofficeref32_Wrong.f
  refine ⟨_, rfl, ?_⟩
  by_cases c1 : (l.length : Int) > 64
  · exact ev_yes c1 (ev_eq (ev_ret _) (by rw [if_pos (by omega)]))
  have hj : ∀ x, Ev (fun k => wageofficeref32_Wrong.j0 k t l x) (if l.any (fun y => decide (y < 0)) then 1 else if t < 0 then 1 else if l.any (fun y => decide (1000000000000 < y)) then 3 else x) := fun x => by
    refine ev_up ?_
    simp only [wageofficeref32_Wrong.j0]
    exact wrong_l0 (by omega) l [] x rfl
  refine ev_no c1 (ev_ite (fun c => ev_eq (hj 3) ?_) (fun c => ev_eq (hj 0) ?_))
  · have n1 : ¬ (64 : Int) < (l.length : Int) := by omega
    have c' : 1000000000000 < t := c
    have a1 : ¬ t < 0 := by omega
    by_cases a2 : (l.any fun y => decide (y < 0)) = true <;> by_cases a3 : (l.any fun y => decide (1000000000000 < y)) = true <;> (simp only [n1, a1, a2, a3, c', if_true, if_false]; try simp)
  · have n1 : ¬ (64 : Int) < (l.length : Int) := by omega
    have c' : ¬ 1000000000000 < t := c
    by_cases a1 : t < 0 <;> by_cases a2 : (l.any fun y => decide (y < 0)) = true <;> by_cases a3 : (l.any fun y => decide (1000000000000 < y)) = true <;> (simp only [n1, a1, a2, a3, c', if_true, if_false]; try simp)
/-- The reference's division and the program's are the same. -/
theorem rfair_ev (t : Int) (l : List Int) : ∃ m e, share_Fair.f t l = some (m, e) ∧ Ev (fun k => wageofficeref32_Fair.f k t l) (m, e) ∧ (e = 0 → Ok t l ∧ Fairly t l m) ∧ (e ≠ 0 → m = [] ∧ share_wrong.f t l = some e) := by
  obtain ⟨e, h1, h2⟩ := rwrong_ev t l
  by_cases he : e = 0
  · subst he
    have hok := Ok.of_wrong h1
    have hlen := hok.len
    obtain ⟨m, hm1, hm2⟩ := l0_ev hok (l.length + 1) 0 0 (by omega) (by omega) (by omega) (by rw [lsum_zero hok.c]; exact hok.t0) (.inl (by have := cnt_bd l 0; omega))
    have hu : m = fairl t l := hm2.unique (fairl_fairly hok)
    subst hu
    refine ⟨fairl t l, 0, hok.fair, ?_, fun _ => ⟨hok, hm2⟩, fun h => absurd rfl h⟩
    unfold wageofficeref32_Fair.f
    refine ev_bnd h2 (ev_yes rfl (ev_yes (by omega) (ev_yes (by omega) ?_)))
    rw [lsum_zero hok.c] at hm1
    have e0 : (l.map fun c => mn c 0) = List.replicate ((l.length : Int)).toNat 0 := by
      rw [show ((l.length : Int)).toNat = l.length from by omega]
      apply List.ext_getElem (by simp)
      intro i hi hi2
      have hil : i < l.length := by simpa using hi
      have := hok.c l[i] (List.getElem_mem hil)
      simp only [List.getElem_map, List.getElem_replicate]
      unfold mn; omega
    rw [e0] at hm1
    simpa using hm1
  · refine ⟨[], e, ?_, ?_, fun h => absurd h he, fun _ => ⟨rfl, h1⟩⟩
    · unfold share_Fair.f
      rw [h1]
      simp only [Option.bind_some, if_neg he]
    · unfold wageofficeref32_Fair.f
      exact ev_bnd h2 (ev_no he (ev_ret _))
/-- One total and one list of claims: all that the law asks. -/
theorem both_ev (t : Int) (l p : List Int) (hl : l.length ≤ 70) (hp : p.length ≤ 70) : ∃ m e b, share_Fair.f t l = some (m, e) ∧ Ev (fun k => wageofficeref32_Fair.f k t l) (m, e) ∧ Ev (fun k => wageofficeref32_Same.f k m m) true ∧
    Ev (fun k => share_Check.f k t l m) (e == 0) ∧ Ev (fun k => share_Check.f k t l p) b ∧ Ev (fun k => wageofficeref32_Check.f k t l p) b := by
  obtain ⟨m, e, h1, h2, h3, h4⟩ := rfair_ev t l
  have hm : m.length ≤ 70 := by
    by_cases he : e = 0
    · have := (h3 he).2.len; omega
    · rw [(h4 he).1]; simp
  have hs : Ev (fun k => wageofficeref32_Same.f k m m) true := ev_eq (same_ev m m (by omega)) (decide_eq_true rfl)
  have hsp := same_ev m p (by omega)
  by_cases he : e = 0
  · subst he
    obtain ⟨hok, hf⟩ := h3 rfl
    obtain ⟨b, hb1, hb2⟩ := check_ok (m := m) hok (by omega)
    obtain ⟨c, hc1, hc2⟩ := check_ok (m := p) hok (by omega)
    obtain rfl := hb2.2 hf
    refine ⟨m, 0, c, h1, h2, hs, ev_eq hb1 (by simp), hc1, ?_⟩
    unfold wageofficeref32_Check.f
    refine ev_bnd h2 (ev_bnd hsp (ev_yes rfl (ev_eq (ev_ret _) ?_)))
    rw [Bool.eq_iff_iff, hc2]
    constructor
    · intro h; have := of_decide_eq_true h; rw [← this]; exact hf
    · intro h; exact decide_eq_true (hf.unique h)
  · refine ⟨m, e, false, h1, h2, hs, ev_eq (check_wrong (h4 he).2 he) (by simpa using he), check_wrong (h4 he).2 he, ?_⟩
    unfold wageofficeref32_Check.f
    exact ev_bnd h2 (ev_bnd hsp (ev_no he (ev_ret _)))
end Go.Proofs.Ytnadfkhllfgoiaa.ShR
