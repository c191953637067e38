-- Written by a program of this session (wip/myprint.py), which drives the kit's print over hand-written fragments. Not trusted: Lean checks it.
import Derived.Test.YteapeglolkfimaaMyx0
import Derived.Test.YteapeglolkfimaaMyx40
import Derived.Test.YteapeglolkfimaaMyx77
import Derived.Test.YteapeglolkfimaaSrK
import Derived.Test.YteapeglolkfimaaKdF
import Derived.Deep.RegionHeld3
import Derived.StillTailTactics
import Derived.RangeFuncBox
namespace Go.Proofs.Yteapeglolkfimaa.My
open Go.Proofs.Yteapeglolkfimaa.Aid Go.Proofs.Yteapeglolkfimaa.KdX
open Go.RowKit Go.Proofs.YteapeglolkfimaaW.PrintWords Go.Proofs.YteapeglolkfimaaW.PrintLast Go.Proofs.YteapeglolkfimaaW.PrintMore
attribute [local go_sem] max2_int min2_int max_two min_two max_three min_three max_four min_four   -- for this text's walks alone
set_option linter.unusedVariables false
set_option linter.unusedSimpArgs false

/-! ### span_combine: function 69 (by hand) -/
-- (after span_edge_77; calls span_proper)
-- IMPORT Derived.Test.YteapeglolkfimaaSrK
-- IMPORT Derived.Test.YteapeglolkfimaaKdF
-- IMPORT Derived.Deep.RegionHeld3
-- IMPORT Derived.StillTailTactics
-- IMPORT Derived.RangeFuncBox
def prB (x : S36) : Bool := decide (-1152921504606846976 ≤ x.f0 ∧ x.f1 ≤ 1152921504606846976 ∧ x.f0 < x.f1)
def sdGo : S36 → List S36 → Bool
  | x, [] => prB x
  | x, y :: l => prB x && (decide (x.f1 ≤ y.f0) && sdGo y l)
def sdB : List S36 → Bool
  | [] => true
  | x :: l => sdGo x l
def joinGo : S36 → List S36 → List S36
  | x, [] => [x]
  | x, y :: l => if x.f1 = y.f0 then joinGo ⟨x.f0, y.f1⟩ l else x :: joinGo y l
def joinL : List S36 → List S36
  | [] => []
  | x :: l => joinGo x l
theorem sdGo_pr {x : S36} {l : List S36} (h : sdGo x l = true) : prB x = true := by
  cases l with
  | nil => exact h
  | cons y l => simp only [sdGo, Bool.and_eq_true] at h; exact h.1
theorem sdGo_all : ∀ {x : S36} {l : List S36}, sdGo x l = true → ∀ y ∈ x :: l, prB y = true
  | x, [], h, y, hy => by obtain rfl := List.mem_singleton.1 hy; exact h
  | x, z :: l, h, y, hy => by
    simp only [sdGo, Bool.and_eq_true] at h
    rcases List.mem_cons.1 hy with rfl | hy
    · exact h.1
    · exact sdGo_all h.2.2 y hy
theorem sdB_all {l : List S36} (h : sdB l = true) : ∀ y ∈ l, prB y = true := by
  cases l with
  | nil => intro y hy; cases hy
  | cons x l => exact sdGo_all h
theorem prB_lt {x : S36} (h : prB x = true) : -1152921504606846976 ≤ x.f0 ∧ x.f1 ≤ 1152921504606846976 ∧ x.f0 < x.f1 := of_decide_eq_true h
def encP (x : S36) : List Value := [.int .i64 x.f0, .int .i64 x.f1]
def edgesL (l : List S36) : List S87 := l.flatMap fun s => [⟨s.f0, 0, 1⟩, ⟨s.f1, 0, -1⟩]
theorem edgesL_cons (x : S36) (l : List S36) : edgesL (x :: l) = ⟨x.f0, 0, 1⟩ :: ⟨x.f1, 0, -1⟩ :: edgesL l := rfl
theorem edgesL_len : ∀ l : List S36, (edgesL l).length = 2 * l.length
  | [] => rfl
  | x :: l => by rw [edgesL_cons, List.length_cons, List.length_cons, edgesL_len l, List.length_cons]; omega
theorem edgesL_by {l : List S36} {e : S87} (h : e ∈ edgesL l) : e.f1 = 0 ∧ (e.f2 = 1 ∨ e.f2 = -1) := by
  unfold edgesL at h
  obtain ⟨s, _, hs⟩ := List.mem_flatMap.1 h
  simp at hs
  rcases hs with rfl | rfl <;> simp
theorem edgesL_ge : ∀ {x : S36} {l : List S36}, sdGo x l = true → ∀ e ∈ edgesL l, x.f1 ≤ e.f0
  | x, [], _, e, h => by cases h
  | x, y :: l, h, e, he => by
    simp only [sdGo, Bool.and_eq_true, decide_eq_true_eq] at h
    have hy := prB_lt (sdGo_pr h.2.2)
    rw [edgesL_cons] at he
    rcases List.mem_cons.1 he with rfl | he
    · exact h.2.1
    · rcases List.mem_cons.1 he with rfl | he
      · show x.f1 ≤ y.f1; omega
      · have := edgesL_ge h.2.2 e he; omega
def tieB (e : S87) : List S87 → Bool
  | [] => false
  | y :: _ => decide (y.f0 = e.f0)
def sweep : List S87 → Int → Bool → Int → List S36 → List S36
  | [], _, _, _, out => out
  | e :: t, c, ins, fr, out =>
    if tieB e t = true then sweep t (c + e.f2) ins fr out
    else if decide (0 < c + e.f2) = ins then sweep t (c + e.f2) ins fr out
    else if ins = true then sweep t (c + e.f2) false e.f0 (out ++ [⟨fr, e.f0⟩])
    else sweep t (c + e.f2) true e.f0 out
abbrev Asc (t : List S87) : Prop := t.Pairwise fun x y => x.f0 ≤ y.f0
theorem asc_head {a : S87} {m t : List S87} (hp : t.Perm (a :: m)) (hs : Asc t) (hm : ∀ e ∈ m, a.f0 < e.f0) : ∃ t', t = a :: t' ∧ t'.Perm m ∧ Asc t' := by
  cases t with
  | nil => have := hp.length_eq; simp at this
  | cons h t' =>
    have ha : h = a := by
      rcases List.mem_cons.1 (hp.mem_iff.1 (List.mem_cons_self)) with e | e
      · exact e
      · have h1 := hm h e
        rcases List.mem_cons.1 (hp.mem_iff.2 (List.mem_cons_self : a ∈ a :: m)) with e' | e'
        · exact e'.symm
        · have := (List.pairwise_cons.1 hs).1 a e'; omega
    subst ha
    exact ⟨t', rfl, hp.cons_inv, (List.pairwise_cons.1 hs).2⟩
theorem asc_two {a b : S87} {m t : List S87} (hp : t.Perm (a :: b :: m)) (hs : Asc t) (hab : a.f0 = b.f0) (hm : ∀ e ∈ m, a.f0 < e.f0) :
    ∃ p q t', t = p :: q :: t' ∧ p.f0 = a.f0 ∧ q.f0 = a.f0 ∧ p.f2 + q.f2 = a.f2 + b.f2 ∧ t'.Perm m ∧ Asc t' := by
  cases t with
  | nil => have := hp.length_eq; simp at this
  | cons h t' =>
    have h2 := (List.pairwise_cons.1 hs)
    have hh : h = a ∨ h = b := by
      rcases List.mem_cons.1 (hp.mem_iff.1 (List.mem_cons_self)) with e | e
      · exact .inl e
      · rcases List.mem_cons.1 e with e | e
        · exact .inr e
        · have h1 := hm h e
          rcases List.mem_cons.1 (hp.mem_iff.2 (List.mem_cons_self : a ∈ a :: b :: m)) with e' | e'
          · exact .inl e'.symm
          · have := h2.1 a e'; omega
    rcases hh with rfl | rfl
    · obtain ⟨t2, rfl, h3, h4⟩ := asc_head hp.cons_inv h2.2 (fun e he => by rw [← hab]; exact hm e he)
      exact ⟨_, _, t2, rfl, rfl, hab.symm, rfl, h3, h4⟩
    · obtain ⟨t2, rfl, h3, h4⟩ := asc_head (hp.trans (List.Perm.swap _ _ _)).cons_inv h2.2 hm
      exact ⟨_, _, t2, rfl, hab.symm, rfl, by omega, h3, h4⟩
theorem tie_no {e : S87} {t m : List S87} (hp : t.Perm m) (h : ∀ y ∈ m, e.f0 < y.f0) : tieB e t = false := by
  cases t with
  | nil => rfl
  | cons y t => exact decide_eq_false (fun e' => by have := h y (hp.mem_iff.1 List.mem_cons_self); omega)
theorem edges_after {y : S36} {l : List S36} (h : sdGo y l = true) : ∀ e ∈ (⟨y.f1, 0, -1⟩ : S87) :: edgesL l, y.f0 < e.f0 := by
  intro e he
  have hy := prB_lt (sdGo_pr h)
  rcases List.mem_cons.1 he with rfl | he
  · exact hy.2.2
  · have := edgesL_ge h e he; omega
mutual
theorem sweep_in : ∀ (l : List S36) (x : S36) (t : List S87) (fr : Int) (out : List S36), t.Perm (⟨x.f1, 0, -1⟩ :: edgesL l) → Asc t → sdGo x l = true →
    sweep t 1 true fr out = out ++ joinGo ⟨fr, x.f1⟩ l
  | [], x, t, fr, out, hp, hs, hd => by
    obtain rfl := List.perm_singleton.1 hp
    simp [sweep, tieB, joinGo]
  | y :: l, x, t, fr, out, hp, hs, hd => by
    have hd' := hd
    simp only [sdGo, Bool.and_eq_true, decide_eq_true_eq] at hd'
    obtain ⟨_, hxy, hy⟩ := hd'
    have hyl := edges_after hy
    by_cases he : x.f1 = y.f0
    · obtain ⟨p, q, t', rfl, e1, e2, e3, h3, h4⟩ := asc_two (a := ⟨x.f1, 0, -1⟩) (b := ⟨y.f0, 0, 1⟩) hp hs he (fun e h => by have := hyl e h; show x.f1 < e.f0; omega)
      have t1 : tieB p (q :: t') = true := decide_eq_true (by rw [e1, e2])
      have t2 : tieB q t' = false := tie_no h3 (fun e h => by rw [e2]; have := hyl e h; show x.f1 < e.f0; omega)
      have e3' : p.f2 + q.f2 = 0 := by rw [e3]; rfl
      have e4 : 1 + p.f2 + q.f2 = 1 := by omega
      rw [sweep, if_pos t1, sweep, if_neg (by rw [t2]; simp), if_pos (by rw [e4]; rfl), e4]
      rw [joinGo, if_pos (show (⟨fr, x.f1⟩ : S36).f1 = y.f0 from he)]
      exact sweep_in l y t' fr out h3 h4 hy
    · have hlt : x.f1 < y.f0 := by omega
      obtain ⟨t', rfl, h3, h4⟩ := asc_head (a := ⟨x.f1, 0, -1⟩) hp hs (fun e h => by
        rw [edgesL_cons] at h
        rcases List.mem_cons.1 h with rfl | h
        · exact hlt
        · have := hyl e h; show x.f1 < e.f0; omega)
      have t1 : tieB ⟨x.f1, 0, -1⟩ t' = false := tie_no h3 (fun e h => by
        rw [edgesL_cons] at h
        rcases List.mem_cons.1 h with rfl | h
        · exact hlt
        · have := hyl e h; show x.f1 < e.f0; omega)
      rw [sweep, if_neg (by rw [t1]; simp), if_neg (show ¬ decide ((0 : Int) < 1 + -1) = true by decide), if_pos rfl]
      rw [joinGo, if_neg (show ¬ (⟨fr, x.f1⟩ : S36).f1 = y.f0 from he)]
      rw [show (1 : Int) + (⟨x.f1, 0, -1⟩ : S87).f2 = 0 from rfl, sweep_out l y t' _ _ h3 h4 hy, List.append_assoc]
      rfl
theorem sweep_out : ∀ (l : List S36) (y : S36) (t : List S87) (fr : Int) (out : List S36), t.Perm (edgesL (y :: l)) → Asc t → sdGo y l = true →
    sweep t 0 false fr out = out ++ joinGo y l
  | l, y, t, fr, out, hp, hs, hd => by
    have hyl := edges_after hd
    rw [edgesL_cons] at hp
    obtain ⟨t', rfl, h3, h4⟩ := asc_head hp hs (fun e h => hyl e h)
    have t1 : tieB ⟨y.f0, 0, 1⟩ t' = false := tie_no h3 (fun e h => hyl e h)
    rw [sweep, if_neg (by rw [t1]; simp), if_neg (show ¬ decide ((0 : Int) < 0 + 1) = false by decide), if_neg (by decide)]
    exact sweep_in l y t' _ _ h3 h4 hd
end
theorem sweep_all {l : List S36} {t : List S87} (hp : t.Perm (edgesL l)) (hs : Asc t) (hd : sdB l = true) : sweep t 0 false 0 [] = joinL l := by
  cases l with
  | nil => obtain rfl := List.perm_nil.1 hp; rfl
  | cons y l => rw [sweep_out l y t 0 [] hp hs hd]; rfl
theorem joinGo_len : ∀ (l : List S36) (x : S36), (joinGo x l).length ≤ l.length + 1
  | [], x => by simp [joinGo]
  | y :: l, x => by
    rw [joinGo]
    split
    · have := joinGo_len l ⟨x.f0, y.f1⟩; simp; omega
    · have := joinGo_len l y; simp; omega
theorem proper_eval' {x : S36} (h : prB x = true) : span_proper.f x.f0 x.f1 = some true := by
  have := prB_lt h
  unfold span_proper.f
  rw [if_pos (by omega), if_pos (by omega), decide_eq_true (by omega)]
theorem uni_enter : ∀ args w1, (callFunc 70 args).run Try.prog w1 = .ok (.enter 70 args) w1 := by
  intro args w1
  go_simp
set_option maxHeartbeats 400000 in
theorem uni_calls (a b : Int) (w : World) (h0 : 0 ≤ a + b + 4000000) (h1 : a + b ≤ 4000000) : Calls Try.prog 70 #[.agg #[.int .i64 a, .int .i64 b]] w fun e w' => e = .returned (.bool (decide (0 < a + b))) ∧ w' = w.alloc (.cells #[.int .i64 a, .int .i64 b] 81) := by
  have hu := Try.underlying81
  go_enter Try.func70, Try.ntmps70
  go_wp2
  go_ret
  exact ⟨rfl, rfl⟩
/-- What holds between two rounds of the loop over the lists. -/
def OutR (l0 : List S36) (w : World) (v i : Value) (wr : World) : Prop :=
  Below w.heap.size w wr ∧ ((i = .int .i64 0 ∧ wr.ownsRow w.heap.size 87 3 v ([] : List S87).length (([] : List S87).flatMap encE)) ∨
    (i = .int .i64 1 ∧ wr.ownsRow w.heap.size 87 3 v (edgesL l0).length ((edgesL l0).flatMap encE)) ∨
    (i = .int .i64 2 ∧ wr.ownsRow w.heap.size 87 3 v (edgesL l0).length ((edgesL l0).flatMap encE)))
set_option maxRecDepth 100000 in
set_option maxHeartbeats 4000000 in
theorem span_combine.calls (A0 : Option Addr) (c0 : Nat) (l0 : List S36) (B : Nat) (w : World) (hr0 : Kd.C k36 w A0 l0.length l0) (hc0 : l0.length ≤ c0) (hs : sdB l0 = true) (hl : l0.length ≤ 1000000)
    (hB : w.heap[B]? = some (.cells #[.slice A0 l0.length c0, .slice none 0 0] 30 (0, 0))) :
    Calls Try.prog 69 #[.func (.func 70) #[] #[], .slice (some ⟨B, 0, none⟩) 2 2] w fun e w' => ∃ v : Value, e = .returned v ∧ Kd.R k36 36 w' w.heap.size (fun _ => True) v (joinL l0) ∧ Below w.heap.size w w' := by
  have hu36 := Try.underlying36
  have hu30 := Try.underlying30
  have hu84 := Try.underlying84
  have hu85 := Try.underlying85
  have hu87 := Try.underlying87
  have hu81 := Try.underlying81
  have HR := Aside0.mk hr0
  have HC := Aside0.mk hc0
  have HS := Aside0.mk hs
  have HBK := Aside0.mk hB
  have HPR := Aside0.mk (sdB_all hs)
  clear hr0 hc0 hs hB
  go_enter Try.func69, Try.ntmps69
  go_wp2_with fail
  go_loopw [5, 18] (fun v i wr => OutR l0 w v i wr) (fun _ i _ => (2 - intOf i).toNat)
  case atStart => exact ⟨Below.refl _ _, .inl ⟨rfl, World.ownsRow_nil _ _ _ _⟩⟩
  case round =>
    obtain ⟨hB, hV⟩ := hrel
    have HB := Aside0.mk hB
    have q0 := (blk_cell (blk_below HBK.out hB) 0).trans rfl
    have q1 := (blk_cell (blk_below HBK.out hB) 1).trans rfl
    clear hB
    rcases hV with ⟨rfl, hV⟩ | ⟨rfl, hV⟩ | ⟨rfl, hV⟩
    · have HV0 := Aside0.mk hV
      clear hV
      go_wp2_with fail
      clear q0 q1
      go_loopw [5, 25] (fun v i wx => ∃ j : Nat, i = .int .i64 j ∧ j ≤ l0.length ∧ Aside0 (wx.ownsRow w.heap.size 87 3 v (edgesL (l0.take j)).length ((edgesL (l0.take j)).flatMap encE)) ∧ Aside0 (Below w.heap.size w wx))
        (fun _ i _ => l0.length - (intOf i).toNat)
      case atStart => exact ⟨0, rfl, by omega, HV0, HB⟩
      case round =>
        obtain ⟨j, rfl, hj, HVj, HBj⟩ := hrel
        have hm0 : l0.length ≤ 9223372036854775807 := by omega
        by_cases hlt : j < l0.length
        · obtain ⟨ad, rfl, g0, g1⟩ := at_T36 HR.out (j : Int) (by omega) (by omega)
          rw [Int.toNat_natCast, show rd_T36 l0 (j : Int) = l0[j] from by simp [rd_T36, List.getD_eq_getElem?_getD, hlt]] at g0 g1
          have HT := Aside0.mk (show edgesL (l0.take (j + 1)) = edgesL (l0.take j) ++ [⟨l0[j].f0, 0, 1⟩, ⟨l0[j].f1, 0, -1⟩] from by rw [List.take_succ_eq_append_getElem hlt]; unfold edgesL; rw [List.flatMap_append]; rfl)
          have HPY := Aside0.mk (HPR.out l0[j] (List.getElem_mem hlt))
          have hlen : (edgesL (l0.take j)).length ≤ 2000000 := by rw [edgesL_len, List.length_take]; omega
          obtain ⟨x, hx⟩ : ∃ x, l0[j] = x := ⟨_, rfl⟩
          rw [hx] at g0 g1 HT HPY
          clear hx
          replace g0 := (HBj.out.cell (World.block_lt_of_cell? w _ g0)).trans g0
          replace g1 := (HBj.out.cell (World.block_lt_of_cell? w _ g1)).trans g1
          have HBa := Aside0.mk (below_alloc HBj.out (.cells #[.int .i64 x.f0, .int .i64 x.f1] 36))
          have HK := Aside0.mk (blk_new wr (.cells #[.int .i64 x.f0, .int .i64 x.f1] 36))
          have HLEN := Aside0.mk hlen
          clear hlen
          go_wp2_with fail
          refine (span_proper.calls x.f0 x.f1 true _ (proper_eval' HPY.out)).mono ?_
          rintro e w2 ⟨rfl, hb2⟩
          have HB2 := Aside0.mk (below_step HBa.out hb2)
          have k2 := blk_below HK.out hb2
          have d0 := (blk_cell k2 0).trans rfl
          have d1 := (blk_cell k2 1).trans rfl
          have HO2 := Aside0.mk (KdF.kept_none (HVj.out.alloc _) hb2)
          obtain ⟨i0, hi0, hz0, hz1, hz2⟩ := info_parts info87
          have hle2 : (edgesL (l0.take j)).length ≤ 2000000 := HLEN.out
          clear hb2 k2 g0 g1 HK
          go_wp2_with (at_builtin; refine wpList_append_own _ rfl _ _ 85 rfl w.heap.size 87 i0 (.agg #[.int .i64 0, .int .i64 0, .int .i64 0]) 3 24 hu85 hi0 hz0 hz1 hz2 rfl (by decide) _ _ _ rfl (HO2.out.alloc _) ⟨w2.heap.size, 0, none⟩ 2 2 [.int .i64 x.f0, .int .i64 0, .int .i64 1, .int .i64 x.f1, .int .i64 0, .int .i64 (-1)] rfl rfl (fun j u hu => KdF.cells_new w2 #[.int .i64 x.f0, .int .i64 0, .int .i64 1, .int .i64 x.f1, .int .i64 0, .int .i64 (-1)] 87 j u hu) (by simp [Value.oneCell']) (by unfold maxLen; omega) (by omega) (by have := HB2.out.size; simp; omega) ?_; intro v' w3 hown' hgrow _; have HO3 := Aside0.mk hown'; have HG3 := Aside0.mk hgrow; clear hown' hgrow)
          go_roundw
          case rel => exact ⟨j + 1, by go_num, by omega, ⟨by rw [HT.out, List.length_append, List.flatMap_append]; exact HO3.out⟩, ⟨KdF.below_append HB2.out HB2.out.size HO2.out HG3.out⟩⟩
          case measure => simp [intOf]; omega
        · have hjl : j = l0.length := by omega
          subst hjl
          go_wp2
          go_roundw
          case rel => exact ⟨HBj.out, .inr (.inl ⟨by go_num, by have := HVj.out; rw [List.take_length] at this; exact this⟩)⟩
          case measure => simp [intOf]
    · have HV1 := Aside0.mk hV
      clear hV
      go_wp2_with fail
      clear q0 q1
      go_loopw [5, 25] (fun v i wx => v = u5 ∧ i = .int .i64 0 ∧ Aside0 (wx = wr)) (fun _ _ _ => 0)
      case atStart => exact ⟨rfl, rfl, ⟨rfl⟩⟩
      case round =>
        obtain ⟨rfl, rfl, HE⟩ := hrel
        obtain rfl := HE.out
        go_wp2
        go_roundw
        case rel => exact ⟨HB.out, .inr (.inr ⟨by go_num, HV1.out⟩)⟩
        case measure => simp [intOf]
    · have HV1 := Aside0.mk hV
      clear hV q0 q1
      have hRE := KdF.own_R (d := k87) (f := encE) (e := 87) (fun _ => rfl) (fun ok x => k87_mkM _ _ _ _) HV1.out
      obtain ⟨A2, c2, rfl, hcap, hCE⟩ := Kd.R_reads hRE
      have HORD := Aside0.mk (span_edge_77.calls A2 c2 (edgesL l0) wr hCE hcap (by rw [edgesL_len]; omega))
      clear hRE hCE HV1
      go_wp2_with fail
      refine HORD.out.mono ?_
      rintro e w2 ⟨v2, t, rfl, htp, hts, hRt, hb2⟩
      obtain ⟨A3, c3, rfl, hcap3, hCt⟩ := Kd.R_reads hRt
      have HB2 := Aside0.mk (HB.out.trans (hb2.mono HB.out.size))
      have HSW := Aside0.mk (sweep_all htp hts HS.out)
      have HBY : Aside0 (∀ e ∈ t, e.f1 = 0 ∧ (e.f2 = 1 ∨ e.f2 = -1)) := ⟨fun e he => edgesL_by (htp.mem_iff.1 he)⟩
      have htl : t.length ≤ 2000000 := by rw [htp.length_eq, edgesL_len]; omega
      have HCT := Aside0.mk hCt
      clear htp hts hRt hb2 hCt HORD hcap
      go_wp2_with fail
      have htm : t.length ≤ 9223372036854775807 := by omega
      go_loopw [10, 12, 13, 48] (fun o ins fr i wx => ∃ (j : Nat) (c : Int) (ib : Bool) (f : Int) (outl : List S36), i = .int .i64 j ∧ j ≤ t.length ∧ ins = .bool ib ∧ fr = .int .i64 f ∧ -(j : Int) ≤ c ∧ c ≤ j ∧ Aside0 (outl.length ≤ j) ∧
          Aside0 (wx.ownsRow w2.heap.size 36 2 o outl.length (outl.flatMap encP)) ∧ Aside0 (wx.heap[w2.heap.size]? = some (.cells #[.int .i64 c, .int .i64 0] 81 (0, 0))) ∧ Aside0 (sweep (t.drop j) c ib f outl = joinL l0) ∧ Aside0 (Below w2.heap.size w2 wx))
        (fun _ _ _ i _ => t.length - (intOf i).toNat)
      case atStart => exact ⟨0, 0, false, 0, [], rfl, Nat.zero_le _, rfl, rfl, by omega, by omega, ⟨Nat.le_refl _⟩, ⟨World.ownsRow_nil _ _ _ _⟩, ⟨blk_new _ _⟩, HSW, ⟨below_alloc (Below.refl _ _) _⟩⟩
      case round =>
        obtain ⟨j, c, ib, f, outl, rfl, hj, rfl, rfl, hc1, hc2, HOL, HOO, HCB, HSS, HBB⟩ := hrel
        by_cases hlt : j < t.length
        · obtain ⟨ad, rfl, g0, g1, g2⟩ := at_T87 HCT.out (j : Int) (by omega) (by omega)
          rw [Int.toNat_natCast, show rd_T87 t (j : Int) = t[j] from by simp [rd_T87, List.getD_eq_getElem?_getD, hlt]] at g0 g1 g2
          have hss := HSS.out
          rw [List.drop_eq_getElem_cons hlt, sweep] at hss
          obtain ⟨hx1, hx2⟩ := HBY.out t[j] (List.getElem_mem hlt)
          obtain ⟨x, hx⟩ : ∃ x, t[j] = x := ⟨_, rfl⟩
          rw [hx] at g0 g1 g2 hss hx1 hx2
          rw [hx1] at g1
          have HSX := Aside0.mk hss
          have HX := Aside0.mk hx
          clear hx hss hx1 HSS
          replace g0 := (HBB.out.cell (World.block_lt_of_cell? w2 _ g0)).trans g0
          replace g1 := (HBB.out.cell (World.block_lt_of_cell? w2 _ g1)).trans g1
          replace g2 := (HBB.out.cell (World.block_lt_of_cell? w2 _ g2)).trans g2
          obtain ⟨W1, hW1⟩ : ∃ W1, W1 = wr.alloc (.cells #[.int .i64 x.f0, .int .i64 0, .int .i64 x.f2] 87) := ⟨_, rfl⟩
          have k1 : W1.heap[wr.heap.size]? = some (.cells #[.int .i64 x.f0, .int .i64 0, .int .i64 x.f2] 87 (0, 0)) := by subst hW1; exact blk_new _ _
          have kc : W1.heap[w2.heap.size]? = some (.cells #[.int .i64 c, .int .i64 0] 81 (0, 0)) := by subst hW1; exact blk_alloc HCB.out _
          have HB1 : Aside0 (Below w2.heap.size w2 W1) := ⟨by subst hW1; exact below_alloc HBB.out _⟩
          have HO1 : Aside0 (W1.ownsRow w2.heap.size 36 2 u10 outl.length (outl.flatMap encP)) := ⟨by subst hW1; exact HOO.out.alloc _⟩
          have HW1 := Aside0.mk hW1
          have K1 := Aside0.mk k1
          have KC := Aside0.mk kc
          have e0 := (blk_cell k1 0).trans rfl
          have e1 := (blk_cell k1 1).trans rfl
          have e2 := (blk_cell k1 2).trans rfl
          have n0 := (blk_cell kc 0).trans rfl
          have n1 := (blk_cell kc 1).trans rfl
          have nf := blk_frozen kc 0
          clear hW1 k1 kc
          go_wp2_with fail
          rw [← HW1.out]
          go_still_tail 8, (by kernel_rfl)
          change wpList _ _ _ _ _ W1.drew
          obtain ⟨W2, hW2⟩ : ∃ W2, W2 = W1.drew := ⟨_, rfl⟩
          have n0' : W2.cell? ⟨w2.heap.size, 0, none⟩ = some (.int .i64 c) := by rw [hW2]; exact n0
          have nf' : W2.frozen? ⟨w2.heap.size, 0, none⟩ = false := by rw [hW2]; exact nf
          rw [← hW2]
          have kc2 : W2.heap[w2.heap.size]? = some (.cells #[.int .i64 c, .int .i64 0] 81 (0, 0)) := by rw [hW2]; exact KC.out
          have k12 : W2.heap[wr.heap.size]? = some (.cells #[.int .i64 x.f0, .int .i64 0, .int .i64 x.f2] 87 (0, 0)) := by rw [hW2]; exact K1.out
          have ho2 : W2.ownsRow w2.heap.size 36 2 u10 outl.length (outl.flatMap encP) := by rw [hW2]; exact HO1.out
          have hb2 : Below w2.heap.size w2 W2 := by rw [hW2]; exact below_drew1 HB1.out
          have hne : w2.heap.size < wr.heap.size := blk_lt HCB.out
          have hcb : -((j + 1 : Nat) : Int) ≤ c + x.f2 ∧ c + x.f2 ≤ ((j + 1 : Nat) : Int) := by omega
          clear hW2
          go_wp2_with fail
          clear n0' nf'
          obtain ⟨c', hc'⟩ : ∃ c', c' = c + x.f2 := ⟨_, rfl⟩
          rw [← hc'] at hcb
          rw [← hc']
          have HSY : Aside0 ((if tieB x (t.drop (j + 1)) = true then sweep (t.drop (j + 1)) c' ib f outl else if decide (0 < c') = ib then sweep (t.drop (j + 1)) c' ib f outl else if ib = true then sweep (t.drop (j + 1)) c' false x.f0 (outl ++ [⟨f, x.f0⟩]) else sweep (t.drop (j + 1)) c' true x.f0 outl) = joinL l0) := ⟨by rw [hc']; exact HSX.out⟩
          obtain ⟨W3, hW3⟩ : ∃ W3, W3 = W2.setCell ⟨w2.heap.size, 0, none⟩ (.int .i64 c') := ⟨_, rfl⟩
          rw [← hW3]
          have kc3 : W3.heap[w2.heap.size]? = some (.cells #[.int .i64 c', .int .i64 0] 81 (0, 0)) := by rw [hW3]; exact blk_put (cs := #[.int .i64 c, .int .i64 0]) kc2 0 _ rfl
          have k13 : W3.heap[wr.heap.size]? = some (.cells #[.int .i64 x.f0, .int .i64 0, .int .i64 x.f2] 87 (0, 0)) := by rw [hW3]; rw [Below.heap_setCell _ _ _ _ (show wr.heap.size ≠ w2.heap.size by omega)]; exact k12
          have HO3 : Aside0 (W3.ownsRow w2.heap.size 36 2 u10 outl.length (outl.flatMap encP)) := ⟨by rw [hW3]; exact KdF.own_set_other ho2 kc2 (by decide)⟩
          have HB3 : Aside0 (Below w2.heap.size w2 W3) := ⟨by rw [hW3]; exact below_set hb2 (Nat.le_refl _)⟩
          have z0 := (blk_cell k13 0).trans rfl
          have z1 := (blk_cell k13 1).trans rfl
          have z2 := (blk_cell k13 2).trans rfl
          have m0 := (blk_cell kc3 0).trans rfl
          have m1 := (blk_cell kc3 1).trans rfl
          have KC3 := Aside0.mk kc3
          have K13 := Aside0.mk k13
          obtain ⟨hcb1, hcb2⟩ := hcb
          have HNE := Aside0.mk hne
          have hjl : (j : Int) + 1 ≤ (t.length : Int) := by omega
          have HUC := Aside0.mk (fun X => uni_calls c' 0 X (by omega) (by omega))
          clear kc2 k12 ho2 hb2 hW3 kc3 k13 hc' HSX hc1 hc2 hx2 e0 e1 e2 n0 n1 nf g0 g1 g2 HOO HCB HBB hne hcap3
          by_cases hn : j + 1 < t.length
          · obtain ⟨ad', e', y0, _, _⟩ := at_T87 HCT.out ((j + 1 : Nat) : Int) (by omega) (by omega)
            obtain rfl := Option.some.inj e'
            rw [Int.toNat_natCast, show rd_T87 t ((j + 1 : Nat) : Int) = t[j + 1] from by simp [rd_T87, List.getD_eq_getElem?_getD, hn]] at y0
            have hty : tieB x (t.drop (j + 1)) = decide (t[j + 1].f0 = x.f0) := by rw [List.drop_eq_getElem_cons hn]; rfl
            obtain ⟨y, hy⟩ : ∃ y, t[j + 1] = y := ⟨_, rfl⟩
            rw [hy] at y0 hty
            clear hy e'
            replace y0 := (HB3.out.cell (World.block_lt_of_cell? w2 _ y0)).trans y0
            have HTY := Aside0.mk hty
            clear hty
            have hn' : (j : Int) + 1 < (t.length : Int) := by omega
            by_cases htie : y.f0 = x.f0
            · have HS4 : Aside0 (sweep (t.drop (j + 1)) c' ib f outl = joinL l0) := ⟨by have := HSY.out; rwa [if_pos (by rw [HTY.out]; exact decide_eq_true htie)] at this⟩
              rw [htie] at y0
              clear htie HSY HTY
              go_quiet (fail)
              go_wp2
              go_roundw
              case rel => exact ⟨j + 1, c', ib, f, outl, by go_num, by omega, rfl, rfl, by omega, by omega, ⟨by have := HOL.out; omega⟩, ⟨KdF.own_drewN HO3.out _⟩, ⟨blk_drewN KC3.out _⟩, HS4, ⟨pw_below_drewN HB3.out _⟩⟩
              case measure => simp [intOf]; omega
            · have HSZ : Aside0 ((if decide (0 < c') = ib then sweep (t.drop (j + 1)) c' ib f outl else if ib = true then sweep (t.drop (j + 1)) c' false x.f0 (outl ++ [⟨f, x.f0⟩]) else sweep (t.drop (j + 1)) c' true x.f0 outl) = joinL l0) := ⟨by have := HSY.out; rwa [if_neg (by rw [HTY.out, decide_eq_false htie]; simp)] at this⟩
              have hb0 : (y.f0 == x.f0) = false := by simpa using htie
              have hb1 : decide (y.f0 = x.f0) = false := decide_eq_false htie
              clear HSY HTY
              have hwr : IntKind.i64.wrap ((j : Int) + 1) = (j : Int) + 1 := IntWalk.i64_in _ ⟨by omega, by omega⟩
              have hnd : decide ((j : Int) + 1 < (t.length : Int)) = true := decide_eq_true hn'
              have hz0 : (0 : Int) ≤ (j : Int) + 1 := by omega
              have htn : ((j : Int) + 1).toNat = j + 1 := by omega
              obtain ⟨b, hb⟩ : ∃ b, decide (0 < c') = b := ⟨_, rfl⟩
              have HU2 : Aside0 (∀ X : World, Calls Try.prog 70 #[.agg #[.int .i64 c', .int .i64 0]] X fun e w' => e = .returned (.bool b) ∧ w' = X.alloc (.cells #[.int .i64 c', .int .i64 0] 81)) := ⟨fun X => by have := HUC.out X; rwa [Int.add_zero, hb] at this⟩
              rw [hb] at HSZ
              clear hb HUC
              go_region_held3 (fun w' => w'.cell? (ad.add ((j + 1) * 3)) = some (.int .i64 y.f0) ∧ w'.cell? ⟨wr.heap.size, 0, none⟩ = some (.int .i64 x.f0) ∧ w'.cell? ⟨w2.heap.size, 0, none⟩ = some (.int .i64 c') ∧ w'.cell? ⟨w2.heap.size, 1, none⟩ = some (.int .i64 0)) (go_keep)
                (first | (refine (HU2.out _).mono ?_; rintro e wu ⟨rfl, hwu⟩; have hbu : Below W3.heap.size W3 wu := (by subst hwu; first | exact below_drew1 (below_alloc (Below.refl _ _) _) | exact below_alloc (below_drew1 (Below.refl _ _)) _); have y0u := (hbu.cell (World.block_lt_of_cell? W3 _ y0)).trans y0; have k1u := blk_below K13.out hbu; have kcu := blk_below KC3.out hbu; have z0u := (blk_cell k1u 0).trans rfl; have m0u := (blk_cell kcu 0).trans rfl; have m1u := (blk_cell kcu 1).trans rfl; have HBU := Aside0.mk hbu; have K1U := Aside0.mk k1u; have KCU := Aside0.mk kcu; clear hwu hbu k1u kcu))
              cases b with
              | false =>
                cases ib with
                | false =>
                  have HS4 : Aside0 (sweep (t.drop (j + 1)) c' false f outl = joinL l0) := ⟨by have := HSZ.out; rwa [if_pos rfl] at this⟩
                  clear HSZ
                  go_wp2
                  go_roundw
                  case rel => exact ⟨j + 1, c', false, f, outl, by go_num, by omega, rfl, rfl, by omega, by omega, ⟨by have := HOL.out; omega⟩, ⟨KdF.kept_none HO3.out HBU.out⟩, ⟨KCU.out⟩, HS4, ⟨below_step HB3.out HBU.out⟩⟩
                  case measure => simp [intOf]; omega
                | true =>
                  have HS4 : Aside0 (sweep (t.drop (j + 1)) c' false x.f0 (outl ++ [⟨f, x.f0⟩]) = joinL l0) := ⟨by have := HSZ.out; rwa [if_neg (by decide), if_pos rfl] at this⟩
                  have HO4 := Aside0.mk (KdF.kept_none HO3.out HBU.out)
                  have HB4 := Aside0.mk (below_step HB3.out HBU.out)
                  obtain ⟨i0, hi0, hy0, hy1, hy2⟩ := info_parts info36
                  have hle2 : outl.length ≤ 2000000 := by have := HOL.out; omega
                  clear HSZ
                  go_wp2_with (at_builtin; refine wpList_append_own _ rfl _ _ 30 rfl w2.heap.size 36 i0 (.agg #[.int .i64 0, .int .i64 0]) 2 16 hu30 hi0 hy0 hy1 hy2 rfl (by decide) _ _ _ rfl (HO4.out.alloc _) ⟨wu.heap.size, 0, none⟩ 1 1 [.int .i64 f, .int .i64 x.f0] rfl rfl (fun j u hu => KdF.cells_new wu #[.int .i64 f, .int .i64 x.f0] 36 j u hu) (by simp [Value.oneCell']) (by unfold maxLen; omega) (by omega) (by have := HB4.out.size; simp; omega) ?_; intro v' w3 hown' hgrow _; have HO5 := Aside0.mk hown'; have HB5 := Aside0.mk (KdF.below_append HB4.out HB4.out.size HO4.out hgrow); have KC5 := Aside0.mk (KdF.blk_append KCU.out (by decide) HO4.out hgrow); have k15 := KdF.blk_append K1U.out (by decide) HO4.out hgrow; have z05 := (blk_cell k15 0).trans rfl; clear hown' hgrow k15)
                  go_quiet (fail)
                  go_wp2
                  go_roundw
                  case rel => exact ⟨j + 1, c', false, x.f0, outl ++ [⟨f, x.f0⟩], by go_num, by omega, rfl, rfl, by omega, by omega, ⟨by have := HOL.out; rw [List.length_append]; simp; omega⟩, ⟨KdF.own_drewN (by rw [List.length_append, List.flatMap_append]; exact HO5.out) _⟩, ⟨blk_drewN KC5.out _⟩, HS4, ⟨pw_below_drewN HB5.out _⟩⟩
                  case measure => simp [intOf]; omega
              | true =>
                cases ib with
                | false =>
                  have HS4 : Aside0 (sweep (t.drop (j + 1)) c' true x.f0 outl = joinL l0) := ⟨by have := HSZ.out; rwa [if_neg (by decide), if_neg (by decide)] at this⟩
                  clear HSZ
                  go_wp2
                  go_quiet (fail)
                  go_wp2
                  go_roundw
                  case rel => exact ⟨j + 1, c', true, x.f0, outl, by go_num, by omega, rfl, rfl, by omega, by omega, ⟨by have := HOL.out; omega⟩, ⟨KdF.own_drewN (KdF.kept_none HO3.out HBU.out) _⟩, ⟨blk_drewN KCU.out _⟩, HS4, ⟨pw_below_drewN (below_step HB3.out HBU.out) _⟩⟩
                  case measure => simp [intOf]; omega
                | true =>
                  have HS4 : Aside0 (sweep (t.drop (j + 1)) c' true f outl = joinL l0) := ⟨by have := HSZ.out; rwa [if_pos rfl] at this⟩
                  clear HSZ
                  go_wp2
                  go_roundw
                  case rel => exact ⟨j + 1, c', true, f, outl, by go_num, by omega, rfl, rfl, by omega, by omega, ⟨by have := HOL.out; omega⟩, ⟨KdF.kept_none HO3.out HBU.out⟩, ⟨KCU.out⟩, HS4, ⟨below_step HB3.out HBU.out⟩⟩
                  case measure => simp [intOf]; omega
          · have htz : tieB x (t.drop (j + 1)) = false := by rw [List.drop_of_length_le (by omega)]; rfl
            have HSZ : Aside0 ((if decide (0 < c') = ib then sweep (t.drop (j + 1)) c' ib f outl else if ib = true then sweep (t.drop (j + 1)) c' false x.f0 (outl ++ [⟨f, x.f0⟩]) else sweep (t.drop (j + 1)) c' true x.f0 outl) = joinL l0) := ⟨by have := HSY.out; rwa [if_neg (by rw [htz]; simp)] at this⟩
            have hn' : ¬ (j : Int) + 1 < (t.length : Int) := by omega
            have hnd : decide ((j : Int) + 1 < (t.length : Int)) = false := decide_eq_false hn'
            have hwr : IntKind.i64.wrap ((j : Int) + 1) = (j : Int) + 1 := IntWalk.i64_in _ ⟨by omega, by omega⟩
            clear HSY htz
            obtain ⟨b, hb⟩ : ∃ b, decide (0 < c') = b := ⟨_, rfl⟩
            have HU2 : Aside0 (∀ X : World, Calls Try.prog 70 #[.agg #[.int .i64 c', .int .i64 0]] X fun e w' => e = .returned (.bool b) ∧ w' = X.alloc (.cells #[.int .i64 c', .int .i64 0] 81)) := ⟨fun X => by have := HUC.out X; rwa [Int.add_zero, hb] at this⟩
            rw [hb] at HSZ
            clear hb HUC
            refine wp_region_held_drew (S := (fun w' => w'.cell? ⟨wr.heap.size, 0, none⟩ = some (.int .i64 x.f0) ∧ w'.cell? ⟨w2.heap.size, 0, none⟩ = some (.int .i64 c') ∧ w'.cell? ⟨w2.heap.size, 1, none⟩ = some (.int .i64 0))) (by kernel_rfl) (by (try dsimp only); go_keep) (fun hHeld => ?_)
            refine wpAnyH_take (i := 0) (oi := { dst := some 61, op := Op.move (Operand.tmp 14), type := 3, pos := "span.go:43", after := #[], guard := none }) (v := ?v1) rfl (by kernel_rfl) (by kernel_rfl) (by kernel_rfl) (fun _ _ _ h => h) (Or.inl ⟨by rfl, ?hy1⟩) (by assumption) ?rest1
            case hy1 => (intro w hSw; (try dsimp only at hSw); go_simp; (try with_reducible rfl))
            try simp only [Act.put, List.setIfInBounds_toArray, List.set_cons_zero, List.set_cons_succ]
            refine wpAnyH_take (i := 1) (oi := { dst := some 62, op := Op.binOp BinOp.add 3 (Operand.tmp 61) (Operand.const (Value.int IntKind.i64 1)) 3, type := 3, pos := "span.go:43", after := #[{ on := 0, ground := Ground.data }], guard := none }) (v := ?v2) rfl (by kernel_rfl) (by kernel_rfl) (by kernel_rfl) (fun _ _ _ h => h) (Or.inl ⟨by rfl, ?hy2⟩) (by assumption) ?rest2
            case hy2 => (intro w hSw; (try dsimp only at hSw); go_simp; (try with_reducible rfl))
            try simp only [Act.put, List.setIfInBounds_toArray, List.set_cons_zero, List.set_cons_succ]
            refine wpAnyH_take (i := 2) (oi := { dst := some 63, op := Op.move (Operand.tmp 5), type := 85, pos := "span.go:43", after := #[], guard := none }) (v := ?v3) rfl (by kernel_rfl) (by kernel_rfl) (by kernel_rfl) (fun _ _ _ h => h) (Or.inl ⟨by rfl, ?hy3⟩) (by assumption) ?rest3
            case hy3 => (intro w hSw; (try dsimp only at hSw); go_simp; (try with_reducible rfl))
            try simp only [Act.put, List.setIfInBounds_toArray, List.set_cons_zero, List.set_cons_succ]
            refine wpAnyH_take (i := 3) (oi := { dst := some 64, op := Op.call { callee := Callee.builtin Builtin.len, args := #[Operand.tmp 63], argTypes := #[85] }, type := 3, pos := "span.go:43", after := #[{ on := 2, ground := Ground.data }], guard := none }) (v := ?v4) rfl (by kernel_rfl) (by kernel_rfl) (by kernel_rfl) (fun _ _ _ h => h) (Or.inl ⟨by rfl, ?hy4⟩) (by assumption) ?rest4
            case hy4 => (intro w hSw; (try dsimp only at hSw); go_simp; (try with_reducible rfl))
            try simp only [Act.put, List.setIfInBounds_toArray, List.set_cons_zero, List.set_cons_succ]
            refine wpAnyH_take (i := 4) (oi := { dst := some 65, op := Op.binOp BinOp.lss 3 (Operand.tmp 62) (Operand.tmp 64) 3, type := 4, pos := "span.go:43", after := #[{ on := 1, ground := Ground.data }, { on := 3, ground := Ground.data }], guard := none }) (v := ?v5) rfl (by kernel_rfl) (by kernel_rfl) (by kernel_rfl) (fun _ _ _ h => h) (Or.inl ⟨by rfl, ?hy5⟩) (by assumption) ?rest5
            case hy5 => (intro w hSw; (try dsimp only at hSw); go_simp; (try with_reducible rfl))
            try simp only [Act.put, List.setIfInBounds_toArray, List.set_cons_zero, List.set_cons_succ]
            refine wpAnyH_take (i := 5) (oi := { dst := some 66, op := Op.move (Operand.tmp 65), type := 4, pos := "span.go:43", after := #[{ on := 4, ground := Ground.data }], guard := none }) (v := ?v6) rfl (by kernel_rfl) (by kernel_rfl) (by kernel_rfl) (fun _ _ _ h => h) (Or.inl ⟨by rfl, ?hy6⟩) (by assumption) ?rest6
            case hy6 => (intro w hSw; (try dsimp only at hSw); go_simp; (try with_reducible rfl))
            try simp only [Act.put, List.setIfInBounds_toArray, List.set_cons_zero, List.set_cons_succ]
            refine wpAnyH_take (i := 6) (oi := { dst := some 67, op := Op.move (Operand.tmp 5), type := 85, pos := "span.go:43", after := #[{ on := 5, ground := Ground.guard }], guard := some (5, true) }) (v := undef) rfl (by kernel_rfl) (by kernel_rfl) (by kernel_rfl) (fun _ _ _ h => h) (Or.inr ⟨by rfl, rfl⟩) (by assumption) ?_
            try simp only [Act.put, List.setIfInBounds_toArray, List.set_cons_zero, List.set_cons_succ]
            refine wpAnyH_take (i := 7) (oi := { dst := some 68, op := Op.move (Operand.tmp 14), type := 3, pos := "span.go:43", after := #[{ on := 5, ground := Ground.guard }], guard := some (5, true) }) (v := undef) rfl (by kernel_rfl) (by kernel_rfl) (by kernel_rfl) (fun _ _ _ h => h) (Or.inr ⟨by rfl, rfl⟩) (by assumption) ?_
            try simp only [Act.put, List.setIfInBounds_toArray, List.set_cons_zero, List.set_cons_succ]
            refine wpAnyH_take (i := 8) (oi := { dst := some 69, op := Op.binOp BinOp.add 3 (Operand.tmp 68) (Operand.const (Value.int IntKind.i64 1)) 3, type := 3, pos := "span.go:43", after := #[{ on := 7, ground := Ground.data }, { on := 5, ground := Ground.guard }], guard := some (5, true) }) (v := undef) rfl (by kernel_rfl) (by kernel_rfl) (by kernel_rfl) (fun _ _ _ h => h) (Or.inr ⟨by rfl, rfl⟩) (by assumption) ?_
            try simp only [Act.put, List.setIfInBounds_toArray, List.set_cons_zero, List.set_cons_succ]
            refine wpAnyH_take (i := 9) (oi := { dst := some 70, op := Op.indexAddr 85 (Operand.tmp 67) (Operand.tmp 69), type := 0, pos := "span.go:43", after := #[{ on := 6, ground := Ground.data }, { on := 8, ground := Ground.data }, { on := 5, ground := Ground.guard }], guard := some (5, true) }) (v := undef) rfl (by kernel_rfl) (by kernel_rfl) (by kernel_rfl) (fun _ _ _ h => h) (Or.inr ⟨by rfl, rfl⟩) (by assumption) ?_
            try simp only [Act.put, List.setIfInBounds_toArray, List.set_cons_zero, List.set_cons_succ]
            refine wpAnyH_take (i := 10) (oi := { dst := some 71, op := Op.fieldAddr 87 (Operand.tmp 70) 0, type := 0, pos := "span.go:43", after := #[{ on := 9, ground := Ground.data }, { on := 5, ground := Ground.guard }], guard := some (5, true) }) (v := undef) rfl (by kernel_rfl) (by kernel_rfl) (by kernel_rfl) (fun _ _ _ h => h) (Or.inr ⟨by rfl, rfl⟩) (by assumption) ?_
            try simp only [Act.put, List.setIfInBounds_toArray, List.set_cons_zero, List.set_cons_succ]
            refine wpAnyH_take (i := 11) (oi := { dst := some 72, op := Op.load 3 (Operand.tmp 71), type := 3, pos := "span.go:43", after := #[{ on := 10, ground := Ground.data }, { on := 5, ground := Ground.guard }], guard := some (5, true) }) (v := undef) rfl (by kernel_rfl) (by kernel_rfl) (by kernel_rfl) (fun _ _ _ h => h) (Or.inr ⟨by rfl, rfl⟩) (by assumption) ?_
            try simp only [Act.put, List.setIfInBounds_toArray, List.set_cons_zero, List.set_cons_succ]
            refine wpAnyH_take (i := 12) (oi := { dst := some 73, op := Op.fieldAddr 87 (Operand.tmp 15) 0, type := 0, pos := "span.go:43", after := #[{ on := 5, ground := Ground.guard }], guard := some (5, true) }) (v := undef) rfl (by kernel_rfl) (by kernel_rfl) (by kernel_rfl) (fun _ _ _ h => h) (Or.inr ⟨by rfl, rfl⟩) (by assumption) ?_
            try simp only [Act.put, List.setIfInBounds_toArray, List.set_cons_zero, List.set_cons_succ]
            refine wpAnyH_take (i := 13) (oi := { dst := some 74, op := Op.load 3 (Operand.tmp 73), type := 3, pos := "span.go:43", after := #[{ on := 12, ground := Ground.data }, { on := 5, ground := Ground.guard }], guard := some (5, true) }) (v := undef) rfl (by kernel_rfl) (by kernel_rfl) (by kernel_rfl) (fun _ _ _ h => h) (Or.inr ⟨by rfl, rfl⟩) (by assumption) ?_
            try simp only [Act.put, List.setIfInBounds_toArray, List.set_cons_zero, List.set_cons_succ]
            refine wpAnyH_take (i := 14) (oi := { dst := some 75, op := Op.binOp BinOp.eql 3 (Operand.tmp 72) (Operand.tmp 74) 3, type := 4, pos := "span.go:43", after := #[{ on := 11, ground := Ground.data }, { on := 13, ground := Ground.data }, { on := 5, ground := Ground.guard }], guard := some (5, true) }) (v := undef) rfl (by kernel_rfl) (by kernel_rfl) (by kernel_rfl) (fun _ _ _ h => h) (Or.inr ⟨by rfl, rfl⟩) (by assumption) ?_
            try simp only [Act.put, List.setIfInBounds_toArray, List.set_cons_zero, List.set_cons_succ]
            refine wpAnyH_take (i := 15) (oi := { dst := some 76, op := Op.pick (Operand.tmp 66) (Operand.tmp 75) (Operand.const (Value.bool false)), type := 4, pos := "span.go:43", after := #[{ on := 5, ground := Ground.data }, { on := 14, ground := Ground.data }], guard := none }) (v := ?v7) rfl (by kernel_rfl) (by kernel_rfl) (by kernel_rfl) (fun _ _ _ h => h) (Or.inl ⟨by rfl, ?hy7⟩) (by assumption) ?rest7
            case hy7 => (intro w hSw; (try dsimp only at hSw); go_simp; (try with_reducible rfl))
            try simp only [Act.put, List.setIfInBounds_toArray, List.set_cons_zero, List.set_cons_succ]
            refine wpAnyH_take (i := 16) (oi := { dst := some 77, op := Op.move (Operand.tmp 76), type := 4, pos := "span.go:43", after := #[{ on := 15, ground := Ground.data }, { on := 5, ground := Ground.chain }], guard := none }) (v := ?v8) rfl (by kernel_rfl) (by kernel_rfl) (by kernel_rfl) (fun _ _ _ h => h) (Or.inl ⟨by rfl, ?hy8⟩) (by assumption) ?rest8
            case hy8 => (intro w hSw; (try dsimp only at hSw); go_simp; (try with_reducible rfl))
            try simp only [Act.put, List.setIfInBounds_toArray, List.set_cons_zero, List.set_cons_succ]
            refine wpAnyH_take (i := 17) (oi := { dst := some 78, op := Op.move (Operand.tmp 0), type := 82, pos := "span.go:43", after := #[{ on := 16, ground := Ground.guard }], guard := some (16, false) }) (v := ?v9) rfl (by kernel_rfl) (by kernel_rfl) (by kernel_rfl) (fun _ _ _ h => h) (Or.inl ⟨by rfl, ?hy9⟩) (by assumption) ?rest9
            case hy9 => (intro w hSw; (try dsimp only at hSw); go_simp; (try with_reducible rfl))
            try simp only [Act.put, List.setIfInBounds_toArray, List.set_cons_zero, List.set_cons_succ]
            refine wpAnyH_take (i := 20) (oi := { dst := some 81, op := Op.move (Operand.tmp 12), type := 4, pos := "span.go:43", after := #[{ on := 16, ground := Ground.guard }], guard := some (16, false) }) (v := ?v10) rfl (by kernel_rfl) (by kernel_rfl) (by kernel_rfl) (fun _ _ _ h => h) (Or.inl ⟨by rfl, ?hy10⟩) (by assumption) ?rest10
            case hy10 => (intro w hSw; (try dsimp only at hSw); go_simp; (try with_reducible rfl))
            try simp only [Act.put, List.setIfInBounds_toArray, List.set_cons_zero, List.set_cons_succ]
            refine wpAnyH_take (i := 18) (oi := { dst := some 79, op := Op.load 81 (Operand.tmp 11), type := 81, pos := "span.go:43", after := #[{ on := 16, ground := Ground.guard }], guard := some (16, false) }) (v := ?v11) rfl (by kernel_rfl) (by kernel_rfl) (by kernel_rfl) (fun _ _ _ h => h) (Or.inl ⟨by rfl, ?hy11⟩) (by assumption) ?rest11
            case hy11 => (intro w hSw; (try dsimp only at hSw); go_simp; (try with_reducible rfl))
            try simp only [Act.put, List.setIfInBounds_toArray, List.set_cons_zero, List.set_cons_succ]
            refine wpAnyH_ready (rs := [19]) (by kernel_rfl) (by simp) ?_
            refine AllReadyH.cons (o := { dst := some 80, op := Op.call { callee := Callee.value (Operand.tmp 78), args := #[Operand.tmp 79], argTypes := #[81] }, type := 4, pos := "span.go:43", after := #[{ on := 17, ground := Ground.data }, { on := 18, ground := Ground.data }, { on := 16, ground := Ground.chain }, { on := 16, ground := Ground.guard }], guard := some (16, false) }) rfl (fun K hK => ?_) AllReadyH.nil
            go_simp
            (refine (HU2.out _).mono ?_; rintro e wu ⟨rfl, hwu⟩; have hbu : Below W3.heap.size W3 wu := (by subst hwu; first | exact below_drew1 (below_alloc (Below.refl _ _) _) | exact below_alloc (below_drew1 (Below.refl _ _)) _); have k1u := blk_below K13.out hbu; have kcu := blk_below KC3.out hbu; have z0u := (blk_cell k1u 0).trans rfl; have m0u := (blk_cell kcu 0).trans rfl; have m1u := (blk_cell kcu 1).trans rfl; have HBU := Aside0.mk hbu; have K1U := Aside0.mk k1u; have KCU := Aside0.mk kcu; clear hwu hbu k1u kcu)
            go_wp2_with fail
            refine hK.out _ _ (by (try dsimp only); go_keep) (fun hHeld => ?_)
            clear hK K
            try simp only [Act.put, List.setIfInBounds_toArray, List.set_cons_zero, List.set_cons_succ]
            refine wpAnyH_take (i := 21) (oi := { dst := some 82, op := Op.binOp BinOp.eql 4 (Operand.tmp 80) (Operand.tmp 81) 4, type := 4, pos := "span.go:43", after := #[{ on := 19, ground := Ground.data }, { on := 20, ground := Ground.data }, { on := 16, ground := Ground.guard }], guard := some (16, false) }) (v := ?v12) rfl (by kernel_rfl) (by kernel_rfl) (by kernel_rfl) (fun _ _ _ h => h) (Or.inl ⟨by rfl, ?hy12⟩) (by assumption) ?rest12
            case hy12 => (intro w hSw; (try dsimp only at hSw); go_simp; (try with_reducible rfl))
            try simp only [Act.put, List.setIfInBounds_toArray, List.set_cons_zero, List.set_cons_succ]
            refine wpAnyH_take (i := 22) (oi := { dst := some 83, op := Op.pick (Operand.tmp 77) (Operand.const (Value.bool true)) (Operand.tmp 82), type := 4, pos := "span.go:43", after := #[{ on := 16, ground := Ground.data }, { on := 21, ground := Ground.data }], guard := none }) (v := ?v13) rfl (by kernel_rfl) (by kernel_rfl) (by kernel_rfl) (fun _ _ _ h => h) (Or.inl ⟨by rfl, ?hy13⟩) (by assumption) ?rest13
            case hy13 => (intro w hSw; (try dsimp only at hSw); go_simp; (try with_reducible rfl))
            try simp only [Act.put, List.setIfInBounds_toArray, List.set_cons_zero, List.set_cons_succ]
            refine wpAnyH_done (by kernel_rfl) ?_ _
            cases b with
            | false =>
              cases ib with
              | false =>
                have HS4 : Aside0 (sweep (t.drop (j + 1)) c' false f outl = joinL l0) := ⟨by have := HSZ.out; rwa [if_pos rfl] at this⟩
                clear HSZ
                go_wp2
                go_roundw
                case rel => exact ⟨j + 1, c', false, f, outl, by go_num, by omega, rfl, rfl, by omega, by omega, ⟨by have := HOL.out; omega⟩, ⟨KdF.kept_none HO3.out HBU.out⟩, ⟨KCU.out⟩, HS4, ⟨below_step HB3.out HBU.out⟩⟩
                case measure => simp [intOf]; omega
              | true =>
                have HS4 : Aside0 (sweep (t.drop (j + 1)) c' false x.f0 (outl ++ [⟨f, x.f0⟩]) = joinL l0) := ⟨by have := HSZ.out; rwa [if_neg (by decide), if_pos rfl] at this⟩
                have HO4 := Aside0.mk (KdF.kept_none HO3.out HBU.out)
                have HB4 := Aside0.mk (below_step HB3.out HBU.out)
                obtain ⟨i0, hi0, hy0, hy1, hy2⟩ := info_parts info36
                have hle2 : outl.length ≤ 2000000 := by have := HOL.out; omega
                clear HSZ
                go_wp2_with (at_builtin; refine wpList_append_own _ rfl _ _ 30 rfl w2.heap.size 36 i0 (.agg #[.int .i64 0, .int .i64 0]) 2 16 hu30 hi0 hy0 hy1 hy2 rfl (by decide) _ _ _ rfl (HO4.out.alloc _) ⟨wu.heap.size, 0, none⟩ 1 1 [.int .i64 f, .int .i64 x.f0] rfl rfl (fun j u hu => KdF.cells_new wu #[.int .i64 f, .int .i64 x.f0] 36 j u hu) (by simp [Value.oneCell']) (by unfold maxLen; omega) (by omega) (by have := HB4.out.size; simp; omega) ?_; intro v' w3 hown' hgrow _; have HO5 := Aside0.mk hown'; have HB5 := Aside0.mk (KdF.below_append HB4.out HB4.out.size HO4.out hgrow); have KC5 := Aside0.mk (KdF.blk_append KCU.out (by decide) HO4.out hgrow); have k15 := KdF.blk_append K1U.out (by decide) HO4.out hgrow; have z05 := (blk_cell k15 0).trans rfl; clear hown' hgrow k15)
                go_quiet (fail)
                go_wp2
                go_roundw
                case rel => exact ⟨j + 1, c', false, x.f0, outl ++ [⟨f, x.f0⟩], by go_num, by omega, rfl, rfl, by omega, by omega, ⟨by have := HOL.out; rw [List.length_append]; simp; omega⟩, ⟨KdF.own_drewN (by rw [List.length_append, List.flatMap_append]; exact HO5.out) _⟩, ⟨blk_drewN KC5.out _⟩, HS4, ⟨pw_below_drewN HB5.out _⟩⟩
                case measure => simp [intOf]; omega
            | true =>
              cases ib with
              | false =>
                have HS4 : Aside0 (sweep (t.drop (j + 1)) c' true x.f0 outl = joinL l0) := ⟨by have := HSZ.out; rwa [if_neg (by decide), if_neg (by decide)] at this⟩
                clear HSZ
                go_wp2
                go_quiet (fail)
                go_wp2
                go_roundw
                case rel => exact ⟨j + 1, c', true, x.f0, outl, by go_num, by omega, rfl, rfl, by omega, by omega, ⟨by have := HOL.out; omega⟩, ⟨KdF.own_drewN (KdF.kept_none HO3.out HBU.out) _⟩, ⟨blk_drewN KCU.out _⟩, HS4, ⟨pw_below_drewN (below_step HB3.out HBU.out) _⟩⟩
                case measure => simp [intOf]; omega
              | true =>
                have HS4 : Aside0 (sweep (t.drop (j + 1)) c' true f outl = joinL l0) := ⟨by have := HSZ.out; rwa [if_pos rfl] at this⟩
                clear HSZ
                go_wp2
                go_roundw
                case rel => exact ⟨j + 1, c', true, f, outl, by go_num, by omega, rfl, rfl, by omega, by omega, ⟨by have := HOL.out; omega⟩, ⟨KdF.kept_none HO3.out HBU.out⟩, ⟨KCU.out⟩, HS4, ⟨below_step HB3.out HBU.out⟩⟩
                case measure => simp [intOf]; omega
        · have hjl : j = t.length := by omega
          have HFIN : Aside0 (outl = joinL l0) := ⟨by have := HSS.out; rw [List.drop_of_length_le (by omega), sweep] at this; exact this⟩
          have hR := KdF.own_R (d := k36) (f := encP) (e := 36) (fun _ => rfl) (fun ok x => k36_mkM _ _ _ _) (KdF.own_base HOO.out HB2.out.size)
          obtain ⟨A9, c9, rfl, _, _⟩ := Kd.R_reads hR
          have HR9 := Aside0.mk hR
          clear hR HOO
          go_wp2
          go_ret
          exact ⟨_, rfl, by rw [← HFIN.out]; exact HR9.out, HB2.out.trans (HBB.out.mono HB2.out.size)⟩


end Go.Proofs.Yteapeglolkfimaa.My
