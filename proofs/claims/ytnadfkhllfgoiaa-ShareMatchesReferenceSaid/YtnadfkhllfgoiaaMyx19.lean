-- Written by a program of this session (wip/myprint.py), which drives the kit's print over hand-written fragments. Not trusted: Lean checks it.
import Derived.Test.YtnadfkhllfgoiaaMyx0
import Derived.Test.YtnadfkhllfgoiaaMyx42
import Derived.Test.YtnadfkhllfgoiaaMyx43
import Derived.Test.YtnadfkhllfgoiaaMyx45
namespace Go.Proofs.Ytnadfkhllfgoiaa.My
open Go.Proofs.Ytnadfkhllfgoiaa.Aid Go.Proofs.Ytnadfkhllfgoiaa.KdX
open Go.RowKit Go.Proofs.YtnadfkhllfgoiaaW.PrintWords Go.Proofs.YtnadfkhllfgoiaaW.PrintLast Go.Proofs.YtnadfkhllfgoiaaW.PrintMore
attribute [local go_sem] max2_int min2_int max_two min_two max_three min_three max_four min_four   -- for this text's walks alone
set_option linter.unusedVariables false
set_option linter.unusedSimpArgs false

/-! ### share_Fair: function 19 (by hand) -/
def lsum (l : List Int) (x : Int) : Int := (l.map fun c => mn c x).sum
theorem level_eval (l : List Int) (a : Int) (hl : l.length ≤ 64) (ha : 0 ≤ a) (hc : ∀ x ∈ l, 0 ≤ x ∧ x ≤ 1000000000000) (d : Nat) : ∀ (k i : Nat) (p : List Int) (s : Int), i + d = l.length → p.length = l.length →
    p.take i = (l.take i).map (fun c => mn c a) → s = ((l.take i).map fun c => mn c a).sum → d < k → share_level.l0 k a p s l (l.length : Int) (i : Int) = some (l.map (fun c => mn c a), lsum l a) := by
  have hmn : ∀ x ∈ l, 0 ≤ mn x a ∧ mn x a ≤ 1000000000000 := fun x hx => by have := hc x hx; unfold mn; omega
  induction d with
  | zero =>
    intro k i p s hi hp ht hs hk
    obtain ⟨k, rfl⟩ : ∃ m, k = m + 1 := ⟨k - 1, by omega⟩
    have hil : i = l.length := by omega
    subst hil
    simp only [share_level.l0]
    rw [if_neg (by omega)]
    rw [List.take_of_length_le (Nat.le_refl _)] at hs ht
    rw [List.take_of_length_le (by omega)] at ht
    rw [ht, hs]; rfl
  | succ d ih =>
    intro k i p s hi hp ht hs hk
    obtain ⟨k, rfl⟩ : ∃ m, k = m + 1 := ⟨k - 1, by omega⟩
    have hlt : i < l.length := by omega
    have hpl : i < p.length := by omega
    simp only [share_level.l0]
    rw [if_pos (by omega), if_pos (by omega), if_pos (by omega), if_pos (by omega)]
    simp only [Option.bind_some, Int.toNat_natCast]
    rw [rd_nat hlt, rd_nat (by simpa using hpl), List.getElem_set_self]
    have hb : 0 ≤ s ∧ s ≤ 1000000000000 * 64 := by
      rw [hs]
      exact sum_bd' (n := 64) (by omega) (by rw [List.length_map, List.length_take]; omega) (fun x hx => by obtain ⟨y, hy, rfl⟩ := List.mem_map.1 hx; exact hmn y (mem_take hy))
    have hx := hmn l[i] (List.getElem_mem hlt)
    rw [w64 (by omega) (by omega), w64 (by omega) (by omega), show (i : Int) + 1 = ((i + 1 : Nat) : Int) from by omega]
    apply ih k (i + 1) _ _ (by omega) (by simpa using hp)
    · rw [set_take _ _ _ hpl, ht, take_snoc _ _ hlt, List.map_append]; rfl
    · rw [take_snoc _ _ hlt, List.map_append, hs, List.map_cons, List.map_nil, sum_snoc]
    · omega
theorem level_evals (l : List Int) (a : Int) (hl : l.length ≤ 64) (ha : 0 ≤ a) (hc : ∀ x ∈ l, 0 ≤ x ∧ x ≤ 1000000000000) : share_level.f 65 l a = some (l.map (fun c => mn c a), lsum l a) := by
  unfold share_level.f
  rw [if_pos (by omega), if_pos (by omega)]
  exact level_eval l a hl ha hc l.length 65 0 _ _ (by omega) (by simp) (by simp) (by simp) (by omega)
theorem lsum_zero {l : List Int} (hc : ∀ x ∈ l, 0 ≤ x ∧ x ≤ 1000000000000) : lsum l 0 = 0 := by
  induction l with
  | nil => rfl
  | cons x l ih =>
    have h1 := hc x (by simp)
    have h2 := ih fun y hy => hc y (by simp [hy])
    unfold lsum mn at *
    rw [List.map_cons, List.sum_cons, h2]; split <;> omega
theorem lsum_bd {l : List Int} (a : Int) (ha : 0 ≤ a) (hl : l.length ≤ 64) (hc : ∀ x ∈ l, 0 ≤ x ∧ x ≤ 1000000000000) : 0 ≤ lsum l a ∧ lsum l a ≤ 64000000000000 :=
  sum_bd' (M := 1000000000000) (n := 64) (by omega) (by rw [List.length_map]; omega) (fun x hx => by obtain ⟨y, hy, rfl⟩ := List.mem_map.1 hx; have := hc y hy; unfold mn; omega)
theorem share_Fair_1.enter : ∀ args w1, (callFunc 44 args).run Try.prog w1 = .ok (.enter 44 args) w1 := by
  intro args w1
  go_simp
set_option maxHeartbeats 400000 in
theorem share_Fair_1.calls (x : Int) (l : List Int) (t : Int) (A : Option Addr) (c : Nat) (pc pt : Addr) (w : World) (hx : 0 ≤ x) (hl : l.length ≤ 64) (hc : ∀ x ∈ l, 0 ≤ x ∧ x ≤ 1000000000000)
    (hr : Kd.C (Kd.int .i64) w A l.length l) (hcap : l.length ≤ c) (h1 : w.cell? pc = some (.slice A l.length c)) (h2 : w.cell? pt = some (.int .i64 t)) :
    Calls Try.prog 44 #[.int .i64 x, .pointer (some pc), .pointer (some pt)] w fun e w' => e = .returned (.bool (decide (t < lsum l x))) ∧ Below w.heap.size w w' := by
  have HL := Aside0.mk (share_level.calls 65 A c l x _ _ w hr hcap (level_evals l x hl hx hc))
  clear hr hcap hl hc
  generalize lsum l x = s at HL ⊢
  go_enter Try.func44, Try.ntmps44
  go_wp2_with fail
  refine HL.out.mono ?_
  rintro e w2 ⟨v, rfl, _, hb⟩
  have h2' := (hb.cell (World.block_lt_of_cell? w _ h2)).trans h2
  have HB := Aside0.mk hb
  clear hb h1 h2
  go_wp2
  go_ret
  exact ⟨rfl, HB.out⟩

def flev (t : Int) (l : List Int) : Int := mx (bs (fun x => decide (t < lsum l x)) 64 0 1000000000001 - 1) 0
def dist : Int → List Int → List Int → List Int
  | d, p :: ps, c :: cs => if d = 0 then p :: ps else if p < c then (p + 1) :: dist (d - 1) ps cs else p :: dist d ps cs
  | _, ps, _ => ps
def fairl (t : Int) (l : List Int) : List Int := dist (t - lsum l (flev t l)) (l.map fun c => mn c (flev t l)) l
def share_Fair.f (a0 : Int) (l1 : List Int) : Option (List Int × Int) :=
  (share_wrong.f a0 l1).bind fun e => some (if e = 0 then (fairl a0 l1, 0) else ([], e))
theorem share_wrong_ok {a0 : Int} {l1 : List Int} (h : share_wrong.f a0 l1 = some 0) : l1.length ≤ 64 ∧ 0 ≤ a0 ∧ a0 ≤ 1000000000000 ∧ ∀ x ∈ l1, 0 ≤ x ∧ x ≤ 1000000000000 := by
  unfold share_wrong.f at h
  have h := Option.some.inj h
  split at h; · omega
  split at h; · omega
  split at h; · omega
  split at h; · omega
  split at h; · omega
  rename_i h1 h2 h3 h4 h5
  refine ⟨by omega, by omega, by omega, fun x hx => ?_⟩
  rw [List.any_eq_true] at h3 h5
  have a1 := fun hh => h3 ⟨x, hx, hh⟩
  have a2 := fun hh => h5 ⟨x, hx, hh⟩
  simp at a1 a2
  omega
theorem flev_bd (t : Int) (l : List Int) : 0 ≤ flev t l ∧ flev t l ≤ 1000000000000 := by
  unfold flev
  have h := bs_spec (fun x => decide (t < lsum l x)) 1000000000001 64 0 1000000000001 (by omega) (by omega) (by omega) (by omega) (fun h => by omega) (fun h => by omega)
  unfold mx; omega
theorem dist_length (d : Int) (ps cs : List Int) : (dist d ps cs).length = ps.length := by
  induction ps generalizing d cs with
  | nil => cases cs <;> simp [dist]
  | cons p ps ih =>
    cases cs with
    | nil => simp [dist]
    | cons c cs =>
      simp only [dist]
      split
      · rfl
      · split <;> simp [ih]
theorem dist_step {l ps base r : List Int} {x : Int} {k : Nat} (hk : k < l.length) (hp : ps.length = l.length) (hd : ps.drop k = base.drop k) (ht : ps.take k ++ dist x (ps.drop k) (l.drop k) = r) (hx : x ≠ 0) :
    (ps[k]'(by omega) < l[k] → (ps.set k (ps[k]'(by omega) + 1)).length = l.length ∧ (ps.set k (ps[k]'(by omega) + 1)).drop (k + 1) = base.drop (k + 1) ∧
      (ps.set k (ps[k]'(by omega) + 1)).take (k + 1) ++ dist (x - 1) ((ps.set k (ps[k]'(by omega) + 1)).drop (k + 1)) (l.drop (k + 1)) = r) ∧
    (¬ ps[k]'(by omega) < l[k] → ps.drop (k + 1) = base.drop (k + 1) ∧ ps.take (k + 1) ++ dist x (ps.drop (k + 1)) (l.drop (k + 1)) = r) := by
  have hpk : k < ps.length := by omega
  have hb : ps.drop (k + 1) = base.drop (k + 1) := by
    rw [← List.drop_drop, hd, List.drop_drop]
  rw [List.drop_eq_getElem_cons hpk, List.drop_eq_getElem_cons hk] at ht
  simp only [dist, if_neg hx] at ht
  refine ⟨fun h => ⟨by simpa using hp, ?_, ?_⟩, fun h => ⟨hb, ?_⟩⟩
  · rw [List.drop_set_of_lt (by omega)]; exact hb
  · rw [if_pos h] at ht
    rw [set_take _ _ _ hpk, List.drop_set_of_lt (by omega), List.append_assoc]; exact ht
  · rw [if_neg h] at ht
    rw [take_snoc _ _ hpk, List.append_assoc]; exact ht
theorem dist_zero (ps cs : List Int) : dist 0 ps cs = ps := by
  cases ps <;> cases cs <;> simp [dist]
set_option maxHeartbeats 1000000 in
theorem share_Fair.calls (a0 : Int) (A1 : Option Addr) (c1 : Nat) (l1 : List Int) (r1 : List Int) (r2 : Int) (w : World) (hr1 : Kd.C (Kd.int .i64) w A1 l1.length l1) (hc1 : l1.length ≤ c1) (h : share_Fair.f a0 l1 = some (r1, r2)) :
    Calls Try.prog 19 #[.int .i64 a0, .slice A1 l1.length c1] w fun e w' => ∃ v0_ : Value, e = .returned (.tuple #[v0_, .int .i64 r2]) ∧ Kd.R (Kd.int .i64) 3 w' w.heap.size (fun _ => True) v0_ r1 ∧ Below w.heap.size w w' := by
  obtain ⟨e0, he0⟩ : ∃ e0, share_wrong.f a0 l1 = some e0 := ⟨_, rfl⟩
  unfold share_Fair.f at h
  rw [he0] at h
  simp only [Option.bind_some] at h
  have hb1 : Below w.heap.size w ((w.alloc (.cells #[.int .i64 a0] 3)).alloc (.cells #[.slice A1 l1.length c1] 22)) := below_alloc (below_alloc (Below.refl _ _) _) _
  have HW := Aside0.mk (share_wrong.calls a0 A1 c1 l1 e0 _ (Kd.C_below hr1 hb1) hc1 he0)
  have HR := Aside0.mk hr1
  have HC := Aside0.mk hc1
  have HB1 := Aside0.mk hb1
  clear hr1 hc1 hb1
  by_cases hz : e0 = 0
  · subst hz
    have hok := share_wrong_ok he0
    have H := Aside0.mk h
    clear h he0
    go_enter Try.func19, Try.ntmps19
    go_wp2_with fail
    go_step3
    go_wp2_with fail
    refine HW.out.mono ?_
    rintro e w2 ⟨rfl, ⟨n, rfl⟩⟩
    obtain ⟨hl64, ha0, ha1, hcl⟩ := hok
    obtain ⟨w1, hw1⟩ : ∃ w1, w1 = ((w.alloc (.cells #[.int .i64 a0] 3)).alloc (.cells #[.slice A1 l1.length c1] 22)).drewN n := ⟨_, rfl⟩
    have hc1a : w1.cell? ⟨w.heap.size + 1, 0, none⟩ = some (.slice A1 l1.length c1) := by subst hw1; go_simp
    have hc1b : w1.cell? ⟨w.heap.size, 0, none⟩ = some (.int .i64 a0) := by subst hw1; go_simp
    have hB1 : Below w.heap.size w w1 := by subst hw1; exact pw_below_drewN HB1.out n
    rw [← hw1]
    clear hw1 HW HB1
    have HS := Aside0.mk (sort_Search.calls 44 #[.pointer (some ⟨w.heap.size + 1, 0, none⟩), .pointer (some ⟨w.heap.size, 0, none⟩)] 1000000000001 (fun x => decide (a0 < lsum l1 x))
      (fun W => Below w1.heap.size w1 W) w1 share_Fair_1.enter (by omega) (Below.refl _ _) (fun x W hx _ hW =>
        (share_Fair_1.calls x l1 a0 A1 c1 _ _ W hx hl64 hcl (Kd.C_below HR.out (below_step hB1 hW)) HC.out ((hW.cell (World.block_lt_of_cell? w1 _ hc1a)).trans hc1a) ((hW.cell (World.block_lt_of_cell? w1 _ hc1b)).trans hc1b)).mono
          fun e w2 h => ⟨h.1, below_step hW h.2⟩))
    have hbs := bs_spec (fun x => decide (a0 < lsum l1 x)) 1000000000001 64 0 1000000000001 (by omega) (by omega) (by omega) (by omega) (fun h => by omega) (fun h => by omega)
    have hfl : flev a0 l1 = mx (bs (fun x => decide (a0 < lsum l1 x)) 64 0 1000000000001 - 1) 0 := rfl
    generalize bs (fun x => decide (a0 < lsum l1 x)) 64 0 1000000000001 = q at HS hbs hfl
    have hq1 : 1 ≤ q := by
      rcases Int.lt_or_le q 1 with hq | hq
      · have e : q = 0 := by omega
        subst e
        have := hbs.2.2.2 (by omega)
        rw [lsum_zero hcl] at this
        simp at this; omega
      · exact hq
    have hfl' : flev a0 l1 = q - 1 := by rw [hfl]; unfold mx; omega
    have hls : lsum l1 (q - 1) ≤ a0 := by
      have := hbs.2.2.1 (by omega)
      simp at this; omega
    have hls0 := lsum_bd (q - 1) (by omega) hl64 hcl
    have hq2 : q ≤ 1000000000001 := hbs.2.1
    have HF : Aside0 (fairl a0 l1 = r1 ∧ 0 = r2) := by
      have := H.out
      simp only [if_true, Option.some.injEq, Prod.mk.injEq] at this
      exact ⟨this⟩
    unfold fairl at HF
    rw [hfl'] at HF
    clear hfl hfl' H hbs
    have HCL := Aside0.mk hcl
    have HHB1 := Aside0.mk hB1
    clear hcl hB1
    go_wp2_with fail
    refine HS.out.mono ?_
    rintro e w3 ⟨rfl, hb3⟩
    have hc3a := (hb3.cell (World.block_lt_of_cell? w1 _ hc1a)).trans hc1a
    have hc3b := (hb3.cell (World.block_lt_of_cell? w1 _ hc1b)).trans hc1b
    have HL := Aside0.mk (share_level.calls 65 A1 c1 l1 (q - 1) _ _ w3 (Kd.C_below HR.out (below_step HHB1.out hb3)) HC.out (level_evals l1 (q - 1) hl64 (by omega) HCL.out))
    have HB3 := Aside0.mk (below_step HHB1.out hb3)
    clear hc1a hc1b hb3 HS HHB1
    go_wp2_with fail
    refine HL.out.mono ?_
    rintro e w4 ⟨v, rfl, hv4, hb4⟩
    generalize lsum l1 (q - 1) = s at *
    obtain ⟨A4, cc4, rfl, hcap4, _⟩ := Kd.R_reads hv4
    have hc4a := (hb4.cell (World.block_lt_of_cell? w3 _ hc3a)).trans hc3a
    have hc4b := (hb4.cell (World.block_lt_of_cell? w3 _ hc3b)).trans hc3b
    have HV4 := Aside0.mk hv4
    have HB4 := Aside0.mk hb4
    clear hv4 hb4 HL
    go_wp2_with fail
    go_step3
    go_wp2_with fail
    have hlm : (l1.map fun c => mn c (q - 1)).length = l1.length := by simp
    go_loopw [10, 11, 33] (fun d _ i wr => ∃ (k : Nat) (x : Int) (ps : List Int), i = .int .i64 k ∧ k ≤ l1.length ∧ d = .int .i64 x ∧ 0 ≤ x ∧ x ≤ a0 ∧ ps.length = l1.length ∧
        Aside0 (ps.drop k = (l1.map fun c => mn c (q - 1)).drop k) ∧ Aside0 (ps.take k ++ dist x (ps.drop k) (l1.drop k) = r1) ∧
        Aside0 (Kd.R (Kd.int .i64) 3 wr w3.heap.size (fun _ => True) (.slice A4 l1.length cc4) ps) ∧ Aside0 (Below w3.heap.size w3 wr))
      (fun _ _ i _ => l1.length - (intOf i).toNat)
    case atStart =>
      exact ⟨0, a0 - s, _, rfl, Nat.zero_le _, rfl, by omega, by omega, hlm, ⟨rfl⟩, ⟨by simpa using HF.out.1⟩, ⟨by have := HV4.out; rw [hlm] at this; exact this⟩, HB4⟩
    case round =>
      obtain ⟨k, x, ps, rfl, hk, rfl, hx0, hx1, hpl, HD, HT, HO, HB⟩ := hrel
      have hca := (HB.out.cell (World.block_lt_of_cell? w3 _ hc3a)).trans hc3a
      obtain rfl : r2 = 0 := HF.out.2.symm
      by_cases hlt : k < l1.length
      · by_cases hx : x = 0
        · subst hx
          rw [dist_zero, List.take_append_drop] at HT
          obtain rfl := HT.out
          go_wp2
          go_ret2
          exact ⟨_, rfl, Kd.R_lower HO.out (below_size HB3.out), below_step HB3.out HB.out⟩
        · have hx' : (x == 0) = false := by simpa using hx
          have hx2 : 0 < x := by omega
          clear hx
          obtain ⟨ad, rfl, hy⟩ := Kd.at_int HR.out (k : Int) (by omega) (by omega)
          replace hy := ((below_step HB3.out HB.out).cell (World.block_lt_of_cell? w _ hy)).trans hy
          rw [Int.toNat_natCast] at hy
          have hpk : k < ps.length := by omega
          have hpe : ps[k] = mn l1[k] (q - 1) := by
            have h1 : (ps.drop k)[0]? = ((l1.map fun c => mn c (q - 1)).drop k)[0]? := by rw [HD.out]
            simpa [hpk, hlt] using h1
          have hlk := HCL.out l1[k] (List.getElem_mem hlt)
          have hp0 : 0 ≤ ps[k] ∧ ps[k] ≤ 1000000000000 := by rw [hpe]; unfold mn; omega
          have HPE := Aside0.mk hpe
          clear hpe
          obtain ⟨g, cap, he, hg1, hg2, cells, hg3⟩ := Kd.R_form HO.out (by omega)
          injection he with he1 he2 he3
          subst he1 he3
          clear he2 hg3 cells
          obtain ⟨hz, hf⟩ := Kd.R_celln (n := l1.length) (0 : Int) HO.out (k : Int) (by omega) (by omega)
          have hrd : rdOf (0 : Int) ps (k : Int) = ps[k] := by simp [rdOf, List.getD_eq_getElem?_getD, hpk]
          rw [hrd, Int.toNat_natCast] at hz
          rw [Int.toNat_natCast] at hf
          rw [rd_nat hlt] at hy
          clear hrd
          obtain ⟨hstep1, hstep2⟩ := dist_step hlt hpl HD.out HT.out (by simpa using hx')
          have HS1 := Aside0.mk hstep1
          have HS2 := Aside0.mk hstep2
          have HHZ := Aside0.mk hg1
          clear hstep1 hstep2 hg1
          by_cases hplt : ps[k] < l1[k]
          · go_wp2
            repeat (go_quiet (fail); try go_wp2)
            go_roundw
            case rel => exact ⟨k + 1, x - 1, ps.set k (ps[k] + 1), by go_num, by omega, rfl, by omega, by omega, (HS1.out hplt).1, ⟨(HS1.out hplt).2.1⟩, ⟨(HS1.out hplt).2.2⟩, ⟨(Kd.R_putg (Kd.R_drewN HO.out _) (k : Int) (ps[k] + 1)).1⟩, ⟨(pw_below_drewN HB.out _).setCell HHZ.out _⟩⟩
            case measure => simp [intOf]; omega
          · go_wp2
            repeat (go_quiet (fail); try go_wp2)
            go_roundw
            case rel => exact ⟨k + 1, x, ps, by go_num, by omega, rfl, hx0, hx1, hpl, ⟨(HS2.out (by omega)).1⟩, ⟨(HS2.out (by omega)).2⟩, ⟨Kd.R_drewN HO.out _⟩, ⟨pw_below_drewN HB.out _⟩⟩
            case measure => simp [intOf]; omega
      · rw [List.take_of_length_le (by omega), List.drop_eq_nil_of_le (by omega)] at HT
        have e := HT.out
        simp only [dist, List.append_nil] at e
        subst e
        go_wp2
        go_ret2
        exact ⟨_, rfl, Kd.R_lower HO.out (below_size HB3.out), below_step HB3.out HB.out⟩
  · rw [if_neg hz] at h
    have hne : (e0 != 0) = true := by simpa using hz
    obtain ⟨rfl, rfl⟩ := Prod.mk.inj (Option.some.inj h)
    clear h he0
    go_enter Try.func19, Try.ntmps19
    go_wp2_with fail
    go_step3
    go_wp2_with fail
    refine HW.out.mono ?_
    rintro e w2 ⟨rfl, ⟨n, rfl⟩⟩
    go_wp2
    rw [Exit.noGoto_ret]
    go_ret2
    exact ⟨_, rfl, Kd.R_nil _ _ _ _ _, pw_below_drewN HB1.out n⟩

end Go.Proofs.Ytnadfkhllfgoiaa.My
