-- Written by a program of this session (wip/myprint.py), which drives the kit's print over hand-written fragments. Not trusted: Lean checks it.
import Derived.Test.YtnadfkhllfgoiaaMyx0
import Derived.Test.YtnadfkhllfgoiaaMyx15
import Derived.Test.YtnadfkhllfgoiaaMyx16
import Derived.Test.YtnadfkhllfgoiaaMyx17
import Derived.Test.YtnadfkhllfgoiaaMyx18
import Derived.Test.YtnadfkhllfgoiaaMyx19
import Derived.Test.YtnadfkhllfgoiaaMyx20
import Derived.Test.YtnadfkhllfgoiaaMyx21
import Derived.Test.YtnadfkhllfgoiaaMyx22
import Derived.Test.YtnadfkhllfgoiaaMyx23
namespace Go.Proofs.Ytnadfkhllfgoiaa.My
open Go.Proofs.Ytnadfkhllfgoiaa.Aid Go.Proofs.Ytnadfkhllfgoiaa.KdX
open Go.RowKit Go.Proofs.YtnadfkhllfgoiaaW.PrintWords Go.Proofs.YtnadfkhllfgoiaaW.PrintLast Go.Proofs.YtnadfkhllfgoiaaW.PrintMore
attribute [local go_sem] max2_int min2_int max_two min_two max_three min_three max_four min_four   -- for this text's walks alone
set_option linter.unusedVariables false
set_option linter.unusedSimpArgs false

/-! ### wageofficelaw32_ShareMatchesReference: function 3 (by hand) -/
def wageofficelaw32_ShareMatchesReference.Body (k : Nat) (t : Int) (x m : List Int) : Prop := ∃ (r : List Int) (e : Int) (b : Bool), share_Fair.f t x = some (r, e) ∧ wageofficeref32_Fair.f k t x = some (r, e) ∧
  wageofficeref32_Same.f k r r = some true ∧ share_Check.f k t x r = some (e == 0) ∧ share_Check.f k t x m = some b ∧ wageofficeref32_Check.f k t x m = some b
def wageofficelaw32_ShareMatchesReference.Pure : Prop := ∀ (a0 : Int) (l1 l2 : List Int) (a3 : Int), (Lit.int .i64 a0).wf = true → (l1.length ≤ maxLen ∧ ∀ y ∈ l1, (Lit.int .i64 y).wf = true) → (l2.length ≤ maxLen ∧ ∀ y ∈ l2, (Lit.int .i64 y).wf = true) → (Lit.int .i64 a3).wf = true →
  ∃ (k : Nat) (p1 p2 p3 s : Int) (few am : List Int), wageofficelaw32_head.f k = some true ∧ wageofficelaw32_pick.f a3 40 = some p1 ∧ wageofficelaw32_amounts.f k (l1.take 70) (wrap64 (1 + p1)) = some few ∧
    wageofficelaw32_amounts.f k (l1.take 70) 1000000000000 = some am ∧ wageofficelaw32_pick.f a0 1000000000001 = some p2 ∧ wageofficelaw32_sum.f k few = some s ∧ wageofficelaw32_pick.f a0 (wrap64 (s + 3)) = some p3 ∧
    ∀ x ∈ [l1.take 70, am, few], ∀ t ∈ [a0, p2, p3], wageofficelaw32_ShareMatchesReference.Body k t x (l2.take 70)
set_option maxHeartbeats 4000000 in
set_option maxRecDepth 100000 in
theorem wageofficelaw32_ShareMatchesReference.walk (k : Nat) (a0 : Int) (A1 : Option Addr) (c1 n1 : Nat) (L : List Int) (A2 : Option Addr) (c2 n2 : Nat) (M : List Int) (a3 : Int) (p1 p2 p3 s : Int) (few am : List Int) (w : World)
    (hr1 : Kd.C (Kd.int .i64) w A1 L.length L) (hc1 : n1 ≤ c1) (hn1 : (70 < n1 ∧ L.length = 70) ∨ (n1 ≤ 70 ∧ L.length = n1)) (hr2 : Kd.C (Kd.int .i64) w A2 M.length M) (hc2 : n2 ≤ c2) (hn2 : (70 < n2 ∧ M.length = 70) ∨ (n2 ≤ 70 ∧ M.length = n2))
    (h1 : wageofficelaw32_head.f k = some true) (h2 : wageofficelaw32_pick.f a3 40 = some p1) (h3 : wageofficelaw32_amounts.f k L (wrap64 (1 + p1)) = some few)
    (h4 : wageofficelaw32_amounts.f k L 1000000000000 = some am) (h5 : wageofficelaw32_pick.f a0 1000000000001 = some p2) (h6 : wageofficelaw32_sum.f k few = some s)
    (h7 : wageofficelaw32_pick.f a0 (wrap64 (s + 3)) = some p3) (hB : ∀ x ∈ [L, am, few], ∀ t ∈ [a0, p2, p3], wageofficelaw32_ShareMatchesReference.Body k t x M) :
    Calls Try.prog 3 #[.int .i64 a0, .slice A1 n1 c1, .slice A2 n2 c2, .int .i64 a3] w fun e w' => e = .returned (.bool true) ∧ Below w.heap.size w w' := by
  have H1 := Aside0.mk h1
  have H2 := Aside0.mk h2
  have H3 := Aside0.mk h3
  have H4 := Aside0.mk h4
  have H5 := Aside0.mk h5
  have H6 := Aside0.mk h6
  have H7 := Aside0.mk h7
  have HBody := Aside0.mk hB
  have HN1 := Aside0.mk hn1
  have HN2 := Aside0.mk hn2
  have HR1 := Aside0.mk hr1
  have HR2 := Aside0.mk hr2
  have HC1 := Aside0.mk hc1
  have HC2 := Aside0.mk hc2
  have HL1 := Aside0.mk (show L.length ≤ c1 by omega)
  have HL2 := Aside0.mk (show M.length ≤ c2 by omega)
  clear h1 h2 h3 h4 h5 h6 h7 hB hr1 hr2 hc1 hc2 hn1 hn2
  go_enter Try.func3, Try.ntmps3
  go_upto_region 2 with (first | (go_at_call 15; refine (wageofficelaw32_head.calls k true w H1.out).mono ?_; rintro e w1 ⟨rfl, hb1⟩))
  have HB1 := Aside0.mk hb1
  clear hb1
  go_cut [10] (fun s10 wx => s10 = .slice A1 L.length c1 ∧ Aside0 (Below w.heap.size w wx))
  case first =>
    have hc := HC1.out
    rcases HN1.out with ⟨hn, e⟩ | ⟨hn, e⟩
    · have hlt' : (70 : Int) < (n1 : Int) := by omega
      have hc' : (70 : Int) ≤ (c1 : Int) := by omega
      go_wp2
      go_meet
      case rel => exact ⟨by rw [e], HB1⟩
    · have hlt' : ¬ (70 : Int) < (n1 : Int) := by omega
      have hc' : (n1 : Int) ≤ (c1 : Int) := by omega
      go_wp2
      go_meet
      case rel => exact ⟨by rw [e], HB1⟩
  case rest =>
    obtain ⟨rfl, HB2⟩ := hcut
    clear HB1
    go_upto_region 3 with fail
    go_cut [11] (fun s11 wx => s11 = .slice A2 M.length c2 ∧ Aside0 (Below w.heap.size w wx))
    case first =>
      have hc := HC2.out
      rcases HN2.out with ⟨hn, e⟩ | ⟨hn, e⟩
      · have hlt' : (70 : Int) < (n2 : Int) := by omega
        have hc' : (70 : Int) ≤ (c2 : Int) := by omega
        go_wp2
        go_meet
        case rel => exact ⟨by rw [e], HB2⟩
      · have hlt' : ¬ (70 : Int) < (n2 : Int) := by omega
        have hc' : (n2 : Int) ≤ (c2 : Int) := by omega
        go_wp2
        go_meet
        case rel => exact ⟨by rw [e], HB2⟩
    case rest =>
      obtain ⟨rfl, HB3⟩ := hcut
      clear HB2 HN1 HN2 HC1 HC2
      go_wp2_with fail
      refine (wageofficelaw32_pick.calls a3 40 p1 _ H2.out).mono ?_
      rintro e wa ⟨rfl, hd⟩
      have HB4 := Aside0.mk (below_step HB3.out hd.below)
      clear hd HB3
      go_wp2_with fail
      refine (wageofficelaw32_amounts.calls k A1 c1 L (wrap64 (1 + p1)) few _ (Kd.C_below HR1.out HB4.out) HL1.out H3.out).mono ?_
      rintro e wb ⟨vf, rfl, hvf, hbf⟩
      obtain ⟨Af, cf, rfl, hcf, hCf⟩ := Kd.R_reads hvf
      have HB5 := Aside0.mk (below_step HB4.out hbf)
      have HCF := Aside0.mk hCf
      have HLF := Aside0.mk hcf
      clear hvf hbf hCf hcf HB4
      go_wp2_with fail
      refine (wageofficelaw32_amounts.calls k A1 c1 L 1000000000000 am _ (Kd.C_below HR1.out HB5.out) HL1.out H4.out).mono ?_
      rintro e wd ⟨va, rfl, hva, hba⟩
      obtain ⟨Aa, ca, rfl, hca, hCa⟩ := Kd.R_reads hva
      have HB6 := Aside0.mk (below_step HB5.out hba)
      have HCA := Aside0.mk hCa
      have HLA := Aside0.mk hca
      have HCF' := Aside0.mk (Kd.C_below HCF.out hba)
      clear hva hba hCa hca HB5 HCF
      go_wp2_with fail
      obtain ⟨W0, hW0⟩ : ∃ W0, W0 = wd.alloc (.cells #[.slice A1 L.length c1, .slice Aa am.length ca, .slice Af few.length cf] 22) := ⟨_, rfl⟩
      rw [← hW0]
      have HB7 := Aside0.mk (show Below w.heap.size w W0 by subst hW0; exact below_alloc HB6.out _)
      have HM := Aside0.mk (Kd.C_below HR2.out HB7.out)
      have HF0 := Aside0.mk (show Kd.C (Kd.int .i64) W0 Af few.length few by subst hW0; exact Kd.C_alloc HCF'.out _)
      have HX := Aside0.mk (show ∀ j : Nat, j < 3 → ∃ (A : Option Addr) (c : Nat) (x : List Int), W0.cell? ⟨wd.heap.size, j, none⟩ = some (.slice A x.length c) ∧ Kd.C (Kd.int .i64) W0 A x.length x ∧ x.length ≤ c ∧ x ∈ [L, am, few] by
        intro j hj
        match j, hj with
        | 0, _ => exact ⟨A1, c1, L, by subst hW0; go_simp, Kd.C_below HR1.out HB7.out, HL1.out, by simp⟩
        | 1, _ => exact ⟨Aa, ca, am, by subst hW0; go_simp, by subst hW0; exact Kd.C_alloc HCA.out _, HLA.out, by simp⟩
        | 2, _ => exact ⟨Af, cf, few, by subst hW0; go_simp, by subst hW0; exact Kd.C_alloc HCF'.out _, HLF.out, by simp⟩)
      generalize wd.heap.size = g at *
      clear hW0 HB6 HCA HLA HCF' HR1 HR2
      go_loopw [9, 43] (fun up i wr => ∃ k1 : Nat, up = .bool true ∧ i = .int .i64 k1 ∧ k1 ≤ 3 ∧ Aside0 (Below W0.heap.size W0 wr))
        (fun _ i _ => 3 - (intOf i).toNat)
      case atStart => exact ⟨0, rfl, rfl, by omega, ⟨Below.refl _ _⟩⟩
      case round =>
        obtain ⟨k1, rfl, rfl, hk1, HBr⟩ := hrel
        by_cases hlt : k1 < 3
        · obtain ⟨A, c, x, hcell, hCx, hcx, hxm⟩ := HX.out k1 hlt
          replace hcell := (HBr.out.cell (World.block_lt_of_cell? W0 _ hcell)).trans hcell
          have HCx := Aside0.mk (Kd.C_below hCx HBr.out)
          have HLx := Aside0.mk hcx
          have HBx := Aside0.mk (HBody.out x hxm)
          clear hCx hcx hxm
          have hk0 : (0 : Int) ≤ (k1 : Int) := by omega
          have hk3 : (k1 : Int) < 3 := by omega
          go_wp2_with fail
          refine (wageofficelaw32_pick.calls a0 1000000000001 p2 _ H5.out).mono ?_
          rintro e we1 ⟨rfl, hd1⟩
          have HBs1 := Aside0.mk (below_step HBr.out hd1.below)
          have HCx1 := Aside0.mk (Kd.C_below HCx.out hd1.below)
          clear hd1 hcell HCx
          go_wp2_with fail
          refine (wageofficelaw32_sum.calls k Af cf few s _ (Kd.C_below HF0.out HBs1.out) HLF.out H6.out).mono ?_
          rintro e we2 ⟨rfl, hd2⟩
          have HBs2 := Aside0.mk (below_step HBs1.out hd2.below)
          have HCx2 := Aside0.mk (Kd.C_below HCx1.out hd2.below)
          clear hd2 HCx1 HBs1
          go_wp2_with fail
          refine (wageofficelaw32_pick.calls a0 (wrap64 (s + 3)) p3 _ H7.out).mono ?_
          rintro e we3 ⟨rfl, hd3⟩
          have HBs3 := Aside0.mk (below_step HBs2.out hd3.below)
          have HCx3 := Aside0.mk (Kd.C_below HCx2.out hd3.below)
          clear hd3 HCx2 HBs2
          go_wp2_with fail
          obtain ⟨W1, hW1⟩ : ∃ W1, W1 = we3.alloc (.cells #[.int .i64 a0, .int .i64 p2, .int .i64 p3] 3) := ⟨_, rfl⟩
          rw [← hW1]
          have HB8 := Aside0.mk (show Below W0.heap.size W0 W1 by subst hW1; exact below_alloc HBs3.out _)
          have HCX := Aside0.mk (show Kd.C (Kd.int .i64) W1 A x.length x by subst hW1; exact Kd.C_alloc HCx3.out _)
          have HM1 := Aside0.mk (Kd.C_below HM.out HB8.out)
          have HT := Aside0.mk (show ∀ j : Nat, j < 3 → ∃ t : Int, W1.cell? ⟨we3.heap.size, j, none⟩ = some (.int .i64 t) ∧ t ∈ [a0, p2, p3] by
            intro j hj
            match j, hj with
            | 0, _ => exact ⟨a0, by subst hW1; go_simp, by simp⟩
            | 1, _ => exact ⟨p2, by subst hW1; go_simp, by simp⟩
            | 2, _ => exact ⟨p3, by subst hW1; go_simp, by simp⟩)
          generalize we3.heap.size = g2 at *
          clear hW1 HBs3 HCx3 HBr
          go_loopw [9, 57] (fun up i wr => ∃ k2 : Nat, up = .bool true ∧ i = .int .i64 k2 ∧ k2 ≤ 3 ∧ Aside0 (Below W1.heap.size W1 wr))
            (fun _ i _ => 3 - (intOf i).toNat)
          case atStart => exact ⟨0, rfl, rfl, by omega, ⟨Below.refl _ _⟩⟩
          case round =>
            obtain ⟨k2, rfl, rfl, hk2, HBi⟩ := hrel
            by_cases hlt2 : k2 < 3
            · obtain ⟨t, htc, htm⟩ := HT.out k2 hlt2
              replace htc := (HBi.out.cell (World.block_lt_of_cell? W1 _ htc)).trans htc
              obtain ⟨r, ee, b, f1, f2, f3, f4, f5, f6⟩ := HBx.out t htm
              have F2 := Aside0.mk f2
              have F3 := Aside0.mk f3
              have F4 := Aside0.mk f4
              have F5 := Aside0.mk f5
              have F6 := Aside0.mk f6
              have F1 := Aside0.mk f1
              have HCi := Aside0.mk (Kd.C_below HCX.out HBi.out)
              have HMi := Aside0.mk (Kd.C_below HM1.out HBi.out)
              clear f1 f2 f3 f4 f5 f6 htm
              have hq0 : (0 : Int) ≤ (k2 : Int) := by omega
              have hq3 : (k2 : Int) < 3 := by omega
              go_wp2_with fail
              refine (share_Fair.calls t A c x r ee _ HCi.out HLx.out F1.out).mono ?_
              rintro e w5 ⟨v5, rfl, hv5, hb5⟩
              obtain ⟨A5, c5, rfl, hc5, hC5⟩ := Kd.R_reads hv5
              have HB5 := Aside0.mk (below_step HBi.out hb5)
              have HC5 := Aside0.mk hC5
              have HL5 := Aside0.mk hc5
              have HCi5 := Aside0.mk (Kd.C_below HCi.out hb5)
              have HMi5 := Aside0.mk (Kd.C_below HMi.out hb5)
              clear hv5 hb5 hc5 hC5 HCi HMi HBi htc
              go_wp2_with fail
              refine (wageofficeref32_Fair.calls k t A c x r ee _ HCi5.out HLx.out F2.out).mono ?_
              rintro e w6 ⟨v6, rfl, hv6, hb6⟩
              obtain ⟨A6, c6, rfl, hc6, hC6⟩ := Kd.R_reads hv6
              have HB6 := Aside0.mk (below_step HB5.out hb6)
              have HC6 := Aside0.mk hC6
              have HL6 := Aside0.mk hc6
              have HC56 := Aside0.mk (Kd.C_below HC5.out hb6)
              have HCi6 := Aside0.mk (Kd.C_below HCi5.out hb6)
              have HMi6 := Aside0.mk (Kd.C_below HMi5.out hb6)
              clear hv6 hb6 hc6 hC6 HCi5 HMi5 HB5 HC5
              go_wp2_with fail
              refine (wageofficeref32_Same.calls k A5 c5 r A6 c6 r true _ HC56.out HL5.out HC6.out HL6.out F3.out).mono ?_
              rintro e w7 ⟨rfl, hd7⟩
              have HB7' := Aside0.mk (below_step HB6.out hd7.below)
              have HC67 := Aside0.mk (Kd.C_below HC6.out hd7.below)
              have HCi7 := Aside0.mk (Kd.C_below HCi6.out hd7.below)
              have HMi7 := Aside0.mk (Kd.C_below HMi6.out hd7.below)
              clear hd7 HC56 HC6 HCi6 HMi6 HB6
              have hee : (ee == ee) = true := by simp
              go_wp2_with fail
              refine (share_Check.calls k t A c x A6 c6 r (ee == 0) _ HCi7.out HLx.out HC67.out HL6.out F4.out).mono ?_
              rintro e w8 ⟨rfl, hb8⟩
              have HB8' := Aside0.mk (below_step HB7'.out hb8)
              have HCi8 := Aside0.mk (Kd.C_below HCi7.out hb8)
              have HMi8 := Aside0.mk (Kd.C_below HMi7.out hb8)
              clear hb8 HC67 HCi7 HMi7 HB7'
              have hz : ((ee == 0) == (ee == 0)) = true := by simp
              go_wp2_with fail
              refine (share_Check.calls k t A c x A2 c2 M b _ HCi8.out HLx.out HMi8.out HL2.out F5.out).mono ?_
              rintro e w9 ⟨rfl, hb9⟩
              have HB9 := Aside0.mk (below_step HB8'.out hb9)
              have HCi9 := Aside0.mk (Kd.C_below HCi8.out hb9)
              have HMi9 := Aside0.mk (Kd.C_below HMi8.out hb9)
              clear hb9 HCi8 HMi8 HB8'
              go_wp2_with fail
              refine (wageofficeref32_Check.calls k t A c x A2 c2 M b _ HCi9.out HLx.out HMi9.out HL2.out F6.out).mono ?_
              rintro e w10 ⟨rfl, hb10⟩
              have HB10 := Aside0.mk (below_step HB9.out hb10)
              clear hb10 HCi9 HMi9 HB9
              have hbb : (b == b) = true := by simp
              go_wp2
              exact ⟨⟨k2 + 1, by first | rfl | simp, by go_num, by omega, ⟨HB10.out⟩⟩, by simp [intOf]; omega⟩
            · go_wp2
              exact ⟨⟨k1 + 1, rfl, by go_num, by omega, ⟨below_step HB8.out HBi.out⟩⟩, by simp [intOf]; omega⟩
        · go_wp2
          go_ret
          exact ⟨rfl, below_step HB7.out HBr.out⟩
theorem wageofficelaw32_ShareMatchesReference.C_take {α : Type} {d : Kd α} {w : World} {A : Option Addr} {l : List α} (h : d.C w A l.length l) (m : Nat) : d.C w A (l.take m).length (l.take m) := by
  refine ⟨rfl, by have := h.2.1; rw [List.length_take]; omega, fun hn => ?_⟩
  rw [List.length_take] at hn
  obtain ⟨ad, e, hc⟩ := h.2.2 (by omega)
  refine ⟨ad, e, fun j p hj => hc j p ?_⟩
  rw [List.getElem?_take] at hj
  split at hj
  · exact hj
  · cases hj
theorem wageofficelaw32_ShareMatchesReference.truth (P : wageofficelaw32_ShareMatchesReference.Pure) (a0 : Int) (A1 : Option Addr) (c1 : Nat) (l1 : List Int) (A2 : Option Addr) (c2 : Nat) (l2 : List Int) (a3 : Int) (w : World)
    (hr1 : Kd.F (Kd.int .i64) w (fun _ => True) A1 l1.length l1) (hc1 : l1.length ≤ c1) (hr2 : Kd.F (Kd.int .i64) w (fun _ => True) A2 l2.length l2) (hc2 : l2.length ≤ c2)
    (hb0 : (Lit.int .i64 a0).wf = true) (hb1 : l1.length ≤ maxLen ∧ ∀ y ∈ l1, (Lit.int .i64 y).wf = true) (hb2 : l2.length ≤ maxLen ∧ ∀ y ∈ l2, (Lit.int .i64 y).wf = true) (hb3 : (Lit.int .i64 a3).wf = true) :
    Calls Try.prog 3 #[.int .i64 a0, .slice A1 l1.length c1, .slice A2 l2.length c2, .int .i64 a3] w fun e w' => e = .returned (.bool true) ∧ Below w.heap.size w w' := by
  obtain ⟨k, p1, p2, p3, s, few, am, h1, h2, h3, h4, h5, h6, h7, hB⟩ := P a0 l1 l2 a3 hb0 hb1 hb2 hb3
  exact wageofficelaw32_ShareMatchesReference.walk k a0 A1 c1 l1.length (l1.take 70) A2 c2 l2.length (l2.take 70) a3 p1 p2 p3 s few am w
    (wageofficelaw32_ShareMatchesReference.C_take (Kd.F_now hr1) 70) hc1 (by rw [List.length_take]; omega) (wageofficelaw32_ShareMatchesReference.C_take (Kd.F_now hr2) 70) hc2 (by rw [List.length_take]; omega) h1 h2 h3 h4 h5 h6 h7 hB

end Go.Proofs.Ytnadfkhllfgoiaa.My
