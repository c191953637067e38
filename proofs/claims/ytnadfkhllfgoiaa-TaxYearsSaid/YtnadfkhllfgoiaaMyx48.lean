-- Written by a program of this session (wip/myprint.py), which drives the kit's print over hand-written fragments. Not trusted: Lean checks it.
import Derived.Test.YtnadfkhllfgoiaaMyx0
namespace Go.Proofs.Ytnadfkhllfgoiaa.My
open Go.Proofs.Ytnadfkhllfgoiaa.Aid Go.Proofs.Ytnadfkhllfgoiaa.KdX
open Go.RowKit Go.Proofs.YtnadfkhllfgoiaaW.PrintWords Go.Proofs.YtnadfkhllfgoiaaW.PrintLast Go.Proofs.YtnadfkhllfgoiaaW.PrintMore
attribute [local go_sem] max2_int min2_int max_two min_two max_three min_three max_four min_four   -- for this text's walks alone
set_option linter.unusedVariables false
set_option linter.unusedSimpArgs false

/-! ### api_Bracket: function 48 (by hand) -/
def lyr (l : List (S44)) (i : Int) : Int := (rd_T44 l i).f0
def lstep (l : List (S44)) (y best : Int) (i : Nat) : Int := if lyr l i ≤ y ∧ (best < 0 ∨ lyr l best ≤ lyr l i) then (i : Int) else best
def lat (l : List (S44)) (y : Int) (k : Nat) : Int := (List.range k).foldl (lstep l y) (-1)
theorem lat_succ (l : List (S44)) (y : Int) (k : Nat) : lat l y (k + 1) = lstep l y (lat l y k) k := by
  unfold lat; rw [List.range_succ, List.foldl_append]; rfl
theorem lat_bd (l : List (S44)) (y : Int) (k : Nat) : -1 ≤ lat l y k ∧ lat l y k < (k : Int) := by
  induction k with
  | zero => simp [lat]
  | succ k ih => rw [lat_succ]; unfold lstep; split <;> omega
set_option maxHeartbeats 400000 in
theorem tax_Find_1.calls (a b : Int) (v : Value) (w : World) : Calls Try.prog 49 #[.agg #[.int .i64 a, .int .i64 b, v]] w fun e w2 => e = .returned (.int .i64 a) ∧ Below w.heap.size w w2 := by
  have hu44 := Try.underlying44
  go_enter Try.func49, Try.ntmps49
  go_wp2
  go_ret
  exact ⟨rfl, below_alloc (Below.refl _ _) _⟩
theorem tax_Find_1.enter : ∀ args w1, (callFunc 49 args).run Try.prog w1 = .ok (.enter 49 args) w1 := by
  intro args w1
  go_simp
set_option maxHeartbeats 1000000 in
theorem api_Bracket.calls (A0 : Option Addr) (c0 : Nat) (l0 : List (S44)) (y : Int) (w : World) (hr0 : Kd.C k44 w A0 l0.length l0) :
    Calls Try.prog 48 #[.slice A0 l0.length c0, .int .i64 y, .func (.func 49) #[] #[]] w fun e w' => e = .returned (.int .i64 (lat l0 y l0.length)) ∧ Below w.heap.size w w' := by
  have hu44 := Try.underlying44
  have hF := tax_Find_1.enter
  have hm0 : l0.length ≤ 9223372036854775807 := hr0.2.1
  have HR0 := Aside0.mk hr0
  clear hr0
  go_enter Try.func48, Try.ntmps48
  go_wp2_with fail
  go_loopw [7, 13] (fun b i wr => ∃ (k : Nat) (x : Int), i = .int .i64 k ∧ k ≤ l0.length ∧ b = .int .i64 x ∧ Aside0 (lat l0 y k = x) ∧ Aside0 (Below w.heap.size w wr))
    (fun _ i _ => l0.length - (intOf i).toNat)
  case atStart => exact ⟨0, -1, rfl, Nat.zero_le _, rfl, ⟨rfl⟩, ⟨Below.refl _ _⟩⟩
  case round =>
    obtain ⟨k, x, rfl, hk, rfl, HX, HB⟩ := hrel
    by_cases hlt : k < l0.length
    · obtain ⟨ad, A2, c2, rfl, h1, h2, h3, _, _⟩ := at_T44 HR0.out (k : Int) (by omega) (by omega)
      rw [Int.toNat_natCast] at h1 h2 h3
      change _ = some (Value.int .i64 (lyr l0 k)) at h1
      replace h1 := (HB.out.cell (World.block_lt_of_cell? w _ h1)).trans h1
      replace h2 := (HB.out.cell (World.block_lt_of_cell? w _ h2)).trans h2
      replace h3 := (HB.out.cell (World.block_lt_of_cell? w _ h3)).trans h3
      have hst := lat_succ l0 y k
      rw [HX.out] at hst
      unfold lstep at hst
      have hxb := lat_bd l0 y k
      rw [HX.out] at hxb
      generalize lyr l0 (k : Int) = yi at h1 hst
      generalize (rd_T44 l0 (k : Int)).f1.f0 = di at h2
      generalize (rd_T44 l0 (k : Int)).f1.f1.length = n2 at h3
      have HST := Aside0.mk hst
      clear hst
      go_wp2_with fail
      refine (tax_Find_1.calls _ _ _ _).mono ?_
      rintro e w2 ⟨rfl, hb2⟩
      have HB2 := Aside0.mk (below_step (below_alloc HB.out _) hb2)
      clear hb2 h1 h2 h3
      by_cases hy : yi ≤ y
      · by_cases hx : x < 0
        · have he : lat l0 y (k + 1) = k := by rw [HST.out, if_pos ⟨hy, .inl hx⟩]
          have HE := Aside0.mk he
          clear he
          go_wp2
          go_roundw
          case rel => exact ⟨k + 1, (k : Int), by go_num, by omega, rfl, HE, HB2⟩
          case measure => simp [intOf]; omega
        · obtain ⟨ad', A3, c3, e3, g1, g2, g3, _, _⟩ := at_T44 HR0.out x (by omega) (by omega)
          obtain rfl : ad = ad' := Option.some.inj e3
          change _ = some (Value.int .i64 (lyr l0 x)) at g1
          replace g1 := (HB2.out.cell (World.block_lt_of_cell? w _ g1)).trans g1
          replace g2 := (HB2.out.cell (World.block_lt_of_cell? w _ g2)).trans g2
          replace g3 := (HB2.out.cell (World.block_lt_of_cell? w _ g3)).trans g3
          generalize lyr l0 x = yx at g1 HST
          generalize (rd_T44 l0 x).f1.f0 = dx at g2
          generalize (rd_T44 l0 x).f1.f1.length = n3 at g3
          by_cases hle : yx ≤ yi
          · have he : lat l0 y (k + 1) = k := by rw [HST.out, if_pos ⟨hy, .inr hle⟩]
            have HE := Aside0.mk he
            clear he
            go_wp2_with fail
            refine (tax_Find_1.calls _ _ _ _).mono ?_
            rintro e w3 ⟨rfl, hb3⟩
            have HB3 := Aside0.mk (below_step HB2.out hb3)
            clear hb3 g1 g2 g3
            go_wp2
            go_roundw
            case rel => exact ⟨k + 1, (k : Int), by go_num, by omega, rfl, HE, HB3⟩
            case measure => simp [intOf]; omega
          · have he : lat l0 y (k + 1) = x := by rw [HST.out, if_neg (by omega)]
            have HE := Aside0.mk he
            clear he
            go_wp2_with fail
            refine (tax_Find_1.calls _ _ _ _).mono ?_
            rintro e w3 ⟨rfl, hb3⟩
            have HB3 := Aside0.mk (below_step HB2.out hb3)
            clear hb3 g1 g2 g3
            go_wp2
            go_roundw
            case rel => exact ⟨k + 1, x, by go_num, by omega, rfl, HE, HB3⟩
            case measure => simp [intOf]; omega
      · have he : lat l0 y (k + 1) = x := by rw [HST.out, if_neg (by omega)]
        have HE := Aside0.mk he
        clear he
        go_wp2
        go_roundw
        case rel => exact ⟨k + 1, x, by go_num, by omega, rfl, HE, HB2⟩
        case measure => simp [intOf]; omega
    · have hkl : k = l0.length := by omega
      subst hkl
      go_wp2
      go_ret
      exact ⟨congrArg (fun z => Ending.returned (Value.int .i64 z)) HX.out.symm, HB.out⟩


end Go.Proofs.Ytnadfkhllfgoiaa.My
