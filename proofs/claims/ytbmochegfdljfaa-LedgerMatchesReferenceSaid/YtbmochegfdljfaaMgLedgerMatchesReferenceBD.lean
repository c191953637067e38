-- Merged by a program of this session (wip/sh/merge.py) from texts of mine.
import Derived.Test.YtbmochegfdljfaaMyx0
import Derived.Test.YtbmochegfdljfaaMyx21
import Derived.Test.YtbmochegfdljfaaMyx22
import Derived.Test.YtbmochegfdljfaaMyx27
import Derived.Test.YtbmochegfdljfaaMyx57
import Derived.Test.YtbmochegfdljfaaMyx18
import Derived.Test.YtbmochegfdljfaaMyx19
import Derived.Test.YtbmochegfdljfaaMyx20
import Derived.Test.YtbmochegfdljfaaMyx23
import Derived.Test.YtbmochegfdljfaaMyx24
import Derived.Test.YtbmochegfdljfaaMyx25
import Derived.Test.YtbmochegfdljfaaMyx26
import Derived.Test.YtbmochegfdljfaaKdX
import Derived.ChangeArms
import Derived.WideShapes
import Derived.Lib.SmallJoins
import Derived.Deep.Slices
import Derived.Test.YtbmochegfdljfaaAid
import Derived.Test.YtbmochegfdljfaaSrt
import Derived.Test.YtbmochegfdljfaaMyx78
import Derived.Test.YtbmochegfdljfaaMyx80
import Derived.Test.YtbmochegfdljfaaMyx81
import Derived.Test.YtbmochegfdljfaaMyx51
import Derived.Test.YtbmochegfdljfaaMyx52
import Derived.Test.YtbmochegfdljfaaMyx53
section
-- Written by a program of this session (wip/myprint.py),which drives the kit's print over hand-written fragments. Not trusted: Lean checks it.





namespace Go.Proofs.Ytbmochegfdljfaa.My
open Go.Proofs.Ytbmochegfdljfaa.Aid Go.Proofs.Ytbmochegfdljfaa.KdX
open Go.RowKit Go.Proofs.YtbmochegfdljfaaW.PrintWords Go.Proofs.YtbmochegfdljfaaW.PrintLast Go.Proofs.YtbmochegfdljfaaW.PrintMore
attribute [local go_sem] max2_int min2_int max_two min_two max_three min_three max_four min_four   -- for this text's walks alone
set_option linter.unusedVariables false
set_option linter.unusedSimpArgs false

/-! ### wageofficeref39_Accounts: function 28 (by hand) -/
def wageofficeref39_Accounts.f (k : Nat) (l0_0 : List S26) : Option (List ByteArray) := (wageofficeref39_Valid.f k l0_0).bind fun v => if v = true then (if l0_0.length ≤ 2000 then some (accF l0_0) else none) else some []
theorem insL_len (l : List ByteArray) (s : ByteArray) : (insL l s).length ≤ l.length + 1 := by
  induction l with
  | nil => simp [insL]
  | cons x l ih => unfold insL;split <;> (try split) <;> simp <;> omega
theorem accF_len (l : List S26) : (accF l).length ≤ 2 * l.length := by
  have key : ∀ (l : List S26) (out : List ByteArray),(l.foldl (fun out x => insL (insL out x.f1) x.f2) out).length ≤ out.length + 2 * l.length := by
    intro l
    induction l with
    | nil => intro out;simp
    | cons x l ih =>
      intro out
      have h1 := ih (insL (insL out x.f1) x.f2)
      have h2 := insL_len (insL out x.f1) x.f2
      have h3 := insL_len out x.f1
      rw [List.foldl_cons,List.length_cons];omega
  have := key l []
  simpa [accF] using this
theorem accF_snoc (l : List S26) (x : S26) : accF (l ++ [x]) = insL (insL (accF l) x.f1) x.f2 := by simp [accF]
set_option maxRecDepth 100000 in
set_option maxHeartbeats 2000000 in
theorem wageofficeref39_Accounts.calls (k : Nat) (A0_0 : Option Addr) (c0_0 : Nat) (l0_0 : List S26) (r : List ByteArray) (w : World) (hr0_0 : Kd.C k26 w A0_0 l0_0.length l0_0) (hc0_0 : l0_0.length ≤ c0_0) (h : wageofficeref39_Accounts.f k l0_0 = some r) :
    Calls Try.prog 28 #[.agg #[.slice A0_0 l0_0.length c0_0]] w fun e w' => ∃ v : Value,e = .returned v ∧ Kd.R Kd.string 9 w' w.heap.size (fun _ => True) v r ∧ Below w.heap.size w w' := by
  unfold wageofficeref39_Accounts.f at h
  obtain ⟨vb,hvb,h⟩ := Option.bind_eq_some_iff.1 h
  have hu24 := Try.underlying24
  have hu26 := Try.underlying26
  have hn0 : l0_0.length ≤ 9223372036854775807 := hr0_0.2.1
  have HVA := Aside0.mk hvb
  have HR := Aside0.mk hr0_0
  have HC := Aside0.mk hc0_0
  have HH := Aside0.mk h
  clear hr0_0 hc0_0 hvb h
  go_enter Try.func28,Try.ntmps28
  go_wp2_with fail
  have hk0 := blk_new w (.cells #[.slice A0_0 l0_0.length c0_0] 24)
  refine (wageofficeref39_Valid.calls k A0_0 c0_0 l0_0 vb _ (Kd.C_below HR.out (below_alloc (Below.refl _ _) _)) HC.out HVA.out).mono ?_
  rintro e w2 ⟨rfl,hb2⟩
  have HB2 := Aside0.mk (below_step (below_alloc (Below.refl _ _) _) hb2)
  have k0 := blk_below hk0 hb2
  have d0 := blk_cell k0 0
  simp at d0
  have HK0 := Aside0.mk k0
  clear hb2 k0 hk0
  cases vb with
  | false =>
    have hh := HH.out
    simp only [Bool.false_eq_true,if_false] at hh
    obtain rfl := Option.some.inj hh
    clear hh
    go_wp2
    go_ret
    exact ⟨_,rfl,Kd.R_nil _ _ _ _ _,HB2.out⟩
  | true =>
    have hh := HH.out
    simp only [if_true] at hh
    by_cases hl2 : l0_0.length ≤ 2000
    · rw [if_pos hl2] at hh
      have HRE := Aside0.mk (Option.some.inj hh)
      clear hh HH d0
      go_wp2_with fail
      go_loopw [3,4] (fun v i wr => ∃ k : Nat,i = .int .i64 k ∧ k ≤ l0_0.length ∧ Aside0 (Kd.R Kd.string 9 wr w.heap.size (fun _ => True) v (accF (l0_0.take k))) ∧ Aside0 (Below w.heap.size w wr) ∧ Aside0 (wr.heap[w.heap.size]? = some (.cells #[.slice A0_0 l0_0.length c0_0] 24 (0,0))))
        (fun _ i _ => l0_0.length - (intOf i).toNat)
      case atStart => exact ⟨0,rfl,Nat.zero_le _,⟨Kd.R_nil _ _ _ _ _⟩,HB2,HK0⟩
      case round =>
        obtain ⟨k,rfl,hk,HV,HB,HQ⟩ := hrel
        have q0 := blk_cell HQ.out 0
        simp at q0
        by_cases hlt : k < l0_0.length
        · obtain ⟨ad,rfl,g0,g1,g2,g3,g4,g5⟩ := at_T26 HR.out (k : Int) (by omega) (by omega)
          rw [Int.toNat_natCast,rd26_at hlt] at g1 g2
          have HT := Aside0.mk (show accF (l0_0.take (k + 1)) = insL (insL (accF (l0_0.take k)) l0_0[k].f1) l0_0[k].f2 from by rw [List.take_succ_eq_append_getElem hlt,accF_snoc])
          have hal := accF_len (l0_0.take k)
          have hil := insL_len (accF (l0_0.take k)) l0_0[k].f1
          rw [List.length_take] at hal
          obtain ⟨y,hy⟩ : ∃ y,l0_0[k] = y := ⟨_,rfl⟩
          rw [hy] at g1 g2 HT hil
          clear hy g0 g3 g4 g5
          have HA1 := Aside0.mk (show (accF (l0_0.take k)).length ≤ 1000000 by omega)
          have HA2 := Aside0.mk (show (insL (accF (l0_0.take k)) y.f1).length ≤ 1000000 by omega)
          clear hal hil
          replace g1 := (HB.out.cell (World.block_lt_of_cell? w _ g1)).trans g1
          replace g2 := (HB.out.cell (World.block_lt_of_cell? w _ g2)).trans g2
          have hi0 : (0 : Int) ≤ (k : Int) := by omega
          have hi1 : (k : Int) < (l0_0.length : Int) := by omega
          have L0 := World.block_lt_of_cell? _ _ q0
          have L1 := World.block_lt_of_cell? _ _ g1
          have L2 := World.block_lt_of_cell? _ _ g2
          have HL0 := Aside0.mk L0
          have HL1 := Aside0.mk L1
          have HL2 := Aside0.mk L2
          clear L0 L1 L2
          go_wp2_with fail
          go_region_held3 (fun w' => w'.cell? ⟨w.heap.size,0,none⟩ = some (.slice (some ad) l0_0.length c0_0) ∧ w'.cell? ⟨(ad.add (k * 6)).block,(ad.add (k * 6)).off + 1,none⟩ = some (.string y.f1) ∧ w'.cell? ⟨(ad.add (k * 6)).block,(ad.add (k * 6)).off + 2,none⟩ = some (.string y.f2)) (go_keep)
            (first
              | (revert HX;intro HX;go_at_call 57;refine (wageofficeref39_insert.calls w.heap.size _ (insL (accF (l0_0.take k)) y.f1) y.f2 _ HX.out HBX.out.size HA2.out).mono ?_;rintro e wc ⟨vc,rfl,hvc,hbc⟩;have hBC := HBX.out.trans (hbc.mono HBX.out.size);have hBD := HBY.out.trans (hbc.mono HBY.out.size);have z0 := (hBD.cell (p := ⟨w.heap.size,0,none⟩) HL0.out).trans q0;have z1 := (hBD.cell (p := ⟨(ad.add (k * 6)).block,(ad.add (k * 6)).off + 1,none⟩) HL1.out).trans g1;have z2 := (hBD.cell (p := ⟨(ad.add (k * 6)).block,(ad.add (k * 6)).off + 2,none⟩) HL2.out).trans g2;have HFIN := Aside0.mk hvc;have HFB := Aside0.mk hBC;have HFQ := Aside0.mk ((hBD.block _ HL0.out).trans HQ.out);clear hvc hbc hBC hBD HX HBX HBY)
              | (revert HV;intro HV;go_at_call 57;refine (wageofficeref39_insert.calls w.heap.size _ (accF (l0_0.take k)) y.f1 _ (Kd.R_below HV.out (by repeat (first | exact Below.refl _ _ | apply below_alloc | apply below_drew1))) (Nat.le_trans HB.out.size (by simp)) HA1.out).mono ?_;rintro e wb ⟨vb,rfl,hvb,hbb⟩;have hBB : Below wr.heap.size wr wb := below_step (by repeat (first | exact Below.refl _ _ | apply below_alloc | apply below_drew1)) hbb;have x0 := (hBB.cell (p := ⟨w.heap.size,0,none⟩) HL0.out).trans q0;have x1 := (hBB.cell (p := ⟨(ad.add (k * 6)).block,(ad.add (k * 6)).off + 1,none⟩) HL1.out).trans g1;have x2 := (hBB.cell (p := ⟨(ad.add (k * 6)).block,(ad.add (k * 6)).off + 2,none⟩) HL2.out).trans g2;have HX := Aside0.mk hvb;have HBY := Aside0.mk hBB;have HBX := Aside0.mk (below_step HB.out hBB);clear hvb hbb hBB HV))
          all_goals
            go_wp2
            go_roundw
            case rel => exact ⟨k + 1,by go_num,by omega,⟨by rw [HT.out];exact HFIN.out⟩,HFB,HFQ⟩
            case measure => simp [intOf];omega
        · have hkl : k = l0_0.length := by omega
          subst hkl
          go_wp2
          go_ret
          refine ⟨_,rfl,?_,HB.out⟩
          have hv := HV.out
          rw [List.take_length,HRE.out] at hv
          exact hv
    · rw [if_neg hl2] at hh;cases hh

end Go.Proofs.Ytbmochegfdljfaa.My
end
section
-- Written by a program of this session (wip/myprint.py),which drives the kit's print over hand-written fragments. Not trusted: Lean checks it.












namespace Go.Proofs.Ytbmochegfdljfaa.My
open Go.Proofs.Ytbmochegfdljfaa.Aid Go.Proofs.Ytbmochegfdljfaa.KdX
open Go.RowKit Go.Proofs.YtbmochegfdljfaaW.PrintWords Go.Proofs.YtbmochegfdljfaaW.PrintLast Go.Proofs.YtbmochegfdljfaaW.PrintMore
attribute [local go_sem] max2_int min2_int max_two min_two max_three min_three max_four min_four   -- for this text's walks alone
set_option linter.unusedVariables false
set_option linter.unusedSimpArgs false

/-! ### wageofficelaw39_LedgerMatchesReference: function 3 -/
mutual
def wageofficelaw39_LedgerMatchesReference.j0 : Nat → ByteArray → Int → Int → Bool → Bool → List (S26) → Int → ByteArray → ByteArray → Int → Int → Int → Option (Bool)
  | 0,_,_,_,_,_,_,_,_,_,_,_,_ => none
  | k + 1,x2,x3,x4,x11,x32,x366000,x367000,x367001,x367002,x367003,x367004,x367005 => if x32 = true then (some x11) else ((ledger_Post.f x366000 x367000 x367001 x367002 x367003 x367004 x367005).bind fun bt368 => ((wageofficeref39_Post.f k x366000 x367000 x367001 x367002 x367003 x367004 x367005).bind fun bt373 => (if x11 = true then ((ledger_Valid.f x366000).bind fun t378 => ((wageofficeref39_Valid.f k x366000).bind fun t379 => (if (t378 == t379) = true then (if bt368.2 = bt373.2 then ((wageofficeref39_Same.f k bt368.1 bt373.1).bind fun t380 => (wageofficelaw39_LedgerMatchesReference.j1 k x2 x3 x4 t380 x366000)) else (wageofficelaw39_LedgerMatchesReference.j1 k x2 x3 x4 false x366000)) else (wageofficelaw39_LedgerMatchesReference.j1 k x2 x3 x4 false x366000)))) else (wageofficelaw39_LedgerMatchesReference.j1 k x2 x3 x4 false x366000))))
def wageofficelaw39_LedgerMatchesReference.j1 : Nat → ByteArray → Int → Int → Bool → List (S26) → Option (Bool)
  | 0,_,_,_,_,_ => none
  | k + 1,x2,x3,x4,x11,x366000 => if x11 = true then ((ledger_Balance.f x366000 x2 x3 x4).bind fun t381 => ((wageofficeref39_Balance.f k x366000 x2 x3 x4).bind fun t382 => (if t381 = t382 then ((ledger_Accounts.f x366000).bind fun t383 => ((wageofficeref39_Accounts.f k x366000).bind fun t386 => ((wageofficeref12_Strings.f k t383 t386).bind fun t389 => (some t389)))) else (some false)))) else (some false)
end
def wageofficelaw39_LedgerMatchesReference.f (k : Nat) (l0_0 : List (S26)) (a1_0 : Int) (a1_1 : ByteArray) (a1_2 : ByteArray) (a1_3 : Int) (a1_4 : Int) (a1_5 : Int) (a2 : ByteArray) (a3 : Int) (a4 : Int) : Option (Bool) := (wageofficelaw39_head.f k).bind fun t367 => (if (l0_0.length : Int) > 300 then (if (l0_0.length : Int) ≤ 2000 then (wageofficelaw39_LedgerMatchesReference.j0 k a2 a3 a4 t367 true l0_0 a1_0 a1_1 a1_2 a1_3 a1_4 a1_5) else (wageofficelaw39_LedgerMatchesReference.j0 k a2 a3 a4 t367 (decide ((l0_0.length : Int) > 2009)) l0_0 a1_0 a1_1 a1_2 a1_3 a1_4 a1_5)) else (wageofficelaw39_LedgerMatchesReference.j0 k a2 a3 a4 t367 (decide ((l0_0.length : Int) > 2009)) l0_0 a1_0 a1_1 a1_2 a1_3 a1_4 a1_5))
theorem wageofficelaw39_LedgerMatchesReference.mono_l : ∀ k,(∀ y0 y1 y2 y3 y4 y5 y6 y7 y8 y9 y10 y11,LeO (wageofficelaw39_LedgerMatchesReference.j0 k y0 y1 y2 y3 y4 y5 y6 y7 y8 y9 y10 y11) (wageofficelaw39_LedgerMatchesReference.j0 (k + 1) y0 y1 y2 y3 y4 y5 y6 y7 y8 y9 y10 y11)) ∧ (∀ y0 y1 y2 y3 y4,LeO (wageofficelaw39_LedgerMatchesReference.j1 k y0 y1 y2 y3 y4) (wageofficelaw39_LedgerMatchesReference.j1 (k + 1) y0 y1 y2 y3 y4))
  | 0 => ⟨fun _ _ _ _ _ _ _ _ _ _ _ _ r h => by simp [wageofficelaw39_LedgerMatchesReference.j0] at h,fun _ _ _ _ _ r h => by simp [wageofficelaw39_LedgerMatchesReference.j1] at h⟩
  | k + 1 => by
    obtain ⟨ih0,ih1⟩ := wageofficelaw39_LedgerMatchesReference.mono_l k
    refine ⟨?_,?_⟩
    · intro y0 y1 y2 y3 y4 y5 y6 y7 y8 y9 y10 y11
      unfold wageofficelaw39_LedgerMatchesReference.j0
      repeat' first
      | (with_reducible exact ih0 _ _ _ _ _ _ _ _ _ _ _ _)
      | (with_reducible exact ih1 _ _ _ _ _)
      | (with_reducible exact wageofficelaw39_head.mono _)
      | (with_reducible exact wageofficeref12_Strings.mono _ _ _)
      | (with_reducible exact wageofficeref39_Accounts.mono _ _)
      | (with_reducible exact wageofficeref39_Balance.mono _ _ _ _ _)
      | (with_reducible exact wageofficeref39_Post.mono _ _ _ _ _ _ _ _)
      | (with_reducible exact wageofficeref39_Same.mono _ _ _)
      | (with_reducible exact wageofficeref39_Valid.mono _ _)
      | (with_reducible exact LeO.refl _)
      | (with_reducible exact LeO.none _)
      | (with_reducible refine LeO.ite ?_ ?_)
      | (with_reducible refine LeO.bind ?_ (fun _ => ?_))
      | exact ih0 _ _ _ _ _ _ _ _ _ _ _ _
      | exact ih1 _ _ _ _ _
      | exact wageofficelaw39_head.mono _
      | exact wageofficeref12_Strings.mono _ _ _
      | exact wageofficeref39_Accounts.mono _ _
      | exact wageofficeref39_Balance.mono _ _ _ _ _
      | exact wageofficeref39_Post.mono _ _ _ _ _ _ _ _
      | exact wageofficeref39_Same.mono _ _ _
      | exact wageofficeref39_Valid.mono _ _
      | exact LeO.none _
      | refine LeO.ite ?_ ?_
      | refine LeO.bind ?_ (fun _ => ?_)
    · intro y0 y1 y2 y3 y4
      unfold wageofficelaw39_LedgerMatchesReference.j1
      repeat' first
      | (with_reducible exact ih0 _ _ _ _ _ _ _ _ _ _ _ _)
      | (with_reducible exact ih1 _ _ _ _ _)
      | (with_reducible exact wageofficelaw39_head.mono _)
      | (with_reducible exact wageofficeref12_Strings.mono _ _ _)
      | (with_reducible exact wageofficeref39_Accounts.mono _ _)
      | (with_reducible exact wageofficeref39_Balance.mono _ _ _ _ _)
      | (with_reducible exact wageofficeref39_Post.mono _ _ _ _ _ _ _ _)
      | (with_reducible exact wageofficeref39_Same.mono _ _ _)
      | (with_reducible exact wageofficeref39_Valid.mono _ _)
      | (with_reducible exact LeO.refl _)
      | (with_reducible exact LeO.none _)
      | (with_reducible refine LeO.ite ?_ ?_)
      | (with_reducible refine LeO.bind ?_ (fun _ => ?_))
      | exact ih0 _ _ _ _ _ _ _ _ _ _ _ _
      | exact ih1 _ _ _ _ _
      | exact wageofficelaw39_head.mono _
      | exact wageofficeref12_Strings.mono _ _ _
      | exact wageofficeref39_Accounts.mono _ _
      | exact wageofficeref39_Balance.mono _ _ _ _ _
      | exact wageofficeref39_Post.mono _ _ _ _ _ _ _ _
      | exact wageofficeref39_Same.mono _ _ _
      | exact wageofficeref39_Valid.mono _ _
      | exact LeO.none _
      | refine LeO.ite ?_ ?_
      | refine LeO.bind ?_ (fun _ => ?_)
theorem wageofficelaw39_LedgerMatchesReference.mono : ∀ a0 a1 a2 a3 a4 a5 a6 a7 a8 a9 k,LeO (wageofficelaw39_LedgerMatchesReference.f k a0 a1 a2 a3 a4 a5 a6 a7 a8 a9) (wageofficelaw39_LedgerMatchesReference.f (k + 1) a0 a1 a2 a3 a4 a5 a6 a7 a8 a9) := by
  intro a0 a1 a2 a3 a4 a5 a6 a7 a8 a9 k
  obtain ⟨ih0,ih1⟩ := wageofficelaw39_LedgerMatchesReference.mono_l k
  unfold wageofficelaw39_LedgerMatchesReference.f
  repeat' first
      | (with_reducible exact ih0 _ _ _ _ _ _ _ _ _ _ _ _)
      | (with_reducible exact ih1 _ _ _ _ _)
      | (with_reducible exact wageofficelaw39_head.mono _)
      | (with_reducible exact wageofficeref12_Strings.mono _ _ _)
      | (with_reducible exact wageofficeref39_Accounts.mono _ _)
      | (with_reducible exact wageofficeref39_Balance.mono _ _ _ _ _)
      | (with_reducible exact wageofficeref39_Post.mono _ _ _ _ _ _ _ _)
      | (with_reducible exact wageofficeref39_Same.mono _ _ _)
      | (with_reducible exact wageofficeref39_Valid.mono _ _)
      | (with_reducible exact LeO.refl _)
      | (with_reducible exact LeO.none _)
      | (with_reducible refine LeO.ite ?_ ?_)
      | (with_reducible refine LeO.bind ?_ (fun _ => ?_))
      | exact ih0 _ _ _ _ _ _ _ _ _ _ _ _
      | exact ih1 _ _ _ _ _
      | exact wageofficelaw39_head.mono _
      | exact wageofficeref12_Strings.mono _ _ _
      | exact wageofficeref39_Accounts.mono _ _
      | exact wageofficeref39_Balance.mono _ _ _ _ _
      | exact wageofficeref39_Post.mono _ _ _ _ _ _ _ _
      | exact wageofficeref39_Same.mono _ _ _
      | exact wageofficeref39_Valid.mono _ _
      | exact LeO.none _
      | refine LeO.ite ?_ ?_
      | refine LeO.bind ?_ (fun _ => ?_)
def wageofficelaw39_LedgerMatchesReference.T6 : Bool × List (List Nat × List Nat) := (true,[([],[]),([0],[0]),([1],[1]),([2,1,1],[1,2]),([1],[1]),([4,3,1],[1,4]),([3,5,1],[1,3,5]),([1,6],[1,6]),([7,5],[7]),([8],[8]),([8],[8]),([9,10,8],[8,9,10]),([8,11],[8,11]),([12,8],[12]),([13],[13]),([13],[13]),([14,15,13,13],[13,14,15]),([13,16],[13,16]),([17,16,0,1,2,3,4,5,6,7,8,9,10,11,12,13,14,15,16,17],[0,17])])
def wageofficelaw39_LedgerMatchesReference.B6 : List Nat := [0,1,3,7,3,31,63,127,255,511,511,2047,4095,8191,16383,16383,65535,131071,262143]
theorem wageofficelaw39_LedgerMatchesReference.tab6 : rtab .any (opsOf Try.f3 6) = wageofficelaw39_LedgerMatchesReference.T6 := by kernel_rfl
theorem wageofficelaw39_LedgerMatchesReference.bits6 : waitsOk wageofficelaw39_LedgerMatchesReference.T6.2 wageofficelaw39_LedgerMatchesReference.B6 = true := by kernel_rfl
def wageofficelaw39_LedgerMatchesReference.T7 : Bool × List (List Nat × List Nat) := (true,[([],[]),([0],[0]),([1],[1]),([1],[1]),([1],[1]),([1],[1]),([2,3,4,5,1,1],[1,2,3,4,5]),([1],[1]),([1],[1]),([1],[1]),([1],[1]),([7,8,9,10,6,1],[1,7,8,9,10]),([6,11,1],[1,6,11]),([1,12],[1,12]),([13,11],[13]),([14],[14]),([15,14,14],[14,15]),([14],[14]),([17,16,14],[14,17]),([16,18,18,14],[14,16,18]),([14,19],[14,19]),([20,19,0,1,2,3,4,5,6,7,8,9,10,11,12,13,14,15,16,17,18,19,20],[20])])
def wageofficelaw39_LedgerMatchesReference.B7 : List Nat := [0,1,3,3,3,3,63,3,3,3,3,2047,4095,8191,16383,32767,65535,32767,262143,524287,1048575,2097151]
theorem wageofficelaw39_LedgerMatchesReference.tab7 : rtab .any (opsOf Try.f3 7) = wageofficelaw39_LedgerMatchesReference.T7 := by kernel_rfl
theorem wageofficelaw39_LedgerMatchesReference.bits7 : waitsOk wageofficelaw39_LedgerMatchesReference.T7.2 wageofficelaw39_LedgerMatchesReference.B7 = true := by kernel_rfl
set_option maxHeartbeats 8000000 in
set_option maxRecDepth 100000 in
theorem wageofficelaw39_LedgerMatchesReference.calls (k : Nat) (A0_0 : Option Addr) (c0_0 : Nat) (l0_0 : List (S26)) (a1_0 : Int) (a1_1 : ByteArray) (a1_2 : ByteArray) (a1_3 : Int) (a1_4 : Int) (a1_5 : Int) (a2 : ByteArray) (a3 : Int) (a4 : Int) (r : Bool) (w : World) (hr0_0 : Kd.C k26 w A0_0 l0_0.length l0_0) (hc0_0 : l0_0.length ≤ c0_0) (h : wageofficelaw39_LedgerMatchesReference.f k l0_0 a1_0 a1_1 a1_2 a1_3 a1_4 a1_5 a2 a3 a4 = some r) :
    Calls Try.prog 3 #[.agg #[.slice A0_0 l0_0.length c0_0],.agg #[.int .i64 a1_0,.string a1_1,.string a1_2,.int .i64 a1_3,.int .i64 a1_4,.int .i64 a1_5],.string a2,.int .i64 a3,.int .i64 a4] w fun e w' => e = .returned (.bool r) ∧ Below w.heap.size w w' := by
  have hu24 := Try.underlying24
  have hu26 := Try.underlying26
  have HR0_0 := Aside0.mk hr0_0
  have HC0_0 := Aside0.mk hc0_0
  clear hr0_0 hc0_0
  have HB := Aside0.mk (Below.refl w.heap.size w)
  have H : ((wageofficelaw39_head.f k).bind fun t367 => (if (l0_0.length : Int) > 300 then (if (l0_0.length : Int) ≤ 2000 then (wageofficelaw39_LedgerMatchesReference.j0 k a2 a3 a4 t367 true l0_0 a1_0 a1_1 a1_2 a1_3 a1_4 a1_5) else (wageofficelaw39_LedgerMatchesReference.j0 k a2 a3 a4 t367 (decide ((l0_0.length : Int) > 2009)) l0_0 a1_0 a1_1 a1_2 a1_3 a1_4 a1_5)) else (wageofficelaw39_LedgerMatchesReference.j0 k a2 a3 a4 t367 (decide ((l0_0.length : Int) > 2009)) l0_0 a1_0 a1_1 a1_2 a1_3 a1_4 a1_5))) = some r := h
  clear h
  replace H := Option.bind_eq_some_iff.mp H
  obtain ⟨t367,A60,H⟩ := H
  replace H : (if (l0_0.length : Int) > 300 then (if (l0_0.length : Int) ≤ 2000 then (wageofficelaw39_LedgerMatchesReference.j0 k a2 a3 a4 t367 true l0_0 a1_0 a1_1 a1_2 a1_3 a1_4 a1_5) else (wageofficelaw39_LedgerMatchesReference.j0 k a2 a3 a4 t367 (decide ((l0_0.length : Int) > 2009)) l0_0 a1_0 a1_1 a1_2 a1_3 a1_4 a1_5)) else (wageofficelaw39_LedgerMatchesReference.j0 k a2 a3 a4 t367 (decide ((l0_0.length : Int) > 2009)) l0_0 a1_0 a1_1 a1_2 a1_3 a1_4 a1_5)) = some r := H
  have A6 := Aside0.mk A60
  clear A60
  have HC7 := Aside0.mk H
  clear H
  go_enter Try.func3,Try.ntmps3
  go_upto_region 2 with (first | ((with_reducible refine gate_dst (N := 5) rfl ?_);(try (refine gate_guard (by rfl) ?_;dsimp only));refine box_event ?hg (N := 5) ?hd (cs := #[.slice A0_0 l0_0.length c0_0]) (t := 24) ?hr ?_;(case hd => rfl);(case hg => rfl);(case hr => first | (go_simp;done) | (go_simp;rfl));intro gb365 hg w8 hbox hb;have n0_ := Aside0.mk (below_step (by repeat (first | (with_reducible first | exact HB.out | apply below_alloc | apply pw_below_drewN | apply below_drew1) | exact HB.out)) hb);have n1_ := Aside0.mk (hbox);have n2_ := Aside0.mk ((by rw [hg];exact (below_size (by repeat (first | (with_reducible first | exact HB.out | apply below_alloc | apply pw_below_drewN | apply below_drew1) | exact HB.out))) : w.heap.size ≤ gb365));have n3_ := Aside0.mk ((by rw [hg];exact (below_size (by repeat (first | (with_reducible first | exact HB.out | apply below_alloc | apply pw_below_drewN | apply below_drew1) | exact HB.out))) : w.heap.size ≤ gb365));clear HB;have HB := n0_;have BK365 := n1_;have GW365 := n2_;have GE365 := n3_;clear n0_ n1_ n2_ n3_;clear hb hbox hg) | ((with_reducible refine gate_dst (N := 6) rfl ?_);(try (refine gate_guard (by rfl) ?_;dsimp only));refine box_event ?hg (N := 6) ?hd (cs := #[.int .i64 a1_0,.string a1_1,.string a1_2,.int .i64 a1_3,.int .i64 a1_4,.int .i64 a1_5]) (t := 26) ?hr ?_;(case hd => rfl);(case hg => rfl);(case hr => first | (go_simp;done) | (go_simp;rfl));intro gb366 hg w9 hbox hb;have n0_ := Aside0.mk (blk_below (g := gb365) (o := .cells #[.slice A0_0 l0_0.length c0_0] 24 (0,0)) (by (with_reducible repeat (first | refine blk_drewN ?_ _ | refine blk_drew ?_ | refine blk_alloc ?_ _));exact BK365.out) hb);have n1_ := Aside0.mk (below_step (by repeat (first | (with_reducible first | exact HB.out | apply below_alloc | apply pw_below_drewN | apply below_drew1 | refine below_set ?_ GE365.out) | exact HB.out)) hb);have n2_ := Aside0.mk (hbox);have n3_ := Aside0.mk ((by rw [hg];exact (below_size (by repeat (first | (with_reducible first | exact HB.out | apply below_alloc | apply pw_below_drewN | apply below_drew1 | refine below_set ?_ GE365.out) | exact HB.out))) : w.heap.size ≤ gb366));have n4_ := Aside0.mk ((by rw [hg];exact (below_size (by repeat (first | (with_reducible first | exact HB.out | apply below_alloc | apply pw_below_drewN | apply below_drew1 | refine below_set ?_ GE365.out) | exact HB.out))) : w.heap.size ≤ gb366));have n5_ := Aside0.mk ((by rw [hg];exact Nat.ne_of_lt (blk_lt (g := gb365) (o := .cells #[.slice A0_0 l0_0.length c0_0] 24 (0,0)) (by (with_reducible repeat (first | refine blk_drewN ?_ _ | refine blk_drew ?_ | refine blk_alloc ?_ _));exact BK365.out)) : gb365 ≠ gb366));have n6_ := Aside0.mk ((by rw [hg];exact Nat.ne_of_gt (blk_lt (g := gb365) (o := .cells #[.slice A0_0 l0_0.length c0_0] 24 (0,0)) (by (with_reducible repeat (first | refine blk_drewN ?_ _ | refine blk_drew ?_ | refine blk_alloc ?_ _));exact BK365.out)) : gb366 ≠ gb365));clear BK365;clear HB;have BK365 := n0_;have HB := n1_;have BK366 := n2_;have GW366 := n3_;have GE366 := n4_;have NB365_366 := n5_;have NB366_365 := n6_;clear n0_ n1_ n2_ n3_ n4_ n5_ n6_;clear hb hbox hg) | ((with_reducible refine gate_callee (f := 18) rfl ?_);refine goesL_ (some 16) rfl rfl Try.func18 (by kernel_rfl) rfl #[] rfl (by (try simp only [List.map_toArray,List.map_cons,List.map_nil]);first | done | rfl | (simp only [List.length_drop,List.length_take];rfl)) ?_;(with_reducible refine (wageofficelaw39_head.calls k  t367 _ A6.out).mono ?_);rintro e w10 ⟨rfl,hb⟩;refine ⟨_,rfl,?_⟩;have n0_ := Aside0.mk (blk_below (g := gb365) (o := .cells #[.slice A0_0 l0_0.length c0_0] 24 (0,0)) (by (with_reducible repeat (first | refine blk_drewN ?_ _ | refine blk_drew ?_ | refine blk_alloc ?_ _));exact BK365.out) hb);have n1_ := Aside0.mk (blk_below (g := gb366) (o := .cells #[.int .i64 a1_0,.string a1_1,.string a1_2,.int .i64 a1_3,.int .i64 a1_4,.int .i64 a1_5] 26 (0,0)) (by (with_reducible repeat (first | refine blk_drewN ?_ _ | refine blk_drew ?_ | refine blk_alloc ?_ _));exact BK366.out) hb);have n2_ := Aside0.mk (below_step (by repeat (first | (with_reducible first | exact HB.out | apply below_alloc | apply pw_below_drewN | apply below_drew1 | refine below_set ?_ GE365.out | refine below_set ?_ GE366.out) | exact HB.out)) hb);clear BK365;clear BK366;clear HB;have BK365 := n0_;have BK366 := n1_;have HB := n2_;clear n0_ n1_ n2_;(try clear hb);(try clear hb2);(try clear hk);(try clear hi)))
  (try simp only [Act.put,List.setIfInBounds_toArray,List.set_cons_zero,List.set_cons_succ])
  go_cut [32] (fun v32 wc => ∃ (kq : Nat) (x32_6 : Bool),v32 = .bool x32_6 ∧ Aside0 (wageofficelaw39_LedgerMatchesReference.j0 kq a2 a3 a4 t367 x32_6 l0_0 a1_0 a1_1 a1_2 a1_3 a1_4 a1_5 = some r) ∧ Aside0 (kq ≤ k) ∧ Aside0 (wc.heap[gb365]? = some (.cells #[(.slice A0_0 l0_0.length c0_0)] 24 (0,0))) ∧ Aside0 (wc.heap[gb366]? = some (.cells #[.int .i64 a1_0,.string a1_1,.string a1_2,.int .i64 a1_3,.int .i64 a1_4,.int .i64 a1_5] 26 (0,0))) ∧ Aside0 (Below w.heap.size w wc))
  case first =>
    have H := HC7.out
    clear HC7
    by_cases c11 : (l0_0.length : Int) > 300
    · rw [if_pos c11] at H
      have c11b0 : decide (300 < (l0_0.length : Int)) = true := decide_eq_true c11
      have c11b1 : decide (300 < l0_0.length) = true := decide_eq_true (by omega)
      clear c11
      (first | rw [c11b0] | (simp only [i64_w,i32_w];rw [c11b0]) | skip)
      by_cases c12 : (l0_0.length : Int) ≤ 2000
      · rw [if_pos c12] at H
        have c12b0 : decide ((l0_0.length : Int) ≤ 2000) = true := decide_eq_true c12
        have c12b1 : decide (l0_0.length ≤ 2000) = true := decide_eq_true (by omega)
        clear c12
        have H' := Aside0.mk H
        clear H;have hnb13 := NB365_366.out;have hnc13 := NB366_365.out;have hcz14_0 : w10.cell? ⟨gb365,0,none⟩ = some (.slice A0_0 l0_0.length c0_0) := (blk_cell BK365.out 0).trans rfl;have hfz14_0 := blk_frozen BK365.out 0
        go_wp2
        go_meet
        case rel => exact ⟨_,(true),(by first | rfl | (simp;done) | (simp [*];done)),H',⟨by first | omega | exact Nat.le_refl _⟩,⟨by (with_reducible repeat (first | refine blk_drewN ?_ _ | refine blk_drew ?_ | refine blk_alloc ?_ _));exact BK365.out⟩,⟨by (with_reducible repeat (first | refine blk_drewN ?_ _ | refine blk_drew ?_ | refine blk_alloc ?_ _));exact BK366.out⟩,⟨by repeat (first | (with_reducible first | exact HB.out | apply below_alloc | apply pw_below_drewN | apply below_drew1 | refine below_set ?_ GE365.out | refine below_set ?_ GE366.out) | exact HB.out)⟩⟩
      · rw [if_neg c12] at H
        have c12b0 : decide ((l0_0.length : Int) ≤ 2000) = false := decide_eq_false c12
        have c12b1 : decide (l0_0.length ≤ 2000) = false := decide_eq_false (by omega)
        clear c12
        have H' := Aside0.mk H
        clear H;have hnb15 := NB365_366.out;have hnc15 := NB366_365.out;have hcz16_0 : w10.cell? ⟨gb365,0,none⟩ = some (.slice A0_0 l0_0.length c0_0) := (blk_cell BK365.out 0).trans rfl;have hfz16_0 := blk_frozen BK365.out 0
        go_wp2
        go_meet
        case rel => exact ⟨_,(decide ((l0_0.length : Int) > 2009)),(by first | rfl | (simp;done) | (simp [*];done)),H',⟨by first | omega | exact Nat.le_refl _⟩,⟨by (with_reducible repeat (first | refine blk_drewN ?_ _ | refine blk_drew ?_ | refine blk_alloc ?_ _));exact BK365.out⟩,⟨by (with_reducible repeat (first | refine blk_drewN ?_ _ | refine blk_drew ?_ | refine blk_alloc ?_ _));exact BK366.out⟩,⟨by repeat (first | (with_reducible first | exact HB.out | apply below_alloc | apply pw_below_drewN | apply below_drew1 | refine below_set ?_ GE365.out | refine below_set ?_ GE366.out) | exact HB.out)⟩⟩
    · rw [if_neg c11] at H
      have c11b0 : decide (300 < (l0_0.length : Int)) = false := decide_eq_false c11
      have c11b1 : decide (300 < l0_0.length) = false := decide_eq_false (by omega)
      clear c11
      (first | rw [c11b0] | (simp only [i64_w,i32_w];rw [c11b0]) | skip)
      have H' := Aside0.mk H
      clear H;have hnb17 := NB365_366.out;have hnc17 := NB366_365.out;have hcz18_0 : w10.cell? ⟨gb365,0,none⟩ = some (.slice A0_0 l0_0.length c0_0) := (blk_cell BK365.out 0).trans rfl;have hfz18_0 := blk_frozen BK365.out 0
      go_wp2
      go_meet
      case rel => exact ⟨_,(decide ((l0_0.length : Int) > 2009)),(by first | rfl | (simp;done) | (simp [*];done)),H',⟨by first | omega | exact Nat.le_refl _⟩,⟨by (with_reducible repeat (first | refine blk_drewN ?_ _ | refine blk_drew ?_ | refine blk_alloc ?_ _));exact BK365.out⟩,⟨by (with_reducible repeat (first | refine blk_drewN ?_ _ | refine blk_drew ?_ | refine blk_alloc ?_ _));exact BK366.out⟩,⟨by repeat (first | (with_reducible first | exact HB.out | apply below_alloc | apply pw_below_drewN | apply below_drew1 | refine below_set ?_ GE365.out | refine below_set ?_ GE366.out) | exact HB.out)⟩⟩
  case rest =>
    clear HC7;(try clear c1);(try clear p2);(try clear c3);(try clear c11);(try clear c11b0);(try clear c11b1);(try clear c12);(try clear c12b0);(try clear c12b1);(try clear c13);(try clear c15);(try clear c17);(try clear c18);(try clear hcz14_0);(try clear hcz16_0);(try clear hcz18_0);(try clear hfz14_0);(try clear hfz16_0);(try clear hfz18_0)
    obtain ⟨kq,x32_6,rfl,HA,HJ6,BK365,BK366,HB⟩ := hcut
    cases kq with
    | zero => exact absurd HA.out (by simp [wageofficelaw39_LedgerMatchesReference.j0])
    | succ kj6 =>
      have H := HA.out
      clear HA
      simp only [wageofficelaw39_LedgerMatchesReference.j0] at H
      by_cases c19 : x32_6 = true
      · subst c19
        have H1 : (some t367) = some r := by rw [if_pos rfl] at H;exact H
        clear H
        have H := H1
        clear H1
        obtain rfl := Option.some.inj H
        go_wp2
        go_ret
        exact ⟨by first | rfl | (simp [errW_none,errW_some] <;> rfl) | (simp [*,errW_none,errW_some] <;> rfl),by repeat (first | (with_reducible first | exact HB.out | apply below_alloc | apply pw_below_drewN | apply below_drew1 | refine below_set ?_ GE365.out | refine below_set ?_ GE366.out) | exact HB.out)⟩
      · replace c19 := Bool.eq_false_iff.mpr c19
        subst c19
        have H1 : ((ledger_Post.f l0_0 a1_0 a1_1 a1_2 a1_3 a1_4 a1_5).bind fun bt368 => ((wageofficeref39_Post.f kj6 l0_0 a1_0 a1_1 a1_2 a1_3 a1_4 a1_5).bind fun bt373 => (if t367 = true then ((ledger_Valid.f l0_0).bind fun t378 => ((wageofficeref39_Valid.f kj6 l0_0).bind fun t379 => (if (t378 == t379) = true then (if bt368.2 = bt373.2 then ((wageofficeref39_Same.f kj6 bt368.1 bt373.1).bind fun t380 => (wageofficelaw39_LedgerMatchesReference.j1 kj6 a2 a3 a4 t380 l0_0)) else (wageofficelaw39_LedgerMatchesReference.j1 kj6 a2 a3 a4 false l0_0)) else (wageofficelaw39_LedgerMatchesReference.j1 kj6 a2 a3 a4 false l0_0)))) else (wageofficelaw39_LedgerMatchesReference.j1 kj6 a2 a3 a4 false l0_0)))) = some r := by rw [if_neg (show ¬ (false = true) by decide)] at H;exact H
        clear H
        have H := H1
        clear H1
        replace H := Option.bind_eq_some_iff.mp H
        obtain ⟨⟨t368,t371⟩,A200,H⟩ := H
        replace H : ((wageofficeref39_Post.f kj6 l0_0 a1_0 a1_1 a1_2 a1_3 a1_4 a1_5).bind fun bt373 => (if t367 = true then ((ledger_Valid.f l0_0).bind fun t378 => ((wageofficeref39_Valid.f kj6 l0_0).bind fun t379 => (if (t378 == t379) = true then (if t371 = bt373.2 then ((wageofficeref39_Same.f kj6 t368 bt373.1).bind fun t380 => (wageofficelaw39_LedgerMatchesReference.j1 kj6 a2 a3 a4 t380 l0_0)) else (wageofficelaw39_LedgerMatchesReference.j1 kj6 a2 a3 a4 false l0_0)) else (wageofficelaw39_LedgerMatchesReference.j1 kj6 a2 a3 a4 false l0_0)))) else (wageofficelaw39_LedgerMatchesReference.j1 kj6 a2 a3 a4 false l0_0))) = some r := H
        have A20 := Aside0.mk A200
        clear A200
        replace H := Option.bind_eq_some_iff.mp H
        obtain ⟨⟨t373,t376⟩,A210,H⟩ := H
        replace H : (if t367 = true then ((ledger_Valid.f l0_0).bind fun t378 => ((wageofficeref39_Valid.f kj6 l0_0).bind fun t379 => (if (t378 == t379) = true then (if t371 = t376 then ((wageofficeref39_Same.f kj6 t368 t373).bind fun t380 => (wageofficelaw39_LedgerMatchesReference.j1 kj6 a2 a3 a4 t380 l0_0)) else (wageofficelaw39_LedgerMatchesReference.j1 kj6 a2 a3 a4 false l0_0)) else (wageofficelaw39_LedgerMatchesReference.j1 kj6 a2 a3 a4 false l0_0)))) else (wageofficelaw39_LedgerMatchesReference.j1 kj6 a2 a3 a4 false l0_0)) = some r := H
        have A21 := Aside0.mk A210
        clear A210
        have HC22 := Aside0.mk H
        clear H;have hnb23 := NB365_366.out;have hnc23 := NB366_365.out;have hcz24_0 : wc.cell? ⟨gb365,0,none⟩ = some (.slice A0_0 l0_0.length c0_0) := (blk_cell BK365.out 0).trans rfl;have hfz24_0 := blk_frozen BK365.out 0;have hcz25_0 : wc.cell? ⟨gb366,0,none⟩ = some (.int .i64 a1_0) := (blk_cell BK366.out 0).trans rfl;have hcz25_1 : wc.cell? ⟨gb366,1,none⟩ = some (.string a1_1) := (blk_cell BK366.out 1).trans rfl;have hcz25_2 : wc.cell? ⟨gb366,2,none⟩ = some (.string a1_2) := (blk_cell BK366.out 2).trans rfl;have hcz25_3 : wc.cell? ⟨gb366,3,none⟩ = some (.int .i64 a1_3) := (blk_cell BK366.out 3).trans rfl;have hcz25_4 : wc.cell? ⟨gb366,4,none⟩ = some (.int .i64 a1_4) := (blk_cell BK366.out 4).trans rfl;have hcz25_5 : wc.cell? ⟨gb366,5,none⟩ = some (.int .i64 a1_5) := (blk_cell BK366.out 5).trans rfl;have hfz25_0 := blk_frozen BK366.out 0;have hfz25_1 := blk_frozen BK366.out 1;have hfz25_2 := blk_frozen BK366.out 2;have hfz25_3 := blk_frozen BK366.out 3;have hfz25_4 := blk_frozen BK366.out 4;have hfz25_5 := blk_frozen BK366.out 5
        go_upto_region 6 with (first | ((with_reducible refine gate_callee (f := 19) rfl ?_);refine goesL_ (some 37) rfl rfl Try.func19 (by kernel_rfl) rfl #[.agg #[.slice A0_0 l0_0.length c0_0],.agg #[.int .i64 a1_0,.string a1_1,.string a1_2,.int .i64 a1_3,.int .i64 a1_4,.int .i64 a1_5]] rfl (by (try simp only [List.map_toArray,List.map_cons,List.map_nil]);first | done | rfl | (simp only [List.length_drop,List.length_take];rfl)) ?_;(with_reducible refine (ledger_Post.calls _ _ l0_0 a1_0 a1_1 a1_2 a1_3 a1_4 a1_5 t368 t371 _ ?side1 ?side2 A20.out).mono ?_);(case side1 => repeat (first | exact (Kd.C_below HR0_0.out HB.out) | (with_reducible refine Kd.C_alloc ?_ _) | (with_reducible refine Kd.C_drewN ?_ _) | (with_reducible refine Kd.C_drew ?_)));(case side2 => exact HC0_0.out);rintro e w26 ⟨v369,rfl,ho0,hb⟩;refine ⟨_,rfl,?_⟩;have n0_ := Aside0.mk (Kd.R_lower (Kd.R_newB ho0 (g := gb366) (o := .cells #[.int .i64 a1_0,.string a1_1,.string a1_2,.int .i64 a1_3,.int .i64 a1_4,.int .i64 a1_5] 26 (0,0)) (by (with_reducible repeat (first | refine blk_drewN ?_ _ | refine blk_drew ?_ | refine blk_alloc ?_ _));exact BK366.out)) (below_size (by repeat (first | (with_reducible first | exact HB.out | apply below_alloc | apply pw_below_drewN | apply below_drew1 | refine below_set ?_ GE365.out | refine below_set ?_ GE366.out) | exact HB.out))));have n1_ := Aside0.mk (blk_below (g := gb365) (o := .cells #[.slice A0_0 l0_0.length c0_0] 24 (0,0)) (by (with_reducible repeat (first | refine blk_drewN ?_ _ | refine blk_drew ?_ | refine blk_alloc ?_ _));exact BK365.out) hb);have n2_ := Aside0.mk (blk_below (g := gb366) (o := .cells #[.int .i64 a1_0,.string a1_1,.string a1_2,.int .i64 a1_3,.int .i64 a1_4,.int .i64 a1_5] 26 (0,0)) (by (with_reducible repeat (first | refine blk_drewN ?_ _ | refine blk_drew ?_ | refine blk_alloc ?_ _));exact BK366.out) hb);have n3_ := Aside0.mk (below_step (by repeat (first | (with_reducible first | exact HB.out | apply below_alloc | apply pw_below_drewN | apply below_drew1 | refine below_set ?_ GE365.out | refine below_set ?_ GE366.out) | exact HB.out)) hb);clear BK365;clear BK366;clear HB;have HO370 := n0_;have BK365 := n1_;have BK366 := n2_;have HB := n3_;clear n0_ n1_ n2_ n3_;(try clear hb);(try clear hb2);(try clear hk);(try clear hi);(try clear ho0)) | ((with_reducible refine gate_dst (N := 12) rfl ?_);(try (refine gate_guard (by rfl) ?_;dsimp only));refine box_event ?hg (N := 12) ?hd (cs := #[.slice none 0 0]) (t := 24) ?hr ?_;(case hd => rfl);(case hg => rfl);(case hr => first | (go_simp;done) | (go_simp;rfl));intro gb372 hg w27 hbox hb;have n0_ := Aside0.mk (Kd.R_below (by (with_reducible repeat (first | apply Kd.R_alloc | apply Kd.R_drewN | apply Kd.R_drew));exact HO370.out) hb);have n1_ := Aside0.mk (blk_below (g := gb365) (o := .cells #[.slice A0_0 l0_0.length c0_0] 24 (0,0)) (by (with_reducible repeat (first | refine blk_drewN ?_ _ | refine blk_drew ?_ | refine blk_alloc ?_ _));exact BK365.out) hb);have n2_ := Aside0.mk (blk_below (g := gb366) (o := .cells #[.int .i64 a1_0,.string a1_1,.string a1_2,.int .i64 a1_3,.int .i64 a1_4,.int .i64 a1_5] 26 (0,0)) (by (with_reducible repeat (first | refine blk_drewN ?_ _ | refine blk_drew ?_ | refine blk_alloc ?_ _));exact BK366.out) hb);have n3_ := Aside0.mk (below_step (by repeat (first | (with_reducible first | exact HB.out | apply below_alloc | apply pw_below_drewN | apply below_drew1 | refine below_set ?_ GE365.out | refine below_set ?_ GE366.out) | exact HB.out)) hb);have n4_ := Aside0.mk (hbox);have n5_ := Aside0.mk ((by rw [hg];exact (below_size (by repeat (first | (with_reducible first | exact HB.out | apply below_alloc | apply pw_below_drewN | apply below_drew1 | refine below_set ?_ GE365.out | refine below_set ?_ GE366.out) | exact HB.out))) : w.heap.size ≤ gb372));have n6_ := Aside0.mk ((by rw [hg];exact (below_size (by repeat (first | (with_reducible first | exact HB.out | apply below_alloc | apply pw_below_drewN | apply below_drew1 | refine below_set ?_ GE365.out | refine below_set ?_ GE366.out) | exact HB.out))) : w.heap.size ≤ gb372));have n7_ := Aside0.mk ((by rw [hg];exact Nat.ne_of_lt (blk_lt (g := gb365) (o := .cells #[.slice A0_0 l0_0.length c0_0] 24 (0,0)) (by (with_reducible repeat (first | refine blk_drewN ?_ _ | refine blk_drew ?_ | refine blk_alloc ?_ _));exact BK365.out)) : gb365 ≠ gb372));have n8_ := Aside0.mk ((by rw [hg];exact Nat.ne_of_gt (blk_lt (g := gb365) (o := .cells #[.slice A0_0 l0_0.length c0_0] 24 (0,0)) (by (with_reducible repeat (first | refine blk_drewN ?_ _ | refine blk_drew ?_ | refine blk_alloc ?_ _));exact BK365.out)) : gb372 ≠ gb365));have n9_ := Aside0.mk ((by rw [hg];exact Nat.ne_of_lt (blk_lt (g := gb366) (o := .cells #[.int .i64 a1_0,.string a1_1,.string a1_2,.int .i64 a1_3,.int .i64 a1_4,.int .i64 a1_5] 26 (0,0)) (by (with_reducible repeat (first | refine blk_drewN ?_ _ | refine blk_drew ?_ | refine blk_alloc ?_ _));exact BK366.out)) : gb366 ≠ gb372));have n10_ := Aside0.mk ((by rw [hg];exact Nat.ne_of_gt (blk_lt (g := gb366) (o := .cells #[.int .i64 a1_0,.string a1_1,.string a1_2,.int .i64 a1_3,.int .i64 a1_4,.int .i64 a1_5] 26 (0,0)) (by (with_reducible repeat (first | refine blk_drewN ?_ _ | refine blk_drew ?_ | refine blk_alloc ?_ _));exact BK366.out)) : gb372 ≠ gb366));clear HO370;clear BK365;clear BK366;clear HB;have HO370 := n0_;have BK365 := n1_;have BK366 := n2_;have HB := n3_;have BK372 := n4_;have GW372 := n5_;have GE372 := n6_;have NB365_372 := n7_;have NB372_365 := n8_;have NB366_372 := n9_;have NB372_366 := n10_;clear n0_ n1_ n2_ n3_ n4_ n5_ n6_ n7_ n8_ n9_ n10_;clear hb hbox hg;obtain ⟨Ao28,co28,eo28⟩ := Kd.R_slice HO370.out;subst eo28;have hnb29 := NB372_365.out;have hnc29 := NB365_372.out;have hnb30 := NB372_366.out;have hnc30 := NB366_372.out;have hcz31_0 : w27.cell? ⟨gb372,0,none⟩ = some (.slice none 0 0) := (blk_cell BK372.out 0).trans rfl;have hfz31_0 := blk_frozen BK372.out 0;have hcz32_0 : w27.cell? ⟨gb365,0,none⟩ = some (.slice A0_0 l0_0.length c0_0) := (blk_cell BK365.out 0).trans rfl;have hfz32_0 := blk_frozen BK365.out 0;have hcz33_0 : w27.cell? ⟨gb366,0,none⟩ = some (.int .i64 a1_0) := (blk_cell BK366.out 0).trans rfl;have hcz33_1 : w27.cell? ⟨gb366,1,none⟩ = some (.string a1_1) := (blk_cell BK366.out 1).trans rfl;have hcz33_2 : w27.cell? ⟨gb366,2,none⟩ = some (.string a1_2) := (blk_cell BK366.out 2).trans rfl;have hcz33_3 : w27.cell? ⟨gb366,3,none⟩ = some (.int .i64 a1_3) := (blk_cell BK366.out 3).trans rfl;have hcz33_4 : w27.cell? ⟨gb366,4,none⟩ = some (.int .i64 a1_4) := (blk_cell BK366.out 4).trans rfl;have hcz33_5 : w27.cell? ⟨gb366,5,none⟩ = some (.int .i64 a1_5) := (blk_cell BK366.out 5).trans rfl;have hfz33_0 := blk_frozen BK366.out 0;have hfz33_1 := blk_frozen BK366.out 1;have hfz33_2 := blk_frozen BK366.out 2;have hfz33_3 := blk_frozen BK366.out 3;have hfz33_4 := blk_frozen BK366.out 4;have hfz33_5 := blk_frozen BK366.out 5) | ((with_reducible refine gate_callee (f := 20) rfl ?_);refine goesL_ (some 43) rfl rfl Try.func20 (by kernel_rfl) rfl #[.agg #[.slice A0_0 l0_0.length c0_0],.agg #[.int .i64 a1_0,.string a1_1,.string a1_2,.int .i64 a1_3,.int .i64 a1_4,.int .i64 a1_5]] rfl (by (try simp only [List.map_toArray,List.map_cons,List.map_nil]);first | done | rfl | (simp only [List.length_drop,List.length_take];rfl)) ?_;(with_reducible refine (wageofficeref39_Post.calls kj6 _ _ l0_0 a1_0 a1_1 a1_2 a1_3 a1_4 a1_5 t373 t376 _ ?side1 ?side2 A21.out).mono ?_);(case side1 => exact Kd.C_below HR0_0.out (by repeat (first | (with_reducible first | exact HB.out | apply below_alloc | apply pw_below_drewN | apply below_drew1 | refine below_set ?_ GE365.out | refine below_set ?_ GE366.out | refine below_set ?_ GE372.out) | exact HB.out)));(case side2 => exact HC0_0.out);rintro e w34 ⟨v374,rfl,ho0,hb⟩;refine ⟨_,rfl,?_⟩;have n0_ := Aside0.mk (Kd.R_elder' (by (with_reducible repeat (first | apply Kd.R_alloc | apply Kd.R_drewN | apply Kd.R_drew));exact (Kd.R_mono (Kd.R_far (p := ⟨gb372,0,none⟩) (Kd.R_types HO370.out BK372.out (by decide)) (fun _ hk => hk.2) (.slice Ao28 t368.length co28)) (fun _ h_ => h_.1))) (Kd.R_base ho0) hb);have n1_ := Aside0.mk (Kd.R_lower (Kd.R_newB (Kd.R_new' ho0 (Kd.R_lt (by (with_reducible repeat (first | apply Kd.R_alloc | apply Kd.R_drewN | apply Kd.R_drew));exact (Kd.R_mono (Kd.R_far (p := ⟨gb372,0,none⟩) (Kd.R_types HO370.out BK372.out (by decide)) (fun _ hk => hk.2) (.slice Ao28 t368.length co28)) (fun _ h_ => h_.1))))) (g := gb366) (o := .cells #[.int .i64 a1_0,.string a1_1,.string a1_2,.int .i64 a1_3,.int .i64 a1_4,.int .i64 a1_5] 26 (0,0)) (by (with_reducible repeat (first | refine blk_drewN ?_ _ | refine blk_drew ?_ | refine blk_alloc ?_ _));refine blk_far ?_ NB366_372.out _;(with_reducible repeat (first | refine blk_drewN ?_ _ | refine blk_drew ?_ | refine blk_alloc ?_ _));exact BK366.out)) (below_size (by repeat (first | (with_reducible first | exact HB.out | apply below_alloc | apply pw_below_drewN | apply below_drew1 | refine below_set ?_ GE365.out | refine below_set ?_ GE366.out | refine below_set ?_ GE372.out) | exact HB.out))));have n2_ := Aside0.mk (blk_below (g := gb365) (o := .cells #[.slice A0_0 l0_0.length c0_0] 24 (0,0)) (by (with_reducible repeat (first | refine blk_drewN ?_ _ | refine blk_drew ?_ | refine blk_alloc ?_ _));refine blk_far ?_ NB365_372.out _;(with_reducible repeat (first | refine blk_drewN ?_ _ | refine blk_drew ?_ | refine blk_alloc ?_ _));exact BK365.out) hb);have n3_ := Aside0.mk (blk_below (g := gb366) (o := .cells #[.int .i64 a1_0,.string a1_1,.string a1_2,.int .i64 a1_3,.int .i64 a1_4,.int .i64 a1_5] 26 (0,0)) (by (with_reducible repeat (first | refine blk_drewN ?_ _ | refine blk_drew ?_ | refine blk_alloc ?_ _));refine blk_far ?_ NB366_372.out _;(with_reducible repeat (first | refine blk_drewN ?_ _ | refine blk_drew ?_ | refine blk_alloc ?_ _));exact BK366.out) hb);have n4_ := Aside0.mk (blk_below (g := gb372) (o := .cells #[.slice Ao28 t368.length co28] 24 (0,0)) (by (with_reducible repeat (first | refine blk_drewN ?_ _ | refine blk_drew ?_ | refine blk_alloc ?_ _));refine blk_put (cs := #[.slice none 0 0]) ?_ 0 _ rfl;(with_reducible repeat (first | refine blk_drewN ?_ _ | refine blk_drew ?_ | refine blk_alloc ?_ _));exact BK372.out) hb);have n5_ := Aside0.mk (below_step (by repeat (first | (with_reducible first | exact HB.out | apply below_alloc | apply pw_below_drewN | apply below_drew1 | refine below_set ?_ GE365.out | refine below_set ?_ GE366.out | refine below_set ?_ GE372.out) | exact HB.out)) hb);clear HO370;clear BK365;clear BK366;clear BK372;clear HB;have HO370 := n0_;have HO375 := n1_;have BK365 := n2_;have BK366 := n3_;have BK372 := n4_;have HB := n5_;clear n0_ n1_ n2_ n3_ n4_ n5_;(try clear hb);(try clear hb2);(try clear hk);(try clear hi);(try clear ho0)) | ((with_reducible refine gate_dst (N := 14) rfl ?_);(try (refine gate_guard (by rfl) ?_;dsimp only));refine box_event ?hg (N := 14) ?hd (cs := #[.slice none 0 0]) (t := 24) ?hr ?_;(case hd => rfl);(case hg => rfl);(case hr => first | (go_simp;done) | (go_simp;rfl));intro gb377 hg w35 hbox hb;have n0_ := Aside0.mk (Kd.R_below (by (with_reducible repeat (first | apply Kd.R_alloc | apply Kd.R_drewN | apply Kd.R_drew));exact HO370.out) hb);have n1_ := Aside0.mk (Kd.R_below (by (with_reducible repeat (first | apply Kd.R_alloc | apply Kd.R_drewN | apply Kd.R_drew));exact HO375.out) hb);have n2_ := Aside0.mk (blk_below (g := gb365) (o := .cells #[.slice A0_0 l0_0.length c0_0] 24 (0,0)) (by (with_reducible repeat (first | refine blk_drewN ?_ _ | refine blk_drew ?_ | refine blk_alloc ?_ _));exact BK365.out) hb);have n3_ := Aside0.mk (blk_below (g := gb366) (o := .cells #[.int .i64 a1_0,.string a1_1,.string a1_2,.int .i64 a1_3,.int .i64 a1_4,.int .i64 a1_5] 26 (0,0)) (by (with_reducible repeat (first | refine blk_drewN ?_ _ | refine blk_drew ?_ | refine blk_alloc ?_ _));exact BK366.out) hb);have n4_ := Aside0.mk (blk_below (g := gb372) (o := .cells #[.slice Ao28 t368.length co28] 24 (0,0)) (by (with_reducible repeat (first | refine blk_drewN ?_ _ | refine blk_drew ?_ | refine blk_alloc ?_ _));exact BK372.out) hb);have n5_ := Aside0.mk (below_step (by repeat (first | (with_reducible first | exact HB.out | apply below_alloc | apply pw_below_drewN | apply below_drew1 | refine below_set ?_ GE365.out | refine below_set ?_ GE366.out | refine below_set ?_ GE372.out) | exact HB.out)) hb);have n6_ := Aside0.mk (hbox);have n7_ := Aside0.mk ((by rw [hg];exact (below_size (by repeat (first | (with_reducible first | exact HB.out | apply below_alloc | apply pw_below_drewN | apply below_drew1 | refine below_set ?_ GE365.out | refine below_set ?_ GE366.out | refine below_set ?_ GE372.out) | exact HB.out))) : w.heap.size ≤ gb377));have n8_ := Aside0.mk ((by rw [hg];exact (below_size (by repeat (first | (with_reducible first | exact HB.out | apply below_alloc | apply pw_below_drewN | apply below_drew1 | refine below_set ?_ GE365.out | refine below_set ?_ GE366.out | refine below_set ?_ GE372.out) | exact HB.out))) : w.heap.size ≤ gb377));have n9_ := Aside0.mk ((by rw [hg];exact Nat.ne_of_lt (blk_lt (g := gb365) (o := .cells #[.slice A0_0 l0_0.length c0_0] 24 (0,0)) (by (with_reducible repeat (first | refine blk_drewN ?_ _ | refine blk_drew ?_ | refine blk_alloc ?_ _));exact BK365.out)) : gb365 ≠ gb377));have n10_ := Aside0.mk ((by rw [hg];exact Nat.ne_of_gt (blk_lt (g := gb365) (o := .cells #[.slice A0_0 l0_0.length c0_0] 24 (0,0)) (by (with_reducible repeat (first | refine blk_drewN ?_ _ | refine blk_drew ?_ | refine blk_alloc ?_ _));exact BK365.out)) : gb377 ≠ gb365));have n11_ := Aside0.mk ((by rw [hg];exact Nat.ne_of_lt (blk_lt (g := gb366) (o := .cells #[.int .i64 a1_0,.string a1_1,.string a1_2,.int .i64 a1_3,.int .i64 a1_4,.int .i64 a1_5] 26 (0,0)) (by (with_reducible repeat (first | refine blk_drewN ?_ _ | refine blk_drew ?_ | refine blk_alloc ?_ _));exact BK366.out)) : gb366 ≠ gb377));have n12_ := Aside0.mk ((by rw [hg];exact Nat.ne_of_gt (blk_lt (g := gb366) (o := .cells #[.int .i64 a1_0,.string a1_1,.string a1_2,.int .i64 a1_3,.int .i64 a1_4,.int .i64 a1_5] 26 (0,0)) (by (with_reducible repeat (first | refine blk_drewN ?_ _ | refine blk_drew ?_ | refine blk_alloc ?_ _));exact BK366.out)) : gb377 ≠ gb366));have n13_ := Aside0.mk ((by rw [hg];exact Nat.ne_of_lt (blk_lt (g := gb372) (o := .cells #[.slice Ao28 t368.length co28] 24 (0,0)) (by (with_reducible repeat (first | refine blk_drewN ?_ _ | refine blk_drew ?_ | refine blk_alloc ?_ _));exact BK372.out)) : gb372 ≠ gb377));have n14_ := Aside0.mk ((by rw [hg];exact Nat.ne_of_gt (blk_lt (g := gb372) (o := .cells #[.slice Ao28 t368.length co28] 24 (0,0)) (by (with_reducible repeat (first | refine blk_drewN ?_ _ | refine blk_drew ?_ | refine blk_alloc ?_ _));exact BK372.out)) : gb377 ≠ gb372));clear HO370;clear HO375;clear BK365;clear BK366;clear BK372;clear HB;have HO370 := n0_;have HO375 := n1_;have BK365 := n2_;have BK366 := n3_;have BK372 := n4_;have HB := n5_;have BK377 := n6_;have GW377 := n7_;have GE377 := n8_;have NB365_377 := n9_;have NB377_365 := n10_;have NB366_377 := n11_;have NB377_366 := n12_;have NB372_377 := n13_;have NB377_372 := n14_;clear n0_ n1_ n2_ n3_ n4_ n5_ n6_ n7_ n8_ n9_ n10_ n11_ n12_ n13_ n14_;clear hb hbox hg;obtain ⟨Ao36,co36,eo36⟩ := Kd.R_slice HO375.out;subst eo36;have hnb37 := NB377_365.out;have hnc37 := NB365_377.out;have hnb38 := NB377_366.out;have hnc38 := NB366_377.out;have hnb39 := NB377_372.out;have hnc39 := NB372_377.out;have hcz40_0 : w35.cell? ⟨gb377,0,none⟩ = some (.slice none 0 0) := (blk_cell BK377.out 0).trans rfl;have hfz40_0 := blk_frozen BK377.out 0))
        (try simp only [Act.put,List.setIfInBounds_toArray,List.set_cons_zero,List.set_cons_succ])
        go_cut [11] (fun v11 wc => ∃ (kq : Nat) (x11_21 : Bool),v11 = .bool x11_21 ∧ Aside0 (wageofficelaw39_LedgerMatchesReference.j1 kq a2 a3 a4 x11_21 l0_0 = some r) ∧ Aside0 (kq ≤ kj6) ∧ Aside0 (Kd.R k26 26 wc w.heap.size (fun k_ => some k_ ≠ ((.slice Ao36 t373.length co36) : Value).ownBlock ∧ k_ ≠ gb366) (.slice Ao28 t368.length co28) t368) ∧ Aside0 (Kd.R k26 26 wc w.heap.size (fun k_ => some k_ ≠ ((.slice Ao28 t368.length co28) : Value).ownBlock ∧ k_ ≠ gb366) (.slice Ao36 t373.length co36) t373) ∧ Aside0 (wc.heap[gb365]? = some (.cells #[(.slice A0_0 l0_0.length c0_0)] 24 (0,0))) ∧ Aside0 (wc.heap[gb366]? = some (.cells #[.int .i64 a1_0,.string a1_1,.string a1_2,.int .i64 a1_3,.int .i64 a1_4,.int .i64 a1_5] 26 (0,0))) ∧ Aside0 (wc.heap[gb372]? = some (.cells #[(.slice Ao28 t368.length co28)] 24 (0,0))) ∧ Aside0 (wc.heap[gb377]? = some (.cells #[(.slice Ao36 t373.length co36)] 24 (0,0))) ∧ Aside0 (Below w.heap.size w wc))
        case first =>
          have H := HC22.out
          clear HC22
          by_cases c41 : t367 = true
          · subst c41
            have H1 : ((ledger_Valid.f l0_0).bind fun t378 => ((wageofficeref39_Valid.f kj6 l0_0).bind fun t379 => (if (t378 == t379) = true then (if t371 = t376 then ((wageofficeref39_Same.f kj6 t368 t373).bind fun t380 => (wageofficelaw39_LedgerMatchesReference.j1 kj6 a2 a3 a4 t380 l0_0)) else (wageofficelaw39_LedgerMatchesReference.j1 kj6 a2 a3 a4 false l0_0)) else (wageofficelaw39_LedgerMatchesReference.j1 kj6 a2 a3 a4 false l0_0)))) = some r := by rw [if_pos rfl] at H;exact H
            clear H
            have H := H1
            clear H1
            replace H := Option.bind_eq_some_iff.mp H
            obtain ⟨t378,A420,H⟩ := H
            replace H : ((wageofficeref39_Valid.f kj6 l0_0).bind fun t379 => (if (t378 == t379) = true then (if t371 = t376 then ((wageofficeref39_Same.f kj6 t368 t373).bind fun t380 => (wageofficelaw39_LedgerMatchesReference.j1 kj6 a2 a3 a4 t380 l0_0)) else (wageofficelaw39_LedgerMatchesReference.j1 kj6 a2 a3 a4 false l0_0)) else (wageofficelaw39_LedgerMatchesReference.j1 kj6 a2 a3 a4 false l0_0))) = some r := H
            have A42 := Aside0.mk A420
            clear A420
            replace H := Option.bind_eq_some_iff.mp H
            obtain ⟨t379,A430,H⟩ := H
            replace H : (if (t378 == t379) = true then (if t371 = t376 then ((wageofficeref39_Same.f kj6 t368 t373).bind fun t380 => (wageofficelaw39_LedgerMatchesReference.j1 kj6 a2 a3 a4 t380 l0_0)) else (wageofficelaw39_LedgerMatchesReference.j1 kj6 a2 a3 a4 false l0_0)) else (wageofficelaw39_LedgerMatchesReference.j1 kj6 a2 a3 a4 false l0_0)) = some r := H
            have A43 := Aside0.mk A430
            clear A430
            by_cases c44 : (t378 == t379) = true
            · rw [if_pos c44] at H
              have c44b0 : (t378 == t379) = true := c44
              (try (have c44b1 : decide (t378 = t379) = true := by simpa using c44))
              (try (have c44b2 : (t378 == t379) = true := by simpa using c44))
              clear c44
              (first | rw [c44b0] | (simp only [i64_w,i32_w];rw [c44b0]) | skip)
              by_cases c45 : t371 = t376
              · rw [if_pos c45] at H
                have c45b0 : (t371 == t376) = true := beq_iff_eq.mpr c45
                have c45b1 : (t371 != t376) = false := bne_eq_false_iff_eq.mpr c45
                clear c45
                replace H := Option.bind_eq_some_iff.mp H
                obtain ⟨t380,A460,H⟩ := H
                replace H : (wageofficelaw39_LedgerMatchesReference.j1 kj6 a2 a3 a4 t380 l0_0) = some r := H
                have A46 := Aside0.mk A460
                clear A460
                have H' := Aside0.mk H
                clear H
                try go_wp2
                have n0_ : Aside0 (Kd.R k26 26 (w35.setCell ⟨gb377,0,none⟩ (.slice Ao36 t373.length co36)) w.heap.size (fun k_ => some k_ ≠ (.slice Ao36 t373.length co36 : Value).ownBlock ∧ k_ ≠ gb366) (.slice Ao28 t368.length co28) t368) := ⟨by (with_reducible repeat (first | apply Kd.R_alloc | apply Kd.R_drewN | apply Kd.R_drew));exact Kd.R_mono (Kd.R_far (p := ⟨gb377,0,none⟩) (Kd.R_types HO370.out BK377.out (by decide)) (fun _ hk => hk.2) (.slice Ao36 t373.length co36)) (fun _ hk => ⟨hk.1.2,hk.1.1.2⟩)⟩
                have n1_ : Aside0 (Kd.R k26 26 (w35.setCell ⟨gb377,0,none⟩ (.slice Ao36 t373.length co36)) w.heap.size (fun k_ => some k_ ≠ (.slice Ao28 t368.length co28 : Value).ownBlock ∧ k_ ≠ gb366) (.slice Ao36 t373.length co36) t373) := ⟨by (with_reducible repeat (first | apply Kd.R_alloc | apply Kd.R_drewN | apply Kd.R_drew));exact Kd.R_mono (Kd.R_far (p := ⟨gb377,0,none⟩) (Kd.R_types HO375.out BK377.out (by decide)) (fun _ hk => hk.2) (.slice Ao36 t373.length co36)) (fun _ hk => ⟨hk.1.1.2,hk.1.2⟩)⟩
                have n2_ : Aside0 ((w35.setCell ⟨gb377,0,none⟩ (.slice Ao36 t373.length co36)).heap[gb365]? = some (.cells #[.slice A0_0 l0_0.length c0_0] 24 (0,0))) := ⟨by (with_reducible repeat (first | refine blk_drewN ?_ _ | refine blk_drew ?_ | refine blk_alloc ?_ _));refine blk_far ?_ NB365_377.out _;(with_reducible repeat (first | refine blk_drewN ?_ _ | refine blk_drew ?_ | refine blk_alloc ?_ _));exact BK365.out⟩
                have n3_ : Aside0 ((w35.setCell ⟨gb377,0,none⟩ (.slice Ao36 t373.length co36)).heap[gb366]? = some (.cells #[.int .i64 a1_0,.string a1_1,.string a1_2,.int .i64 a1_3,.int .i64 a1_4,.int .i64 a1_5] 26 (0,0))) := ⟨by (with_reducible repeat (first | refine blk_drewN ?_ _ | refine blk_drew ?_ | refine blk_alloc ?_ _));refine blk_far ?_ NB366_377.out _;(with_reducible repeat (first | refine blk_drewN ?_ _ | refine blk_drew ?_ | refine blk_alloc ?_ _));exact BK366.out⟩
                have n4_ : Aside0 ((w35.setCell ⟨gb377,0,none⟩ (.slice Ao36 t373.length co36)).heap[gb372]? = some (.cells #[.slice Ao28 t368.length co28] 24 (0,0))) := ⟨by (with_reducible repeat (first | refine blk_drewN ?_ _ | refine blk_drew ?_ | refine blk_alloc ?_ _));refine blk_far ?_ NB372_377.out _;(with_reducible repeat (first | refine blk_drewN ?_ _ | refine blk_drew ?_ | refine blk_alloc ?_ _));exact BK372.out⟩
                have n5_ : Aside0 ((w35.setCell ⟨gb377,0,none⟩ (.slice Ao36 t373.length co36)).heap[gb377]? = some (.cells #[.slice Ao36 t373.length co36] 24 (0,0))) := ⟨by (with_reducible repeat (first | refine blk_drewN ?_ _ | refine blk_drew ?_ | refine blk_alloc ?_ _));refine blk_put (cs := #[.slice none 0 0]) ?_ 0 _ rfl;(with_reducible repeat (first | refine blk_drewN ?_ _ | refine blk_drew ?_ | refine blk_alloc ?_ _));exact BK377.out⟩
                have n6_ : Aside0 (Below w.heap.size w (w35.setCell ⟨gb377,0,none⟩ (.slice Ao36 t373.length co36))) := ⟨by repeat (first | (with_reducible first | exact HB.out | apply below_alloc | apply pw_below_drewN | apply below_drew1 | refine below_set ?_ GE365.out | refine below_set ?_ GE366.out | refine below_set ?_ GE372.out | refine below_set ?_ GE377.out) | exact HB.out)⟩
                (try clear HO370)
                (try clear HO375)
                (try clear BK365)
                (try clear BK366)
                (try clear BK372)
                (try clear BK377)
                (try clear HB)
                generalize (w35.setCell ⟨gb377,0,none⟩ (.slice Ao36 t373.length co36)) = w47 at n0_ n1_ n2_ n3_ n4_ n5_ n6_ ⊢
                have HO370 := n0_
                have HO375 := n1_
                have BK365 := n2_
                have BK366 := n3_
                have BK372 := n4_
                have BK377 := n5_
                have HB := n6_
                clear n0_ n1_ n2_ n3_ n4_ n5_ n6_
                have n0_ := Aside0.mk (Kd.R_drew HO370.out)
                have n1_ := Aside0.mk (Kd.R_drew HO375.out)
                have n2_ := Aside0.mk (blk_drew BK365.out)
                have n3_ := Aside0.mk (blk_drew BK366.out)
                have n4_ := Aside0.mk (blk_drew BK372.out)
                have n5_ := Aside0.mk (blk_drew BK377.out)
                have n6_ := Aside0.mk (below_drew1 HB.out)
                clear HO370;clear HO375;clear BK365;clear BK366;clear BK372;clear BK377;clear HB
                have HO370 := n0_
                have HO375 := n1_
                have BK365 := n2_
                have BK366 := n3_
                have BK372 := n4_
                have BK377 := n5_
                have HB := n6_
                clear n0_ n1_ n2_ n3_ n4_ n5_ n6_
                refine start_ (n := 19) (S := fun w' => w'.cell? ⟨gb365,0,none⟩ = some (.slice A0_0 l0_0.length c0_0) ∧ w'.cell? ⟨gb372,0,none⟩ = some (.slice Ao28 t368.length co28) ∧ w'.cell? ⟨gb377,0,none⟩ = some (.slice Ao36 t373.length co36)) (ds := []) #[false,false,false,false,false,false,false,false,false,false,false,false,false,false,false,false,false,false,false] (by kernel_rfl) rfl rfl ⟨(blk_cell BK365.out 0).trans rfl,(blk_cell BK372.out 0).trans rfl,(blk_cell BK377.out 0).trans rfl⟩ (fun hHeld => ?_);refine with_tabW wageofficelaw39_LedgerMatchesReference.tab6 wageofficelaw39_LedgerMatchesReference.bits6 (fun HT_ HW_ => ?_)
                generalize w47.drew = w48 at HO370 HO375 BK365 BK366 BK372 BK377 HB hHeld ⊢
                refine pure_ (i := 0) (N := some 46) (v := ?_) (a' := ?_) #[true,false,false,false,false,false,false,false,false,false,false,false,false,false,false,false,false,false,false] rfl rfl (any_of HT_.out (by kernel_rfl)) (fun _ _ _ h => h) (Or.inl ⟨by rfl,?_⟩) ?_ ?_
                rotate_left
                · intro w'
                  go_simp
                  with_reducible rfl
                rotate_left
                · simp only [Act.put,List.setIfInBounds_toArray,List.set_cons_zero,List.set_cons_succ,i64_w,i32_w]
                  rfl
                refine pure_ (i := 1) (N := some 47) (v := ?_) (a' := ?_) #[true,true,false,false,false,false,false,false,false,false,false,false,false,false,false,false,false,false,false] rfl rfl (any_of HT_.out (by kernel_rfl)) (fun _ _ _ h => h) (Or.inl ⟨by rfl,?_⟩) ?_ ?_
                rotate_left
                · intro w'
                  go_simp
                  with_reducible rfl
                rotate_left
                · simp only [Act.put,List.setIfInBounds_toArray,List.set_cons_zero,List.set_cons_succ,i64_w,i32_w]
                  rfl
                refine take_ (i := 2) (N := some 48) (v := ?_) (a' := ?_) #[true,true,true,false,false,false,false,false,false,false,false,false,false,false,false,false,false,false,false] rfl rfl (take_ofW HT_.out HW_.out (by kernel_rfl)) (fun _ _ _ h => h) (Or.inl ⟨by rfl,?_⟩) hHeld ?_ ?_
                rotate_left
                · rintro w' ⟨s0,s1,s2⟩
                  go_simp
                  with_reducible rfl
                rotate_left
                · simp only [Act.put,List.setIfInBounds_toArray,List.set_cons_zero,List.set_cons_succ,i64_w,i32_w]
                  rfl
                refine take_ (i := 4) (N := some 50) (v := ?_) (a' := ?_) #[true,true,true,false,true,false,false,false,false,false,false,false,false,false,false,false,false,false,false] rfl rfl (take_ofW HT_.out HW_.out (by kernel_rfl)) (fun _ _ _ h => h) (Or.inl ⟨by rfl,?_⟩) hHeld ?_ ?_
                rotate_left
                · rintro w' ⟨s0,s1,s2⟩
                  go_simp
                  with_reducible rfl
                rotate_left
                · simp only [Act.put,List.setIfInBounds_toArray,List.set_cons_zero,List.set_cons_succ,i64_w,i32_w]
                  rfl
                refine one_ (i := 3) (N := some 49) #[true,true,true,true,true,false,false,false,false,false,false,false,false,false,false,false,false,false,false] rfl rfl (one_of HT_.out (by kernel_rfl)) (by decide) (fun K hK => ?_)
                refine goes_ Try.func21 (by kernel_rfl) rfl #[.agg #[.slice A0_0 l0_0.length c0_0]] (by rfl) rfl rfl (by (try simp only [List.map_toArray,List.map_cons,List.map_nil]);first | done | rfl | (simp only [List.length_drop,List.length_take];rfl)) ?_
                with_reducible refine (ledger_Valid.calls _ _ l0_0 t378 _ ?side1 ?side2 A42.out).mono ?_
                (case side1 => repeat (first | exact (Kd.C_below HR0_0.out HB.out) | (with_reducible refine Kd.C_alloc ?_ _) | (with_reducible refine Kd.C_drewN ?_ _) | (with_reducible refine Kd.C_drew ?_)))
                (case side2 => exact HC0_0.out)
                rintro e w49 ⟨rfl,hb⟩
                refine ⟨_,rfl,?_⟩
                have n0_ := Aside0.mk (Kd.R_below (by (with_reducible repeat (first | apply Kd.R_alloc | apply Kd.R_drewN | apply Kd.R_drew));exact HO370.out) hb)
                have n1_ := Aside0.mk (Kd.R_below (by (with_reducible repeat (first | apply Kd.R_alloc | apply Kd.R_drewN | apply Kd.R_drew));exact HO375.out) hb)
                have n2_ := Aside0.mk (blk_below (g := gb365) (o := .cells #[.slice A0_0 l0_0.length c0_0] 24 (0,0)) (by (with_reducible repeat (first | refine blk_drewN ?_ _ | refine blk_drew ?_ | refine blk_alloc ?_ _));exact BK365.out) hb)
                have n3_ := Aside0.mk (blk_below (g := gb366) (o := .cells #[.int .i64 a1_0,.string a1_1,.string a1_2,.int .i64 a1_3,.int .i64 a1_4,.int .i64 a1_5] 26 (0,0)) (by (with_reducible repeat (first | refine blk_drewN ?_ _ | refine blk_drew ?_ | refine blk_alloc ?_ _));exact BK366.out) hb)
                have n4_ := Aside0.mk (blk_below (g := gb372) (o := .cells #[.slice Ao28 t368.length co28] 24 (0,0)) (by (with_reducible repeat (first | refine blk_drewN ?_ _ | refine blk_drew ?_ | refine blk_alloc ?_ _));exact BK372.out) hb)
                have n5_ := Aside0.mk (blk_below (g := gb377) (o := .cells #[.slice Ao36 t373.length co36] 24 (0,0)) (by (with_reducible repeat (first | refine blk_drewN ?_ _ | refine blk_drew ?_ | refine blk_alloc ?_ _));exact BK377.out) hb)
                have n6_ := Aside0.mk (below_step (by repeat (first | (with_reducible first | exact HB.out | apply below_alloc | apply pw_below_drewN | apply below_drew1 | refine below_set ?_ GE365.out | refine below_set ?_ GE366.out | refine below_set ?_ GE372.out | refine below_set ?_ GE377.out) | exact HB.out)) hb)
                clear HO370;clear HO375;clear BK365;clear BK366;clear BK372;clear BK377;clear HB
                have HO370 := n0_
                have HO375 := n1_
                have BK365 := n2_
                have BK366 := n3_
                have BK372 := n4_
                have BK377 := n5_
                have HB := n6_
                clear n0_ n1_ n2_ n3_ n4_ n5_ n6_
                (try clear hb)
                (try clear hb2)
                (try clear hk)
                (try clear hi)
                refine hK.out _ _ ⟨(blk_cell BK365.out 0).trans rfl,(blk_cell BK372.out 0).trans rfl,(blk_cell BK377.out 0).trans rfl⟩ (fun hHeld => ?_)
                clear hK K
                refine norm_ (a' := ?_) ?_ ?_
                rotate_left
                · show Act.put _ (some 49) _ = _
                  simp only [Act.put,List.setIfInBounds_toArray,List.set_cons_zero,List.set_cons_succ,i64_w,i32_w]
                  rfl
                refine one_ (i := 5) (N := some 51) #[true,true,true,true,true,true,false,false,false,false,false,false,false,false,false,false,false,false,false] rfl rfl (one_of HT_.out (by kernel_rfl)) (by decide) (fun K hK => ?_)
                refine goes_ Try.func22 (by kernel_rfl) rfl #[.agg #[.slice A0_0 l0_0.length c0_0]] (by rfl) rfl rfl (by (try simp only [List.map_toArray,List.map_cons,List.map_nil]);first | done | rfl | (simp only [List.length_drop,List.length_take];rfl)) ?_
                with_reducible refine (wageofficeref39_Valid.calls kj6 _ _ l0_0 t379 _ ?side1 ?side2 A43.out).mono ?_
                (case side1 => repeat (first | exact (Kd.C_below HR0_0.out HB.out) | (with_reducible refine Kd.C_alloc ?_ _) | (with_reducible refine Kd.C_drewN ?_ _) | (with_reducible refine Kd.C_drew ?_)))
                (case side2 => exact HC0_0.out)
                rintro e w50 ⟨rfl,hb⟩
                refine ⟨_,rfl,?_⟩
                have n0_ := Aside0.mk (Kd.R_below (by (with_reducible repeat (first | apply Kd.R_alloc | apply Kd.R_drewN | apply Kd.R_drew));exact HO370.out) hb)
                have n1_ := Aside0.mk (Kd.R_below (by (with_reducible repeat (first | apply Kd.R_alloc | apply Kd.R_drewN | apply Kd.R_drew));exact HO375.out) hb)
                have n2_ := Aside0.mk (blk_below (g := gb365) (o := .cells #[.slice A0_0 l0_0.length c0_0] 24 (0,0)) (by (with_reducible repeat (first | refine blk_drewN ?_ _ | refine blk_drew ?_ | refine blk_alloc ?_ _));exact BK365.out) hb)
                have n3_ := Aside0.mk (blk_below (g := gb366) (o := .cells #[.int .i64 a1_0,.string a1_1,.string a1_2,.int .i64 a1_3,.int .i64 a1_4,.int .i64 a1_5] 26 (0,0)) (by (with_reducible repeat (first | refine blk_drewN ?_ _ | refine blk_drew ?_ | refine blk_alloc ?_ _));exact BK366.out) hb)
                have n4_ := Aside0.mk (blk_below (g := gb372) (o := .cells #[.slice Ao28 t368.length co28] 24 (0,0)) (by (with_reducible repeat (first | refine blk_drewN ?_ _ | refine blk_drew ?_ | refine blk_alloc ?_ _));exact BK372.out) hb)
                have n5_ := Aside0.mk (blk_below (g := gb377) (o := .cells #[.slice Ao36 t373.length co36] 24 (0,0)) (by (with_reducible repeat (first | refine blk_drewN ?_ _ | refine blk_drew ?_ | refine blk_alloc ?_ _));exact BK377.out) hb)
                have n6_ := Aside0.mk (below_step (by repeat (first | (with_reducible first | exact HB.out | apply below_alloc | apply pw_below_drewN | apply below_drew1 | refine below_set ?_ GE365.out | refine below_set ?_ GE366.out | refine below_set ?_ GE372.out | refine below_set ?_ GE377.out) | exact HB.out)) hb)
                clear HO370;clear HO375;clear BK365;clear BK366;clear BK372;clear BK377;clear HB
                have HO370 := n0_
                have HO375 := n1_
                have BK365 := n2_
                have BK366 := n3_
                have BK372 := n4_
                have BK377 := n5_
                have HB := n6_
                clear n0_ n1_ n2_ n3_ n4_ n5_ n6_
                (try clear hb)
                (try clear hb2)
                (try clear hk)
                (try clear hi)
                refine hK.out _ _ ⟨(blk_cell BK365.out 0).trans rfl,(blk_cell BK372.out 0).trans rfl,(blk_cell BK377.out 0).trans rfl⟩ (fun hHeld => ?_)
                clear hK K
                refine norm_ (a' := ?_) ?_ ?_
                rotate_left
                · show Act.put _ (some 51) _ = _
                  simp only [Act.put,List.setIfInBounds_toArray,List.set_cons_zero,List.set_cons_succ,i64_w,i32_w]
                  rfl
                refine pure_ (i := 6) (N := some 52) (v := ?_) (a' := ?_) #[true,true,true,true,true,true,true,false,false,false,false,false,false,false,false,false,false,false,false] rfl rfl (any_of HT_.out (by kernel_rfl)) (fun _ _ _ h => h) (Or.inl ⟨by rfl,?_⟩) ?_ ?_
                rotate_left
                · intro w'
                  go_simp
                  with_reducible rfl
                rotate_left
                · simp only [Act.put,List.setIfInBounds_toArray,List.set_cons_zero,List.set_cons_succ,i64_w,i32_w]
                  rfl
                refine pure_ (i := 7) (N := some 53) (v := ?_) (a' := ?_) #[true,true,true,true,true,true,true,true,false,false,false,false,false,false,false,false,false,false,false] rfl rfl (any_of HT_.out (by kernel_rfl)) (fun _ _ _ h => h) (Or.inl ⟨by rfl,?_⟩) ?_ ?_
                rotate_left
                · intro w'
                  go_simp
                  with_reducible rfl
                rotate_left
                · simp only [Act.put,List.setIfInBounds_toArray,List.set_cons_zero,List.set_cons_succ,i64_w,i32_w]
                  rfl
                refine pure_ (i := 8) (N := some 54) (v := ?_) (a' := ?_) #[true,true,true,true,true,true,true,true,true,false,false,false,false,false,false,false,false,false,false] rfl rfl (any_of HT_.out (by kernel_rfl)) (fun _ _ _ h => h) (Or.inl ⟨by rfl,?_⟩) ?_ ?_
                rotate_left
                · intro w'
                  go_simp
                  with_reducible rfl
                rotate_left
                · simp only [Act.put,List.setIfInBounds_toArray,List.set_cons_zero,List.set_cons_succ,i64_w,i32_w]
                  rfl
                refine pure_ (i := 9) (N := some 55) (v := ?_) (a' := ?_) #[true,true,true,true,true,true,true,true,true,true,false,false,false,false,false,false,false,false,false] rfl rfl (any_of HT_.out (by kernel_rfl)) (fun _ _ _ h => h) (Or.inl ⟨by rfl,?_⟩) ?_ ?_
                rotate_left
                · intro w'
                  go_simp
                  with_reducible rfl
                rotate_left
                · simp only [Act.put,List.setIfInBounds_toArray,List.set_cons_zero,List.set_cons_succ,i64_w,i32_w]
                  rfl
                refine pure_ (i := 10) (N := some 56) (v := ?_) (a' := ?_) #[true,true,true,true,true,true,true,true,true,true,true,false,false,false,false,false,false,false,false] rfl rfl (any_of HT_.out (by kernel_rfl)) (fun _ _ _ h => h) (Or.inl ⟨by rfl,?_⟩) ?_ ?_
                rotate_left
                · intro w'
                  go_simp
                  with_reducible rfl
                rotate_left
                · simp only [Act.put,List.setIfInBounds_toArray,List.set_cons_zero,List.set_cons_succ,i64_w,i32_w]
                  rfl
                refine pure_ (i := 11) (N := some 57) (v := ?_) (a' := ?_) #[true,true,true,true,true,true,true,true,true,true,true,true,false,false,false,false,false,false,false] rfl rfl (any_of HT_.out (by kernel_rfl)) (fun _ _ _ h => h) (Or.inl ⟨by rfl,?_⟩) ?_ ?_
                rotate_left
                · intro w'
                  go_simp
                  with_reducible rfl
                rotate_left
                · simp only [Act.put,List.setIfInBounds_toArray,List.set_cons_zero,List.set_cons_succ,i64_w,i32_w]
                  rfl
                refine pure_ (i := 12) (N := some 58) (v := ?_) (a' := ?_) #[true,true,true,true,true,true,true,true,true,true,true,true,true,false,false,false,false,false,false] rfl rfl (any_of HT_.out (by kernel_rfl)) (fun _ _ _ h => h) (Or.inl ⟨by rfl,?_⟩) ?_ ?_
                rotate_left
                · intro w'
                  go_simp
                  with_reducible rfl
                rotate_left
                · simp only [Act.put,List.setIfInBounds_toArray,List.set_cons_zero,List.set_cons_succ,i64_w,i32_w]
                  rfl
                refine pure_ (i := 13) (N := some 59) (v := ?_) (a' := ?_) #[true,true,true,true,true,true,true,true,true,true,true,true,true,true,false,false,false,false,false] rfl rfl (any_of HT_.out (by kernel_rfl)) (fun _ _ _ h => h) (Or.inl ⟨by rfl,?_⟩) ?_ ?_
                rotate_left
                · intro w'
                  go_simp
                  with_reducible rfl
                rotate_left
                · simp only [Act.put,List.setIfInBounds_toArray,List.set_cons_zero,List.set_cons_succ,i64_w,i32_w]
                  rfl
                refine take_ (i := 14) (N := some 60) (v := ?_) (a' := ?_) #[true,true,true,true,true,true,true,true,true,true,true,true,true,true,true,false,false,false,false] rfl rfl (take_ofW HT_.out HW_.out (by kernel_rfl)) (fun _ _ _ h => h) (Or.inl ⟨by rfl,?_⟩) hHeld ?_ ?_
                rotate_left
                · rintro w' ⟨s0,s1,s2⟩
                  go_simp
                  with_reducible rfl
                rotate_left
                · simp only [Act.put,List.setIfInBounds_toArray,List.set_cons_zero,List.set_cons_succ,i64_w,i32_w]
                  rfl
                refine take_ (i := 15) (N := some 61) (v := ?_) (a' := ?_) #[true,true,true,true,true,true,true,true,true,true,true,true,true,true,true,true,false,false,false] rfl rfl (take_ofW HT_.out HW_.out (by kernel_rfl)) (fun _ _ _ h => h) (Or.inl ⟨by rfl,?_⟩) hHeld ?_ ?_
                rotate_left
                · rintro w' ⟨s0,s1,s2⟩
                  go_simp
                  with_reducible rfl
                rotate_left
                · simp only [Act.put,List.setIfInBounds_toArray,List.set_cons_zero,List.set_cons_succ,i64_w,i32_w]
                  rfl
                refine one_ (i := 16) (N := some 62) #[true,true,true,true,true,true,true,true,true,true,true,true,true,true,true,true,true,false,false] rfl rfl (one_of HT_.out (by kernel_rfl)) (by decide) (fun K hK => ?_)
                refine goes_ Try.func23 (by kernel_rfl) rfl #[.agg #[.slice Ao28 t368.length co28],.agg #[.slice Ao36 t373.length co36]] (by rfl) rfl rfl (by (try simp only [List.map_toArray,List.map_cons,List.map_nil]);first | done | rfl | (simp only [List.length_drop,List.length_take];rfl)) ?_
                with_reducible refine (wageofficeref39_Same.calls kj6 _ _ t368 _ _ t373 t380 _ ?side1 ?side2 ?side3 ?side4 A46.out).mono ?_
                (case side1 => repeat (first | exact (Kd.R_reads' HO370.out).2.2 | (with_reducible refine Kd.C_alloc ?_ _) | (with_reducible refine Kd.C_drewN ?_ _) | (with_reducible refine Kd.C_drew ?_)))
                (case side2 => exact (Kd.R_reads' HO370.out).2.1)
                (case side3 => repeat (first | exact (Kd.R_reads' HO375.out).2.2 | (with_reducible refine Kd.C_alloc ?_ _) | (with_reducible refine Kd.C_drewN ?_ _) | (with_reducible refine Kd.C_drew ?_)))
                (case side4 => exact (Kd.R_reads' HO375.out).2.1)
                rintro e w51 ⟨rfl,hb⟩
                refine ⟨_,rfl,?_⟩
                have n0_ := Aside0.mk (Kd.R_below (by (with_reducible repeat (first | apply Kd.R_alloc | apply Kd.R_drewN | apply Kd.R_drew));exact HO370.out) hb)
                have n1_ := Aside0.mk (Kd.R_below (by (with_reducible repeat (first | apply Kd.R_alloc | apply Kd.R_drewN | apply Kd.R_drew));exact HO375.out) hb)
                have n2_ := Aside0.mk (blk_below (g := gb365) (o := .cells #[.slice A0_0 l0_0.length c0_0] 24 (0,0)) (by (with_reducible repeat (first | refine blk_drewN ?_ _ | refine blk_drew ?_ | refine blk_alloc ?_ _));exact BK365.out) hb)
                have n3_ := Aside0.mk (blk_below (g := gb366) (o := .cells #[.int .i64 a1_0,.string a1_1,.string a1_2,.int .i64 a1_3,.int .i64 a1_4,.int .i64 a1_5] 26 (0,0)) (by (with_reducible repeat (first | refine blk_drewN ?_ _ | refine blk_drew ?_ | refine blk_alloc ?_ _));exact BK366.out) hb)
                have n4_ := Aside0.mk (blk_below (g := gb372) (o := .cells #[.slice Ao28 t368.length co28] 24 (0,0)) (by (with_reducible repeat (first | refine blk_drewN ?_ _ | refine blk_drew ?_ | refine blk_alloc ?_ _));exact BK372.out) hb)
                have n5_ := Aside0.mk (blk_below (g := gb377) (o := .cells #[.slice Ao36 t373.length co36] 24 (0,0)) (by (with_reducible repeat (first | refine blk_drewN ?_ _ | refine blk_drew ?_ | refine blk_alloc ?_ _));exact BK377.out) hb)
                have n6_ := Aside0.mk (below_step (by repeat (first | (with_reducible first | exact HB.out | apply below_alloc | apply pw_below_drewN | apply below_drew1 | refine below_set ?_ GE365.out | refine below_set ?_ GE366.out | refine below_set ?_ GE372.out | refine below_set ?_ GE377.out) | exact HB.out)) hb)
                clear HO370;clear HO375;clear BK365;clear BK366;clear BK372;clear BK377;clear HB
                have HO370 := n0_
                have HO375 := n1_
                have BK365 := n2_
                have BK366 := n3_
                have BK372 := n4_
                have BK377 := n5_
                have HB := n6_
                clear n0_ n1_ n2_ n3_ n4_ n5_ n6_
                (try clear hb)
                (try clear hb2)
                (try clear hk)
                (try clear hi)
                refine hK.out _ _ ⟨(blk_cell BK365.out 0).trans rfl,(blk_cell BK372.out 0).trans rfl,(blk_cell BK377.out 0).trans rfl⟩ (fun hHeld => ?_)
                clear hK K
                refine norm_ (a' := ?_) ?_ ?_
                rotate_left
                · show Act.put _ (some 62) _ = _
                  simp only [Act.put,List.setIfInBounds_toArray,List.set_cons_zero,List.set_cons_succ,i64_w,i32_w]
                  rfl
                refine pure_ (i := 17) (N := some 63) (v := ?_) (a' := ?_) #[true,true,true,true,true,true,true,true,true,true,true,true,true,true,true,true,true,true,false] rfl rfl (any_of HT_.out (by kernel_rfl)) (fun _ _ _ h => h) (Or.inl ⟨by rfl,?_⟩) ?_ ?_
                rotate_left
                · intro w'
                  go_simp
                  with_reducible rfl
                rotate_left
                · simp only [Act.put,List.setIfInBounds_toArray,List.set_cons_zero,List.set_cons_succ,i64_w,i32_w]
                  rfl
                refine pure_ (i := 18) (N := some 11) (v := ?_) (a' := ?_) #[true,true,true,true,true,true,true,true,true,true,true,true,true,true,true,true,true,true,true] rfl rfl (any_of HT_.out (by kernel_rfl)) (fun _ _ _ h => h) (Or.inl ⟨by rfl,?_⟩) ?_ ?_
                rotate_left
                · intro w'
                  go_simp
                  with_reducible rfl
                rotate_left
                · simp only [Act.put,List.setIfInBounds_toArray,List.set_cons_zero,List.set_cons_succ,i64_w,i32_w]
                  rfl
                refine done_ (done_of HT_.out (by kernel_rfl)) ?_
                try go_wp2
                go_meet
                case rel => exact ⟨_,(t380),(by first | rfl | (simp;done) | (simp [*];done)),H',⟨by have := HJ6.out;first | omega | exact Nat.le_refl _⟩,⟨by (with_reducible repeat (first | apply Kd.R_alloc | apply Kd.R_drewN | apply Kd.R_drew));exact HO370.out⟩,⟨by (with_reducible repeat (first | apply Kd.R_alloc | apply Kd.R_drewN | apply Kd.R_drew));exact HO375.out⟩,⟨by (with_reducible repeat (first | refine blk_drewN ?_ _ | refine blk_drew ?_ | refine blk_alloc ?_ _));exact BK365.out⟩,⟨by (with_reducible repeat (first | refine blk_drewN ?_ _ | refine blk_drew ?_ | refine blk_alloc ?_ _));exact BK366.out⟩,⟨by (with_reducible repeat (first | refine blk_drewN ?_ _ | refine blk_drew ?_ | refine blk_alloc ?_ _));exact BK372.out⟩,⟨by (with_reducible repeat (first | refine blk_drewN ?_ _ | refine blk_drew ?_ | refine blk_alloc ?_ _));exact BK377.out⟩,⟨by repeat (first | (with_reducible first | exact HB.out | apply below_alloc | apply pw_below_drewN | apply below_drew1 | refine below_set ?_ GE365.out | refine below_set ?_ GE366.out | refine below_set ?_ GE372.out | refine below_set ?_ GE377.out) | exact HB.out)⟩⟩
              · rw [if_neg c45] at H
                have c45b0 : (t371 == t376) = false := beq_eq_false_iff_ne.mpr c45
                have c45b1 : (t371 != t376) = true := bne_iff_ne.mpr c45
                have H' := Aside0.mk H
                clear H
                try go_wp2
                have n0_ : Aside0 (Kd.R k26 26 (w35.setCell ⟨gb377,0,none⟩ (.slice Ao36 t373.length co36)) w.heap.size (fun k_ => some k_ ≠ (.slice Ao36 t373.length co36 : Value).ownBlock ∧ k_ ≠ gb366) (.slice Ao28 t368.length co28) t368) := ⟨by (with_reducible repeat (first | apply Kd.R_alloc | apply Kd.R_drewN | apply Kd.R_drew));exact Kd.R_mono (Kd.R_far (p := ⟨gb377,0,none⟩) (Kd.R_types HO370.out BK377.out (by decide)) (fun _ hk => hk.2) (.slice Ao36 t373.length co36)) (fun _ hk => ⟨hk.1.2,hk.1.1.2⟩)⟩
                have n1_ : Aside0 (Kd.R k26 26 (w35.setCell ⟨gb377,0,none⟩ (.slice Ao36 t373.length co36)) w.heap.size (fun k_ => some k_ ≠ (.slice Ao28 t368.length co28 : Value).ownBlock ∧ k_ ≠ gb366) (.slice Ao36 t373.length co36) t373) := ⟨by (with_reducible repeat (first | apply Kd.R_alloc | apply Kd.R_drewN | apply Kd.R_drew));exact Kd.R_mono (Kd.R_far (p := ⟨gb377,0,none⟩) (Kd.R_types HO375.out BK377.out (by decide)) (fun _ hk => hk.2) (.slice Ao36 t373.length co36)) (fun _ hk => ⟨hk.1.1.2,hk.1.2⟩)⟩
                have n2_ : Aside0 ((w35.setCell ⟨gb377,0,none⟩ (.slice Ao36 t373.length co36)).heap[gb365]? = some (.cells #[.slice A0_0 l0_0.length c0_0] 24 (0,0))) := ⟨by (with_reducible repeat (first | refine blk_drewN ?_ _ | refine blk_drew ?_ | refine blk_alloc ?_ _));refine blk_far ?_ NB365_377.out _;(with_reducible repeat (first | refine blk_drewN ?_ _ | refine blk_drew ?_ | refine blk_alloc ?_ _));exact BK365.out⟩
                have n3_ : Aside0 ((w35.setCell ⟨gb377,0,none⟩ (.slice Ao36 t373.length co36)).heap[gb366]? = some (.cells #[.int .i64 a1_0,.string a1_1,.string a1_2,.int .i64 a1_3,.int .i64 a1_4,.int .i64 a1_5] 26 (0,0))) := ⟨by (with_reducible repeat (first | refine blk_drewN ?_ _ | refine blk_drew ?_ | refine blk_alloc ?_ _));refine blk_far ?_ NB366_377.out _;(with_reducible repeat (first | refine blk_drewN ?_ _ | refine blk_drew ?_ | refine blk_alloc ?_ _));exact BK366.out⟩
                have n4_ : Aside0 ((w35.setCell ⟨gb377,0,none⟩ (.slice Ao36 t373.length co36)).heap[gb372]? = some (.cells #[.slice Ao28 t368.length co28] 24 (0,0))) := ⟨by (with_reducible repeat (first | refine blk_drewN ?_ _ | refine blk_drew ?_ | refine blk_alloc ?_ _));refine blk_far ?_ NB372_377.out _;(with_reducible repeat (first | refine blk_drewN ?_ _ | refine blk_drew ?_ | refine blk_alloc ?_ _));exact BK372.out⟩
                have n5_ : Aside0 ((w35.setCell ⟨gb377,0,none⟩ (.slice Ao36 t373.length co36)).heap[gb377]? = some (.cells #[.slice Ao36 t373.length co36] 24 (0,0))) := ⟨by (with_reducible repeat (first | refine blk_drewN ?_ _ | refine blk_drew ?_ | refine blk_alloc ?_ _));refine blk_put (cs := #[.slice none 0 0]) ?_ 0 _ rfl;(with_reducible repeat (first | refine blk_drewN ?_ _ | refine blk_drew ?_ | refine blk_alloc ?_ _));exact BK377.out⟩
                have n6_ : Aside0 (Below w.heap.size w (w35.setCell ⟨gb377,0,none⟩ (.slice Ao36 t373.length co36))) := ⟨by repeat (first | (with_reducible first | exact HB.out | apply below_alloc | apply pw_below_drewN | apply below_drew1 | refine below_set ?_ GE365.out | refine below_set ?_ GE366.out | refine below_set ?_ GE372.out | refine below_set ?_ GE377.out) | exact HB.out)⟩
                (try clear HO370)
                (try clear HO375)
                (try clear BK365)
                (try clear BK366)
                (try clear BK372)
                (try clear BK377)
                (try clear HB)
                generalize (w35.setCell ⟨gb377,0,none⟩ (.slice Ao36 t373.length co36)) = w52 at n0_ n1_ n2_ n3_ n4_ n5_ n6_ ⊢
                have HO370 := n0_
                have HO375 := n1_
                have BK365 := n2_
                have BK366 := n3_
                have BK372 := n4_
                have BK377 := n5_
                have HB := n6_
                clear n0_ n1_ n2_ n3_ n4_ n5_ n6_
                have n0_ := Aside0.mk (Kd.R_drew HO370.out)
                have n1_ := Aside0.mk (Kd.R_drew HO375.out)
                have n2_ := Aside0.mk (blk_drew BK365.out)
                have n3_ := Aside0.mk (blk_drew BK366.out)
                have n4_ := Aside0.mk (blk_drew BK372.out)
                have n5_ := Aside0.mk (blk_drew BK377.out)
                have n6_ := Aside0.mk (below_drew1 HB.out)
                clear HO370;clear HO375;clear BK365;clear BK366;clear BK372;clear BK377;clear HB
                have HO370 := n0_
                have HO375 := n1_
                have BK365 := n2_
                have BK366 := n3_
                have BK372 := n4_
                have BK377 := n5_
                have HB := n6_
                clear n0_ n1_ n2_ n3_ n4_ n5_ n6_
                refine start_ (n := 19) (S := fun w' => w'.cell? ⟨gb365,0,none⟩ = some (.slice A0_0 l0_0.length c0_0)) (ds := []) #[false,false,false,false,false,false,false,false,false,false,false,false,false,false,false,false,false,false,false] (by kernel_rfl) rfl rfl ((blk_cell BK365.out 0).trans rfl) (fun hHeld => ?_);refine with_tabW wageofficelaw39_LedgerMatchesReference.tab6 wageofficelaw39_LedgerMatchesReference.bits6 (fun HT_ HW_ => ?_)
                generalize w52.drew = w53 at HO370 HO375 BK365 BK366 BK372 BK377 HB hHeld ⊢
                refine pure_ (i := 0) (N := some 46) (v := ?_) (a' := ?_) #[true,false,false,false,false,false,false,false,false,false,false,false,false,false,false,false,false,false,false] rfl rfl (any_of HT_.out (by kernel_rfl)) (fun _ _ _ h => h) (Or.inl ⟨by rfl,?_⟩) ?_ ?_
                rotate_left
                · intro w'
                  go_simp
                  with_reducible rfl
                rotate_left
                · simp only [Act.put,List.setIfInBounds_toArray,List.set_cons_zero,List.set_cons_succ,i64_w,i32_w]
                  rfl
                refine pure_ (i := 1) (N := some 47) (v := ?_) (a' := ?_) #[true,true,false,false,false,false,false,false,false,false,false,false,false,false,false,false,false,false,false] rfl rfl (any_of HT_.out (by kernel_rfl)) (fun _ _ _ h => h) (Or.inl ⟨by rfl,?_⟩) ?_ ?_
                rotate_left
                · intro w'
                  go_simp
                  with_reducible rfl
                rotate_left
                · simp only [Act.put,List.setIfInBounds_toArray,List.set_cons_zero,List.set_cons_succ,i64_w,i32_w]
                  rfl
                refine take_ (i := 2) (N := some 48) (v := ?_) (a' := ?_) #[true,true,true,false,false,false,false,false,false,false,false,false,false,false,false,false,false,false,false] rfl rfl (take_ofW HT_.out HW_.out (by kernel_rfl)) (fun _ _ _ h => h) (Or.inl ⟨by rfl,?_⟩) hHeld ?_ ?_
                rotate_left
                · intro w' s0
                  go_simp
                  with_reducible rfl
                rotate_left
                · simp only [Act.put,List.setIfInBounds_toArray,List.set_cons_zero,List.set_cons_succ,i64_w,i32_w]
                  rfl
                refine take_ (i := 4) (N := some 50) (v := ?_) (a' := ?_) #[true,true,true,false,true,false,false,false,false,false,false,false,false,false,false,false,false,false,false] rfl rfl (take_ofW HT_.out HW_.out (by kernel_rfl)) (fun _ _ _ h => h) (Or.inl ⟨by rfl,?_⟩) hHeld ?_ ?_
                rotate_left
                · intro w' s0
                  go_simp
                  with_reducible rfl
                rotate_left
                · simp only [Act.put,List.setIfInBounds_toArray,List.set_cons_zero,List.set_cons_succ,i64_w,i32_w]
                  rfl
                refine one_ (i := 3) (N := some 49) #[true,true,true,true,true,false,false,false,false,false,false,false,false,false,false,false,false,false,false] rfl rfl (one_of HT_.out (by kernel_rfl)) (by decide) (fun K hK => ?_)
                refine goes_ Try.func21 (by kernel_rfl) rfl #[.agg #[.slice A0_0 l0_0.length c0_0]] (by rfl) rfl rfl (by (try simp only [List.map_toArray,List.map_cons,List.map_nil]);first | done | rfl | (simp only [List.length_drop,List.length_take];rfl)) ?_
                with_reducible refine (ledger_Valid.calls _ _ l0_0 t378 _ ?side1 ?side2 A42.out).mono ?_
                (case side1 => repeat (first | exact (Kd.C_below HR0_0.out HB.out) | (with_reducible refine Kd.C_alloc ?_ _) | (with_reducible refine Kd.C_drewN ?_ _) | (with_reducible refine Kd.C_drew ?_)))
                (case side2 => exact HC0_0.out)
                rintro e w54 ⟨rfl,hb⟩
                refine ⟨_,rfl,?_⟩
                have n0_ := Aside0.mk (Kd.R_below (by (with_reducible repeat (first | apply Kd.R_alloc | apply Kd.R_drewN | apply Kd.R_drew));exact HO370.out) hb)
                have n1_ := Aside0.mk (Kd.R_below (by (with_reducible repeat (first | apply Kd.R_alloc | apply Kd.R_drewN | apply Kd.R_drew));exact HO375.out) hb)
                have n2_ := Aside0.mk (blk_below (g := gb365) (o := .cells #[.slice A0_0 l0_0.length c0_0] 24 (0,0)) (by (with_reducible repeat (first | refine blk_drewN ?_ _ | refine blk_drew ?_ | refine blk_alloc ?_ _));exact BK365.out) hb)
                have n3_ := Aside0.mk (blk_below (g := gb366) (o := .cells #[.int .i64 a1_0,.string a1_1,.string a1_2,.int .i64 a1_3,.int .i64 a1_4,.int .i64 a1_5] 26 (0,0)) (by (with_reducible repeat (first | refine blk_drewN ?_ _ | refine blk_drew ?_ | refine blk_alloc ?_ _));exact BK366.out) hb)
                have n4_ := Aside0.mk (blk_below (g := gb372) (o := .cells #[.slice Ao28 t368.length co28] 24 (0,0)) (by (with_reducible repeat (first | refine blk_drewN ?_ _ | refine blk_drew ?_ | refine blk_alloc ?_ _));exact BK372.out) hb)
                have n5_ := Aside0.mk (blk_below (g := gb377) (o := .cells #[.slice Ao36 t373.length co36] 24 (0,0)) (by (with_reducible repeat (first | refine blk_drewN ?_ _ | refine blk_drew ?_ | refine blk_alloc ?_ _));exact BK377.out) hb)
                have n6_ := Aside0.mk (below_step (by repeat (first | (with_reducible first | exact HB.out | apply below_alloc | apply pw_below_drewN | apply below_drew1 | refine below_set ?_ GE365.out | refine below_set ?_ GE366.out | refine below_set ?_ GE372.out | refine below_set ?_ GE377.out) | exact HB.out)) hb)
                clear HO370;clear HO375;clear BK365;clear BK366;clear BK372;clear BK377;clear HB
                have HO370 := n0_
                have HO375 := n1_
                have BK365 := n2_
                have BK366 := n3_
                have BK372 := n4_
                have BK377 := n5_
                have HB := n6_
                clear n0_ n1_ n2_ n3_ n4_ n5_ n6_
                (try clear hb)
                (try clear hb2)
                (try clear hk)
                (try clear hi)
                refine hK.out _ _ ((blk_cell BK365.out 0).trans rfl) (fun hHeld => ?_)
                clear hK K
                refine norm_ (a' := ?_) ?_ ?_
                rotate_left
                · show Act.put _ (some 49) _ = _
                  simp only [Act.put,List.setIfInBounds_toArray,List.set_cons_zero,List.set_cons_succ,i64_w,i32_w]
                  rfl
                refine one_ (i := 5) (N := some 51) #[true,true,true,true,true,true,false,false,false,false,false,false,false,false,false,false,false,false,false] rfl rfl (one_of HT_.out (by kernel_rfl)) (by decide) (fun K hK => ?_)
                refine goes_ Try.func22 (by kernel_rfl) rfl #[.agg #[.slice A0_0 l0_0.length c0_0]] (by rfl) rfl rfl (by (try simp only [List.map_toArray,List.map_cons,List.map_nil]);first | done | rfl | (simp only [List.length_drop,List.length_take];rfl)) ?_
                with_reducible refine (wageofficeref39_Valid.calls kj6 _ _ l0_0 t379 _ ?side1 ?side2 A43.out).mono ?_
                (case side1 => repeat (first | exact (Kd.C_below HR0_0.out HB.out) | (with_reducible refine Kd.C_alloc ?_ _) | (with_reducible refine Kd.C_drewN ?_ _) | (with_reducible refine Kd.C_drew ?_)))
                (case side2 => exact HC0_0.out)
                rintro e w55 ⟨rfl,hb⟩
                refine ⟨_,rfl,?_⟩
                have n0_ := Aside0.mk (Kd.R_below (by (with_reducible repeat (first | apply Kd.R_alloc | apply Kd.R_drewN | apply Kd.R_drew));exact HO370.out) hb)
                have n1_ := Aside0.mk (Kd.R_below (by (with_reducible repeat (first | apply Kd.R_alloc | apply Kd.R_drewN | apply Kd.R_drew));exact HO375.out) hb)
                have n2_ := Aside0.mk (blk_below (g := gb365) (o := .cells #[.slice A0_0 l0_0.length c0_0] 24 (0,0)) (by (with_reducible repeat (first | refine blk_drewN ?_ _ | refine blk_drew ?_ | refine blk_alloc ?_ _));exact BK365.out) hb)
                have n3_ := Aside0.mk (blk_below (g := gb366) (o := .cells #[.int .i64 a1_0,.string a1_1,.string a1_2,.int .i64 a1_3,.int .i64 a1_4,.int .i64 a1_5] 26 (0,0)) (by (with_reducible repeat (first | refine blk_drewN ?_ _ | refine blk_drew ?_ | refine blk_alloc ?_ _));exact BK366.out) hb)
                have n4_ := Aside0.mk (blk_below (g := gb372) (o := .cells #[.slice Ao28 t368.length co28] 24 (0,0)) (by (with_reducible repeat (first | refine blk_drewN ?_ _ | refine blk_drew ?_ | refine blk_alloc ?_ _));exact BK372.out) hb)
                have n5_ := Aside0.mk (blk_below (g := gb377) (o := .cells #[.slice Ao36 t373.length co36] 24 (0,0)) (by (with_reducible repeat (first | refine blk_drewN ?_ _ | refine blk_drew ?_ | refine blk_alloc ?_ _));exact BK377.out) hb)
                have n6_ := Aside0.mk (below_step (by repeat (first | (with_reducible first | exact HB.out | apply below_alloc | apply pw_below_drewN | apply below_drew1 | refine below_set ?_ GE365.out | refine below_set ?_ GE366.out | refine below_set ?_ GE372.out | refine below_set ?_ GE377.out) | exact HB.out)) hb)
                clear HO370;clear HO375;clear BK365;clear BK366;clear BK372;clear BK377;clear HB
                have HO370 := n0_
                have HO375 := n1_
                have BK365 := n2_
                have BK366 := n3_
                have BK372 := n4_
                have BK377 := n5_
                have HB := n6_
                clear n0_ n1_ n2_ n3_ n4_ n5_ n6_
                (try clear hb)
                (try clear hb2)
                (try clear hk)
                (try clear hi)
                refine hK.out _ _ ((blk_cell BK365.out 0).trans rfl) (fun hHeld => ?_)
                clear hK K
                refine norm_ (a' := ?_) ?_ ?_
                rotate_left
                · show Act.put _ (some 51) _ = _
                  simp only [Act.put,List.setIfInBounds_toArray,List.set_cons_zero,List.set_cons_succ,i64_w,i32_w]
                  rfl
                refine pure_ (i := 6) (N := some 52) (v := ?_) (a' := ?_) #[true,true,true,true,true,true,true,false,false,false,false,false,false,false,false,false,false,false,false] rfl rfl (any_of HT_.out (by kernel_rfl)) (fun _ _ _ h => h) (Or.inl ⟨by rfl,?_⟩) ?_ ?_
                rotate_left
                · intro w'
                  go_simp
                  with_reducible rfl
                rotate_left
                · simp only [Act.put,List.setIfInBounds_toArray,List.set_cons_zero,List.set_cons_succ,i64_w,i32_w]
                  rfl
                refine pure_ (i := 7) (N := some 53) (v := ?_) (a' := ?_) #[true,true,true,true,true,true,true,true,false,false,false,false,false,false,false,false,false,false,false] rfl rfl (any_of HT_.out (by kernel_rfl)) (fun _ _ _ h => h) (Or.inl ⟨by rfl,?_⟩) ?_ ?_
                rotate_left
                · intro w'
                  go_simp
                  with_reducible rfl
                rotate_left
                · simp only [Act.put,List.setIfInBounds_toArray,List.set_cons_zero,List.set_cons_succ,i64_w,i32_w]
                  rfl
                refine pure_ (i := 8) (N := some 54) (v := ?_) (a' := ?_) #[true,true,true,true,true,true,true,true,true,false,false,false,false,false,false,false,false,false,false] rfl rfl (any_of HT_.out (by kernel_rfl)) (fun _ _ _ h => h) (Or.inl ⟨by rfl,?_⟩) ?_ ?_
                rotate_left
                · intro w'
                  go_simp
                  with_reducible rfl
                rotate_left
                · simp only [Act.put,List.setIfInBounds_toArray,List.set_cons_zero,List.set_cons_succ,i64_w,i32_w]
                  rfl
                refine pure_ (i := 9) (N := some 55) (v := ?_) (a' := ?_) #[true,true,true,true,true,true,true,true,true,true,false,false,false,false,false,false,false,false,false] rfl rfl (any_of HT_.out (by kernel_rfl)) (fun _ _ _ h => h) (Or.inl ⟨by rfl,?_⟩) ?_ ?_
                rotate_left
                · intro w'
                  go_simp
                  with_reducible rfl
                rotate_left
                · simp only [Act.put,List.setIfInBounds_toArray,List.set_cons_zero,List.set_cons_succ,i64_w,i32_w]
                  rfl
                refine pure_ (i := 10) (N := some 56) (v := ?_) (a' := ?_) #[true,true,true,true,true,true,true,true,true,true,true,false,false,false,false,false,false,false,false] rfl rfl (any_of HT_.out (by kernel_rfl)) (fun _ _ _ h => h) (Or.inl ⟨by rfl,?_⟩) ?_ ?_
                rotate_left
                · intro w'
                  go_simp
                  with_reducible rfl
                rotate_left
                · simp only [Act.put,List.setIfInBounds_toArray,List.set_cons_zero,List.set_cons_succ,i64_w,i32_w]
                  rfl
                refine pure_ (i := 11) (N := some 57) (v := ?_) (a' := ?_) #[true,true,true,true,true,true,true,true,true,true,true,true,false,false,false,false,false,false,false] rfl rfl (any_of HT_.out (by kernel_rfl)) (fun _ _ _ h => h) (Or.inl ⟨by rfl,?_⟩) ?_ ?_
                rotate_left
                · intro w'
                  go_simp
                  with_reducible rfl
                rotate_left
                · simp only [Act.put,List.setIfInBounds_toArray,List.set_cons_zero,List.set_cons_succ,i64_w,i32_w]
                  rfl
                refine pure_ (i := 12) (N := some 58) (v := ?_) (a' := ?_) #[true,true,true,true,true,true,true,true,true,true,true,true,true,false,false,false,false,false,false] rfl rfl (any_of HT_.out (by kernel_rfl)) (fun _ _ _ h => h) (Or.inl ⟨by rfl,?_⟩) ?_ ?_
                rotate_left
                · intro w'
                  go_simp
                  with_reducible rfl
                rotate_left
                · simp only [Act.put,List.setIfInBounds_toArray,List.set_cons_zero,List.set_cons_succ,i64_w,i32_w]
                  rfl
                refine pure_ (i := 13) (N := some 59) (v := ?_) (a' := ?_) #[true,true,true,true,true,true,true,true,true,true,true,true,true,true,false,false,false,false,false] rfl rfl (any_of HT_.out (by kernel_rfl)) (fun _ _ _ h => h) (Or.inl ⟨by rfl,?_⟩) ?_ ?_
                rotate_left
                · intro w'
                  go_simp
                  with_reducible rfl
                rotate_left
                · simp only [Act.put,List.setIfInBounds_toArray,List.set_cons_zero,List.set_cons_succ,i64_w,i32_w]
                  rfl
                refine pure_ (i := 14) (N := some 60) (v := undef) (a' := ?_) #[true,true,true,true,true,true,true,true,true,true,true,true,true,true,true,false,false,false,false] rfl rfl (any_of HT_.out (by kernel_rfl)) (fun _ _ _ h => h) (Or.inr ⟨by rfl,rfl⟩) ?_ ?_
                rotate_left
                · simp only [Act.put,List.setIfInBounds_toArray,List.set_cons_zero,List.set_cons_succ,i64_w,i32_w]
                  rfl
                refine pure_ (i := 15) (N := some 61) (v := undef) (a' := ?_) #[true,true,true,true,true,true,true,true,true,true,true,true,true,true,true,true,false,false,false] rfl rfl (any_of HT_.out (by kernel_rfl)) (fun _ _ _ h => h) (Or.inr ⟨by rfl,rfl⟩) ?_ ?_
                rotate_left
                · simp only [Act.put,List.setIfInBounds_toArray,List.set_cons_zero,List.set_cons_succ,i64_w,i32_w]
                  rfl
                refine pure_ (i := 16) (N := some 62) (v := undef) (a' := ?_) #[true,true,true,true,true,true,true,true,true,true,true,true,true,true,true,true,true,false,false] rfl rfl (any_of HT_.out (by kernel_rfl)) (fun _ _ _ h => h) (Or.inr ⟨by rfl,rfl⟩) ?_ ?_
                rotate_left
                · simp only [Act.put,List.setIfInBounds_toArray,List.set_cons_zero,List.set_cons_succ,i64_w,i32_w]
                  rfl
                refine pure_ (i := 17) (N := some 63) (v := ?_) (a' := ?_) #[true,true,true,true,true,true,true,true,true,true,true,true,true,true,true,true,true,true,false] rfl rfl (any_of HT_.out (by kernel_rfl)) (fun _ _ _ h => h) (Or.inl ⟨by rfl,?_⟩) ?_ ?_
                rotate_left
                · intro w'
                  go_simp
                  with_reducible rfl
                rotate_left
                · simp only [Act.put,List.setIfInBounds_toArray,List.set_cons_zero,List.set_cons_succ,i64_w,i32_w]
                  rfl
                refine pure_ (i := 18) (N := some 11) (v := ?_) (a' := ?_) #[true,true,true,true,true,true,true,true,true,true,true,true,true,true,true,true,true,true,true] rfl rfl (any_of HT_.out (by kernel_rfl)) (fun _ _ _ h => h) (Or.inl ⟨by rfl,?_⟩) ?_ ?_
                rotate_left
                · intro w'
                  go_simp
                  with_reducible rfl
                rotate_left
                · simp only [Act.put,List.setIfInBounds_toArray,List.set_cons_zero,List.set_cons_succ,i64_w,i32_w]
                  rfl
                refine done_ (done_of HT_.out (by kernel_rfl)) ?_
                try go_wp2
                go_meet
                case rel => exact ⟨_,(false),(by first | rfl | (simp;done) | (simp [*];done)),H',⟨by have := HJ6.out;first | omega | exact Nat.le_refl _⟩,⟨by (with_reducible repeat (first | apply Kd.R_alloc | apply Kd.R_drewN | apply Kd.R_drew));exact HO370.out⟩,⟨by (with_reducible repeat (first | apply Kd.R_alloc | apply Kd.R_drewN | apply Kd.R_drew));exact HO375.out⟩,⟨by (with_reducible repeat (first | refine blk_drewN ?_ _ | refine blk_drew ?_ | refine blk_alloc ?_ _));exact BK365.out⟩,⟨by (with_reducible repeat (first | refine blk_drewN ?_ _ | refine blk_drew ?_ | refine blk_alloc ?_ _));exact BK366.out⟩,⟨by (with_reducible repeat (first | refine blk_drewN ?_ _ | refine blk_drew ?_ | refine blk_alloc ?_ _));exact BK372.out⟩,⟨by (with_reducible repeat (first | refine blk_drewN ?_ _ | refine blk_drew ?_ | refine blk_alloc ?_ _));exact BK377.out⟩,⟨by repeat (first | (with_reducible first | exact HB.out | apply below_alloc | apply pw_below_drewN | apply below_drew1 | refine below_set ?_ GE365.out | refine below_set ?_ GE366.out | refine below_set ?_ GE372.out | refine below_set ?_ GE377.out) | exact HB.out)⟩⟩
            · rw [if_neg c44] at H
              have c44b0 : (t378 == t379) = false := by simpa using c44
              (try (have c44b1 : decide (t378 = t379) = false := by simpa using c44))
              (try (have c44b2 : (t378 == t379) = false := by simpa using c44))
              (try (have c44b3 : ¬ (t378 = t379) := by simpa using c44))
              clear c44
              (first | rw [c44b0] | (simp only [i64_w,i32_w];rw [c44b0]) | skip)
              have H' := Aside0.mk H
              clear H
              try go_wp2
              have n0_ : Aside0 (Kd.R k26 26 (w35.setCell ⟨gb377,0,none⟩ (.slice Ao36 t373.length co36)) w.heap.size (fun k_ => some k_ ≠ (.slice Ao36 t373.length co36 : Value).ownBlock ∧ k_ ≠ gb366) (.slice Ao28 t368.length co28) t368) := ⟨by (with_reducible repeat (first | apply Kd.R_alloc | apply Kd.R_drewN | apply Kd.R_drew));exact Kd.R_mono (Kd.R_far (p := ⟨gb377,0,none⟩) (Kd.R_types HO370.out BK377.out (by decide)) (fun _ hk => hk.2) (.slice Ao36 t373.length co36)) (fun _ hk => ⟨hk.1.2,hk.1.1.2⟩)⟩
              have n1_ : Aside0 (Kd.R k26 26 (w35.setCell ⟨gb377,0,none⟩ (.slice Ao36 t373.length co36)) w.heap.size (fun k_ => some k_ ≠ (.slice Ao28 t368.length co28 : Value).ownBlock ∧ k_ ≠ gb366) (.slice Ao36 t373.length co36) t373) := ⟨by (with_reducible repeat (first | apply Kd.R_alloc | apply Kd.R_drewN | apply Kd.R_drew));exact Kd.R_mono (Kd.R_far (p := ⟨gb377,0,none⟩) (Kd.R_types HO375.out BK377.out (by decide)) (fun _ hk => hk.2) (.slice Ao36 t373.length co36)) (fun _ hk => ⟨hk.1.1.2,hk.1.2⟩)⟩
              have n2_ : Aside0 ((w35.setCell ⟨gb377,0,none⟩ (.slice Ao36 t373.length co36)).heap[gb365]? = some (.cells #[.slice A0_0 l0_0.length c0_0] 24 (0,0))) := ⟨by (with_reducible repeat (first | refine blk_drewN ?_ _ | refine blk_drew ?_ | refine blk_alloc ?_ _));refine blk_far ?_ NB365_377.out _;(with_reducible repeat (first | refine blk_drewN ?_ _ | refine blk_drew ?_ | refine blk_alloc ?_ _));exact BK365.out⟩
              have n3_ : Aside0 ((w35.setCell ⟨gb377,0,none⟩ (.slice Ao36 t373.length co36)).heap[gb366]? = some (.cells #[.int .i64 a1_0,.string a1_1,.string a1_2,.int .i64 a1_3,.int .i64 a1_4,.int .i64 a1_5] 26 (0,0))) := ⟨by (with_reducible repeat (first | refine blk_drewN ?_ _ | refine blk_drew ?_ | refine blk_alloc ?_ _));refine blk_far ?_ NB366_377.out _;(with_reducible repeat (first | refine blk_drewN ?_ _ | refine blk_drew ?_ | refine blk_alloc ?_ _));exact BK366.out⟩
              have n4_ : Aside0 ((w35.setCell ⟨gb377,0,none⟩ (.slice Ao36 t373.length co36)).heap[gb372]? = some (.cells #[.slice Ao28 t368.length co28] 24 (0,0))) := ⟨by (with_reducible repeat (first | refine blk_drewN ?_ _ | refine blk_drew ?_ | refine blk_alloc ?_ _));refine blk_far ?_ NB372_377.out _;(with_reducible repeat (first | refine blk_drewN ?_ _ | refine blk_drew ?_ | refine blk_alloc ?_ _));exact BK372.out⟩
              have n5_ : Aside0 ((w35.setCell ⟨gb377,0,none⟩ (.slice Ao36 t373.length co36)).heap[gb377]? = some (.cells #[.slice Ao36 t373.length co36] 24 (0,0))) := ⟨by (with_reducible repeat (first | refine blk_drewN ?_ _ | refine blk_drew ?_ | refine blk_alloc ?_ _));refine blk_put (cs := #[.slice none 0 0]) ?_ 0 _ rfl;(with_reducible repeat (first | refine blk_drewN ?_ _ | refine blk_drew ?_ | refine blk_alloc ?_ _));exact BK377.out⟩
              have n6_ : Aside0 (Below w.heap.size w (w35.setCell ⟨gb377,0,none⟩ (.slice Ao36 t373.length co36))) := ⟨by repeat (first | (with_reducible first | exact HB.out | apply below_alloc | apply pw_below_drewN | apply below_drew1 | refine below_set ?_ GE365.out | refine below_set ?_ GE366.out | refine below_set ?_ GE372.out | refine below_set ?_ GE377.out) | exact HB.out)⟩
              (try clear HO370)
              (try clear HO375)
              (try clear BK365)
              (try clear BK366)
              (try clear BK372)
              (try clear BK377)
              (try clear HB)
              generalize (w35.setCell ⟨gb377,0,none⟩ (.slice Ao36 t373.length co36)) = w56 at n0_ n1_ n2_ n3_ n4_ n5_ n6_ ⊢
              have HO370 := n0_
              have HO375 := n1_
              have BK365 := n2_
              have BK366 := n3_
              have BK372 := n4_
              have BK377 := n5_
              have HB := n6_
              clear n0_ n1_ n2_ n3_ n4_ n5_ n6_
              have n0_ := Aside0.mk (Kd.R_drew HO370.out)
              have n1_ := Aside0.mk (Kd.R_drew HO375.out)
              have n2_ := Aside0.mk (blk_drew BK365.out)
              have n3_ := Aside0.mk (blk_drew BK366.out)
              have n4_ := Aside0.mk (blk_drew BK372.out)
              have n5_ := Aside0.mk (blk_drew BK377.out)
              have n6_ := Aside0.mk (below_drew1 HB.out)
              clear HO370;clear HO375;clear BK365;clear BK366;clear BK372;clear BK377;clear HB
              have HO370 := n0_
              have HO375 := n1_
              have BK365 := n2_
              have BK366 := n3_
              have BK372 := n4_
              have BK377 := n5_
              have HB := n6_
              clear n0_ n1_ n2_ n3_ n4_ n5_ n6_
              refine start_ (n := 19) (S := fun w' => w'.cell? ⟨gb365,0,none⟩ = some (.slice A0_0 l0_0.length c0_0)) (ds := []) #[false,false,false,false,false,false,false,false,false,false,false,false,false,false,false,false,false,false,false] (by kernel_rfl) rfl rfl ((blk_cell BK365.out 0).trans rfl) (fun hHeld => ?_);refine with_tabW wageofficelaw39_LedgerMatchesReference.tab6 wageofficelaw39_LedgerMatchesReference.bits6 (fun HT_ HW_ => ?_)
              generalize w56.drew = w57 at HO370 HO375 BK365 BK366 BK372 BK377 HB hHeld ⊢
              refine pure_ (i := 0) (N := some 46) (v := ?_) (a' := ?_) #[true,false,false,false,false,false,false,false,false,false,false,false,false,false,false,false,false,false,false] rfl rfl (any_of HT_.out (by kernel_rfl)) (fun _ _ _ h => h) (Or.inl ⟨by rfl,?_⟩) ?_ ?_
              rotate_left
              · intro w'
                go_simp
                with_reducible rfl
              rotate_left
              · simp only [Act.put,List.setIfInBounds_toArray,List.set_cons_zero,List.set_cons_succ,i64_w,i32_w]
                rfl
              refine pure_ (i := 1) (N := some 47) (v := ?_) (a' := ?_) #[true,true,false,false,false,false,false,false,false,false,false,false,false,false,false,false,false,false,false] rfl rfl (any_of HT_.out (by kernel_rfl)) (fun _ _ _ h => h) (Or.inl ⟨by rfl,?_⟩) ?_ ?_
              rotate_left
              · intro w'
                go_simp
                with_reducible rfl
              rotate_left
              · simp only [Act.put,List.setIfInBounds_toArray,List.set_cons_zero,List.set_cons_succ,i64_w,i32_w]
                rfl
              refine take_ (i := 2) (N := some 48) (v := ?_) (a' := ?_) #[true,true,true,false,false,false,false,false,false,false,false,false,false,false,false,false,false,false,false] rfl rfl (take_ofW HT_.out HW_.out (by kernel_rfl)) (fun _ _ _ h => h) (Or.inl ⟨by rfl,?_⟩) hHeld ?_ ?_
              rotate_left
              · intro w' s0
                go_simp
                with_reducible rfl
              rotate_left
              · simp only [Act.put,List.setIfInBounds_toArray,List.set_cons_zero,List.set_cons_succ,i64_w,i32_w]
                rfl
              refine take_ (i := 4) (N := some 50) (v := ?_) (a' := ?_) #[true,true,true,false,true,false,false,false,false,false,false,false,false,false,false,false,false,false,false] rfl rfl (take_ofW HT_.out HW_.out (by kernel_rfl)) (fun _ _ _ h => h) (Or.inl ⟨by rfl,?_⟩) hHeld ?_ ?_
              rotate_left
              · intro w' s0
                go_simp
                with_reducible rfl
              rotate_left
              · simp only [Act.put,List.setIfInBounds_toArray,List.set_cons_zero,List.set_cons_succ,i64_w,i32_w]
                rfl
              refine one_ (i := 3) (N := some 49) #[true,true,true,true,true,false,false,false,false,false,false,false,false,false,false,false,false,false,false] rfl rfl (one_of HT_.out (by kernel_rfl)) (by decide) (fun K hK => ?_)
              refine goes_ Try.func21 (by kernel_rfl) rfl #[.agg #[.slice A0_0 l0_0.length c0_0]] (by rfl) rfl rfl (by (try simp only [List.map_toArray,List.map_cons,List.map_nil]);first | done | rfl | (simp only [List.length_drop,List.length_take];rfl)) ?_
              with_reducible refine (ledger_Valid.calls _ _ l0_0 t378 _ ?side1 ?side2 A42.out).mono ?_
              (case side1 => repeat (first | exact (Kd.C_below HR0_0.out HB.out) | (with_reducible refine Kd.C_alloc ?_ _) | (with_reducible refine Kd.C_drewN ?_ _) | (with_reducible refine Kd.C_drew ?_)))
              (case side2 => exact HC0_0.out)
              rintro e w58 ⟨rfl,hb⟩
              refine ⟨_,rfl,?_⟩
              have n0_ := Aside0.mk (Kd.R_below (by (with_reducible repeat (first | apply Kd.R_alloc | apply Kd.R_drewN | apply Kd.R_drew));exact HO370.out) hb)
              have n1_ := Aside0.mk (Kd.R_below (by (with_reducible repeat (first | apply Kd.R_alloc | apply Kd.R_drewN | apply Kd.R_drew));exact HO375.out) hb)
              have n2_ := Aside0.mk (blk_below (g := gb365) (o := .cells #[.slice A0_0 l0_0.length c0_0] 24 (0,0)) (by (with_reducible repeat (first | refine blk_drewN ?_ _ | refine blk_drew ?_ | refine blk_alloc ?_ _));exact BK365.out) hb)
              have n3_ := Aside0.mk (blk_below (g := gb366) (o := .cells #[.int .i64 a1_0,.string a1_1,.string a1_2,.int .i64 a1_3,.int .i64 a1_4,.int .i64 a1_5] 26 (0,0)) (by (with_reducible repeat (first | refine blk_drewN ?_ _ | refine blk_drew ?_ | refine blk_alloc ?_ _));exact BK366.out) hb)
              have n4_ := Aside0.mk (blk_below (g := gb372) (o := .cells #[.slice Ao28 t368.length co28] 24 (0,0)) (by (with_reducible repeat (first | refine blk_drewN ?_ _ | refine blk_drew ?_ | refine blk_alloc ?_ _));exact BK372.out) hb)
              have n5_ := Aside0.mk (blk_below (g := gb377) (o := .cells #[.slice Ao36 t373.length co36] 24 (0,0)) (by (with_reducible repeat (first | refine blk_drewN ?_ _ | refine blk_drew ?_ | refine blk_alloc ?_ _));exact BK377.out) hb)
              have n6_ := Aside0.mk (below_step (by repeat (first | (with_reducible first | exact HB.out | apply below_alloc | apply pw_below_drewN | apply below_drew1 | refine below_set ?_ GE365.out | refine below_set ?_ GE366.out | refine below_set ?_ GE372.out | refine below_set ?_ GE377.out) | exact HB.out)) hb)
              clear HO370;clear HO375;clear BK365;clear BK366;clear BK372;clear BK377;clear HB
              have HO370 := n0_
              have HO375 := n1_
              have BK365 := n2_
              have BK366 := n3_
              have BK372 := n4_
              have BK377 := n5_
              have HB := n6_
              clear n0_ n1_ n2_ n3_ n4_ n5_ n6_
              (try clear hb)
              (try clear hb2)
              (try clear hk)
              (try clear hi)
              refine hK.out _ _ ((blk_cell BK365.out 0).trans rfl) (fun hHeld => ?_)
              clear hK K
              refine norm_ (a' := ?_) ?_ ?_
              rotate_left
              · show Act.put _ (some 49) _ = _
                simp only [Act.put,List.setIfInBounds_toArray,List.set_cons_zero,List.set_cons_succ,i64_w,i32_w]
                rfl
              refine one_ (i := 5) (N := some 51) #[true,true,true,true,true,true,false,false,false,false,false,false,false,false,false,false,false,false,false] rfl rfl (one_of HT_.out (by kernel_rfl)) (by decide) (fun K hK => ?_)
              refine goes_ Try.func22 (by kernel_rfl) rfl #[.agg #[.slice A0_0 l0_0.length c0_0]] (by rfl) rfl rfl (by (try simp only [List.map_toArray,List.map_cons,List.map_nil]);first | done | rfl | (simp only [List.length_drop,List.length_take];rfl)) ?_
              with_reducible refine (wageofficeref39_Valid.calls kj6 _ _ l0_0 t379 _ ?side1 ?side2 A43.out).mono ?_
              (case side1 => repeat (first | exact (Kd.C_below HR0_0.out HB.out) | (with_reducible refine Kd.C_alloc ?_ _) | (with_reducible refine Kd.C_drewN ?_ _) | (with_reducible refine Kd.C_drew ?_)))
              (case side2 => exact HC0_0.out)
              rintro e w59 ⟨rfl,hb⟩
              refine ⟨_,rfl,?_⟩
              have n0_ := Aside0.mk (Kd.R_below (by (with_reducible repeat (first | apply Kd.R_alloc | apply Kd.R_drewN | apply Kd.R_drew));exact HO370.out) hb)
              have n1_ := Aside0.mk (Kd.R_below (by (with_reducible repeat (first | apply Kd.R_alloc | apply Kd.R_drewN | apply Kd.R_drew));exact HO375.out) hb)
              have n2_ := Aside0.mk (blk_below (g := gb365) (o := .cells #[.slice A0_0 l0_0.length c0_0] 24 (0,0)) (by (with_reducible repeat (first | refine blk_drewN ?_ _ | refine blk_drew ?_ | refine blk_alloc ?_ _));exact BK365.out) hb)
              have n3_ := Aside0.mk (blk_below (g := gb366) (o := .cells #[.int .i64 a1_0,.string a1_1,.string a1_2,.int .i64 a1_3,.int .i64 a1_4,.int .i64 a1_5] 26 (0,0)) (by (with_reducible repeat (first | refine blk_drewN ?_ _ | refine blk_drew ?_ | refine blk_alloc ?_ _));exact BK366.out) hb)
              have n4_ := Aside0.mk (blk_below (g := gb372) (o := .cells #[.slice Ao28 t368.length co28] 24 (0,0)) (by (with_reducible repeat (first | refine blk_drewN ?_ _ | refine blk_drew ?_ | refine blk_alloc ?_ _));exact BK372.out) hb)
              have n5_ := Aside0.mk (blk_below (g := gb377) (o := .cells #[.slice Ao36 t373.length co36] 24 (0,0)) (by (with_reducible repeat (first | refine blk_drewN ?_ _ | refine blk_drew ?_ | refine blk_alloc ?_ _));exact BK377.out) hb)
              have n6_ := Aside0.mk (below_step (by repeat (first | (with_reducible first | exact HB.out | apply below_alloc | apply pw_below_drewN | apply below_drew1 | refine below_set ?_ GE365.out | refine below_set ?_ GE366.out | refine below_set ?_ GE372.out | refine below_set ?_ GE377.out) | exact HB.out)) hb)
              clear HO370;clear HO375;clear BK365;clear BK366;clear BK372;clear BK377;clear HB
              have HO370 := n0_
              have HO375 := n1_
              have BK365 := n2_
              have BK366 := n3_
              have BK372 := n4_
              have BK377 := n5_
              have HB := n6_
              clear n0_ n1_ n2_ n3_ n4_ n5_ n6_
              (try clear hb)
              (try clear hb2)
              (try clear hk)
              (try clear hi)
              refine hK.out _ _ ((blk_cell BK365.out 0).trans rfl) (fun hHeld => ?_)
              clear hK K
              refine norm_ (a' := ?_) ?_ ?_
              rotate_left
              · show Act.put _ (some 51) _ = _
                simp only [Act.put,List.setIfInBounds_toArray,List.set_cons_zero,List.set_cons_succ,i64_w,i32_w]
                rfl
              refine pure_ (i := 6) (N := some 52) (v := ?_) (a' := ?_) #[true,true,true,true,true,true,true,false,false,false,false,false,false,false,false,false,false,false,false] rfl rfl (any_of HT_.out (by kernel_rfl)) (fun _ _ _ h => h) (Or.inl ⟨by rfl,?_⟩) ?_ ?_
              rotate_left
              · intro w'
                go_simp
                with_reducible rfl
              rotate_left
              · simp only [Act.put,List.setIfInBounds_toArray,List.set_cons_zero,List.set_cons_succ,i64_w,i32_w]
                rfl
              refine pure_ (i := 7) (N := some 53) (v := ?_) (a' := ?_) #[true,true,true,true,true,true,true,true,false,false,false,false,false,false,false,false,false,false,false] rfl rfl (any_of HT_.out (by kernel_rfl)) (fun _ _ _ h => h) (Or.inl ⟨by rfl,?_⟩) ?_ ?_
              rotate_left
              · intro w'
                go_simp
                with_reducible rfl
              rotate_left
              · simp only [Act.put,List.setIfInBounds_toArray,List.set_cons_zero,List.set_cons_succ,i64_w,i32_w]
                rfl
              refine pure_ (i := 8) (N := some 54) (v := ?_) (a' := ?_) #[true,true,true,true,true,true,true,true,true,false,false,false,false,false,false,false,false,false,false] rfl rfl (any_of HT_.out (by kernel_rfl)) (fun _ _ _ h => h) (Or.inl ⟨by rfl,?_⟩) ?_ ?_
              rotate_left
              · intro w'
                go_simp
                with_reducible rfl
              rotate_left
              · simp only [Act.put,List.setIfInBounds_toArray,List.set_cons_zero,List.set_cons_succ,i64_w,i32_w]
                rfl
              refine pure_ (i := 9) (N := some 55) (v := undef) (a' := ?_) #[true,true,true,true,true,true,true,true,true,true,false,false,false,false,false,false,false,false,false] rfl rfl (any_of HT_.out (by kernel_rfl)) (fun _ _ _ h => h) (Or.inr ⟨by rfl,rfl⟩) ?_ ?_
              rotate_left
              · simp only [Act.put,List.setIfInBounds_toArray,List.set_cons_zero,List.set_cons_succ,i64_w,i32_w]
                rfl
              refine pure_ (i := 10) (N := some 56) (v := undef) (a' := ?_) #[true,true,true,true,true,true,true,true,true,true,true,false,false,false,false,false,false,false,false] rfl rfl (any_of HT_.out (by kernel_rfl)) (fun _ _ _ h => h) (Or.inr ⟨by rfl,rfl⟩) ?_ ?_
              rotate_left
              · simp only [Act.put,List.setIfInBounds_toArray,List.set_cons_zero,List.set_cons_succ,i64_w,i32_w]
                rfl
              refine pure_ (i := 11) (N := some 57) (v := undef) (a' := ?_) #[true,true,true,true,true,true,true,true,true,true,true,true,false,false,false,false,false,false,false] rfl rfl (any_of HT_.out (by kernel_rfl)) (fun _ _ _ h => h) (Or.inr ⟨by rfl,rfl⟩) ?_ ?_
              rotate_left
              · simp only [Act.put,List.setIfInBounds_toArray,List.set_cons_zero,List.set_cons_succ,i64_w,i32_w]
                rfl
              refine pure_ (i := 12) (N := some 58) (v := ?_) (a' := ?_) #[true,true,true,true,true,true,true,true,true,true,true,true,true,false,false,false,false,false,false] rfl rfl (any_of HT_.out (by kernel_rfl)) (fun _ _ _ h => h) (Or.inl ⟨by rfl,?_⟩) ?_ ?_
              rotate_left
              · intro w'
                go_simp
                with_reducible rfl
              rotate_left
              · simp only [Act.put,List.setIfInBounds_toArray,List.set_cons_zero,List.set_cons_succ,i64_w,i32_w]
                rfl
              refine pure_ (i := 13) (N := some 59) (v := ?_) (a' := ?_) #[true,true,true,true,true,true,true,true,true,true,true,true,true,true,false,false,false,false,false] rfl rfl (any_of HT_.out (by kernel_rfl)) (fun _ _ _ h => h) (Or.inl ⟨by rfl,?_⟩) ?_ ?_
              rotate_left
              · intro w'
                go_simp
                with_reducible rfl
              rotate_left
              · simp only [Act.put,List.setIfInBounds_toArray,List.set_cons_zero,List.set_cons_succ,i64_w,i32_w]
                rfl
              refine pure_ (i := 14) (N := some 60) (v := undef) (a' := ?_) #[true,true,true,true,true,true,true,true,true,true,true,true,true,true,true,false,false,false,false] rfl rfl (any_of HT_.out (by kernel_rfl)) (fun _ _ _ h => h) (Or.inr ⟨by rfl,rfl⟩) ?_ ?_
              rotate_left
              · simp only [Act.put,List.setIfInBounds_toArray,List.set_cons_zero,List.set_cons_succ,i64_w,i32_w]
                rfl
              refine pure_ (i := 15) (N := some 61) (v := undef) (a' := ?_) #[true,true,true,true,true,true,true,true,true,true,true,true,true,true,true,true,false,false,false] rfl rfl (any_of HT_.out (by kernel_rfl)) (fun _ _ _ h => h) (Or.inr ⟨by rfl,rfl⟩) ?_ ?_
              rotate_left
              · simp only [Act.put,List.setIfInBounds_toArray,List.set_cons_zero,List.set_cons_succ,i64_w,i32_w]
                rfl
              refine pure_ (i := 16) (N := some 62) (v := undef) (a' := ?_) #[true,true,true,true,true,true,true,true,true,true,true,true,true,true,true,true,true,false,false] rfl rfl (any_of HT_.out (by kernel_rfl)) (fun _ _ _ h => h) (Or.inr ⟨by rfl,rfl⟩) ?_ ?_
              rotate_left
              · simp only [Act.put,List.setIfInBounds_toArray,List.set_cons_zero,List.set_cons_succ,i64_w,i32_w]
                rfl
              refine pure_ (i := 17) (N := some 63) (v := ?_) (a' := ?_) #[true,true,true,true,true,true,true,true,true,true,true,true,true,true,true,true,true,true,false] rfl rfl (any_of HT_.out (by kernel_rfl)) (fun _ _ _ h => h) (Or.inl ⟨by rfl,?_⟩) ?_ ?_
              rotate_left
              · intro w'
                go_simp
                with_reducible rfl
              rotate_left
              · simp only [Act.put,List.setIfInBounds_toArray,List.set_cons_zero,List.set_cons_succ,i64_w,i32_w]
                rfl
              refine pure_ (i := 18) (N := some 11) (v := ?_) (a' := ?_) #[true,true,true,true,true,true,true,true,true,true,true,true,true,true,true,true,true,true,true] rfl rfl (any_of HT_.out (by kernel_rfl)) (fun _ _ _ h => h) (Or.inl ⟨by rfl,?_⟩) ?_ ?_
              rotate_left
              · intro w'
                go_simp
                with_reducible rfl
              rotate_left
              · simp only [Act.put,List.setIfInBounds_toArray,List.set_cons_zero,List.set_cons_succ,i64_w,i32_w]
                rfl
              refine done_ (done_of HT_.out (by kernel_rfl)) ?_
              try go_wp2
              go_meet
              case rel => exact ⟨_,(false),(by first | rfl | (simp;done) | (simp [*];done)),H',⟨by have := HJ6.out;first | omega | exact Nat.le_refl _⟩,⟨by (with_reducible repeat (first | apply Kd.R_alloc | apply Kd.R_drewN | apply Kd.R_drew));exact HO370.out⟩,⟨by (with_reducible repeat (first | apply Kd.R_alloc | apply Kd.R_drewN | apply Kd.R_drew));exact HO375.out⟩,⟨by (with_reducible repeat (first | refine blk_drewN ?_ _ | refine blk_drew ?_ | refine blk_alloc ?_ _));exact BK365.out⟩,⟨by (with_reducible repeat (first | refine blk_drewN ?_ _ | refine blk_drew ?_ | refine blk_alloc ?_ _));exact BK366.out⟩,⟨by (with_reducible repeat (first | refine blk_drewN ?_ _ | refine blk_drew ?_ | refine blk_alloc ?_ _));exact BK372.out⟩,⟨by (with_reducible repeat (first | refine blk_drewN ?_ _ | refine blk_drew ?_ | refine blk_alloc ?_ _));exact BK377.out⟩,⟨by repeat (first | (with_reducible first | exact HB.out | apply below_alloc | apply pw_below_drewN | apply below_drew1 | refine below_set ?_ GE365.out | refine below_set ?_ GE366.out | refine below_set ?_ GE372.out | refine below_set ?_ GE377.out) | exact HB.out)⟩⟩
          · replace c41 := Bool.eq_false_iff.mpr c41
            subst c41
            have H1 : (wageofficelaw39_LedgerMatchesReference.j1 kj6 a2 a3 a4 false l0_0) = some r := by rw [if_neg (show ¬ (false = true) by decide)] at H;exact H
            clear H
            have H := H1
            clear H1
            have H' := Aside0.mk H
            clear H
            try go_wp2
            have n0_ : Aside0 (Kd.R k26 26 (w35.setCell ⟨gb377,0,none⟩ (.slice Ao36 t373.length co36)) w.heap.size (fun k_ => some k_ ≠ (.slice Ao36 t373.length co36 : Value).ownBlock ∧ k_ ≠ gb366) (.slice Ao28 t368.length co28) t368) := ⟨by (with_reducible repeat (first | apply Kd.R_alloc | apply Kd.R_drewN | apply Kd.R_drew));exact Kd.R_mono (Kd.R_far (p := ⟨gb377,0,none⟩) (Kd.R_types HO370.out BK377.out (by decide)) (fun _ hk => hk.2) (.slice Ao36 t373.length co36)) (fun _ hk => ⟨hk.1.2,hk.1.1.2⟩)⟩
            have n1_ : Aside0 (Kd.R k26 26 (w35.setCell ⟨gb377,0,none⟩ (.slice Ao36 t373.length co36)) w.heap.size (fun k_ => some k_ ≠ (.slice Ao28 t368.length co28 : Value).ownBlock ∧ k_ ≠ gb366) (.slice Ao36 t373.length co36) t373) := ⟨by (with_reducible repeat (first | apply Kd.R_alloc | apply Kd.R_drewN | apply Kd.R_drew));exact Kd.R_mono (Kd.R_far (p := ⟨gb377,0,none⟩) (Kd.R_types HO375.out BK377.out (by decide)) (fun _ hk => hk.2) (.slice Ao36 t373.length co36)) (fun _ hk => ⟨hk.1.1.2,hk.1.2⟩)⟩
            have n2_ : Aside0 ((w35.setCell ⟨gb377,0,none⟩ (.slice Ao36 t373.length co36)).heap[gb365]? = some (.cells #[.slice A0_0 l0_0.length c0_0] 24 (0,0))) := ⟨by (with_reducible repeat (first | refine blk_drewN ?_ _ | refine blk_drew ?_ | refine blk_alloc ?_ _));refine blk_far ?_ NB365_377.out _;(with_reducible repeat (first | refine blk_drewN ?_ _ | refine blk_drew ?_ | refine blk_alloc ?_ _));exact BK365.out⟩
            have n3_ : Aside0 ((w35.setCell ⟨gb377,0,none⟩ (.slice Ao36 t373.length co36)).heap[gb366]? = some (.cells #[.int .i64 a1_0,.string a1_1,.string a1_2,.int .i64 a1_3,.int .i64 a1_4,.int .i64 a1_5] 26 (0,0))) := ⟨by (with_reducible repeat (first | refine blk_drewN ?_ _ | refine blk_drew ?_ | refine blk_alloc ?_ _));refine blk_far ?_ NB366_377.out _;(with_reducible repeat (first | refine blk_drewN ?_ _ | refine blk_drew ?_ | refine blk_alloc ?_ _));exact BK366.out⟩
            have n4_ : Aside0 ((w35.setCell ⟨gb377,0,none⟩ (.slice Ao36 t373.length co36)).heap[gb372]? = some (.cells #[.slice Ao28 t368.length co28] 24 (0,0))) := ⟨by (with_reducible repeat (first | refine blk_drewN ?_ _ | refine blk_drew ?_ | refine blk_alloc ?_ _));refine blk_far ?_ NB372_377.out _;(with_reducible repeat (first | refine blk_drewN ?_ _ | refine blk_drew ?_ | refine blk_alloc ?_ _));exact BK372.out⟩
            have n5_ : Aside0 ((w35.setCell ⟨gb377,0,none⟩ (.slice Ao36 t373.length co36)).heap[gb377]? = some (.cells #[.slice Ao36 t373.length co36] 24 (0,0))) := ⟨by (with_reducible repeat (first | refine blk_drewN ?_ _ | refine blk_drew ?_ | refine blk_alloc ?_ _));refine blk_put (cs := #[.slice none 0 0]) ?_ 0 _ rfl;(with_reducible repeat (first | refine blk_drewN ?_ _ | refine blk_drew ?_ | refine blk_alloc ?_ _));exact BK377.out⟩
            have n6_ : Aside0 (Below w.heap.size w (w35.setCell ⟨gb377,0,none⟩ (.slice Ao36 t373.length co36))) := ⟨by repeat (first | (with_reducible first | exact HB.out | apply below_alloc | apply pw_below_drewN | apply below_drew1 | refine below_set ?_ GE365.out | refine below_set ?_ GE366.out | refine below_set ?_ GE372.out | refine below_set ?_ GE377.out) | exact HB.out)⟩
            (try clear HO370)
            (try clear HO375)
            (try clear BK365)
            (try clear BK366)
            (try clear BK372)
            (try clear BK377)
            (try clear HB)
            generalize (w35.setCell ⟨gb377,0,none⟩ (.slice Ao36 t373.length co36)) = w60 at n0_ n1_ n2_ n3_ n4_ n5_ n6_ ⊢
            have HO370 := n0_
            have HO375 := n1_
            have BK365 := n2_
            have BK366 := n3_
            have BK372 := n4_
            have BK377 := n5_
            have HB := n6_
            clear n0_ n1_ n2_ n3_ n4_ n5_ n6_
            have n0_ := Aside0.mk (Kd.R_drew HO370.out)
            have n1_ := Aside0.mk (Kd.R_drew HO375.out)
            have n2_ := Aside0.mk (blk_drew BK365.out)
            have n3_ := Aside0.mk (blk_drew BK366.out)
            have n4_ := Aside0.mk (blk_drew BK372.out)
            have n5_ := Aside0.mk (blk_drew BK377.out)
            have n6_ := Aside0.mk (below_drew1 HB.out)
            clear HO370;clear HO375;clear BK365;clear BK366;clear BK372;clear BK377;clear HB
            have HO370 := n0_
            have HO375 := n1_
            have BK365 := n2_
            have BK366 := n3_
            have BK372 := n4_
            have BK377 := n5_
            have HB := n6_
            clear n0_ n1_ n2_ n3_ n4_ n5_ n6_
            refine start_ (n := 19) (S := fun w' => True) (ds := []) #[false,false,false,false,false,false,false,false,false,false,false,false,false,false,false,false,false,false,false] (by kernel_rfl) rfl rfl trivial (fun hHeld => ?_);refine with_tabW wageofficelaw39_LedgerMatchesReference.tab6 wageofficelaw39_LedgerMatchesReference.bits6 (fun HT_ HW_ => ?_)
            generalize w60.drew = w61 at HO370 HO375 BK365 BK366 BK372 BK377 HB hHeld ⊢
            refine pure_ (i := 0) (N := some 46) (v := ?_) (a' := ?_) #[true,false,false,false,false,false,false,false,false,false,false,false,false,false,false,false,false,false,false] rfl rfl (any_of HT_.out (by kernel_rfl)) (fun _ _ _ h => h) (Or.inl ⟨by rfl,?_⟩) ?_ ?_
            rotate_left
            · intro w'
              go_simp
              with_reducible rfl
            rotate_left
            · simp only [Act.put,List.setIfInBounds_toArray,List.set_cons_zero,List.set_cons_succ,i64_w,i32_w]
              rfl
            refine pure_ (i := 1) (N := some 47) (v := ?_) (a' := ?_) #[true,true,false,false,false,false,false,false,false,false,false,false,false,false,false,false,false,false,false] rfl rfl (any_of HT_.out (by kernel_rfl)) (fun _ _ _ h => h) (Or.inl ⟨by rfl,?_⟩) ?_ ?_
            rotate_left
            · intro w'
              go_simp
              with_reducible rfl
            rotate_left
            · simp only [Act.put,List.setIfInBounds_toArray,List.set_cons_zero,List.set_cons_succ,i64_w,i32_w]
              rfl
            refine pure_ (i := 2) (N := some 48) (v := undef) (a' := ?_) #[true,true,true,false,false,false,false,false,false,false,false,false,false,false,false,false,false,false,false] rfl rfl (any_of HT_.out (by kernel_rfl)) (fun _ _ _ h => h) (Or.inr ⟨by rfl,rfl⟩) ?_ ?_
            rotate_left
            · simp only [Act.put,List.setIfInBounds_toArray,List.set_cons_zero,List.set_cons_succ,i64_w,i32_w]
              rfl
            refine pure_ (i := 3) (N := some 49) (v := undef) (a' := ?_) #[true,true,true,true,false,false,false,false,false,false,false,false,false,false,false,false,false,false,false] rfl rfl (any_of HT_.out (by kernel_rfl)) (fun _ _ _ h => h) (Or.inr ⟨by rfl,rfl⟩) ?_ ?_
            rotate_left
            · simp only [Act.put,List.setIfInBounds_toArray,List.set_cons_zero,List.set_cons_succ,i64_w,i32_w]
              rfl
            refine pure_ (i := 4) (N := some 50) (v := undef) (a' := ?_) #[true,true,true,true,true,false,false,false,false,false,false,false,false,false,false,false,false,false,false] rfl rfl (any_of HT_.out (by kernel_rfl)) (fun _ _ _ h => h) (Or.inr ⟨by rfl,rfl⟩) ?_ ?_
            rotate_left
            · simp only [Act.put,List.setIfInBounds_toArray,List.set_cons_zero,List.set_cons_succ,i64_w,i32_w]
              rfl
            refine pure_ (i := 5) (N := some 51) (v := undef) (a' := ?_) #[true,true,true,true,true,true,false,false,false,false,false,false,false,false,false,false,false,false,false] rfl rfl (any_of HT_.out (by kernel_rfl)) (fun _ _ _ h => h) (Or.inr ⟨by rfl,rfl⟩) ?_ ?_
            rotate_left
            · simp only [Act.put,List.setIfInBounds_toArray,List.set_cons_zero,List.set_cons_succ,i64_w,i32_w]
              rfl
            refine pure_ (i := 6) (N := some 52) (v := undef) (a' := ?_) #[true,true,true,true,true,true,true,false,false,false,false,false,false,false,false,false,false,false,false] rfl rfl (any_of HT_.out (by kernel_rfl)) (fun _ _ _ h => h) (Or.inr ⟨by rfl,rfl⟩) ?_ ?_
            rotate_left
            · simp only [Act.put,List.setIfInBounds_toArray,List.set_cons_zero,List.set_cons_succ,i64_w,i32_w]
              rfl
            refine pure_ (i := 7) (N := some 53) (v := ?_) (a' := ?_) #[true,true,true,true,true,true,true,true,false,false,false,false,false,false,false,false,false,false,false] rfl rfl (any_of HT_.out (by kernel_rfl)) (fun _ _ _ h => h) (Or.inl ⟨by rfl,?_⟩) ?_ ?_
            rotate_left
            · intro w'
              go_simp
              with_reducible rfl
            rotate_left
            · simp only [Act.put,List.setIfInBounds_toArray,List.set_cons_zero,List.set_cons_succ,i64_w,i32_w]
              rfl
            refine pure_ (i := 8) (N := some 54) (v := ?_) (a' := ?_) #[true,true,true,true,true,true,true,true,true,false,false,false,false,false,false,false,false,false,false] rfl rfl (any_of HT_.out (by kernel_rfl)) (fun _ _ _ h => h) (Or.inl ⟨by rfl,?_⟩) ?_ ?_
            rotate_left
            · intro w'
              go_simp
              with_reducible rfl
            rotate_left
            · simp only [Act.put,List.setIfInBounds_toArray,List.set_cons_zero,List.set_cons_succ,i64_w,i32_w]
              rfl
            refine pure_ (i := 9) (N := some 55) (v := undef) (a' := ?_) #[true,true,true,true,true,true,true,true,true,true,false,false,false,false,false,false,false,false,false] rfl rfl (any_of HT_.out (by kernel_rfl)) (fun _ _ _ h => h) (Or.inr ⟨by rfl,rfl⟩) ?_ ?_
            rotate_left
            · simp only [Act.put,List.setIfInBounds_toArray,List.set_cons_zero,List.set_cons_succ,i64_w,i32_w]
              rfl
            refine pure_ (i := 10) (N := some 56) (v := undef) (a' := ?_) #[true,true,true,true,true,true,true,true,true,true,true,false,false,false,false,false,false,false,false] rfl rfl (any_of HT_.out (by kernel_rfl)) (fun _ _ _ h => h) (Or.inr ⟨by rfl,rfl⟩) ?_ ?_
            rotate_left
            · simp only [Act.put,List.setIfInBounds_toArray,List.set_cons_zero,List.set_cons_succ,i64_w,i32_w]
              rfl
            refine pure_ (i := 11) (N := some 57) (v := undef) (a' := ?_) #[true,true,true,true,true,true,true,true,true,true,true,true,false,false,false,false,false,false,false] rfl rfl (any_of HT_.out (by kernel_rfl)) (fun _ _ _ h => h) (Or.inr ⟨by rfl,rfl⟩) ?_ ?_
            rotate_left
            · simp only [Act.put,List.setIfInBounds_toArray,List.set_cons_zero,List.set_cons_succ,i64_w,i32_w]
              rfl
            refine pure_ (i := 12) (N := some 58) (v := ?_) (a' := ?_) #[true,true,true,true,true,true,true,true,true,true,true,true,true,false,false,false,false,false,false] rfl rfl (any_of HT_.out (by kernel_rfl)) (fun _ _ _ h => h) (Or.inl ⟨by rfl,?_⟩) ?_ ?_
            rotate_left
            · intro w'
              go_simp
              with_reducible rfl
            rotate_left
            · simp only [Act.put,List.setIfInBounds_toArray,List.set_cons_zero,List.set_cons_succ,i64_w,i32_w]
              rfl
            refine pure_ (i := 13) (N := some 59) (v := ?_) (a' := ?_) #[true,true,true,true,true,true,true,true,true,true,true,true,true,true,false,false,false,false,false] rfl rfl (any_of HT_.out (by kernel_rfl)) (fun _ _ _ h => h) (Or.inl ⟨by rfl,?_⟩) ?_ ?_
            rotate_left
            · intro w'
              go_simp
              with_reducible rfl
            rotate_left
            · simp only [Act.put,List.setIfInBounds_toArray,List.set_cons_zero,List.set_cons_succ,i64_w,i32_w]
              rfl
            refine pure_ (i := 14) (N := some 60) (v := undef) (a' := ?_) #[true,true,true,true,true,true,true,true,true,true,true,true,true,true,true,false,false,false,false] rfl rfl (any_of HT_.out (by kernel_rfl)) (fun _ _ _ h => h) (Or.inr ⟨by rfl,rfl⟩) ?_ ?_
            rotate_left
            · simp only [Act.put,List.setIfInBounds_toArray,List.set_cons_zero,List.set_cons_succ,i64_w,i32_w]
              rfl
            refine pure_ (i := 15) (N := some 61) (v := undef) (a' := ?_) #[true,true,true,true,true,true,true,true,true,true,true,true,true,true,true,true,false,false,false] rfl rfl (any_of HT_.out (by kernel_rfl)) (fun _ _ _ h => h) (Or.inr ⟨by rfl,rfl⟩) ?_ ?_
            rotate_left
            · simp only [Act.put,List.setIfInBounds_toArray,List.set_cons_zero,List.set_cons_succ,i64_w,i32_w]
              rfl
            refine pure_ (i := 16) (N := some 62) (v := undef) (a' := ?_) #[true,true,true,true,true,true,true,true,true,true,true,true,true,true,true,true,true,false,false] rfl rfl (any_of HT_.out (by kernel_rfl)) (fun _ _ _ h => h) (Or.inr ⟨by rfl,rfl⟩) ?_ ?_
            rotate_left
            · simp only [Act.put,List.setIfInBounds_toArray,List.set_cons_zero,List.set_cons_succ,i64_w,i32_w]
              rfl
            refine pure_ (i := 17) (N := some 63) (v := ?_) (a' := ?_) #[true,true,true,true,true,true,true,true,true,true,true,true,true,true,true,true,true,true,false] rfl rfl (any_of HT_.out (by kernel_rfl)) (fun _ _ _ h => h) (Or.inl ⟨by rfl,?_⟩) ?_ ?_
            rotate_left
            · intro w'
              go_simp
              with_reducible rfl
            rotate_left
            · simp only [Act.put,List.setIfInBounds_toArray,List.set_cons_zero,List.set_cons_succ,i64_w,i32_w]
              rfl
            refine pure_ (i := 18) (N := some 11) (v := ?_) (a' := ?_) #[true,true,true,true,true,true,true,true,true,true,true,true,true,true,true,true,true,true,true] rfl rfl (any_of HT_.out (by kernel_rfl)) (fun _ _ _ h => h) (Or.inl ⟨by rfl,?_⟩) ?_ ?_
            rotate_left
            · intro w'
              go_simp
              with_reducible rfl
            rotate_left
            · simp only [Act.put,List.setIfInBounds_toArray,List.set_cons_zero,List.set_cons_succ,i64_w,i32_w]
              rfl
            refine done_ (done_of HT_.out (by kernel_rfl)) ?_
            try go_wp2
            go_meet
            case rel => exact ⟨_,(false),(by first | rfl | (simp;done) | (simp [*];done)),H',⟨by have := HJ6.out;first | omega | exact Nat.le_refl _⟩,⟨by (with_reducible repeat (first | apply Kd.R_alloc | apply Kd.R_drewN | apply Kd.R_drew));exact HO370.out⟩,⟨by (with_reducible repeat (first | apply Kd.R_alloc | apply Kd.R_drewN | apply Kd.R_drew));exact HO375.out⟩,⟨by (with_reducible repeat (first | refine blk_drewN ?_ _ | refine blk_drew ?_ | refine blk_alloc ?_ _));exact BK365.out⟩,⟨by (with_reducible repeat (first | refine blk_drewN ?_ _ | refine blk_drew ?_ | refine blk_alloc ?_ _));exact BK366.out⟩,⟨by (with_reducible repeat (first | refine blk_drewN ?_ _ | refine blk_drew ?_ | refine blk_alloc ?_ _));exact BK372.out⟩,⟨by (with_reducible repeat (first | refine blk_drewN ?_ _ | refine blk_drew ?_ | refine blk_alloc ?_ _));exact BK377.out⟩,⟨by repeat (first | (with_reducible first | exact HB.out | apply below_alloc | apply pw_below_drewN | apply below_drew1 | refine below_set ?_ GE365.out | refine below_set ?_ GE366.out | refine below_set ?_ GE372.out | refine below_set ?_ GE377.out) | exact HB.out)⟩⟩
        case rest =>
          clear HC22;(try clear c2);(try clear p2);(try clear c4);(try clear c21);(try clear c22);(try clear c41);(try clear c44);(try clear c44b0);(try clear c44b1);(try clear c44b2)
          obtain ⟨kq,x11_21,rfl,HA,HJ21,HO_373000,HO_378000,BK365,BK366,BK372,BK377,HB⟩ := hcut
          cases kq with
          | zero => exact absurd HA.out (by simp [wageofficelaw39_LedgerMatchesReference.j1])
          | succ kj21 =>
            have H := HA.out
            clear HA
            simp only [wageofficelaw39_LedgerMatchesReference.j1] at H
            by_cases c62 : x11_21 = true
            · subst c62
              have H1 : ((ledger_Balance.f l0_0 a2 a3 a4).bind fun t381 => ((wageofficeref39_Balance.f kj21 l0_0 a2 a3 a4).bind fun t382 => (if t381 = t382 then ((ledger_Accounts.f l0_0).bind fun t383 => ((wageofficeref39_Accounts.f kj21 l0_0).bind fun t386 => ((wageofficeref12_Strings.f kj21 t383 t386).bind fun t389 => (some t389)))) else (some false)))) = some r := by rw [if_pos rfl] at H;exact H
              clear H
              have H := H1
              clear H1
              replace H := Option.bind_eq_some_iff.mp H
              obtain ⟨t381,A630,H⟩ := H
              replace H : ((wageofficeref39_Balance.f kj21 l0_0 a2 a3 a4).bind fun t382 => (if t381 = t382 then ((ledger_Accounts.f l0_0).bind fun t383 => ((wageofficeref39_Accounts.f kj21 l0_0).bind fun t386 => ((wageofficeref12_Strings.f kj21 t383 t386).bind fun t389 => (some t389)))) else (some false))) = some r := H
              have A63 := Aside0.mk A630
              clear A630
              replace H := Option.bind_eq_some_iff.mp H
              obtain ⟨t382,A640,H⟩ := H
              replace H : (if t381 = t382 then ((ledger_Accounts.f l0_0).bind fun t383 => ((wageofficeref39_Accounts.f kj21 l0_0).bind fun t386 => ((wageofficeref12_Strings.f kj21 t383 t386).bind fun t389 => (some t389)))) else (some false)) = some r := H
              have A64 := Aside0.mk A640
              clear A640
              by_cases c65 : t381 = t382
              · rw [if_pos c65] at H
                have c65b0 : (t381 == t382) = true := beq_iff_eq.mpr c65
                have c65b1 : (t381 != t382) = false := bne_eq_false_iff_eq.mpr c65
                clear c65
                replace H := Option.bind_eq_some_iff.mp H
                obtain ⟨t383,A660,H⟩ := H
                replace H : ((wageofficeref39_Accounts.f kj21 l0_0).bind fun t386 => ((wageofficeref12_Strings.f kj21 t383 t386).bind fun t389 => (some t389))) = some r := H
                have A66 := Aside0.mk A660
                clear A660
                replace H := Option.bind_eq_some_iff.mp H
                obtain ⟨t386,A670,H⟩ := H
                replace H : ((wageofficeref12_Strings.f kj21 t383 t386).bind fun t389 => (some t389)) = some r := H
                have A67 := Aside0.mk A670
                clear A670
                replace H := Option.bind_eq_some_iff.mp H
                obtain ⟨t389,A680,H⟩ := H
                replace H : (some t389) = some r := H
                have A68 := Aside0.mk A680
                clear A680
                obtain rfl := Option.some.inj H
                try go_wp2
                have n0_ := Aside0.mk (Kd.R_drew HO_373000.out)
                have n1_ := Aside0.mk (Kd.R_drew HO_378000.out)
                have n2_ := Aside0.mk (blk_drew BK365.out)
                have n3_ := Aside0.mk (blk_drew BK366.out)
                have n4_ := Aside0.mk (blk_drew BK372.out)
                have n5_ := Aside0.mk (blk_drew BK377.out)
                have n6_ := Aside0.mk (below_drew1 HB.out)
                clear HO_373000;clear HO_378000;clear BK365;clear BK366;clear BK372;clear BK377;clear HB
                have HO_373000 := n0_
                have HO_378000 := n1_
                have BK365 := n2_
                have BK366 := n3_
                have BK372 := n4_
                have BK377 := n5_
                have HB := n6_
                clear n0_ n1_ n2_ n3_ n4_ n5_ n6_
                refine start_ (n := 22) (S := fun w' => w'.cell? ⟨gb365,0,none⟩ = some (.slice A0_0 l0_0.length c0_0)) (ds := []) #[false,false,false,false,false,false,false,false,false,false,false,false,false,false,false,false,false,false,false,false,false,false] (by kernel_rfl) rfl rfl ((blk_cell BK365.out 0).trans rfl) (fun hHeld => ?_);refine with_tabW wageofficelaw39_LedgerMatchesReference.tab7 wageofficelaw39_LedgerMatchesReference.bits7 (fun HT_ HW_ => ?_)
                generalize wc.drew = w69 at HO_373000 HO_378000 BK365 BK366 BK372 BK377 HB hHeld ⊢
                refine pure_ (i := 0) (N := some 64) (v := ?_) (a' := ?_) #[true,false,false,false,false,false,false,false,false,false,false,false,false,false,false,false,false,false,false,false,false,false] rfl rfl (any_of HT_.out (by kernel_rfl)) (fun _ _ _ h => h) (Or.inl ⟨by rfl,?_⟩) ?_ ?_
                rotate_left
                · intro w'
                  go_simp
                  with_reducible rfl
                rotate_left
                · simp only [Act.put,List.setIfInBounds_toArray,List.set_cons_zero,List.set_cons_succ,i64_w,i32_w]
                  rfl
                refine pure_ (i := 1) (N := some 65) (v := ?_) (a' := ?_) #[true,true,false,false,false,false,false,false,false,false,false,false,false,false,false,false,false,false,false,false,false,false] rfl rfl (any_of HT_.out (by kernel_rfl)) (fun _ _ _ h => h) (Or.inl ⟨by rfl,?_⟩) ?_ ?_
                rotate_left
                · intro w'
                  go_simp
                  with_reducible rfl
                rotate_left
                · simp only [Act.put,List.setIfInBounds_toArray,List.set_cons_zero,List.set_cons_succ,i64_w,i32_w]
                  rfl
                refine pure_ (i := 3) (N := some 67) (v := ?_) (a' := ?_) #[true,true,false,true,false,false,false,false,false,false,false,false,false,false,false,false,false,false,false,false,false,false] rfl rfl (any_of HT_.out (by kernel_rfl)) (fun _ _ _ h => h) (Or.inl ⟨by rfl,?_⟩) ?_ ?_
                rotate_left
                · intro w'
                  go_simp
                  with_reducible rfl
                rotate_left
                · simp only [Act.put,List.setIfInBounds_toArray,List.set_cons_zero,List.set_cons_succ,i64_w,i32_w]
                  rfl
                refine pure_ (i := 4) (N := some 68) (v := ?_) (a' := ?_) #[true,true,false,true,true,false,false,false,false,false,false,false,false,false,false,false,false,false,false,false,false,false] rfl rfl (any_of HT_.out (by kernel_rfl)) (fun _ _ _ h => h) (Or.inl ⟨by rfl,?_⟩) ?_ ?_
                rotate_left
                · intro w'
                  go_simp
                  with_reducible rfl
                rotate_left
                · simp only [Act.put,List.setIfInBounds_toArray,List.set_cons_zero,List.set_cons_succ,i64_w,i32_w]
                  rfl
                refine pure_ (i := 5) (N := some 69) (v := ?_) (a' := ?_) #[true,true,false,true,true,true,false,false,false,false,false,false,false,false,false,false,false,false,false,false,false,false] rfl rfl (any_of HT_.out (by kernel_rfl)) (fun _ _ _ h => h) (Or.inl ⟨by rfl,?_⟩) ?_ ?_
                rotate_left
                · intro w'
                  go_simp
                  with_reducible rfl
                rotate_left
                · simp only [Act.put,List.setIfInBounds_toArray,List.set_cons_zero,List.set_cons_succ,i64_w,i32_w]
                  rfl
                refine pure_ (i := 8) (N := some 72) (v := ?_) (a' := ?_) #[true,true,false,true,true,true,false,false,true,false,false,false,false,false,false,false,false,false,false,false,false,false] rfl rfl (any_of HT_.out (by kernel_rfl)) (fun _ _ _ h => h) (Or.inl ⟨by rfl,?_⟩) ?_ ?_
                rotate_left
                · intro w'
                  go_simp
                  with_reducible rfl
                rotate_left
                · simp only [Act.put,List.setIfInBounds_toArray,List.set_cons_zero,List.set_cons_succ,i64_w,i32_w]
                  rfl
                refine pure_ (i := 9) (N := some 73) (v := ?_) (a' := ?_) #[true,true,false,true,true,true,false,false,true,true,false,false,false,false,false,false,false,false,false,false,false,false] rfl rfl (any_of HT_.out (by kernel_rfl)) (fun _ _ _ h => h) (Or.inl ⟨by rfl,?_⟩) ?_ ?_
                rotate_left
                · intro w'
                  go_simp
                  with_reducible rfl
                rotate_left
                · simp only [Act.put,List.setIfInBounds_toArray,List.set_cons_zero,List.set_cons_succ,i64_w,i32_w]
                  rfl
                refine pure_ (i := 10) (N := some 74) (v := ?_) (a' := ?_) #[true,true,false,true,true,true,false,false,true,true,true,false,false,false,false,false,false,false,false,false,false,false] rfl rfl (any_of HT_.out (by kernel_rfl)) (fun _ _ _ h => h) (Or.inl ⟨by rfl,?_⟩) ?_ ?_
                rotate_left
                · intro w'
                  go_simp
                  with_reducible rfl
                rotate_left
                · simp only [Act.put,List.setIfInBounds_toArray,List.set_cons_zero,List.set_cons_succ,i64_w,i32_w]
                  rfl
                refine take_ (i := 2) (N := some 66) (v := ?_) (a' := ?_) #[true,true,true,true,true,true,false,false,true,true,true,false,false,false,false,false,false,false,false,false,false,false] rfl rfl (take_ofW HT_.out HW_.out (by kernel_rfl)) (fun _ _ _ h => h) (Or.inl ⟨by rfl,?_⟩) hHeld ?_ ?_
                rotate_left
                · intro w' s0
                  go_simp
                  with_reducible rfl
                rotate_left
                · simp only [Act.put,List.setIfInBounds_toArray,List.set_cons_zero,List.set_cons_succ,i64_w,i32_w]
                  rfl
                refine take_ (i := 7) (N := some 71) (v := ?_) (a' := ?_) #[true,true,true,true,true,true,false,true,true,true,true,false,false,false,false,false,false,false,false,false,false,false] rfl rfl (take_ofW HT_.out HW_.out (by kernel_rfl)) (fun _ _ _ h => h) (Or.inl ⟨by rfl,?_⟩) hHeld ?_ ?_
                rotate_left
                · intro w' s0
                  go_simp
                  with_reducible rfl
                rotate_left
                · simp only [Act.put,List.setIfInBounds_toArray,List.set_cons_zero,List.set_cons_succ,i64_w,i32_w]
                  rfl
                refine one_ (i := 6) (N := some 70) #[true,true,true,true,true,true,true,true,true,true,true,false,false,false,false,false,false,false,false,false,false,false] rfl rfl (one_of HT_.out (by kernel_rfl)) (by decide) (fun K hK => ?_)
                refine goes_ Try.func24 (by kernel_rfl) rfl #[.agg #[.slice A0_0 l0_0.length c0_0],.string a2,.int .i64 a3,.int .i64 a4] (by rfl) rfl rfl (by (try simp only [List.map_toArray,List.map_cons,List.map_nil]);first | done | rfl | (simp only [List.length_drop,List.length_take];rfl)) ?_
                with_reducible refine (ledger_Balance.calls _ _ l0_0 a2 a3 a4 t381 _ ?side1 ?side2 A63.out).mono ?_
                (case side1 => repeat (first | exact (Kd.C_below HR0_0.out HB.out) | (with_reducible refine Kd.C_alloc ?_ _) | (with_reducible refine Kd.C_drewN ?_ _) | (with_reducible refine Kd.C_drew ?_)))
                (case side2 => exact HC0_0.out)
                rintro e w70 ⟨rfl,hb⟩
                refine ⟨_,rfl,?_⟩
                have n0_ := Aside0.mk (Kd.R_below (by (with_reducible repeat (first | apply Kd.R_alloc | apply Kd.R_drewN | apply Kd.R_drew));exact HO_373000.out) hb)
                have n1_ := Aside0.mk (Kd.R_below (by (with_reducible repeat (first | apply Kd.R_alloc | apply Kd.R_drewN | apply Kd.R_drew));exact HO_378000.out) hb)
                have n2_ := Aside0.mk (blk_below (g := gb365) (o := .cells #[.slice A0_0 l0_0.length c0_0] 24 (0,0)) (by (with_reducible repeat (first | refine blk_drewN ?_ _ | refine blk_drew ?_ | refine blk_alloc ?_ _));exact BK365.out) hb)
                have n3_ := Aside0.mk (blk_below (g := gb366) (o := .cells #[.int .i64 a1_0,.string a1_1,.string a1_2,.int .i64 a1_3,.int .i64 a1_4,.int .i64 a1_5] 26 (0,0)) (by (with_reducible repeat (first | refine blk_drewN ?_ _ | refine blk_drew ?_ | refine blk_alloc ?_ _));exact BK366.out) hb)
                have n4_ := Aside0.mk (blk_below (g := gb372) (o := .cells #[.slice Ao28 t368.length co28] 24 (0,0)) (by (with_reducible repeat (first | refine blk_drewN ?_ _ | refine blk_drew ?_ | refine blk_alloc ?_ _));exact BK372.out) hb)
                have n5_ := Aside0.mk (blk_below (g := gb377) (o := .cells #[.slice Ao36 t373.length co36] 24 (0,0)) (by (with_reducible repeat (first | refine blk_drewN ?_ _ | refine blk_drew ?_ | refine blk_alloc ?_ _));exact BK377.out) hb)
                have n6_ := Aside0.mk (below_step (by repeat (first | (with_reducible first | exact HB.out | apply below_alloc | apply pw_below_drewN | apply below_drew1 | refine below_set ?_ GE365.out | refine below_set ?_ GE366.out | refine below_set ?_ GE372.out | refine below_set ?_ GE377.out) | exact HB.out)) hb)
                clear HO_373000;clear HO_378000;clear BK365;clear BK366;clear BK372;clear BK377;clear HB
                have HO_373000 := n0_
                have HO_378000 := n1_
                have BK365 := n2_
                have BK366 := n3_
                have BK372 := n4_
                have BK377 := n5_
                have HB := n6_
                clear n0_ n1_ n2_ n3_ n4_ n5_ n6_
                (try clear hb)
                (try clear hb2)
                (try clear hk)
                (try clear hi)
                refine hK.out _ _ ((blk_cell BK365.out 0).trans rfl) (fun hHeld => ?_)
                clear hK K
                refine norm_ (a' := ?_) ?_ ?_
                rotate_left
                · show Act.put _ (some 70) _ = _
                  simp only [Act.put,List.setIfInBounds_toArray,List.set_cons_zero,List.set_cons_succ,i64_w,i32_w]
                  rfl
                refine one_ (i := 11) (N := some 75) #[true,true,true,true,true,true,true,true,true,true,true,true,false,false,false,false,false,false,false,false,false,false] rfl rfl (one_of HT_.out (by kernel_rfl)) (by decide) (fun K hK => ?_)
                refine goes_ Try.func25 (by kernel_rfl) rfl #[.agg #[.slice A0_0 l0_0.length c0_0],.string a2,.int .i64 a3,.int .i64 a4] (by rfl) rfl rfl (by (try simp only [List.map_toArray,List.map_cons,List.map_nil]);first | done | rfl | (simp only [List.length_drop,List.length_take];rfl)) ?_
                with_reducible refine (wageofficeref39_Balance.calls kj21 _ _ l0_0 a2 a3 a4 t382 _ ?side1 ?side2 A64.out).mono ?_
                (case side1 => repeat (first | exact (Kd.C_below HR0_0.out HB.out) | (with_reducible refine Kd.C_alloc ?_ _) | (with_reducible refine Kd.C_drewN ?_ _) | (with_reducible refine Kd.C_drew ?_)))
                (case side2 => exact HC0_0.out)
                rintro e w71 ⟨rfl,hb⟩
                refine ⟨_,rfl,?_⟩
                have n0_ := Aside0.mk (Kd.R_below (by (with_reducible repeat (first | apply Kd.R_alloc | apply Kd.R_drewN | apply Kd.R_drew));exact HO_373000.out) hb)
                have n1_ := Aside0.mk (Kd.R_below (by (with_reducible repeat (first | apply Kd.R_alloc | apply Kd.R_drewN | apply Kd.R_drew));exact HO_378000.out) hb)
                have n2_ := Aside0.mk (blk_below (g := gb365) (o := .cells #[.slice A0_0 l0_0.length c0_0] 24 (0,0)) (by (with_reducible repeat (first | refine blk_drewN ?_ _ | refine blk_drew ?_ | refine blk_alloc ?_ _));exact BK365.out) hb)
                have n3_ := Aside0.mk (blk_below (g := gb366) (o := .cells #[.int .i64 a1_0,.string a1_1,.string a1_2,.int .i64 a1_3,.int .i64 a1_4,.int .i64 a1_5] 26 (0,0)) (by (with_reducible repeat (first | refine blk_drewN ?_ _ | refine blk_drew ?_ | refine blk_alloc ?_ _));exact BK366.out) hb)
                have n4_ := Aside0.mk (blk_below (g := gb372) (o := .cells #[.slice Ao28 t368.length co28] 24 (0,0)) (by (with_reducible repeat (first | refine blk_drewN ?_ _ | refine blk_drew ?_ | refine blk_alloc ?_ _));exact BK372.out) hb)
                have n5_ := Aside0.mk (blk_below (g := gb377) (o := .cells #[.slice Ao36 t373.length co36] 24 (0,0)) (by (with_reducible repeat (first | refine blk_drewN ?_ _ | refine blk_drew ?_ | refine blk_alloc ?_ _));exact BK377.out) hb)
                have n6_ := Aside0.mk (below_step (by repeat (first | (with_reducible first | exact HB.out | apply below_alloc | apply pw_below_drewN | apply below_drew1 | refine below_set ?_ GE365.out | refine below_set ?_ GE366.out | refine below_set ?_ GE372.out | refine below_set ?_ GE377.out) | exact HB.out)) hb)
                clear HO_373000;clear HO_378000;clear BK365;clear BK366;clear BK372;clear BK377;clear HB
                have HO_373000 := n0_
                have HO_378000 := n1_
                have BK365 := n2_
                have BK366 := n3_
                have BK372 := n4_
                have BK377 := n5_
                have HB := n6_
                clear n0_ n1_ n2_ n3_ n4_ n5_ n6_
                (try clear hb)
                (try clear hb2)
                (try clear hk)
                (try clear hi)
                refine hK.out _ _ ((blk_cell BK365.out 0).trans rfl) (fun hHeld => ?_)
                clear hK K
                refine norm_ (a' := ?_) ?_ ?_
                rotate_left
                · show Act.put _ (some 75) _ = _
                  simp only [Act.put,List.setIfInBounds_toArray,List.set_cons_zero,List.set_cons_succ,i64_w,i32_w]
                  rfl
                refine pure_ (i := 12) (N := some 76) (v := ?_) (a' := ?_) #[true,true,true,true,true,true,true,true,true,true,true,true,true,false,false,false,false,false,false,false,false,false] rfl rfl (any_of HT_.out (by kernel_rfl)) (fun _ _ _ h => h) (Or.inl ⟨by rfl,?_⟩) ?_ ?_
                rotate_left
                · intro w'
                  go_simp
                  with_reducible rfl
                rotate_left
                · simp only [Act.put,List.setIfInBounds_toArray,List.set_cons_zero,List.set_cons_succ,i64_w,i32_w]
                  rfl
                refine pure_ (i := 13) (N := some 77) (v := ?_) (a' := ?_) #[true,true,true,true,true,true,true,true,true,true,true,true,true,true,false,false,false,false,false,false,false,false] rfl rfl (any_of HT_.out (by kernel_rfl)) (fun _ _ _ h => h) (Or.inl ⟨by rfl,?_⟩) ?_ ?_
                rotate_left
                · intro w'
                  go_simp
                  with_reducible rfl
                rotate_left
                · simp only [Act.put,List.setIfInBounds_toArray,List.set_cons_zero,List.set_cons_succ,i64_w,i32_w]
                  rfl
                refine pure_ (i := 14) (N := some 78) (v := ?_) (a' := ?_) #[true,true,true,true,true,true,true,true,true,true,true,true,true,true,true,false,false,false,false,false,false,false] rfl rfl (any_of HT_.out (by kernel_rfl)) (fun _ _ _ h => h) (Or.inl ⟨by rfl,?_⟩) ?_ ?_
                rotate_left
                · intro w'
                  go_simp
                  with_reducible rfl
                rotate_left
                · simp only [Act.put,List.setIfInBounds_toArray,List.set_cons_zero,List.set_cons_succ,i64_w,i32_w]
                  rfl
                refine take_ (i := 15) (N := some 79) (v := ?_) (a' := ?_) #[true,true,true,true,true,true,true,true,true,true,true,true,true,true,true,true,false,false,false,false,false,false] rfl rfl (take_ofW HT_.out HW_.out (by kernel_rfl)) (fun _ _ _ h => h) (Or.inl ⟨by rfl,?_⟩) hHeld ?_ ?_
                rotate_left
                · intro w' s0
                  go_simp
                  with_reducible rfl
                rotate_left
                · simp only [Act.put,List.setIfInBounds_toArray,List.set_cons_zero,List.set_cons_succ,i64_w,i32_w]
                  rfl
                refine take_ (i := 17) (N := some 81) (v := ?_) (a' := ?_) #[true,true,true,true,true,true,true,true,true,true,true,true,true,true,true,true,false,true,false,false,false,false] rfl rfl (take_ofW HT_.out HW_.out (by kernel_rfl)) (fun _ _ _ h => h) (Or.inl ⟨by rfl,?_⟩) hHeld ?_ ?_
                rotate_left
                · intro w' s0
                  go_simp
                  with_reducible rfl
                rotate_left
                · simp only [Act.put,List.setIfInBounds_toArray,List.set_cons_zero,List.set_cons_succ,i64_w,i32_w]
                  rfl
                refine one_ (i := 16) (N := some 80) #[true,true,true,true,true,true,true,true,true,true,true,true,true,true,true,true,true,true,false,false,false,false] rfl rfl (one_of HT_.out (by kernel_rfl)) (by decide) (fun K hK => ?_)
                refine goes_ Try.func27 (by kernel_rfl) rfl #[.agg #[.slice A0_0 l0_0.length c0_0]] (by rfl) rfl rfl (by (try simp only [List.map_toArray,List.map_cons,List.map_nil]);first | done | rfl | (simp only [List.length_drop,List.length_take];rfl)) ?_
                with_reducible refine (ledger_Accounts.calls _ _ l0_0 t383 _ ?side1 ?side2 A66.out).mono ?_
                (case side1 => repeat (first | exact (Kd.C_below HR0_0.out HB.out) | (with_reducible refine Kd.C_alloc ?_ _) | (with_reducible refine Kd.C_drewN ?_ _) | (with_reducible refine Kd.C_drew ?_)))
                (case side2 => exact HC0_0.out)
                rintro e w72 ⟨v384,rfl,ho0,hb⟩
                refine ⟨_,rfl,?_⟩
                have n0_ := Aside0.mk (Kd.R_below (by (with_reducible repeat (first | apply Kd.R_alloc | apply Kd.R_drewN | apply Kd.R_drew));exact HO_373000.out) hb)
                have n1_ := Aside0.mk (Kd.R_below (by (with_reducible repeat (first | apply Kd.R_alloc | apply Kd.R_drewN | apply Kd.R_drew));exact HO_378000.out) hb)
                have n2_ := Aside0.mk (Kd.R_lower ho0 (below_size (by repeat (first | (with_reducible first | exact HB.out | apply below_alloc | apply pw_below_drewN | apply below_drew1 | refine below_set ?_ GE365.out | refine below_set ?_ GE366.out | refine below_set ?_ GE372.out | refine below_set ?_ GE377.out) | exact HB.out))))
                have n3_ := Aside0.mk (blk_below (g := gb365) (o := .cells #[.slice A0_0 l0_0.length c0_0] 24 (0,0)) (by (with_reducible repeat (first | refine blk_drewN ?_ _ | refine blk_drew ?_ | refine blk_alloc ?_ _));exact BK365.out) hb)
                have n4_ := Aside0.mk (blk_below (g := gb366) (o := .cells #[.int .i64 a1_0,.string a1_1,.string a1_2,.int .i64 a1_3,.int .i64 a1_4,.int .i64 a1_5] 26 (0,0)) (by (with_reducible repeat (first | refine blk_drewN ?_ _ | refine blk_drew ?_ | refine blk_alloc ?_ _));exact BK366.out) hb)
                have n5_ := Aside0.mk (blk_below (g := gb372) (o := .cells #[.slice Ao28 t368.length co28] 24 (0,0)) (by (with_reducible repeat (first | refine blk_drewN ?_ _ | refine blk_drew ?_ | refine blk_alloc ?_ _));exact BK372.out) hb)
                have n6_ := Aside0.mk (blk_below (g := gb377) (o := .cells #[.slice Ao36 t373.length co36] 24 (0,0)) (by (with_reducible repeat (first | refine blk_drewN ?_ _ | refine blk_drew ?_ | refine blk_alloc ?_ _));exact BK377.out) hb)
                have n7_ := Aside0.mk (below_step (by repeat (first | (with_reducible first | exact HB.out | apply below_alloc | apply pw_below_drewN | apply below_drew1 | refine below_set ?_ GE365.out | refine below_set ?_ GE366.out | refine below_set ?_ GE372.out | refine below_set ?_ GE377.out) | exact HB.out)) hb)
                clear HO_373000;clear HO_378000;clear BK365;clear BK366;clear BK372;clear BK377;clear HB
                have HO_373000 := n0_
                have HO_378000 := n1_
                have HO385 := n2_
                have BK365 := n3_
                have BK366 := n4_
                have BK372 := n5_
                have BK377 := n6_
                have HB := n7_
                clear n0_ n1_ n2_ n3_ n4_ n5_ n6_ n7_
                (try clear hb)
                (try clear hb2)
                (try clear hk)
                (try clear hi)
                (try clear ho0)
                refine hK.out _ _ ((blk_cell BK365.out 0).trans rfl) (fun hHeld => ?_)
                clear hK K
                refine norm_ (a' := ?_) ?_ ?_
                rotate_left
                · show Act.put _ (some 80) _ = _
                  simp only [Act.put,List.setIfInBounds_toArray,List.set_cons_zero,List.set_cons_succ,i64_w,i32_w]
                  rfl
                refine one_ (i := 18) (N := some 82) #[true,true,true,true,true,true,true,true,true,true,true,true,true,true,true,true,true,true,true,false,false,false] rfl rfl (one_of HT_.out (by kernel_rfl)) (by decide) (fun K hK => ?_)
                refine goes_ Try.func28 (by kernel_rfl) rfl #[.agg #[.slice A0_0 l0_0.length c0_0]] (by rfl) rfl rfl (by (try simp only [List.map_toArray,List.map_cons,List.map_nil]);first | done | rfl | (simp only [List.length_drop,List.length_take];rfl)) ?_
                with_reducible refine (wageofficeref39_Accounts.calls kj21 _ _ l0_0 t386 _ ?side1 ?side2 A67.out).mono ?_
                (case side1 => repeat (first | exact (Kd.C_below HR0_0.out HB.out) | (with_reducible refine Kd.C_alloc ?_ _) | (with_reducible refine Kd.C_drewN ?_ _) | (with_reducible refine Kd.C_drew ?_)))
                (case side2 => exact HC0_0.out)
                rintro e w73 ⟨v387,rfl,ho0,hb⟩
                refine ⟨_,rfl,?_⟩
                have n0_ := Aside0.mk (Kd.R_below (by (with_reducible repeat (first | apply Kd.R_alloc | apply Kd.R_drewN | apply Kd.R_drew));exact HO_373000.out) hb)
                have n1_ := Aside0.mk (Kd.R_below (by (with_reducible repeat (first | apply Kd.R_alloc | apply Kd.R_drewN | apply Kd.R_drew));exact HO_378000.out) hb)
                have n2_ := Aside0.mk (Kd.R_elder' (by (with_reducible repeat (first | apply Kd.R_alloc | apply Kd.R_drewN | apply Kd.R_drew));exact HO385.out) (Kd.R_base ho0) hb)
                have n3_ := Aside0.mk (Kd.R_lower (Kd.R_new' ho0 (Kd.R_lt (by (with_reducible repeat (first | apply Kd.R_alloc | apply Kd.R_drewN | apply Kd.R_drew));exact HO385.out))) (below_size (by repeat (first | (with_reducible first | exact HB.out | apply below_alloc | apply pw_below_drewN | apply below_drew1 | refine below_set ?_ GE365.out | refine below_set ?_ GE366.out | refine below_set ?_ GE372.out | refine below_set ?_ GE377.out) | exact HB.out))))
                have n4_ := Aside0.mk (blk_below (g := gb365) (o := .cells #[.slice A0_0 l0_0.length c0_0] 24 (0,0)) (by (with_reducible repeat (first | refine blk_drewN ?_ _ | refine blk_drew ?_ | refine blk_alloc ?_ _));exact BK365.out) hb)
                have n5_ := Aside0.mk (blk_below (g := gb366) (o := .cells #[.int .i64 a1_0,.string a1_1,.string a1_2,.int .i64 a1_3,.int .i64 a1_4,.int .i64 a1_5] 26 (0,0)) (by (with_reducible repeat (first | refine blk_drewN ?_ _ | refine blk_drew ?_ | refine blk_alloc ?_ _));exact BK366.out) hb)
                have n6_ := Aside0.mk (blk_below (g := gb372) (o := .cells #[.slice Ao28 t368.length co28] 24 (0,0)) (by (with_reducible repeat (first | refine blk_drewN ?_ _ | refine blk_drew ?_ | refine blk_alloc ?_ _));exact BK372.out) hb)
                have n7_ := Aside0.mk (blk_below (g := gb377) (o := .cells #[.slice Ao36 t373.length co36] 24 (0,0)) (by (with_reducible repeat (first | refine blk_drewN ?_ _ | refine blk_drew ?_ | refine blk_alloc ?_ _));exact BK377.out) hb)
                have n8_ := Aside0.mk (below_step (by repeat (first | (with_reducible first | exact HB.out | apply below_alloc | apply pw_below_drewN | apply below_drew1 | refine below_set ?_ GE365.out | refine below_set ?_ GE366.out | refine below_set ?_ GE372.out | refine below_set ?_ GE377.out) | exact HB.out)) hb)
                clear HO_373000;clear HO_378000;clear HO385;clear BK365;clear BK366;clear BK372;clear BK377;clear HB
                have HO_373000 := n0_
                have HO_378000 := n1_
                have HO385 := n2_
                have HO388 := n3_
                have BK365 := n4_
                have BK366 := n5_
                have BK372 := n6_
                have BK377 := n7_
                have HB := n8_
                clear n0_ n1_ n2_ n3_ n4_ n5_ n6_ n7_ n8_
                (try clear hb)
                (try clear hb2)
                (try clear hk)
                (try clear hi)
                (try clear ho0)
                obtain ⟨Ao74,co74,eo74⟩ := Kd.R_slice HO385.out
                (first | subst eo74 | (injection eo74 with f1_ f2_ f3_;have f4_ := f1_.symm;have f5_ := f3_.symm;clear f1_ f2_ f3_;subst f4_;subst f5_))
                obtain ⟨Ao75,co75,eo75⟩ := Kd.R_slice HO388.out
                (first | subst eo75 | (injection eo75 with f1_ f2_ f3_;have f4_ := f1_.symm;have f5_ := f3_.symm;clear f1_ f2_ f3_;subst f4_;subst f5_))
                refine hK.out _ _ ((blk_cell BK365.out 0).trans rfl) (fun hHeld => ?_)
                clear hK K
                refine norm_ (a' := ?_) ?_ ?_
                rotate_left
                · show Act.put _ (some 82) _ = _
                  simp only [Act.put,List.setIfInBounds_toArray,List.set_cons_zero,List.set_cons_succ,i64_w,i32_w]
                  rfl
                refine one_ (i := 19) (N := some 83) #[true,true,true,true,true,true,true,true,true,true,true,true,true,true,true,true,true,true,true,true,false,false] rfl rfl (one_of HT_.out (by kernel_rfl)) (by decide) (fun K hK => ?_)
                refine goes_ Try.func26 (by kernel_rfl) rfl #[.slice Ao74 t383.length co74,.slice Ao75 t386.length co75] (by rfl) rfl rfl (by (try simp only [List.map_toArray,List.map_cons,List.map_nil]);first | done | rfl | (simp only [List.length_drop,List.length_take];rfl)) ?_
                with_reducible refine (wageofficeref12_Strings.calls kj21 _ _ t383 _ _ t386 t389 _ ?side1 ?side2 ?side3 ?side4 A68.out).mono ?_
                (case side1 => repeat (first | exact (Kd.R_reads' HO385.out).2.2 | (with_reducible refine Kd.C_alloc ?_ _) | (with_reducible refine Kd.C_drewN ?_ _) | (with_reducible refine Kd.C_drew ?_)))
                (case side2 => exact (Kd.R_reads' HO385.out).2.1)
                (case side3 => repeat (first | exact (Kd.R_reads' HO388.out).2.2 | (with_reducible refine Kd.C_alloc ?_ _) | (with_reducible refine Kd.C_drewN ?_ _) | (with_reducible refine Kd.C_drew ?_)))
                (case side4 => exact (Kd.R_reads' HO388.out).2.1)
                rintro e w' ⟨rfl,⟨nd,rfl⟩⟩
                refine ⟨_,rfl,?_⟩
                refine hK.out _ _ ((blk_cell BK365.out 0).trans rfl) (fun hHeld => ?_)
                clear hK K
                refine norm_ (a' := ?_) ?_ ?_
                rotate_left
                · show Act.put _ (some 83) _ = _
                  simp only [Act.put,List.setIfInBounds_toArray,List.set_cons_zero,List.set_cons_succ,i64_w,i32_w]
                  rfl
                refine pure_ (i := 20) (N := some 84) (v := ?_) (a' := ?_) #[true,true,true,true,true,true,true,true,true,true,true,true,true,true,true,true,true,true,true,true,true,false] rfl rfl (any_of HT_.out (by kernel_rfl)) (fun _ _ _ h => h) (Or.inl ⟨by rfl,?_⟩) ?_ ?_
                rotate_left
                · intro w'
                  go_simp
                  with_reducible rfl
                rotate_left
                · simp only [Act.put,List.setIfInBounds_toArray,List.set_cons_zero,List.set_cons_succ,i64_w,i32_w]
                  rfl
                refine pure_ (i := 21) (N := some 10) (v := ?_) (a' := ?_) #[true,true,true,true,true,true,true,true,true,true,true,true,true,true,true,true,true,true,true,true,true,true] rfl rfl (any_of HT_.out (by kernel_rfl)) (fun _ _ _ h => h) (Or.inl ⟨by rfl,?_⟩) ?_ ?_
                rotate_left
                · intro w'
                  go_simp
                  with_reducible rfl
                rotate_left
                · simp only [Act.put,List.setIfInBounds_toArray,List.set_cons_zero,List.set_cons_succ,i64_w,i32_w]
                  rfl
                refine done_ (done_of HT_.out (by kernel_rfl)) ?_
                try go_wp2
                go_ret
                exact ⟨by first | rfl | (simp [errW_none,errW_some] <;> rfl) | (simp [*,errW_none,errW_some] <;> rfl),by repeat (first | (with_reducible first | exact HB.out | apply below_alloc | apply pw_below_drewN | apply below_drew1 | refine below_set ?_ GE365.out | refine below_set ?_ GE366.out | refine below_set ?_ GE372.out | refine below_set ?_ GE377.out) | exact HB.out)⟩
              · rw [if_neg c65] at H
                have c65b0 : (t381 == t382) = false := beq_eq_false_iff_ne.mpr c65
                have c65b1 : (t381 != t382) = true := bne_iff_ne.mpr c65
                obtain rfl := Option.some.inj H
                try go_wp2
                have n0_ := Aside0.mk (Kd.R_drew HO_373000.out)
                have n1_ := Aside0.mk (Kd.R_drew HO_378000.out)
                have n2_ := Aside0.mk (blk_drew BK365.out)
                have n3_ := Aside0.mk (blk_drew BK366.out)
                have n4_ := Aside0.mk (blk_drew BK372.out)
                have n5_ := Aside0.mk (blk_drew BK377.out)
                have n6_ := Aside0.mk (below_drew1 HB.out)
                clear HO_373000;clear HO_378000;clear BK365;clear BK366;clear BK372;clear BK377;clear HB
                have HO_373000 := n0_
                have HO_378000 := n1_
                have BK365 := n2_
                have BK366 := n3_
                have BK372 := n4_
                have BK377 := n5_
                have HB := n6_
                clear n0_ n1_ n2_ n3_ n4_ n5_ n6_
                refine start_ (n := 22) (S := fun w' => w'.cell? ⟨gb365,0,none⟩ = some (.slice A0_0 l0_0.length c0_0)) (ds := []) #[false,false,false,false,false,false,false,false,false,false,false,false,false,false,false,false,false,false,false,false,false,false] (by kernel_rfl) rfl rfl ((blk_cell BK365.out 0).trans rfl) (fun hHeld => ?_);refine with_tabW wageofficelaw39_LedgerMatchesReference.tab7 wageofficelaw39_LedgerMatchesReference.bits7 (fun HT_ HW_ => ?_)
                generalize wc.drew = w76 at HO_373000 HO_378000 BK365 BK366 BK372 BK377 HB hHeld ⊢
                refine pure_ (i := 0) (N := some 64) (v := ?_) (a' := ?_) #[true,false,false,false,false,false,false,false,false,false,false,false,false,false,false,false,false,false,false,false,false,false] rfl rfl (any_of HT_.out (by kernel_rfl)) (fun _ _ _ h => h) (Or.inl ⟨by rfl,?_⟩) ?_ ?_
                rotate_left
                · intro w'
                  go_simp
                  with_reducible rfl
                rotate_left
                · simp only [Act.put,List.setIfInBounds_toArray,List.set_cons_zero,List.set_cons_succ,i64_w,i32_w]
                  rfl
                refine pure_ (i := 1) (N := some 65) (v := ?_) (a' := ?_) #[true,true,false,false,false,false,false,false,false,false,false,false,false,false,false,false,false,false,false,false,false,false] rfl rfl (any_of HT_.out (by kernel_rfl)) (fun _ _ _ h => h) (Or.inl ⟨by rfl,?_⟩) ?_ ?_
                rotate_left
                · intro w'
                  go_simp
                  with_reducible rfl
                rotate_left
                · simp only [Act.put,List.setIfInBounds_toArray,List.set_cons_zero,List.set_cons_succ,i64_w,i32_w]
                  rfl
                refine pure_ (i := 3) (N := some 67) (v := ?_) (a' := ?_) #[true,true,false,true,false,false,false,false,false,false,false,false,false,false,false,false,false,false,false,false,false,false] rfl rfl (any_of HT_.out (by kernel_rfl)) (fun _ _ _ h => h) (Or.inl ⟨by rfl,?_⟩) ?_ ?_
                rotate_left
                · intro w'
                  go_simp
                  with_reducible rfl
                rotate_left
                · simp only [Act.put,List.setIfInBounds_toArray,List.set_cons_zero,List.set_cons_succ,i64_w,i32_w]
                  rfl
                refine pure_ (i := 4) (N := some 68) (v := ?_) (a' := ?_) #[true,true,false,true,true,false,false,false,false,false,false,false,false,false,false,false,false,false,false,false,false,false] rfl rfl (any_of HT_.out (by kernel_rfl)) (fun _ _ _ h => h) (Or.inl ⟨by rfl,?_⟩) ?_ ?_
                rotate_left
                · intro w'
                  go_simp
                  with_reducible rfl
                rotate_left
                · simp only [Act.put,List.setIfInBounds_toArray,List.set_cons_zero,List.set_cons_succ,i64_w,i32_w]
                  rfl
                refine pure_ (i := 5) (N := some 69) (v := ?_) (a' := ?_) #[true,true,false,true,true,true,false,false,false,false,false,false,false,false,false,false,false,false,false,false,false,false] rfl rfl (any_of HT_.out (by kernel_rfl)) (fun _ _ _ h => h) (Or.inl ⟨by rfl,?_⟩) ?_ ?_
                rotate_left
                · intro w'
                  go_simp
                  with_reducible rfl
                rotate_left
                · simp only [Act.put,List.setIfInBounds_toArray,List.set_cons_zero,List.set_cons_succ,i64_w,i32_w]
                  rfl
                refine pure_ (i := 8) (N := some 72) (v := ?_) (a' := ?_) #[true,true,false,true,true,true,false,false,true,false,false,false,false,false,false,false,false,false,false,false,false,false] rfl rfl (any_of HT_.out (by kernel_rfl)) (fun _ _ _ h => h) (Or.inl ⟨by rfl,?_⟩) ?_ ?_
                rotate_left
                · intro w'
                  go_simp
                  with_reducible rfl
                rotate_left
                · simp only [Act.put,List.setIfInBounds_toArray,List.set_cons_zero,List.set_cons_succ,i64_w,i32_w]
                  rfl
                refine pure_ (i := 9) (N := some 73) (v := ?_) (a' := ?_) #[true,true,false,true,true,true,false,false,true,true,false,false,false,false,false,false,false,false,false,false,false,false] rfl rfl (any_of HT_.out (by kernel_rfl)) (fun _ _ _ h => h) (Or.inl ⟨by rfl,?_⟩) ?_ ?_
                rotate_left
                · intro w'
                  go_simp
                  with_reducible rfl
                rotate_left
                · simp only [Act.put,List.setIfInBounds_toArray,List.set_cons_zero,List.set_cons_succ,i64_w,i32_w]
                  rfl
                refine pure_ (i := 10) (N := some 74) (v := ?_) (a' := ?_) #[true,true,false,true,true,true,false,false,true,true,true,false,false,false,false,false,false,false,false,false,false,false] rfl rfl (any_of HT_.out (by kernel_rfl)) (fun _ _ _ h => h) (Or.inl ⟨by rfl,?_⟩) ?_ ?_
                rotate_left
                · intro w'
                  go_simp
                  with_reducible rfl
                rotate_left
                · simp only [Act.put,List.setIfInBounds_toArray,List.set_cons_zero,List.set_cons_succ,i64_w,i32_w]
                  rfl
                refine take_ (i := 2) (N := some 66) (v := ?_) (a' := ?_) #[true,true,true,true,true,true,false,false,true,true,true,false,false,false,false,false,false,false,false,false,false,false] rfl rfl (take_ofW HT_.out HW_.out (by kernel_rfl)) (fun _ _ _ h => h) (Or.inl ⟨by rfl,?_⟩) hHeld ?_ ?_
                rotate_left
                · intro w' s0
                  go_simp
                  with_reducible rfl
                rotate_left
                · simp only [Act.put,List.setIfInBounds_toArray,List.set_cons_zero,List.set_cons_succ,i64_w,i32_w]
                  rfl
                refine take_ (i := 7) (N := some 71) (v := ?_) (a' := ?_) #[true,true,true,true,true,true,false,true,true,true,true,false,false,false,false,false,false,false,false,false,false,false] rfl rfl (take_ofW HT_.out HW_.out (by kernel_rfl)) (fun _ _ _ h => h) (Or.inl ⟨by rfl,?_⟩) hHeld ?_ ?_
                rotate_left
                · intro w' s0
                  go_simp
                  with_reducible rfl
                rotate_left
                · simp only [Act.put,List.setIfInBounds_toArray,List.set_cons_zero,List.set_cons_succ,i64_w,i32_w]
                  rfl
                refine one_ (i := 6) (N := some 70) #[true,true,true,true,true,true,true,true,true,true,true,false,false,false,false,false,false,false,false,false,false,false] rfl rfl (one_of HT_.out (by kernel_rfl)) (by decide) (fun K hK => ?_)
                refine goes_ Try.func24 (by kernel_rfl) rfl #[.agg #[.slice A0_0 l0_0.length c0_0],.string a2,.int .i64 a3,.int .i64 a4] (by rfl) rfl rfl (by (try simp only [List.map_toArray,List.map_cons,List.map_nil]);first | done | rfl | (simp only [List.length_drop,List.length_take];rfl)) ?_
                with_reducible refine (ledger_Balance.calls _ _ l0_0 a2 a3 a4 t381 _ ?side1 ?side2 A63.out).mono ?_
                (case side1 => repeat (first | exact (Kd.C_below HR0_0.out HB.out) | (with_reducible refine Kd.C_alloc ?_ _) | (with_reducible refine Kd.C_drewN ?_ _) | (with_reducible refine Kd.C_drew ?_)))
                (case side2 => exact HC0_0.out)
                rintro e w77 ⟨rfl,hb⟩
                refine ⟨_,rfl,?_⟩
                have n0_ := Aside0.mk (Kd.R_below (by (with_reducible repeat (first | apply Kd.R_alloc | apply Kd.R_drewN | apply Kd.R_drew));exact HO_373000.out) hb)
                have n1_ := Aside0.mk (Kd.R_below (by (with_reducible repeat (first | apply Kd.R_alloc | apply Kd.R_drewN | apply Kd.R_drew));exact HO_378000.out) hb)
                have n2_ := Aside0.mk (blk_below (g := gb365) (o := .cells #[.slice A0_0 l0_0.length c0_0] 24 (0,0)) (by (with_reducible repeat (first | refine blk_drewN ?_ _ | refine blk_drew ?_ | refine blk_alloc ?_ _));exact BK365.out) hb)
                have n3_ := Aside0.mk (blk_below (g := gb366) (o := .cells #[.int .i64 a1_0,.string a1_1,.string a1_2,.int .i64 a1_3,.int .i64 a1_4,.int .i64 a1_5] 26 (0,0)) (by (with_reducible repeat (first | refine blk_drewN ?_ _ | refine blk_drew ?_ | refine blk_alloc ?_ _));exact BK366.out) hb)
                have n4_ := Aside0.mk (blk_below (g := gb372) (o := .cells #[.slice Ao28 t368.length co28] 24 (0,0)) (by (with_reducible repeat (first | refine blk_drewN ?_ _ | refine blk_drew ?_ | refine blk_alloc ?_ _));exact BK372.out) hb)
                have n5_ := Aside0.mk (blk_below (g := gb377) (o := .cells #[.slice Ao36 t373.length co36] 24 (0,0)) (by (with_reducible repeat (first | refine blk_drewN ?_ _ | refine blk_drew ?_ | refine blk_alloc ?_ _));exact BK377.out) hb)
                have n6_ := Aside0.mk (below_step (by repeat (first | (with_reducible first | exact HB.out | apply below_alloc | apply pw_below_drewN | apply below_drew1 | refine below_set ?_ GE365.out | refine below_set ?_ GE366.out | refine below_set ?_ GE372.out | refine below_set ?_ GE377.out) | exact HB.out)) hb)
                clear HO_373000;clear HO_378000;clear BK365;clear BK366;clear BK372;clear BK377;clear HB
                have HO_373000 := n0_
                have HO_378000 := n1_
                have BK365 := n2_
                have BK366 := n3_
                have BK372 := n4_
                have BK377 := n5_
                have HB := n6_
                clear n0_ n1_ n2_ n3_ n4_ n5_ n6_
                (try clear hb)
                (try clear hb2)
                (try clear hk)
                (try clear hi)
                refine hK.out _ _ ((blk_cell BK365.out 0).trans rfl) (fun hHeld => ?_)
                clear hK K
                refine norm_ (a' := ?_) ?_ ?_
                rotate_left
                · show Act.put _ (some 70) _ = _
                  simp only [Act.put,List.setIfInBounds_toArray,List.set_cons_zero,List.set_cons_succ,i64_w,i32_w]
                  rfl
                refine one_ (i := 11) (N := some 75) #[true,true,true,true,true,true,true,true,true,true,true,true,false,false,false,false,false,false,false,false,false,false] rfl rfl (one_of HT_.out (by kernel_rfl)) (by decide) (fun K hK => ?_)
                refine goes_ Try.func25 (by kernel_rfl) rfl #[.agg #[.slice A0_0 l0_0.length c0_0],.string a2,.int .i64 a3,.int .i64 a4] (by rfl) rfl rfl (by (try simp only [List.map_toArray,List.map_cons,List.map_nil]);first | done | rfl | (simp only [List.length_drop,List.length_take];rfl)) ?_
                with_reducible refine (wageofficeref39_Balance.calls kj21 _ _ l0_0 a2 a3 a4 t382 _ ?side1 ?side2 A64.out).mono ?_
                (case side1 => repeat (first | exact (Kd.C_below HR0_0.out HB.out) | (with_reducible refine Kd.C_alloc ?_ _) | (with_reducible refine Kd.C_drewN ?_ _) | (with_reducible refine Kd.C_drew ?_)))
                (case side2 => exact HC0_0.out)
                rintro e w78 ⟨rfl,hb⟩
                refine ⟨_,rfl,?_⟩
                have n0_ := Aside0.mk (Kd.R_below (by (with_reducible repeat (first | apply Kd.R_alloc | apply Kd.R_drewN | apply Kd.R_drew));exact HO_373000.out) hb)
                have n1_ := Aside0.mk (Kd.R_below (by (with_reducible repeat (first | apply Kd.R_alloc | apply Kd.R_drewN | apply Kd.R_drew));exact HO_378000.out) hb)
                have n2_ := Aside0.mk (blk_below (g := gb365) (o := .cells #[.slice A0_0 l0_0.length c0_0] 24 (0,0)) (by (with_reducible repeat (first | refine blk_drewN ?_ _ | refine blk_drew ?_ | refine blk_alloc ?_ _));exact BK365.out) hb)
                have n3_ := Aside0.mk (blk_below (g := gb366) (o := .cells #[.int .i64 a1_0,.string a1_1,.string a1_2,.int .i64 a1_3,.int .i64 a1_4,.int .i64 a1_5] 26 (0,0)) (by (with_reducible repeat (first | refine blk_drewN ?_ _ | refine blk_drew ?_ | refine blk_alloc ?_ _));exact BK366.out) hb)
                have n4_ := Aside0.mk (blk_below (g := gb372) (o := .cells #[.slice Ao28 t368.length co28] 24 (0,0)) (by (with_reducible repeat (first | refine blk_drewN ?_ _ | refine blk_drew ?_ | refine blk_alloc ?_ _));exact BK372.out) hb)
                have n5_ := Aside0.mk (blk_below (g := gb377) (o := .cells #[.slice Ao36 t373.length co36] 24 (0,0)) (by (with_reducible repeat (first | refine blk_drewN ?_ _ | refine blk_drew ?_ | refine blk_alloc ?_ _));exact BK377.out) hb)
                have n6_ := Aside0.mk (below_step (by repeat (first | (with_reducible first | exact HB.out | apply below_alloc | apply pw_below_drewN | apply below_drew1 | refine below_set ?_ GE365.out | refine below_set ?_ GE366.out | refine below_set ?_ GE372.out | refine below_set ?_ GE377.out) | exact HB.out)) hb)
                clear HO_373000;clear HO_378000;clear BK365;clear BK366;clear BK372;clear BK377;clear HB
                have HO_373000 := n0_
                have HO_378000 := n1_
                have BK365 := n2_
                have BK366 := n3_
                have BK372 := n4_
                have BK377 := n5_
                have HB := n6_
                clear n0_ n1_ n2_ n3_ n4_ n5_ n6_
                (try clear hb)
                (try clear hb2)
                (try clear hk)
                (try clear hi)
                refine hK.out _ _ ((blk_cell BK365.out 0).trans rfl) (fun hHeld => ?_)
                clear hK K
                refine norm_ (a' := ?_) ?_ ?_
                rotate_left
                · show Act.put _ (some 75) _ = _
                  simp only [Act.put,List.setIfInBounds_toArray,List.set_cons_zero,List.set_cons_succ,i64_w,i32_w]
                  rfl
                refine pure_ (i := 12) (N := some 76) (v := ?_) (a' := ?_) #[true,true,true,true,true,true,true,true,true,true,true,true,true,false,false,false,false,false,false,false,false,false] rfl rfl (any_of HT_.out (by kernel_rfl)) (fun _ _ _ h => h) (Or.inl ⟨by rfl,?_⟩) ?_ ?_
                rotate_left
                · intro w'
                  go_simp
                  with_reducible rfl
                rotate_left
                · simp only [Act.put,List.setIfInBounds_toArray,List.set_cons_zero,List.set_cons_succ,i64_w,i32_w]
                  rfl
                refine pure_ (i := 13) (N := some 77) (v := ?_) (a' := ?_) #[true,true,true,true,true,true,true,true,true,true,true,true,true,true,false,false,false,false,false,false,false,false] rfl rfl (any_of HT_.out (by kernel_rfl)) (fun _ _ _ h => h) (Or.inl ⟨by rfl,?_⟩) ?_ ?_
                rotate_left
                · intro w'
                  go_simp
                  with_reducible rfl
                rotate_left
                · simp only [Act.put,List.setIfInBounds_toArray,List.set_cons_zero,List.set_cons_succ,i64_w,i32_w]
                  rfl
                refine pure_ (i := 14) (N := some 78) (v := ?_) (a' := ?_) #[true,true,true,true,true,true,true,true,true,true,true,true,true,true,true,false,false,false,false,false,false,false] rfl rfl (any_of HT_.out (by kernel_rfl)) (fun _ _ _ h => h) (Or.inl ⟨by rfl,?_⟩) ?_ ?_
                rotate_left
                · intro w'
                  go_simp
                  with_reducible rfl
                rotate_left
                · simp only [Act.put,List.setIfInBounds_toArray,List.set_cons_zero,List.set_cons_succ,i64_w,i32_w]
                  rfl
                refine pure_ (i := 15) (N := some 79) (v := undef) (a' := ?_) #[true,true,true,true,true,true,true,true,true,true,true,true,true,true,true,true,false,false,false,false,false,false] rfl rfl (any_of HT_.out (by kernel_rfl)) (fun _ _ _ h => h) (Or.inr ⟨by rfl,rfl⟩) ?_ ?_
                rotate_left
                · simp only [Act.put,List.setIfInBounds_toArray,List.set_cons_zero,List.set_cons_succ,i64_w,i32_w]
                  rfl
                refine pure_ (i := 16) (N := some 80) (v := undef) (a' := ?_) #[true,true,true,true,true,true,true,true,true,true,true,true,true,true,true,true,true,false,false,false,false,false] rfl rfl (any_of HT_.out (by kernel_rfl)) (fun _ _ _ h => h) (Or.inr ⟨by rfl,rfl⟩) ?_ ?_
                rotate_left
                · simp only [Act.put,List.setIfInBounds_toArray,List.set_cons_zero,List.set_cons_succ,i64_w,i32_w]
                  rfl
                refine pure_ (i := 17) (N := some 81) (v := undef) (a' := ?_) #[true,true,true,true,true,true,true,true,true,true,true,true,true,true,true,true,true,true,false,false,false,false] rfl rfl (any_of HT_.out (by kernel_rfl)) (fun _ _ _ h => h) (Or.inr ⟨by rfl,rfl⟩) ?_ ?_
                rotate_left
                · simp only [Act.put,List.setIfInBounds_toArray,List.set_cons_zero,List.set_cons_succ,i64_w,i32_w]
                  rfl
                refine pure_ (i := 18) (N := some 82) (v := undef) (a' := ?_) #[true,true,true,true,true,true,true,true,true,true,true,true,true,true,true,true,true,true,true,false,false,false] rfl rfl (any_of HT_.out (by kernel_rfl)) (fun _ _ _ h => h) (Or.inr ⟨by rfl,rfl⟩) ?_ ?_
                rotate_left
                · simp only [Act.put,List.setIfInBounds_toArray,List.set_cons_zero,List.set_cons_succ,i64_w,i32_w]
                  rfl
                refine pure_ (i := 19) (N := some 83) (v := undef) (a' := ?_) #[true,true,true,true,true,true,true,true,true,true,true,true,true,true,true,true,true,true,true,true,false,false] rfl rfl (any_of HT_.out (by kernel_rfl)) (fun _ _ _ h => h) (Or.inr ⟨by rfl,rfl⟩) ?_ ?_
                rotate_left
                · simp only [Act.put,List.setIfInBounds_toArray,List.set_cons_zero,List.set_cons_succ,i64_w,i32_w]
                  rfl
                refine pure_ (i := 20) (N := some 84) (v := ?_) (a' := ?_) #[true,true,true,true,true,true,true,true,true,true,true,true,true,true,true,true,true,true,true,true,true,false] rfl rfl (any_of HT_.out (by kernel_rfl)) (fun _ _ _ h => h) (Or.inl ⟨by rfl,?_⟩) ?_ ?_
                rotate_left
                · intro w'
                  go_simp
                  with_reducible rfl
                rotate_left
                · simp only [Act.put,List.setIfInBounds_toArray,List.set_cons_zero,List.set_cons_succ,i64_w,i32_w]
                  rfl
                refine pure_ (i := 21) (N := some 10) (v := ?_) (a' := ?_) #[true,true,true,true,true,true,true,true,true,true,true,true,true,true,true,true,true,true,true,true,true,true] rfl rfl (any_of HT_.out (by kernel_rfl)) (fun _ _ _ h => h) (Or.inl ⟨by rfl,?_⟩) ?_ ?_
                rotate_left
                · intro w'
                  go_simp
                  with_reducible rfl
                rotate_left
                · simp only [Act.put,List.setIfInBounds_toArray,List.set_cons_zero,List.set_cons_succ,i64_w,i32_w]
                  rfl
                refine done_ (done_of HT_.out (by kernel_rfl)) ?_
                try go_wp2
                go_ret
                exact ⟨by first | rfl | (simp [errW_none,errW_some] <;> rfl) | (simp [*,errW_none,errW_some] <;> rfl),by repeat (first | (with_reducible first | exact HB.out | apply below_alloc | apply pw_below_drewN | apply below_drew1 | refine below_set ?_ GE365.out | refine below_set ?_ GE366.out | refine below_set ?_ GE372.out | refine below_set ?_ GE377.out) | exact HB.out)⟩
            · replace c62 := Bool.eq_false_iff.mpr c62
              subst c62
              have H1 : (some false) = some r := by rw [if_neg (show ¬ (false = true) by decide)] at H;exact H
              clear H
              have H := H1
              clear H1
              obtain rfl := Option.some.inj H
              try go_wp2
              have n0_ := Aside0.mk (Kd.R_drew HO_373000.out)
              have n1_ := Aside0.mk (Kd.R_drew HO_378000.out)
              have n2_ := Aside0.mk (blk_drew BK365.out)
              have n3_ := Aside0.mk (blk_drew BK366.out)
              have n4_ := Aside0.mk (blk_drew BK372.out)
              have n5_ := Aside0.mk (blk_drew BK377.out)
              have n6_ := Aside0.mk (below_drew1 HB.out)
              clear HO_373000;clear HO_378000;clear BK365;clear BK366;clear BK372;clear BK377;clear HB
              have HO_373000 := n0_
              have HO_378000 := n1_
              have BK365 := n2_
              have BK366 := n3_
              have BK372 := n4_
              have BK377 := n5_
              have HB := n6_
              clear n0_ n1_ n2_ n3_ n4_ n5_ n6_
              refine start_ (n := 22) (S := fun w' => True) (ds := []) #[false,false,false,false,false,false,false,false,false,false,false,false,false,false,false,false,false,false,false,false,false,false] (by kernel_rfl) rfl rfl trivial (fun hHeld => ?_);refine with_tabW wageofficelaw39_LedgerMatchesReference.tab7 wageofficelaw39_LedgerMatchesReference.bits7 (fun HT_ HW_ => ?_)
              generalize wc.drew = w79 at HO_373000 HO_378000 BK365 BK366 BK372 BK377 HB hHeld ⊢
              refine pure_ (i := 0) (N := some 64) (v := ?_) (a' := ?_) #[true,false,false,false,false,false,false,false,false,false,false,false,false,false,false,false,false,false,false,false,false,false] rfl rfl (any_of HT_.out (by kernel_rfl)) (fun _ _ _ h => h) (Or.inl ⟨by rfl,?_⟩) ?_ ?_
              rotate_left
              · intro w'
                go_simp
                with_reducible rfl
              rotate_left
              · simp only [Act.put,List.setIfInBounds_toArray,List.set_cons_zero,List.set_cons_succ,i64_w,i32_w]
                rfl
              refine pure_ (i := 1) (N := some 65) (v := ?_) (a' := ?_) #[true,true,false,false,false,false,false,false,false,false,false,false,false,false,false,false,false,false,false,false,false,false] rfl rfl (any_of HT_.out (by kernel_rfl)) (fun _ _ _ h => h) (Or.inl ⟨by rfl,?_⟩) ?_ ?_
              rotate_left
              · intro w'
                go_simp
                with_reducible rfl
              rotate_left
              · simp only [Act.put,List.setIfInBounds_toArray,List.set_cons_zero,List.set_cons_succ,i64_w,i32_w]
                rfl
              refine pure_ (i := 2) (N := some 66) (v := undef) (a' := ?_) #[true,true,true,false,false,false,false,false,false,false,false,false,false,false,false,false,false,false,false,false,false,false] rfl rfl (any_of HT_.out (by kernel_rfl)) (fun _ _ _ h => h) (Or.inr ⟨by rfl,rfl⟩) ?_ ?_
              rotate_left
              · simp only [Act.put,List.setIfInBounds_toArray,List.set_cons_zero,List.set_cons_succ,i64_w,i32_w]
                rfl
              refine pure_ (i := 3) (N := some 67) (v := undef) (a' := ?_) #[true,true,true,true,false,false,false,false,false,false,false,false,false,false,false,false,false,false,false,false,false,false] rfl rfl (any_of HT_.out (by kernel_rfl)) (fun _ _ _ h => h) (Or.inr ⟨by rfl,rfl⟩) ?_ ?_
              rotate_left
              · simp only [Act.put,List.setIfInBounds_toArray,List.set_cons_zero,List.set_cons_succ,i64_w,i32_w]
                rfl
              refine pure_ (i := 4) (N := some 68) (v := undef) (a' := ?_) #[true,true,true,true,true,false,false,false,false,false,false,false,false,false,false,false,false,false,false,false,false,false] rfl rfl (any_of HT_.out (by kernel_rfl)) (fun _ _ _ h => h) (Or.inr ⟨by rfl,rfl⟩) ?_ ?_
              rotate_left
              · simp only [Act.put,List.setIfInBounds_toArray,List.set_cons_zero,List.set_cons_succ,i64_w,i32_w]
                rfl
              refine pure_ (i := 5) (N := some 69) (v := undef) (a' := ?_) #[true,true,true,true,true,true,false,false,false,false,false,false,false,false,false,false,false,false,false,false,false,false] rfl rfl (any_of HT_.out (by kernel_rfl)) (fun _ _ _ h => h) (Or.inr ⟨by rfl,rfl⟩) ?_ ?_
              rotate_left
              · simp only [Act.put,List.setIfInBounds_toArray,List.set_cons_zero,List.set_cons_succ,i64_w,i32_w]
                rfl
              refine pure_ (i := 6) (N := some 70) (v := undef) (a' := ?_) #[true,true,true,true,true,true,true,false,false,false,false,false,false,false,false,false,false,false,false,false,false,false] rfl rfl (any_of HT_.out (by kernel_rfl)) (fun _ _ _ h => h) (Or.inr ⟨by rfl,rfl⟩) ?_ ?_
              rotate_left
              · simp only [Act.put,List.setIfInBounds_toArray,List.set_cons_zero,List.set_cons_succ,i64_w,i32_w]
                rfl
              refine pure_ (i := 7) (N := some 71) (v := undef) (a' := ?_) #[true,true,true,true,true,true,true,true,false,false,false,false,false,false,false,false,false,false,false,false,false,false] rfl rfl (any_of HT_.out (by kernel_rfl)) (fun _ _ _ h => h) (Or.inr ⟨by rfl,rfl⟩) ?_ ?_
              rotate_left
              · simp only [Act.put,List.setIfInBounds_toArray,List.set_cons_zero,List.set_cons_succ,i64_w,i32_w]
                rfl
              refine pure_ (i := 8) (N := some 72) (v := undef) (a' := ?_) #[true,true,true,true,true,true,true,true,true,false,false,false,false,false,false,false,false,false,false,false,false,false] rfl rfl (any_of HT_.out (by kernel_rfl)) (fun _ _ _ h => h) (Or.inr ⟨by rfl,rfl⟩) ?_ ?_
              rotate_left
              · simp only [Act.put,List.setIfInBounds_toArray,List.set_cons_zero,List.set_cons_succ,i64_w,i32_w]
                rfl
              refine pure_ (i := 9) (N := some 73) (v := undef) (a' := ?_) #[true,true,true,true,true,true,true,true,true,true,false,false,false,false,false,false,false,false,false,false,false,false] rfl rfl (any_of HT_.out (by kernel_rfl)) (fun _ _ _ h => h) (Or.inr ⟨by rfl,rfl⟩) ?_ ?_
              rotate_left
              · simp only [Act.put,List.setIfInBounds_toArray,List.set_cons_zero,List.set_cons_succ,i64_w,i32_w]
                rfl
              refine pure_ (i := 10) (N := some 74) (v := undef) (a' := ?_) #[true,true,true,true,true,true,true,true,true,true,true,false,false,false,false,false,false,false,false,false,false,false] rfl rfl (any_of HT_.out (by kernel_rfl)) (fun _ _ _ h => h) (Or.inr ⟨by rfl,rfl⟩) ?_ ?_
              rotate_left
              · simp only [Act.put,List.setIfInBounds_toArray,List.set_cons_zero,List.set_cons_succ,i64_w,i32_w]
                rfl
              refine pure_ (i := 11) (N := some 75) (v := undef) (a' := ?_) #[true,true,true,true,true,true,true,true,true,true,true,true,false,false,false,false,false,false,false,false,false,false] rfl rfl (any_of HT_.out (by kernel_rfl)) (fun _ _ _ h => h) (Or.inr ⟨by rfl,rfl⟩) ?_ ?_
              rotate_left
              · simp only [Act.put,List.setIfInBounds_toArray,List.set_cons_zero,List.set_cons_succ,i64_w,i32_w]
                rfl
              refine pure_ (i := 12) (N := some 76) (v := undef) (a' := ?_) #[true,true,true,true,true,true,true,true,true,true,true,true,true,false,false,false,false,false,false,false,false,false] rfl rfl (any_of HT_.out (by kernel_rfl)) (fun _ _ _ h => h) (Or.inr ⟨by rfl,rfl⟩) ?_ ?_
              rotate_left
              · simp only [Act.put,List.setIfInBounds_toArray,List.set_cons_zero,List.set_cons_succ,i64_w,i32_w]
                rfl
              refine pure_ (i := 13) (N := some 77) (v := ?_) (a' := ?_) #[true,true,true,true,true,true,true,true,true,true,true,true,true,true,false,false,false,false,false,false,false,false] rfl rfl (any_of HT_.out (by kernel_rfl)) (fun _ _ _ h => h) (Or.inl ⟨by rfl,?_⟩) ?_ ?_
              rotate_left
              · intro w'
                go_simp
                with_reducible rfl
              rotate_left
              · simp only [Act.put,List.setIfInBounds_toArray,List.set_cons_zero,List.set_cons_succ,i64_w,i32_w]
                rfl
              refine pure_ (i := 14) (N := some 78) (v := ?_) (a' := ?_) #[true,true,true,true,true,true,true,true,true,true,true,true,true,true,true,false,false,false,false,false,false,false] rfl rfl (any_of HT_.out (by kernel_rfl)) (fun _ _ _ h => h) (Or.inl ⟨by rfl,?_⟩) ?_ ?_
              rotate_left
              · intro w'
                go_simp
                with_reducible rfl
              rotate_left
              · simp only [Act.put,List.setIfInBounds_toArray,List.set_cons_zero,List.set_cons_succ,i64_w,i32_w]
                rfl
              refine pure_ (i := 15) (N := some 79) (v := undef) (a' := ?_) #[true,true,true,true,true,true,true,true,true,true,true,true,true,true,true,true,false,false,false,false,false,false] rfl rfl (any_of HT_.out (by kernel_rfl)) (fun _ _ _ h => h) (Or.inr ⟨by rfl,rfl⟩) ?_ ?_
              rotate_left
              · simp only [Act.put,List.setIfInBounds_toArray,List.set_cons_zero,List.set_cons_succ,i64_w,i32_w]
                rfl
              refine pure_ (i := 16) (N := some 80) (v := undef) (a' := ?_) #[true,true,true,true,true,true,true,true,true,true,true,true,true,true,true,true,true,false,false,false,false,false] rfl rfl (any_of HT_.out (by kernel_rfl)) (fun _ _ _ h => h) (Or.inr ⟨by rfl,rfl⟩) ?_ ?_
              rotate_left
              · simp only [Act.put,List.setIfInBounds_toArray,List.set_cons_zero,List.set_cons_succ,i64_w,i32_w]
                rfl
              refine pure_ (i := 17) (N := some 81) (v := undef) (a' := ?_) #[true,true,true,true,true,true,true,true,true,true,true,true,true,true,true,true,true,true,false,false,false,false] rfl rfl (any_of HT_.out (by kernel_rfl)) (fun _ _ _ h => h) (Or.inr ⟨by rfl,rfl⟩) ?_ ?_
              rotate_left
              · simp only [Act.put,List.setIfInBounds_toArray,List.set_cons_zero,List.set_cons_succ,i64_w,i32_w]
                rfl
              refine pure_ (i := 18) (N := some 82) (v := undef) (a' := ?_) #[true,true,true,true,true,true,true,true,true,true,true,true,true,true,true,true,true,true,true,false,false,false] rfl rfl (any_of HT_.out (by kernel_rfl)) (fun _ _ _ h => h) (Or.inr ⟨by rfl,rfl⟩) ?_ ?_
              rotate_left
              · simp only [Act.put,List.setIfInBounds_toArray,List.set_cons_zero,List.set_cons_succ,i64_w,i32_w]
                rfl
              refine pure_ (i := 19) (N := some 83) (v := undef) (a' := ?_) #[true,true,true,true,true,true,true,true,true,true,true,true,true,true,true,true,true,true,true,true,false,false] rfl rfl (any_of HT_.out (by kernel_rfl)) (fun _ _ _ h => h) (Or.inr ⟨by rfl,rfl⟩) ?_ ?_
              rotate_left
              · simp only [Act.put,List.setIfInBounds_toArray,List.set_cons_zero,List.set_cons_succ,i64_w,i32_w]
                rfl
              refine pure_ (i := 20) (N := some 84) (v := ?_) (a' := ?_) #[true,true,true,true,true,true,true,true,true,true,true,true,true,true,true,true,true,true,true,true,true,false] rfl rfl (any_of HT_.out (by kernel_rfl)) (fun _ _ _ h => h) (Or.inl ⟨by rfl,?_⟩) ?_ ?_
              rotate_left
              · intro w'
                go_simp
                with_reducible rfl
              rotate_left
              · simp only [Act.put,List.setIfInBounds_toArray,List.set_cons_zero,List.set_cons_succ,i64_w,i32_w]
                rfl
              refine pure_ (i := 21) (N := some 10) (v := ?_) (a' := ?_) #[true,true,true,true,true,true,true,true,true,true,true,true,true,true,true,true,true,true,true,true,true,true] rfl rfl (any_of HT_.out (by kernel_rfl)) (fun _ _ _ h => h) (Or.inl ⟨by rfl,?_⟩) ?_ ?_
              rotate_left
              · intro w'
                go_simp
                with_reducible rfl
              rotate_left
              · simp only [Act.put,List.setIfInBounds_toArray,List.set_cons_zero,List.set_cons_succ,i64_w,i32_w]
                rfl
              refine done_ (done_of HT_.out (by kernel_rfl)) ?_
              try go_wp2
              go_ret
              exact ⟨by first | rfl | (simp [errW_none,errW_some] <;> rfl) | (simp [*,errW_none,errW_some] <;> rfl),by repeat (first | (with_reducible first | exact HB.out | apply below_alloc | apply pw_below_drewN | apply below_drew1 | refine below_set ?_ GE365.out | refine below_set ?_ GE366.out | refine below_set ?_ GE372.out | refine below_set ?_ GE377.out) | exact HB.out)⟩

end Go.Proofs.Ytbmochegfdljfaa.My
end
section
/- A value that can be read as data is a value of the print's kinds: numbers,bools,strings,slices,structs,to any depth. -/





namespace Go.Proofs.Ytbmochegfdljfaa.Opn
open Go Go.RowKit Go.Proofs.YtbmochegfdljfaaW.PrintWords Go.Proofs.YtbmochegfdljfaaW.PrintLast Go.Proofs.YtbmochegfdljfaaW.PrintMore
set_option linter.unusedVariables false
set_option linter.unusedSimpArgs false

def Opn (P : Program) (t : TypeId) {α : Type} (d : Kd α) (B : α → Prop) : Prop :=
  ∀ {H : Type} (enc : TypeId × Value → H) (w : World) (base : Nat) (spare : Nat → Bool) (held : Bool) (fuel : Nat) (cs : List Value) (x : DataW H × List MemPlace),
    DataW.trod enc P w base spare held fuel t cs = some x → ∃ a : α,Kd.FK d w (fun _ => True) a cs ∧ B a
theorem Opn.int {P : Program} {t : TypeId} {k : IntKind} (ht : P.underlying t = some (.int k)) : Opn P t (Kd.int k) (fun n => (Lit.int k n).wf = true) := by
  intro H enc w base spare held fuel cs x h
  obtain ⟨n,rfl,_,hw⟩ := DataW.trod_int ht h
  exact ⟨n,fun _ _ => rfl,hw⟩
theorem Opn.bool {P : Program} {t : TypeId} (ht : P.underlying t = some .bool) : Opn P t Kd.bool (fun _ => True) := by
  intro H enc w base spare held fuel cs x h
  obtain ⟨n,rfl,_⟩ := DataW.trod_bool ht h
  exact ⟨n,fun _ _ => rfl,trivial⟩
theorem Opn.string {P : Program} {t : TypeId} (ht : P.underlying t = some .string) : Opn P t Kd.string (fun s => s.size ≤ maxLen) := by
  intro H enc w base spare held fuel cs x h
  obtain ⟨s,rfl,_,hs⟩ := DataW.trod_string ht h
  exact ⟨s,fun _ _ => rfl,hs⟩
theorem cell_same {w W : World} {a : Addr} {v : Value} (h : w.cell? a = some v) (hW : ∀ k,True → k < w.heap.size → W.heap[k]? = w.heap[k]?) : W.cell? a = w.cell? a := by
  have := hW a.block trivial (World.block_lt_of_cell? w a h)
  unfold World.cell?
  rw [this]
theorem list_of {α : Type} {n : Nat} {p : Nat → α → Prop} (h : ∀ i,i < n → ∃ x,p i x) : ∃ xs : List α,xs.length = n ∧ ∀ i (hi : i < xs.length),p i xs[i] := by
  induction n with
  | zero => exact ⟨[],rfl,fun i hi => absurd hi (by simp)⟩
  | succ n ih =>
    obtain ⟨xs,hl,hx⟩ := ih fun i hi => h i (by omega)
    obtain ⟨x,hp⟩ := h n (by omega)
    refine ⟨xs ++ [x],by simp [hl],fun i hi => ?_⟩
    rw [List.length_append] at hi
    by_cases e : i < xs.length
    · rw [List.getElem_append_left e];exact hx i e
    · have : i = n := by simp at hi;omega
      subst this
      rw [List.getElem_append_right (by omega)]
      simp [hl];exact hp
theorem Opn.slice {P : Program} {t e : TypeId} {α : Type} {d : Kd α} {B : α → Prop} (ht : P.underlying t = some (.slice e)) (hc : P.cellsOf e = d.sz) (he : Opn P e d B) :
    Opn P t (Kd.slice e d) (fun l => l.length ≤ maxLen ∧ ∀ x ∈ l,B x) := by
  intro H enc w base spare held fuel cs x h
  rcases DataW.trod_slice ht h with ⟨rfl,_⟩ | ⟨a,len,cap,elems,rest,n,_,rfl,_,hb,hl,hm,hlen,hel,_⟩
  · exact ⟨[],fun _ _ => ⟨none,0,rfl,Nat.le_refl _,⟨rfl,by simp,fun h => absurd h (by simp)⟩⟩,by simp,fun x hx => by simp at hx⟩
  · have hx : ∀ i,i < len → ∃ y : α,(∃ ci,w.cells? base (a.add (i * P.cellsOf e)) (P.cellsOf e) = some ci ∧ Kd.FK d w (fun _ => True) y ci) ∧ B y := by
      intro i hi
      have h1 := hel i hi
      rw [List.getElem?_eq_getElem (by omega)] at h1
      obtain ⟨ci,hci,hy⟩ := Option.bind_eq_some_iff.1 h1
      obtain ⟨y,hK,hB⟩ := he enc w base spare held n ci _ hy
      exact ⟨y,⟨ci,hci,hK⟩,hB⟩
    obtain ⟨xs,hxl,hxs⟩ := list_of hx
    subst hxl
    refine ⟨xs,fun W' hW' => ⟨some a,cap,rfl,hl,⟨rfl,by unfold maxLen at hm;omega,fun _ => ⟨a,rfl,fun j p hj => ?_⟩⟩⟩,by omega,fun x hx => ?_⟩
    · obtain ⟨hjl,rfl⟩ := List.getElem?_eq_some_iff.1 hj
      obtain ⟨⟨ci,hci,hK⟩,_⟩ := hxs j hjl
      refine ⟨ci,d.K_len (hK W' hW'),hK W' hW',fun i u hu => ?_⟩
      unfold World.cells? at hci
      split at hci
      · have hcl := mapM_some_length hci
        have hi : i < ci.length := (List.getElem?_eq_some_iff.1 hu).1
        have hg := mapM_some_get hci i i (by rw [List.getElem?_range (by simpa [hcl] using hi)])
        rw [hu] at hg
        rw [← hc,← Go.Deep.add_add]
        exact (cell_same hg hW').trans hg
      · cases hci
    · obtain ⟨i,hi,rfl⟩ := List.getElem_of_mem hx
      exact (hxs i hi).2

def OpnFs (P : Program) (fs : List Field) (off : Nat) {α : Type} (d : Kd α) (B : α → Prop) : Prop :=
  ∀ {H : Type} (enc : TypeId × Value → H) (w : World) (base : Nat) (spare : Nat → Bool) (held : Bool) (n : Nat) (cs : List Value),
    (∀ (i : Nat) (f : Field),fs[i]? = some f → ∃ y,DataW.trod enc P w base spare held n f.type ((cs.drop f.offset).take (P.cellsOf f.type)) = some y) → cs.length = off + d.sz → ∃ a : α,Kd.FK d w (fun _ => True) a (cs.drop off) ∧ B a
theorem OpnFs.one {P : Program} {f : Field} {off : Nat} {α : Type} {d : Kd α} {B : α → Prop} (ho : f.offset = off) (hc : P.cellsOf f.type = d.sz) (h : Opn P f.type d B) : OpnFs P [f] off d B := by
  intro H enc w base spare held n cs hf hl
  obtain ⟨y,hy⟩ := hf 0 f rfl
  rw [ho,List.take_of_length_le (by rw [List.length_drop];omega)] at hy
  exact h enc w base spare held n _ _ hy
theorem OpnFs.cons {P : Program} {f : Field} {fs : List Field} {off : Nat} {α β : Type} {a : Kd α} {b : Kd β} {Ba : α → Prop} {Bb : β → Prop} (ho : f.offset = off) (hc : P.cellsOf f.type = a.sz) (h : Opn P f.type a Ba)
    (hs : OpnFs P fs (off + a.sz) b Bb) : OpnFs P (f :: fs) off (Kd.pair a b) (fun x => Ba x.1 ∧ Bb x.2) := by
  intro H enc w base spare held n cs hf hl
  have hl' : cs.length = off + (a.sz + b.sz) := hl
  obtain ⟨y,hy⟩ := hf 0 f rfl
  obtain ⟨x1,hK1,hB1⟩ := h enc w base spare held n _ _ hy
  obtain ⟨x2,hK2,hB2⟩ := hs enc w base spare held n cs (fun i g hg => hf (i + 1) g (by simpa using hg)) (by omega)
  refine ⟨(x1,x2),fun W' hW' => ⟨(cs.drop off).take a.sz,cs.drop (off + a.sz),?_,?_,hK2 W' hW'⟩,hB1,hB2⟩
  · rw [← List.drop_drop,List.take_append_drop]
  · rw [ho,hc] at hK1;exact hK1 W' hW'
theorem OpnFs.iso {P : Program} {fs : List Field} {off : Nat} {α β : Type} {d : Kd α} {B : α → Prop} (f : β → α) (g : α → β) (hg : ∀ a,f (g a) = a) (h : OpnFs P fs off d B) : OpnFs P fs off (Kd.iso d f) (fun x => B (f x)) := by
  intro H enc w base spare held n cs hf hl
  obtain ⟨a,hK,hB⟩ := h enc w base spare held n cs hf hl
  exact ⟨g a,fun W' hW' => show d.K W' (f (g a)) _ from (hg a).symm ▸ hK W' hW',show B (f (g a)) from (hg a).symm ▸ hB⟩
theorem Opn.struct {P : Program} {t : TypeId} {fs : Array Field} {α : Type} {d : Kd α} {B : α → Prop} (ht : P.underlying t = some (.struct fs)) (hc : P.cellsOf t = d.sz) (h : OpnFs P fs.toList 0 d B) : Opn P t d B := by
  intro H enc w base spare held fuel cs x hx
  obtain ⟨xs,n,_,_,hl,hxl,hf⟩ := DataW.trod_struct ht hx
  obtain ⟨a,hK,hB⟩ := h enc w base spare held n cs (fun i f hi => by
    have hi' : fs[i]? = some f := by simpa using hi
    have h1 := hf i f hi'
    have hlt : i < xs.length := by rw [hxl];exact (Array.getElem?_eq_some_iff.1 hi').1
    rw [List.getElem?_eq_getElem hlt] at h1
    exact ⟨_,h1⟩) (by omega)
  exact ⟨a,hK,hB⟩
theorem Opn.mono {P : Program} {t : TypeId} {α : Type} {d : Kd α} {B B' : α → Prop} (h : Opn P t d B) (hB : ∀ a,B a → B' a) : Opn P t d B' := by
  intro H enc w base spare held fuel cs x hx
  obtain ⟨a,hK,hb⟩ := h enc w base spare held fuel cs x hx
  exact ⟨a,hK,hB a hb⟩
theorem arr_of {cs : Array Value} {l : List Value} (h : cs.toList = l) : cs = l.toArray := by subst h;simp
end Go.Proofs.Ytbmochegfdljfaa.Opn
end
section
/- Plain lemmas on functions with a number of rounds: what they come to with enough rounds. -/

namespace Go.Proofs.Ytbmochegfdljfaa.EvA
open Go.RowKit Go.Proofs.YtbmochegfdljfaaW.PrintWords Go.Proofs.YtbmochegfdljfaaW.PrintLast Go.Proofs.YtbmochegfdljfaaW.PrintMore Go.Proofs.Ytbmochegfdljfaa.Aid
set_option linter.unusedVariables false
set_option linter.unusedSimpArgs false

theorem ev_ret {α : Type} (r : α) : Ev (fun _ => some r) r := ⟨0,fun _ _ => rfl⟩
theorem ev_lift {α : Type} {o : Option α} {r : α} (h : o = some r) : Ev (fun _ => o) r := ⟨0,fun _ _ => h⟩
theorem ev_bnd {α β : Type} {g : Nat → Option α} {a : α} {f : Nat → α → Option β} {r : β} (h : Ev g a) (h2 : Ev (fun k => f k a) r) : Ev (fun k => (g k).bind (f k)) r := by
  obtain ⟨K,hK⟩ := h
  obtain ⟨L,hL⟩ := h2
  refine ⟨K + L,fun k hk => ?_⟩
  show (g k).bind (f k) = some r
  rw [hK k (by omega)]
  exact hL k (by omega)
theorem ev_up {α : Type} {g : Nat → Option α} {r : α} (h : Ev (fun k => g (k + 1)) r) : Ev g r := by
  obtain ⟨K,hK⟩ := h
  refine ⟨K + 1,fun k hk => ?_⟩
  obtain ⟨m,rfl⟩ : ∃ m,k = m + 1 := ⟨k - 1,by omega⟩
  exact hK m (by omega)
theorem ev_yes {α : Type} {c : Prop} [Decidable c] {A B : Nat → Option α} {r : α} (hc : c) (h : Ev A r) : Ev (fun k => if c then A k else B k) r := by
  simp only [if_pos hc];exact h
theorem ev_no {α : Type} {c : Prop} [Decidable c] {A B : Nat → Option α} {r : α} (hc : ¬ c) (h : Ev B r) : Ev (fun k => if c then A k else B k) r := by
  simp only [if_neg hc];exact h
theorem ev_ite {α : Type} {c : Prop} [Decidable c] {A B : Nat → Option α} {r : α} (h1 : c → Ev A r) (h2 : ¬ c → Ev B r) : Ev (fun k => if c then A k else B k) r := by
  by_cases hc : c
  · exact ev_yes hc (h1 hc)
  · exact ev_no hc (h2 hc)
theorem ev_ex {α : Type} {g : Nat → Option α} {r : α} (h : Ev g r) : ∃ k,g k = some r := by
  obtain ⟨K,hK⟩ := h
  exact ⟨K,hK K (Nat.le_refl _)⟩
theorem ev_eq {α : Type} {g : Nat → Option α} {r r' : α} (h : Ev g r) (e : r = r') : Ev g r' := e ▸ h
theorem ev_fn {α : Type} {g g' : Nat → Option α} {r : α} (h : Ev g r) (e : ∀ k,g' k = g k) : Ev g' r := by
  obtain ⟨K,hK⟩ := h
  exact ⟨K,fun k hk => (e k).trans (hK k hk)⟩
theorem ev_unique {α : Type} {g : Nat → Option α} {r r' : α} (h : Ev g r) (h' : Ev g r') : r = r' := by
  obtain ⟨K,hK⟩ := h
  obtain ⟨L,hL⟩ := h'
  have a := hK (K + L) (by omega)
  have b := hL (K + L) (by omega)
  rw [a] at b;exact Option.some.inj b
theorem wf64 {x : Int} (h : (Lit.int .i64 x).wf = true) : -9223372036854775808 ≤ x ∧ x ≤ 9223372036854775807 := by
  simp only [Lit.wf,Bool.and_eq_true,decide_eq_true_eq] at h
  have h1 : IntKind.i64.min = -9223372036854775808 := by decide
  have h2 : IntKind.i64.max = 9223372036854775807 := by decide
  rw [h1,h2] at h
  exact h
end Go.Proofs.Ytbmochegfdljfaa.EvA
end
section
-- Written by a program of this session (wip/myprint.py),which drives the kit's print over hand-written fragments. Not trusted: Lean checks it.


namespace Go.Proofs.Ytbmochegfdljfaa.My
open Go.RowKit Go.Proofs.Ytbmochegfdljfaa.My Go.Proofs.YtbmochegfdljfaaW.PrintWords Go.Proofs.YtbmochegfdljfaaW.PrintLast Go.Proofs.YtbmochegfdljfaaW.PrintMore Go.Proofs.Ytbmochegfdljfaa.Opn
set_option linter.unusedVariables false
set_option linter.unusedSimpArgs false
def B26 (x : S26) : Prop := ((Lit.int .i64 x.f0).wf = true) ∧ (x.f1.size ≤ maxLen) ∧ (x.f2.size ≤ maxLen) ∧ ((Lit.int .i64 x.f3).wf = true) ∧ ((Lit.int .i64 x.f4).wf = true) ∧ ((Lit.int .i64 x.f5).wf = true)
theorem opn26 : Opn Try.prog 26 k26 B26 :=
  Opn.mono (Opn.struct Try.underlying26 (by kernel_rfl) (OpnFs.iso (fun x : S26 => (x.f0,x.f1,x.f2,x.f3,x.f4,x.f5)) (fun a => (⟨a.1,a.2.1,a.2.2.1,a.2.2.2.1,a.2.2.2.2.1,a.2.2.2.2.2⟩ : S26)) (fun _ => rfl) (OpnFs.cons rfl (by kernel_rfl) (Opn.int Try.underlying3) (OpnFs.cons rfl (by kernel_rfl) (Opn.string Try.underlying9) (OpnFs.cons rfl (by kernel_rfl) (Opn.string Try.underlying9) (OpnFs.cons rfl (by kernel_rfl) (Opn.int Try.underlying3) (OpnFs.cons rfl (by kernel_rfl) (Opn.int Try.underlying3) (OpnFs.one rfl (by kernel_rfl) (Opn.int Try.underlying3))))))))) (fun _ h => h)
def B24 (x : S24) : Prop := ((x.f0.length ≤ maxLen ∧ ∀ y ∈ x.f0,B26 y))
theorem opn24 : Opn Try.prog 24 k24 B24 :=
  Opn.mono (Opn.struct Try.underlying24 (by kernel_rfl) (OpnFs.iso (fun x : S24 => x.f0) (fun a => (⟨a⟩ : S24)) (fun _ => rfl) (OpnFs.one rfl (by kernel_rfl) (Opn.slice Try.underlying22 (by kernel_rfl) opn26)))) (fun _ h => h)
end Go.Proofs.Ytbmochegfdljfaa.My
end
section
/- What the functions of ledger,and of its laws,come to on lists of entries. -/










namespace Go.Proofs.Ytbmochegfdljfaa.LdE
open Go.RowKit Go.Proofs.Ytbmochegfdljfaa.My Go.Proofs.Ytbmochegfdljfaa.Aid Go.Proofs.Ytbmochegfdljfaa.EvA Go.Proofs.YtbmochegfdljfaaW.PrintWords Go.Proofs.YtbmochegfdljfaaW.PrintLast Go.Proofs.YtbmochegfdljfaaW.PrintMore
set_option linter.unusedVariables false
set_option linter.unusedSimpArgs false

abbrev En := S26
theorem head_ev : Ev (fun k => wageofficelaw39_head.f k) true := by
  have h : wageofficelaw39_head.f 20 = some true := by decide +kernel
  exact Ev.of (fun k => wageofficelaw39_head.mono k) h
theorem sz_of {x : En} (h : B26 x) : szB x = true := by
  unfold szB
  rw [h.1,decide_eq_true h.2.1,decide_eq_true h.2.2.1];rfl
theorem sz_all {l : List En} (h : ∀ x ∈ l,B26 x) : l.all szB = true := List.all_eq_true.2 fun x hx => sz_of (h x hx)
def bal (l : List En) (a : ByteArray) (d b : Int) : Int := if validB l = true then balG l a d b else 0
theorem bal_eval {l : List En} (h : l.all szB = true) (a : ByteArray) (d b : Int) : ledger_Balance.f l a d b = some (bal l a d b) := by
  unfold ledger_Balance.f bal;rw [if_pos h]
theorem acc_eval {l : List En} (h : l.all szB = true) : ledger_Accounts.f l = some (if validB l = true then accF l else []) := by
  unfold ledger_Accounts.f;rw [if_pos h]
theorem val_eval {l : List En} (h : l.all szB = true) : ledger_Valid.f l = some (validB l) := by
  unfold ledger_Valid.f;rw [if_pos h]
theorem post_eval {l : List En} (h : l.all szB = true) {a0 : Int} {a1 a2 : ByteArray} {a3 a4 a5 : Int} (he : szB ⟨a0,a1,a2,a3,a4,a5⟩ = true) : ledger_Post.f l a0 a1 a2 a3 a4 a5 = some (postL l ⟨a0,a1,a2,a3,a4,a5⟩) := by
  unfold ledger_Post.f;rw [if_pos (by rw [h,he];rfl)]

/-! ### valid ledgers -/
structure Vl (l : List En) : Prop where
  len : l.length ≤ 2000
  form : ∀ x ∈ l,formB x = true
  dis : l.Pairwise fun a b => a.f0 ≠ b.f0
  srt : l.Pairwise fun a b => a.f5 ≤ b.f5
theorem goes_iff : ∀ {l : List En} {seen : List Int} {last : Int},goesB seen last l = true ↔
    (∀ x ∈ l,formB x = true) ∧ (∀ x ∈ l,x.f0 ∉ seen) ∧ (l.Pairwise fun a b => a.f0 ≠ b.f0) ∧ (∀ x ∈ l,last ≤ x.f5) ∧ (l.Pairwise fun a b => a.f5 ≤ b.f5)
  | [],_,_ => by simp [goesB]
  | x :: l,seen,last => by
    rw [goes_cons]
    simp only [Bool.and_eq_true,Bool.not_eq_true',decide_eq_true_eq,List.contains_eq_mem,decide_eq_false_iff_not]
    rw [goes_iff (l := l)]
    simp only [List.pairwise_cons,List.mem_cons,forall_eq_or_imp]
    constructor
    · rintro ⟨h1,h2,h3,h4,h5,h6,h7,h8⟩
      exact ⟨⟨h2,h4⟩,⟨h1,fun y hy h => h5 y hy (.inr h)⟩,⟨fun y hy e => h5 y hy (.inl e.symm),h6⟩,⟨h3,fun y hy => Int.le_trans h3 (h7 y hy)⟩,h7,h8⟩
    · rintro ⟨⟨h1,h2⟩,⟨h3,h4⟩,⟨h5,h6⟩,⟨h7,h8⟩,h9,h10⟩
      exact ⟨h3,h1,h7,h2,fun y hy h => h.elim (fun e => h5 y hy e.symm) (h4 y hy),h6,h9,h10⟩
theorem form_parts {x : En} (h : formB x = true) : 0 ≤ x.f0 ∧ x.f0 ≤ 1000000000000 ∧ nameB x.f1 = true ∧ nameB x.f2 = true ∧ x.f1.toList ≠ x.f2.toList ∧ 0 < x.f3 ∧ x.f3 ≤ 1000000000000 ∧ 0 ≤ x.f4 ∧ x.f4 ≤ 36524 ∧ 0 ≤ x.f5 ∧ x.f5 ≤ 36524 := by
  simp only [formB,Bool.and_eq_true,decide_eq_true_eq] at h
  obtain ⟨⟨h1,h2⟩,h3,h4,h5,h6,h7,h8,h9,h10,h11⟩ := h
  exact ⟨h1,h2,h3,h4,h5,h6,h7,h8,h9,h10,h11⟩
theorem form_mk {x : En} (h : 0 ≤ x.f0 ∧ x.f0 ≤ 1000000000000 ∧ nameB x.f1 = true ∧ nameB x.f2 = true ∧ x.f1.toList ≠ x.f2.toList ∧ 0 < x.f3 ∧ x.f3 ≤ 1000000000000 ∧ 0 ≤ x.f4 ∧ x.f4 ≤ 36524 ∧ 0 ≤ x.f5 ∧ x.f5 ≤ 36524) : formB x = true := by
  obtain ⟨h1,h2,h3,h4,h5,h6⟩ := h
  simp only [formB,Bool.and_eq_true,decide_eq_true_eq]
  exact ⟨⟨h1,h2⟩,h3,h4,h5,h6⟩
theorem valid_iff {l : List En} : validB l = true ↔ Vl l := by
  unfold validB
  simp only [Bool.and_eq_true,decide_eq_true_eq]
  rw [goes_iff]
  constructor
  · rintro ⟨h1,h2,_,h3,_,h4⟩;exact ⟨h1,h2,h3,h4⟩
  · rintro ⟨h1,h2,h3,h4⟩
    exact ⟨h1,h2,fun x _ => by simp,h3,fun x hx => (form_parts (h2 x hx)).2.2.2.2.2.2.2.2.2.1,h4⟩
theorem Vl.nil : Vl [] := ⟨by simp,by simp,List.Pairwise.nil,List.Pairwise.nil⟩
theorem Vl.snoc {l : List En} {e : En} (h : Vl l) (hf : formB e = true) (hl : l.length < 2000) (hd : ∀ x ∈ l,x.f0 ≠ e.f0) (hs : ∀ x ∈ l,x.f5 ≤ e.f5) : Vl (l ++ [e]) := by
  refine ⟨by simp;omega,fun x hx => ?_,?_,?_⟩
  · rcases List.mem_append.1 hx with hx | hx
    · exact h.form x hx
    · rw [List.mem_singleton.1 hx];exact hf
  · rw [List.pairwise_append];exact ⟨h.dis,by simp,fun x hx y hy => by rw [List.mem_singleton.1 hy];exact hd x hx⟩
  · rw [List.pairwise_append];exact ⟨h.srt,by simp,fun x hx y hy => by rw [List.mem_singleton.1 hy];exact hs x hx⟩
theorem dis_unique : ∀ {l : List En},(l.Pairwise fun a b => a.f0 ≠ b.f0) → ∀ {x y : En},x ∈ l → y ∈ l → x.f0 = y.f0 → x = y
  | [],_,_,_,h,_,_ => by simp at h
  | a :: l,h,x,y,hx,hy,e => by
    rw [List.pairwise_cons] at h
    rcases List.mem_cons.1 hx with ex | hx'
    · rcases List.mem_cons.1 hy with ey | hy'
      · rw [ex,ey]
      · rw [ex] at e;exact absurd e (h.1 y hy')
    · rcases List.mem_cons.1 hy with ey | hy'
      · rw [ey] at e;exact absurd e.symm (h.1 x hx')
      · exact dis_unique h.2 hx' hy' e

/-! ### balances -/
def val (a : ByteArray) (d b : Int) (x : En) : Int := if x.f5 ≤ b ∧ x.f4 ≤ d then movE a x else 0
def balF (l : List En) (a : ByteArray) (d b : Int) : Int := (l.map (val a d b)).sum
theorem balF_append (l m : List En) (a : ByteArray) (d b : Int) : balF (l ++ m) a d b = balF l a d b + balF m a d b := by simp [balF]
theorem balF_cons (x : En) (l : List En) (a : ByteArray) (d b : Int) : balF (x :: l) a d b = val a d b x + balF l a d b := by simp [balF]
theorem filter_sum (p : En → Bool) (g : En → Int) : ∀ l : List En,((l.filter p).map g).sum = (l.map fun x => if p x = true then g x else 0).sum
  | [] => rfl
  | x :: l => by
    rw [List.map_cons,List.sum_cons,← filter_sum p g l]
    by_cases h : p x = true
    · rw [List.filter_cons_of_pos h,if_pos h];simp
    · rw [List.filter_cons_of_neg h,if_neg h];omega
theorem takeWhile_filter (b : Int) : ∀ {l : List En},(l.Pairwise fun x y => x.f5 ≤ y.f5) → (l.takeWhile fun x => decide (x.f5 ≤ b)) = l.filter fun x => decide (x.f5 ≤ b)
  | [],_ => rfl
  | x :: l,h => by
    rw [List.pairwise_cons] at h
    by_cases hx : x.f5 ≤ b
    · rw [List.takeWhile_cons_of_pos (by simpa using hx),List.filter_cons_of_pos (by simpa using hx),takeWhile_filter b h.2]
    · rw [List.takeWhile_cons_of_neg (by simpa using hx),List.filter_cons_of_neg (by simpa using hx)]
      symm
      rw [List.filter_eq_nil_iff]
      intro y hy
      have := h.1 y hy
      simp;omega
theorem balG_eq {l : List En} (h : Vl l) (a : ByteArray) (d b : Int) : balG l a d b = balF l a d b := by
  unfold balG balF
  rw [takeWhile_filter b h.srt,List.filter_filter,filter_sum]
  congr 1
  refine List.map_congr_left fun x _ => ?_
  unfold val
  by_cases h1 : x.f5 ≤ b <;> by_cases h2 : x.f4 ≤ d <;> simp [h1,h2]
theorem bal_eq {l : List En} (h : Vl l) (a : ByteArray) (d b : Int) : bal l a d b = balF l a d b := by
  unfold bal;rw [if_pos (valid_iff.2 h),balG_eq h]
theorem mov_bd {x : En} (h : formB x = true) (a : ByteArray) : -1000000000000 ≤ movE a x ∧ movE a x ≤ 1000000000000 := by
  have := form_parts h
  unfold movE;split <;> (try split) <;> omega
theorem val_bd {x : En} (h : formB x = true) (a : ByteArray) (d b : Int) : -1000000000000 ≤ val a d b x ∧ val a d b x ≤ 1000000000000 := by
  have := mov_bd h a
  unfold val;split <;> omega
theorem balF_bd {l : List En} (h : ∀ x ∈ l,formB x = true) (a : ByteArray) (d b : Int) : -1000000000000 * (l.length : Int) ≤ balF l a d b ∧ balF l a d b ≤ 1000000000000 * (l.length : Int) := by
  induction l with
  | nil => simp [balF]
  | cons x l ih =>
    have h1 := val_bd (h x (by simp)) a d b
    have h2 := ih fun y hy => h y (by simp [hy])
    rw [balF_cons,List.length_cons];omega
theorem bal_bd (l : List En) (a : ByteArray) (d b : Int) : -2000000000000000 ≤ bal l a d b ∧ bal l a d b ≤ 2000000000000000 := by
  by_cases h : validB l = true
  · have hv := valid_iff.1 h
    rw [bal_eq hv]
    have := balF_bd hv.form a d b
    have := hv.len
    omega
  · unfold bal;rw [if_neg h];omega

/-! ### posting -/
theorem agree_iff {x e : En} : agreeB x e = true ↔ x.f0 = e.f0 ∧ x.f1.toList = e.f1.toList ∧ x.f2.toList = e.f2.toList ∧ x.f3 = e.f3 ∧ x.f4 = e.f4 := by
  unfold agreeB;simp [and_assoc]
theorem idAt_of {l : List En} (h : Vl l) {x : En} {id : Int} (hx : x ∈ l) (he : x.f0 = id) : idAt l id = some x := by
  unfold idAt
  cases hf : l.find? (fun x => x.f0 == id) with
  | none =>
    rw [List.find?_eq_none] at hf
    exact absurd he (by simpa using hf x hx)
  | some y =>
    have h1 := List.mem_of_find?_eq_some hf
    have h2 := List.find?_some hf
    simp at h2
    rw [dis_unique h.dis h1 hx (by omega)]
theorem idAt_not {l : List En} {id : Int} (h : ∀ x ∈ l,x.f0 ≠ id) : idAt l id = none := by
  unfold idAt;rw [List.find?_eq_none];intro x hx;simpa using h x hx
theorem last_le {l : List En} (h : l.Pairwise fun a b => a.f5 ≤ b.f5) {e : En} : (¬ (0 < l.length ∧ e.f5 < (rd_T26 l (l.length - 1 : Int)).f5)) ↔ ∀ x ∈ l,x.f5 ≤ e.f5 := by
  rcases Nat.eq_zero_or_pos l.length with h0 | h0
  · have : l = [] := List.eq_nil_of_length_eq_zero h0
    subst this;simp
  · have hr : rd_T26 l (l.length - 1 : Int) = l[l.length - 1] := by
      have : (l.length - 1 : Int) = ((l.length - 1 : Nat) : Int) := by omega
      rw [this,rd26_at (by omega)]
    rw [hr]
    constructor
    · intro hn x hx
      obtain ⟨j,hj,rfl⟩ := List.getElem_of_mem hx
      have h1 : l[j].f5 ≤ l[l.length - 1].f5 := by
        by_cases e : j = l.length - 1
        · subst e;exact Int.le_refl _
        · exact List.pairwise_iff_getElem.1 h j (l.length - 1) hj (by omega) (by omega)
      have : ¬ e.f5 < l[l.length - 1].f5 := fun hh => hn ⟨h0,hh⟩
      omega
    · rintro hn ⟨_,hh⟩
      have := hn _ (List.getElem_mem (show l.length - 1 < l.length by omega))
      omega
theorem post_known {l : List En} {e x : En} (h : Vl l) (hf : formB e = true) (hx : x ∈ l) (ha : agreeB x e = true) : postL l e = (l,0) := by
  unfold postL
  rw [if_neg (by rw [hf];simp),if_neg (by rw [valid_iff.2 h];simp),idAt_of h hx (agree_iff.1 ha).1]
  simp only
  rw [if_pos ha]
theorem post_twice {l : List En} {e x : En} (h : Vl l) (hf : formB e = true) (hx : x ∈ l) (hi : x.f0 = e.f0) (ha : ¬ agreeB x e = true) : postL l e = ([],5) := by
  unfold postL
  rw [if_neg (by rw [hf];simp),if_neg (by rw [valid_iff.2 h];simp),idAt_of h hx hi]
  simp only
  rw [if_neg ha]
theorem post_new {l : List En} {e : En} (h : Vl l) (hf : formB e = true) (hd : ∀ x ∈ l,x.f0 ≠ e.f0) (hl : l.length ≠ 2000) (hs : ∀ x ∈ l,x.f5 ≤ e.f5) : postL l e = (l ++ [e],0) := by
  unfold postL
  rw [if_neg (by rw [hf];simp),if_neg (by rw [valid_iff.2 h];simp),idAt_not hd]
  simp only
  rw [if_neg hl,if_neg ((last_le h.srt).2 hs)]
/-- What posting does: nothing new;or a new entry at the end;or an error. -/
inductive Posted (l : List En) (e : En) : List En × Int → Prop
  | known (x : En) (h : Vl l) (hf : formB e = true) (hx : x ∈ l) (ha : agreeB x e = true) : Posted l e (l,0)
  | new (h : Vl l) (hf : formB e = true) (hd : ∀ x ∈ l,x.f0 ≠ e.f0) (hl : l.length < 2000) (hs : ∀ x ∈ l,x.f5 ≤ e.f5) : Posted l e (l ++ [e],0)
  | err (c : Int) (hc : c ≠ 0) : Posted l e ([],c)
theorem posted (l : List En) (e : En) : Posted l e (postL l e) := by
  unfold postL
  by_cases hf : formB e = false
  · rw [if_pos hf];exact .err 1 (by omega)
  · rw [if_neg hf]
    have hf : formB e = true := by simpa using hf
    by_cases hv : validB l = false
    · rw [if_pos hv];exact .err 1 (by omega)
    · rw [if_neg hv]
      have hv : Vl l := valid_iff.1 (by simpa using hv)
      cases hi : idAt l e.f0 with
      | some x =>
        simp only
        have hx : x ∈ l := List.mem_of_find?_eq_some hi
        by_cases ha : agreeB x e = true
        · rw [if_pos ha];exact .known x hv hf hx ha
        · rw [if_neg ha];exact .err 5 (by omega)
      | none =>
        simp only
        have hd : ∀ x ∈ l,x.f0 ≠ e.f0 := fun x hx => by
          have := (List.find?_eq_none.1 hi) x hx
          simpa using this
        by_cases h2 : l.length = 2000
        · rw [if_pos h2];exact .err 2 (by omega)
        · rw [if_neg h2]
          by_cases hb : 0 < l.length ∧ e.f5 < (rd_T26 l (l.length - 1 : Int)).f5
          · rw [if_pos hb];exact .err 6 (by omega)
          · rw [if_neg hb];exact .new hv hf hd (by have := hv.len;omega) ((last_le hv.srt).1 hb)
theorem posted_sz {l : List En} {e : En} (h : l.all szB = true) (he : szB e = true) : (postL l e).1.all szB = true := by
  have hp := posted l e
  generalize postL l e = r at hp ⊢
  cases hp with
  | known => exact h
  | new => simp only [List.all_append,h,List.all_cons,he,List.all_nil];rfl
  | err => rfl

/-! ### accounts -/
theorem ins_len (l : List ByteArray) (s : ByteArray) : (insL l s).length ≤ l.length + 1 := by
  induction l with
  | nil => simp [insL]
  | cons x l ih => unfold insL;split <;> (try split) <;> simp <;> omega
theorem acc_len (l : List En) : (accF l).length ≤ 2 * l.length := by
  have key : ∀ (l : List En) (out : List ByteArray),(l.foldl (fun out x => insL (insL out x.f1) x.f2) out).length ≤ out.length + 2 * l.length := by
    intro l
    induction l with
    | nil => intro out;simp
    | cons x l ih =>
      intro out
      have h1 := ih (insL (insL out x.f1) x.f2)
      have h2 := ins_len (insL out x.f1) x.f2
      have h3 := ins_len out x.f1
      rw [List.foldl_cons,List.length_cons];omega
  have := key l []
  simpa [accF] using this
theorem acc_mem {l : List En} {x : En} (hx : x ∈ l) : x.f1.toList ∈ (accF l).map ByteArray.toList ∧ x.f2.toList ∈ (accF l).map ByteArray.toList := by
  have h := (accF_spec l).2
  refine ⟨(h _).2 (List.mem_map_of_mem ?_),(h _).2 (List.mem_map_of_mem ?_)⟩
  · exact List.mem_flatMap.2 ⟨x,hx,by simp⟩
  · exact List.mem_flatMap.2 ⟨x,hx,by simp⟩
theorem acc_same {l m : List En} (h : ∀ x,x ∈ l ↔ x ∈ m) : (accF l).map ByteArray.toList = (accF m).map ByteArray.toList := by
  refine Go.Proofs.Ytbmochegfdljfaa.Srt.sorted_ext (accF_spec l).1 (accF_spec m).1 (fun y => ?_)
  rw [(accF_spec l).2,(accF_spec m).2]
  simp only [flatL,List.mem_map,List.mem_flatMap,h]

/-! ### equal lists -/
theorem same_loop (l : List En) (hl : l.length ≤ 140737488351232) (d : Nat) : ∀ i : Nat,i + d = l.length → Ev (fun k => wageofficeref39_Same.l0 k (i : Int) l l) true := by
  induction d with
  | zero =>
    intro i hi
    refine ev_up ?_
    simp only [wageofficeref39_Same.l0]
    exact ev_no (by omega) (ev_ret _)
  | succ d ih =>
    intro i hi
    refine ev_up ?_
    simp only [wageofficeref39_Same.l0]
    refine ev_yes (by omega) (ev_yes (by omega) (ev_yes (by omega) (ev_no (by simp) ?_)))
    rw [w64 (by omega) (by omega),show (i : Int) + 1 = ((i + 1 : Nat) : Int) from by omega]
    exact ih (i + 1) (by omega)
theorem same_ev (l : List En) (hl : l.length ≤ 140737488351232) : Ev (fun k => wageofficeref39_Same.f k l l) true := by
  unfold wageofficeref39_Same.f
  exact ev_yes rfl (same_loop l hl l.length 0 (by omega))
theorem strings_loop (l m : List ByteArray) (hm : l.map ByteArray.toList = m.map ByteArray.toList) (hl : l.length ≤ 140737488351232) (d : Nat) : ∀ i : Nat,i + d = l.length → Ev (fun k => wageofficeref12_Strings.l0 k l m (i : Int)) true := by
  have hlm : l.length = m.length := by have := congrArg List.length hm;simpa using this
  induction d with
  | zero =>
    intro i hi
    refine ev_up ?_
    simp only [wageofficeref12_Strings.l0]
    exact ev_no (by omega) (ev_ret _)
  | succ d ih =>
    intro i hi
    refine ev_up ?_
    simp only [wageofficeref12_Strings.l0]
    have he : (rdOf ByteArray.empty l (i : Int)).toList = (rdOf ByteArray.empty m (i : Int)).toList := by
      have h1 : (l.map ByteArray.toList)[i]? = (m.map ByteArray.toList)[i]? := by rw [hm]
      have hi1 : i < l.length := by omega
      have hi2 : i < m.length := by omega
      rw [List.getElem?_map,List.getElem?_map,List.getElem?_eq_getElem hi1,List.getElem?_eq_getElem hi2] at h1
      simpa [rdOf,List.getD_eq_getElem?_getD,hi1,hi2] using h1
    refine ev_yes (by omega) (ev_yes (by omega) (ev_yes (by omega) (ev_yes he ?_)))
    rw [w64 (by omega) (by omega),show (i : Int) + 1 = ((i + 1 : Nat) : Int) from by omega]
    exact ih (i + 1) (by omega)
theorem strings_ev (l m : List ByteArray) (hm : l.map ByteArray.toList = m.map ByteArray.toList) (hl : l.length ≤ 140737488351232) : Ev (fun k => wageofficeref12_Strings.f k l m) true := by
  have hlm : l.length = m.length := by have := congrArg List.length hm;simpa using this
  unfold wageofficeref12_Strings.f
  exact ev_yes (by omega) (strings_loop l m hm hl l.length 0 (by omega))
end Go.Proofs.Ytbmochegfdljfaa.LdE
end
section
-- Written by a program of this session (wip/myprint.py),which drives the kit's print over hand-written fragments. Not trusted: Lean checks it.


namespace Go.Proofs.Ytbmochegfdljfaa.My
open Go.RowKit Go.Proofs.Ytbmochegfdljfaa.My Go.Proofs.YtbmochegfdljfaaW.PrintWords Go.Proofs.YtbmochegfdljfaaW.PrintLast Go.Proofs.YtbmochegfdljfaaW.PrintMore Go.Proofs.Ytbmochegfdljfaa.Opn
set_option linter.unusedVariables false
set_option linter.unusedSimpArgs false
def wageofficelaw39_LedgerMatchesReference.Pure : Prop := ∀ (l0_0 : List (S26)) (a1_0 : Int) (a1_1 : ByteArray) (a1_2 : ByteArray) (a1_3 : Int) (a1_4 : Int) (a1_5 : Int) (a2 : ByteArray) (a3 : Int) (a4 : Int),((l0_0.length ≤ maxLen ∧ ∀ y ∈ l0_0,B26 y)) → ((Lit.int .i64 a1_0).wf = true) → (a1_1.size ≤ maxLen) → (a1_2.size ≤ maxLen) → ((Lit.int .i64 a1_3).wf = true) → ((Lit.int .i64 a1_4).wf = true) → ((Lit.int .i64 a1_5).wf = true) → (a2.size ≤ maxLen) → ((Lit.int .i64 a3).wf = true) → ((Lit.int .i64 a4).wf = true) → ∃ k,wageofficelaw39_LedgerMatchesReference.f k l0_0 a1_0 a1_1 a1_2 a1_3 a1_4 a1_5 a2 a3 a4 = some true
theorem wageofficelaw39_LedgerMatchesReference.truth (P : wageofficelaw39_LedgerMatchesReference.Pure) (A0_0 : Option Addr) (c0_0 : Nat) (l0_0 : List (S26)) (a1_0 : Int) (a1_1 : ByteArray) (a1_2 : ByteArray) (a1_3 : Int) (a1_4 : Int) (a1_5 : Int) (a2 : ByteArray) (a3 : Int) (a4 : Int) (w : World) (hr0_0 : Kd.F k26 w (fun _ => True) A0_0 l0_0.length l0_0) (hc0_0 : l0_0.length ≤ c0_0) (hb0_0 : (l0_0.length ≤ maxLen ∧ ∀ y ∈ l0_0,B26 y)) (hb1_0 : (Lit.int .i64 a1_0).wf = true) (hb1_1 : a1_1.size ≤ maxLen) (hb1_2 : a1_2.size ≤ maxLen) (hb1_3 : (Lit.int .i64 a1_3).wf = true) (hb1_4 : (Lit.int .i64 a1_4).wf = true) (hb1_5 : (Lit.int .i64 a1_5).wf = true) (hb2 : a2.size ≤ maxLen) (hb3 : (Lit.int .i64 a3).wf = true) (hb4 : (Lit.int .i64 a4).wf = true) :
    Calls Try.prog 3 #[.agg #[.slice A0_0 l0_0.length c0_0],.agg #[.int .i64 a1_0,.string a1_1,.string a1_2,.int .i64 a1_3,.int .i64 a1_4,.int .i64 a1_5],.string a2,.int .i64 a3,.int .i64 a4] w fun e w' => e = .returned (.bool true) ∧ Below w.heap.size w w' := by
  obtain ⟨k,h⟩ := P l0_0 a1_0 a1_1 a1_2 a1_3 a1_4 a1_5 a2 a3 a4 hb0_0 hb1_0 hb1_1 hb1_2 hb1_3 hb1_4 hb1_5 hb2 hb3 hb4
  exact (wageofficelaw39_LedgerMatchesReference.calls k A0_0 c0_0 l0_0 a1_0 a1_1 a1_2 a1_3 a1_4 a1_5 a2 a3 a4 true w (Kd.F_now hr0_0) hc0_0 h).mono (fun e w' he => ⟨he.1,he.2⟩)
end Go.Proofs.Ytbmochegfdljfaa.My
end
section
/- Ledger answers as its twin does: posting,validity,balances and accounts. -/












namespace Go.Proofs.Ytbmochegfdljfaa.Pure
set_option linter.unusedVariables false
set_option linter.unusedSimpArgs false
open Go.RowKit Go.Proofs.Ytbmochegfdljfaa.My Go.Proofs.Ytbmochegfdljfaa.Aid Go.Proofs.Ytbmochegfdljfaa.EvA Go.Proofs.Ytbmochegfdljfaa.LdE Go.Proofs.YtbmochegfdljfaaW.PrintWords Go.Proofs.YtbmochegfdljfaaW.PrintLast Go.Proofs.YtbmochegfdljfaaW.PrintMore

/-! ### a name,an entry -/
theorem name_loop (s : ByteArray) (hs : s.size ≤ maxLen) (d : Nat) : ∀ i : Nat,i + d = s.size → (∀ j,j < i → nameC s j = true) → Ev (fun k => wageofficeref12_Name.l0 k s (i : Int)) (nameB s) := by
  unfold maxLen at hs
  induction d with
  | zero =>
    intro i hi hc
    have : i = s.size := by omega
    subst this
    refine ev_up ?_
    simp only [wageofficeref12_Name.l0]
    rw [nameB_end hc]
    refine ev_no (by omega) (ev_ite (fun c => ?_) (fun c => ?_))
    · rw [decide_eq_true (show 0 < s.size by omega),Bool.true_and]
      refine ev_eq (ev_ret _) ?_
      rw [Bool.eq_iff_iff];simp only [decide_eq_true_eq];omega
    · rw [decide_eq_false (show ¬ 0 < s.size by omega),Bool.false_and]
      exact ev_ret _
  | succ d ih =>
    intro i hi hc
    have hlt : i < s.size := by omega
    have next : ((97 ≤ bt s (i : Int) ∧ bt s (i : Int) ≤ 122) ∨ (i ≠ 0 ∧ (bt s (i : Int) = 95 ∨ (48 ≤ bt s (i : Int) ∧ bt s (i : Int) ≤ 57)))) → Ev (fun k => wageofficeref12_Name.l0 k s (wrap64 ((i : Int) + 1))) (nameB s) := fun hh => by
      rw [w64 (by omega) (by omega),show (i : Int) + 1 = ((i + 1 : Nat) : Int) from by omega]
      refine ih (i + 1) (by omega) fun j hj => ?_
      by_cases e : j = i
      · rw [e];exact (nameC_iff s i).2 hh
      · exact hc j (by omega)
    have bad : ¬ ((97 ≤ bt s (i : Int) ∧ bt s (i : Int) ≤ 122) ∨ (i ≠ 0 ∧ (bt s (i : Int) = 95 ∨ (48 ≤ bt s (i : Int) ∧ bt s (i : Int) ≤ 57)))) → Ev (fun k => some false) (nameB s) := fun hh => by
      rw [nameB_no hlt hh];exact ev_ret _
    refine ev_up ?_
    simp only [wageofficeref12_Name.l0]
    refine ev_yes (by omega) (ev_yes (by omega) ?_)
    generalize bt s (i : Int) = v at next bad
    refine ev_ite (fun c => ev_ite (fun c0 => bad ?_) (fun c0 => ev_ite (fun c1 => ev_ite (fun c2 => next ?_) (fun c2 => bad ?_)) (fun c1 => ev_ite (fun c2 => ev_ite (fun c3 => next ?_) (fun c3 => bad ?_)) (fun c2 => next ?_))))
      (fun c => ev_ite (fun c4 => ev_ite (fun c0 => bad ?_) (fun c0 => ev_ite (fun c1 => ev_ite (fun c2 => next ?_) (fun c2 => bad ?_)) (fun c1 => ev_ite (fun c2 => ev_ite (fun c3 => next ?_) (fun c3 => bad ?_)) (fun c2 => next ?_)))) (fun c4 => next ?_)) <;> omega
theorem name_ev {s : ByteArray} (hs : s.size ≤ maxLen) : Ev (fun k => wageofficeref12_Name.f k s) (nameB s) := by
  unfold wageofficeref12_Name.f
  exact name_loop s hs s.size 0 (by omega) (fun j hj => absurd hj (by omega))
theorem day_eval (d : Int) : wageofficeref12_Day.f d = some (decide (0 ≤ d ∧ d ≤ 36524)) := by
  unfold wageofficeref12_Day.f
  by_cases h : d ≥ 0
  · rw [if_pos h];congr 1;rw [Bool.eq_iff_iff];simp only [decide_eq_true_eq];omega
  · rw [if_neg h,decide_eq_false (by omega)]
theorem formed_ev {a0 : Int} {a1 a2 : ByteArray} {a3 a4 a5 : Int} (hs : szB (⟨a0,a1,a2,a3,a4,a5⟩ : S26) = true) : Ev (fun k => wageofficeref39_Formed.f k a0 a1 a2 a3 a4 a5) (formB (⟨a0,a1,a2,a3,a4,a5⟩ : S26)) := by
  unfold szB at hs
  simp only [Bool.and_eq_true,decide_eq_true_eq] at hs
  obtain ⟨_,h1,h2⟩ := hs
  have fls : Ev (fun k => wageofficeref39_Formed.j0 k true a0 a1 a2 a3 a4 a5) false := by
    refine ev_up ?_
    simp only [wageofficeref39_Formed.j0]
    exact ev_yes (by simp) (ev_ret _)
  have no : ∀ (hh : ¬ formB (⟨a0,a1,a2,a3,a4,a5⟩ : S26) = true),false = formB (⟨a0,a1,a2,a3,a4,a5⟩ : S26) := fun hh => (Bool.eq_false_iff.2 hh).symm
  unfold wageofficeref39_Formed.f
  refine ev_ite (fun c => ev_eq fls (no fun hh => ?_)) (fun c => ev_ite (fun c1 => ev_eq fls (no fun hh => ?_)) (fun c1 => ev_bnd (name_ev h1) (ev_ite (fun c2 => ev_bnd (name_ev h2) (ev_ite (fun c3 => ?_) (fun c3 => ev_eq fls (no fun hh => ?_)))) (fun c2 => ev_eq fls (no fun hh => ?_)))))
  · have := (form_parts hh).1;simp only at this;omega
  · have := (form_parts hh).2.1;simp only at this;omega
  · refine ev_up ?_
    simp only [wageofficeref39_Formed.j0,day_eval,Option.bind_some]
    refine ev_ite (fun c4 => ev_eq (ev_ret _) (no fun hh => ?_)) (fun c4 => ev_ite (fun c5 => ev_ite (fun c6 => ev_ite (fun c7 => ev_eq (ev_ret _) ?_) (fun c7 => ev_eq (ev_ret _) (no fun hh => ?_))) (fun c6 => ev_eq (ev_ret _) (no fun hh => ?_))) (fun c5 => ev_eq (ev_ret _) (no fun hh => ?_)))
    · exact (form_parts hh).2.2.2.2.1 (by simpa using c4)
    · rw [decide_eq_true_eq] at c7
      rw [Bool.eq_iff_iff,decide_eq_true_eq]
      constructor
      · intro h5
        exact form_mk ⟨by simp only;omega,by simp only;omega,c2,c3,by simpa using c4,by simp only;omega,by simp only;omega,c7.1,c7.2,h5.1,h5.2⟩
      · intro hh
        obtain ⟨_,_,_,_,_,_,_,_,_,h9,h10⟩ := form_parts hh
        exact ⟨h9,h10⟩
    · obtain ⟨_,_,_,_,_,_,_,h7,h8,_⟩ := form_parts hh
      exact c7 (decide_eq_true ⟨h7,h8⟩)
    · obtain ⟨_,_,_,_,_,_,h6,_⟩ := form_parts hh
      exact c6 h6
    · obtain ⟨_,_,_,_,_,h5,_⟩ := form_parts hh
      simp only at h5;omega
  · exact c3 (form_parts hh).2.2.2.1
  · exact c2 (form_parts hh).2.2.1
theorem agree_eval (x e : S26) : wageofficeref39_agree.f x.f0 x.f1 x.f2 x.f3 x.f4 x.f5 e.f0 e.f1 e.f2 e.f3 e.f4 e.f5 = some (agreeB x e) := by
  unfold wageofficeref39_agree.f
  by_cases h0 : x.f0 = e.f0
  · rw [if_pos h0]
    by_cases h1 : x.f1.toList = e.f1.toList
    · rw [if_pos h1]
      by_cases h2 : x.f2.toList = e.f2.toList
      · rw [if_pos h2]
        by_cases h3 : x.f3 = e.f3
        · rw [if_pos h3];simp [agreeB,h0,h1,h2,h3];rw [Bool.eq_iff_iff];simp
        · rw [if_neg h3];simp [agreeB,h3]
      · rw [if_neg h2];simp [agreeB,h2]
    · rw [if_neg h1];simp [agreeB,h1]
  · rw [if_neg h0];simp [agreeB,h0]

/-! ### an entry by its number -/
theorem find_loop (l : List S26) (hl : l.length ≤ 140737488351232) (id : Int) (d : Nat) : ∀ i : Nat,i + d = l.length →
    ((∀ x ∈ l.drop i,x.f0 ≠ id) ∧ Ev (fun k => wageofficeref39_find.l0 k l id (i : Int)) (-1)) ∨ ∃ j,∃ h : j < l.length,(l.drop i).find? (fun x => x.f0 == id) = some l[j] ∧ Ev (fun k => wageofficeref39_find.l0 k l id (i : Int)) (j : Int) := by
  induction d with
  | zero =>
    intro i hi
    left
    refine ⟨by rw [List.drop_eq_nil_of_le (by omega)];simp,ev_up ?_⟩
    simp only [wageofficeref39_find.l0]
    exact ev_no (by omega) (ev_ret _)
  | succ d ih =>
    intro i hi
    have hlt : i < l.length := by omega
    by_cases c : l[i].f0 = id
    · right
      refine ⟨i,hlt,by rw [List.drop_eq_getElem_cons hlt,List.find?_cons_of_pos (by simpa using c)],ev_up ?_⟩
      simp only [wageofficeref39_find.l0]
      rw [rd26_at hlt]
      exact ev_yes (by omega) (ev_yes (by omega) (ev_yes c (ev_ret _)))
    · have step : ∀ r : Int,Ev (fun k => wageofficeref39_find.l0 k l id ((i + 1 : Nat) : Int)) r → Ev (fun k => wageofficeref39_find.l0 k l id (i : Int)) r := fun r h => by
        refine ev_up ?_
        simp only [wageofficeref39_find.l0]
        rw [rd26_at hlt,w64 (by omega) (by omega),show (i : Int) + 1 = ((i + 1 : Nat) : Int) from by omega]
        exact ev_yes (by omega) (ev_yes (by omega) (ev_no c h))
      rcases ih (i + 1) (by omega) with ⟨h1,h2⟩ | ⟨j,hj,h1,h2⟩
      · left
        refine ⟨fun x hx => ?_,step _ h2⟩
        rw [List.drop_eq_getElem_cons hlt] at hx
        rcases List.mem_cons.1 hx with rfl | hx
        · exact c
        · exact h1 x hx
      · right
        exact ⟨j,hj,by rw [List.drop_eq_getElem_cons hlt,List.find?_cons_of_neg (by simpa using c)];exact h1,step _ h2⟩
theorem find_ev (l : List S26) (hl : l.length ≤ 140737488351232) (id : Int) :
    ((∀ x ∈ l,x.f0 ≠ id) ∧ Ev (fun k => wageofficeref39_find.f k l id) (-1)) ∨ ∃ j,∃ h : j < l.length,idAt l id = some l[j] ∧ Ev (fun k => wageofficeref39_find.f k l id) (j : Int) := by
  unfold wageofficeref39_find.f idAt
  have := find_loop l hl id l.length 0 (by omega)
  rw [List.drop_zero] at this
  exact this

/-! ### validity -/
theorem valid_loop {l : List S26} (hz : l.all szB = true) (hl : l.length ≤ 2000) (d : Nat) : ∀ i : Nat,i + d = l.length → Vl (l.take i) → Ev (fun k => wageofficeref39_Valid.l0 k (i : Int) l) (validB l) := by
  induction d with
  | zero =>
    intro i hi hv
    rw [List.take_of_length_le (by omega)] at hv
    refine ev_up ?_
    simp only [wageofficeref39_Valid.l0]
    exact ev_no (by omega) (ev_eq (ev_ret _) (valid_iff.2 hv).symm)
  | succ d ih =>
    intro i hi hv
    have hlt : i < l.length := by omega
    have bad : ¬ Vl l → Ev (fun k => some false) (validB l) := fun h => ev_eq (ev_ret _) (Bool.eq_false_iff.2 fun hh => h (valid_iff.1 hh)).symm
    have hsz : szB l[i] = true := List.all_eq_true.1 hz _ (List.getElem_mem hlt)
    have htl : (l.take i).length = i := by rw [List.length_take];omega
    have tk : ∀ j (hj : j < (l.take i).length),(l.take i)[j] = l[j]'(by omega) := fun j hj => List.getElem_take
    refine ev_up ?_
    simp only [wageofficeref39_Valid.l0]
    rw [rd26_at hlt,Int.toNat_natCast]
    refine ev_yes (by omega) (ev_yes (by omega) (ev_bnd (formed_ev hsz) (ev_ite (fun c => ev_yes (by omega) ?_) (fun c => bad fun v => c (v.form _ (List.getElem_mem hlt))))))
    rcases find_ev (l.take i) (by omega) l[i].f0 with ⟨h1,h2⟩ | ⟨j,hj,h1,h2⟩
    · have next : (∀ x ∈ l.take i,x.f5 ≤ l[i].f5) → Ev (fun k => wageofficeref39_Valid.l0 k (wrap64 ((i : Int) + 1)) l) (validB l) := fun h => by
        rw [w64 (by omega) (by omega),show (i : Int) + 1 = ((i + 1 : Nat) : Int) from by omega]
        refine ih (i + 1) (by omega) ?_
        rw [take_snoc _ _ hlt]
        exact hv.snoc c (by omega) h1 h
      refine ev_bnd h2 (ev_no (by omega) (ev_ite (fun c1 => ?_) (fun c1 => next fun x hx => ?_)))
      · rw [w64 (n := (i : Int) - 1) (by omega) (by omega),show (i : Int) - 1 = ((i - 1 : Nat) : Int) from by omega,rd26_at (show i - 1 < l.length by omega)]
        refine ev_yes (by omega) (ev_yes (by omega) (ev_ite (fun c2 => bad fun v => ?_) (fun c2 => next ?_)))
        · have := List.pairwise_iff_getElem.1 v.srt (i - 1) i (by omega) hlt (by omega)
          omega
        · refine (last_le hv.srt).1 fun hh => c2 ?_
          have h3 := hh.2
          rw [htl,show (i : Int) - 1 = ((i - 1 : Nat) : Int) from by omega,rd26_at (by omega),tk] at h3
          exact h3
      · rw [show i = 0 by omega] at hx;simp at hx
    · refine ev_bnd h2 (ev_yes (by omega) (bad fun v => ?_))
      have h3 := List.find?_some h1
      rw [tk,beq_iff_eq] at h3
      exact List.pairwise_iff_getElem.1 v.dis j i (by omega) hlt (by omega) h3
theorem valid_ev {l : List S26} (hz : l.all szB = true) : Ev (fun k => wageofficeref39_Valid.f k l) (validB l) := by
  unfold wageofficeref39_Valid.f
  refine ev_ite (fun c => ev_eq (ev_ret _) ?_) (fun c => valid_loop hz (by omega) l.length 0 (by omega) (by rw [List.take_zero];exact Vl.nil))
  refine (Bool.eq_false_iff.2 fun hh => ?_).symm
  have := (valid_iff.1 hh).len;omega

/-! ### posting -/
theorem ref_post_ev {l : List S26} (hz : l.all szB = true) {a0 : Int} {a1 a2 : ByteArray} {a3 a4 a5 : Int} (he : szB (⟨a0,a1,a2,a3,a4,a5⟩ : S26) = true) :
    Ev (fun k => wageofficeref39_Post.f k l a0 a1 a2 a3 a4 a5) (postL l (⟨a0,a1,a2,a3,a4,a5⟩ : S26)) := by
  have bad : Ev (fun k => wageofficeref39_Post.j0 k true l a0 a1 a2 a3 a4 a5) ([],1) := by
    refine ev_up ?_
    simp only [wageofficeref39_Post.j0]
    exact ev_yes (by simp) (ev_ret _)
  have bad2 : (formB (⟨a0,a1,a2,a3,a4,a5⟩ : S26) = false ∨ validB l = false) → Ev (fun k => wageofficeref39_Post.j0 k true l a0 a1 a2 a3 a4 a5) (postL l (⟨a0,a1,a2,a3,a4,a5⟩ : S26)) := fun h => by
    refine ev_eq bad ?_
    unfold postL
    by_cases hf : formB (⟨a0,a1,a2,a3,a4,a5⟩ : S26) = false
    · rw [if_pos hf]
    · rw [if_neg hf,if_pos (h.resolve_left hf)]
  unfold wageofficeref39_Post.f
  refine ev_bnd (valid_ev hz) (ev_ite (fun c => ev_bnd (formed_ev he) ?_) (fun c => bad2 (.inr (Bool.eq_false_iff.2 c))))
  by_cases hf0 : formB (⟨a0,a1,a2,a3,a4,a5⟩ : S26) = false
  · rw [hf0];exact bad2 (.inl hf0)
  have hf : formB (⟨a0,a1,a2,a3,a4,a5⟩ : S26) = true := by
    cases hq : formB (⟨a0,a1,a2,a3,a4,a5⟩ : S26) with
    | true => rfl
    | false => exact absurd hq hf0
  have hv := valid_iff.1 c
  have hlen := hv.len
  rw [hf]
  refine ev_up ?_
  simp only [wageofficeref39_Post.j0]
  refine ev_no (by simp) ?_
  unfold postL
  rw [if_neg (by rw [hf];simp),if_neg (by rw [c];simp)]
  rcases find_ev l (by omega) a0 with ⟨h1,h2⟩ | ⟨j,hj,h1,h2⟩
  · rw [idAt_not h1]
    refine ev_bnd h2 (ev_no (by omega) (ev_up ?_))
    simp only [wageofficeref39_Post.j1,Option.bind_some,List.length_nil,List.nil_append]
    refine ev_no (by simp) (ev_yes (by omega) (ev_no (by omega) ?_))
    by_cases h20 : l.length = 2000
    · rw [if_pos h20];exact ev_yes (by omega) (ev_ret _)
    · rw [if_neg h20]
      refine ev_no (c := (l.length : Int) = 2000) (by omega) (ev_ite (c := (l.length : Int) > 0) (fun c1 => ?_) (fun c1 => ?_))
      · rw [w64 (by omega) (by omega)]
        refine ev_yes (by omega) (ev_yes (by omega) (ev_ite (c := a5 < _) (fun c2 => ?_) (fun c2 => ?_)))
        · exact ev_eq (ev_ret _) (if_pos ⟨by omega,c2⟩).symm
        · exact ev_yes (by omega) (ev_eq (ev_ret _) (if_neg fun hh => c2 hh.2).symm)
      · exact ev_yes (by omega) (ev_eq (ev_ret _) (if_neg fun hh => c1 (by omega)).symm)
  · rw [h1]
    refine ev_bnd h2 (ev_yes (by omega) (ev_yes (by omega) (ev_yes (by omega) ?_)))
    rw [rd26_at hj]
    have ha := agree_eval l[j] (⟨a0,a1,a2,a3,a4,a5⟩ : S26)
    simp only at ha
    rw [ha]
    simp only [Option.bind_some]
    refine ev_up ?_
    simp only [wageofficeref39_Post.j1,Option.bind_some,List.length_nil,List.nil_append]
    by_cases hag : agreeB l[j] (⟨a0,a1,a2,a3,a4,a5⟩ : S26) = true
    · rw [if_pos hag,hag]
      exact ev_no (by simp) (ev_yes (by omega) (ev_yes (by omega) (ev_ret _)))
    · rw [if_neg hag,Bool.eq_false_iff.2 hag]
      exact ev_yes (by simp) (ev_ret _)

/-! ### balances and accounts -/
theorem ref_bal_loop {l : List S26} (hv : Vl l) (a : ByteArray) (dd b : Int) (d : Nat) : ∀ i : Nat,i + d = l.length → Ev (fun k => wageofficeref39_Balance.l0 k a dd b (balF (l.take i) a dd b) (i : Int) l) (balF l a dd b) := by
  have hlen := hv.len
  induction d with
  | zero =>
    intro i hi
    rw [List.take_of_length_le (by omega)]
    refine ev_up ?_
    simp only [wageofficeref39_Balance.l0]
    exact ev_no (by omega) (ev_ret _)
  | succ d ih =>
    intro i hi
    have hlt : i < l.length := by omega
    have i1 : (i : Int) < (l.length : Int) := by omega
    have i0 : (0 : Int) ≤ (i : Int) := by omega
    have hw : wrap64 ((i : Int) + 1) = ((i + 1 : Nat) : Int) := by rw [w64 (by omega) (by omega)];omega
    have hih := ih (i + 1) (by omega)
    rw [take_snoc _ _ hlt,balF_append] at hih
    have hone : balF [l[i]] a dd b = val a dd b l[i] := by simp [balF]
    rw [hone] at hih
    have hbd := balF_bd (l := l.take i) (fun x hx => hv.form x (List.mem_of_mem_take hx)) a dd b
    rw [List.length_take] at hbd
    have hf := form_parts (hv.form _ (List.getElem_mem hlt))
    refine ev_up ?_
    simp only [wageofficeref39_Balance.l0]
    rw [rd26_at hlt]
    generalize l[i] = x at hih hf
    generalize balF (l.take i) a dd b = s at hih hbd
    have skip : (¬ (x.f5 ≤ b ∧ x.f4 ≤ dd)) → Ev (fun k => wageofficeref39_Balance.j1 k a dd b s (i : Int) true l x.f0 x.f1 x.f2 x.f3 x.f4 x.f5) (balF l a dd b) := fun h => by
      unfold val at hih
      rw [if_neg h,Int.add_zero] at hih
      refine ev_up ?_
      simp only [wageofficeref39_Balance.j1]
      rw [hw]
      exact ev_yes (by simp) hih
    refine ev_yes i1 (ev_yes i0 (ev_ite (fun c => skip (fun h => ?_)) (fun c => ?_)))
    · have := h.2;omega
    by_cases c1 : x.f5 > b
    · rw [decide_eq_true c1];exact skip (fun h => by have := h.1;omega)
    rw [decide_eq_false c1]
    unfold val movE at hih
    rw [if_pos ⟨by omega,by omega⟩] at hih
    refine ev_up ?_
    simp only [wageofficeref39_Balance.j1]
    rw [hw]
    refine ev_no (by simp) (ev_ite (fun c2 => ?_) (fun c2 => ?_))
    · have c3 : ¬ x.f2.toList = a.toList := fun h => hf.2.2.2.2.1 (c2.trans h.symm)
      rw [if_pos c2.symm] at hih
      rw [w64 (n := s + x.f3) (by omega) (by omega)]
      exact ev_no c3 hih
    · rw [if_neg fun h => c2 h.symm] at hih
      refine ev_ite (fun c3 => ?_) (fun c3 => ?_)
      · rw [if_pos c3.symm] at hih
        rw [w64 (n := s - x.f3) (by omega) (by omega),show s - x.f3 = s + -x.f3 from by omega]
        exact hih
      · rw [if_neg fun h => c3 h.symm,Int.add_zero] at hih
        exact hih
theorem ref_bal_ev {l : List S26} (hz : l.all szB = true) (a : ByteArray) (dd b : Int) : Ev (fun k => wageofficeref39_Balance.f k l a dd b) (bal l a dd b) := by
  unfold wageofficeref39_Balance.f
  refine ev_bnd (valid_ev hz) (ev_ite (fun c => ?_) (fun c => ?_))
  · have hv := valid_iff.1 c
    rw [bal_eq hv]
    exact ref_bal_loop hv a dd b l.length 0 (by omega)
  · unfold bal;rw [if_neg c];exact ev_ret _
theorem ref_acc_ev {l : List S26} (hz : l.all szB = true) : Ev (fun k => wageofficeref39_Accounts.f k l) (if validB l = true then accF l else []) := by
  unfold wageofficeref39_Accounts.f
  refine ev_bnd (valid_ev hz) (ev_ite (fun c => ?_) (fun c => ?_))
  · rw [if_pos c];exact ev_yes (valid_iff.1 c).len (ev_ret _)
  · rw [if_neg c];exact ev_ret _

theorem LedgerMatchesReference : wageofficelaw39_LedgerMatchesReference.Pure := by
  intro l a0 a1 a2 a3 a4 a5 a d b hl p0 p1 p2 p3 p4 p5 ha hd hb
  have hz := sz_all hl.2
  have he : szB (⟨a0,a1,a2,a3,a4,a5⟩ : S26) = true := sz_of ⟨p0,p1,p2,p3,p4,p5⟩
  apply ev_ex
  have hyes : Ev (fun k => wageofficelaw39_LedgerMatchesReference.j0 k a d b true true l a0 a1 a2 a3 a4 a5) true := by
    refine ev_up ?_
    simp only [wageofficelaw39_LedgerMatchesReference.j0]
    exact ev_yes (by simp) (ev_ret _)
  have hno : (l.length : Int) ≤ 2009 → Ev (fun k => wageofficelaw39_LedgerMatchesReference.j0 k a d b true false l a0 a1 a2 a3 a4 a5) true := fun hlen => by
    have hp := posted l (⟨a0,a1,a2,a3,a4,a5⟩ : S26)
    have hpl : (postL l (⟨a0,a1,a2,a3,a4,a5⟩ : S26)).1.length ≤ 140737488351232 := by
      generalize postL l (⟨a0,a1,a2,a3,a4,a5⟩ : S26) = r at hp
      cases hp with
      | known => simp only;omega
      | new => simp only [List.length_append,List.length_singleton];omega
      | err => simp
    have hacc := acc_len l
    refine ev_up ?_
    simp only [wageofficelaw39_LedgerMatchesReference.j0]
    refine ev_no (by simp) ?_
    rw [post_eval hz he]
    simp only [Option.bind_some]
    refine ev_bnd (ref_post_ev hz he) (ev_yes trivial ?_)
    rw [val_eval hz]
    simp only [Option.bind_some]
    refine ev_bnd (valid_ev hz) (ev_yes (by simp) (ev_yes trivial (ev_bnd (same_ev _ hpl) (ev_up ?_))))
    simp only [wageofficelaw39_LedgerMatchesReference.j1]
    refine ev_yes trivial ?_
    rw [bal_eval hz]
    simp only [Option.bind_some]
    refine ev_bnd (ref_bal_ev hz a d b) (ev_yes rfl ?_)
    rw [acc_eval hz]
    simp only [Option.bind_some]
    refine ev_bnd (ref_acc_ev hz) (ev_bnd (strings_ev _ _ rfl ?_) (ev_ret _))
    split
    · omega
    · simp
  unfold wageofficelaw39_LedgerMatchesReference.f
  refine ev_bnd head_ev ?_
  have hm : Ev (fun k => wageofficelaw39_LedgerMatchesReference.j0 k a d b true (decide ((l.length : Int) > 2009)) l a0 a1 a2 a3 a4 a5) true := by
    by_cases c : (l.length : Int) > 2009
    · rw [decide_eq_true c];exact hyes
    · rw [decide_eq_false c];exact hno (by omega)
  exact ev_ite (fun _ => ev_ite (fun _ => hyes) (fun _ => hm)) (fun _ => hm)
end Go.Proofs.Ytbmochegfdljfaa.Pure
end
