-- Written by a program of this session (wip/myprint.py), which drives the kit's print over hand-written fragments. Not trusted: Lean checks it.
import Derived.Test.YtnadfkhllfgoiaaMyx0
import Derived.Test.YtnadfkhllfgoiaaMyx29
import Derived.Test.YtnadfkhllfgoiaaMyx31
import Derived.Test.YtnadfkhllfgoiaaMyx33
import Derived.Test.YtnadfkhllfgoiaaMyx47
namespace Go.Proofs.Ytnadfkhllfgoiaa.My
open Go.Proofs.Ytnadfkhllfgoiaa.Aid Go.Proofs.Ytnadfkhllfgoiaa.KdX
open Go.RowKit Go.Proofs.YtnadfkhllfgoiaaW.PrintWords Go.Proofs.YtnadfkhllfgoiaaW.PrintLast Go.Proofs.YtnadfkhllfgoiaaW.PrintMore
attribute [local go_sem] max2_int min2_int max_two min_two max_three min_three max_four min_four   -- for this text's walks alone
set_option linter.unusedVariables false
set_option linter.unusedSimpArgs false

/-! ### wageofficelaw28_head: function 27 (by hand) -/
def wageofficelaw28_head.f : Option (Bool) := some true
def head28_ps : List S75 := [⟨0, 0, 0⟩, ⟨1000, 0, 2⟩]
theorem C_of_block {α : Type} {d : Kd α} {W : World} {g : Nat} {cs : Array Value} {t : TypeId} {fr : Nat × Nat} {xs : List α} (h : W.heap[g]? = some (.cells cs t fr)) (hl : xs.length ≤ 9223372036854775807)
    (hx : ∀ j (hj : j < xs.length), ∃ c, d.K W xs[j] c ∧ ∀ i u, c[i]? = some u → cs[j * d.sz + i]? = some u) : d.C W (some ⟨g, 0, none⟩) xs.length xs := by
  refine ⟨rfl, hl, fun _ => ⟨_, rfl, fun j p hj => ?_⟩⟩
  obtain ⟨hjl, rfl⟩ := List.getElem?_eq_some_iff.1 hj
  obtain ⟨c, hK, hc⟩ := hx j hjl
  refine ⟨c, d.K_len hK, hK, fun i u hu => ?_⟩
  rw [add_plain, cell_of_row W g _ cs t fr h]
  exact hc i u hu
theorem head28_simple (y : Int) : wageofficelaw28_Simple.f y = some (y, 10, head28_ps) := rfl
theorem head28_1 : tax_Year.f 20 2024 10 head28_ps 1005 = some (1, 0) := by decide +kernel
theorem head28_2 : tax_Year.f 20 2024 10 head28_ps (-7) = some (0, 0) := by decide +kernel
theorem head28_3 : tax_Month.f 20 2024 10 head28_ps 600 0 600 = some (40, 0) := by decide +kernel
theorem head28_4 : tax_Month.f 20 2024 10 head28_ps 1200 40 300 = some (60, 0) := by decide +kernel
theorem head28_5 : tax_Month.f 20 2024 10 head28_ps 1500 100 (-1000) = some (-100, 0) := by decide +kernel
theorem head28_6 : tax_Month.f 20 2024 10 head28_ps 1000000000000 0 1 = some (0, 3) := by decide +kernel
theorem head28_7 : tax_Year.f 20 0 0 [] 5 = some (0, 1) := by decide +kernel
def head28_b3 : List S44 := [⟨2023, 10, head28_ps⟩, ⟨2024, 10, head28_ps⟩, ⟨2026, 10, head28_ps⟩]
def head28_b1 : List S44 := [⟨2024, 10, head28_ps⟩]
theorem head28_8 : tax_Find.f head28_b3 2025 = some (2024, 10, head28_ps, true) := by rfl
theorem head28_9 : tax_Find.f head28_b1 2023 = some (0, 0, [], false) := by rfl
theorem lt_alloc (w : World) (o : Obj) : w.heap.size < (w.alloc o).heap.size := by simp
theorem lt_alloc2 (w : World) (a b : Obj) : w.heap.size < ((w.alloc a).alloc b).heap.size := by simp; omega
theorem lt_alloc21 (w : World) (a b : Obj) : w.heap.size + 1 < ((w.alloc a).alloc b).heap.size := by simp
theorem blk_new1 (w : World) (a b : Obj) : ((w.alloc a).alloc b).heap[w.heap.size + 1]? = some b := by simpa using blk_new (w.alloc a) b
theorem below_over {W W2 : World} {o : Obj} (h : Below (W.alloc o).heap.size (W.alloc o) W2) : Below W.heap.size W W2 := below_step (below_alloc (Below.refl _ _) o) h
theorem head28_C3' {W : World} {g : Nat} {A1 A2 A3 : Option Addr} {c1 c2 c3 : Nat} (hg : W.heap[g]? = some (.cells #[.int .i64 2023, .int .i64 10, .slice A1 head28_ps.length c1, .int .i64 2024, .int .i64 10, .slice A2 head28_ps.length c2, .int .i64 2026, .int .i64 10, .slice A3 head28_ps.length c3] 44 (0, 0))) (h1 : Kd.C k75 W A1 head28_ps.length head28_ps) (h2 : Kd.C k75 W A2 head28_ps.length head28_ps) (h3 : Kd.C k75 W A3 head28_ps.length head28_ps) (l1 : head28_ps.length ≤ c1) (l2 : head28_ps.length ≤ c2) (l3 : head28_ps.length ≤ c3) :
    Kd.C k44 W (some ⟨g, 0, none⟩) head28_b3.length head28_b3 := by
  refine C_of_block hg (by decide) fun j hj => ?_
  have hj3 : j < 3 := hj
  match j, hj3 with
  | 0, _ => exact ⟨_, k44_mk _ ⟨2023, 10, head28_ps⟩ l1 h1, fun i u hu => by
      match i, hu with
      | 0, hu => exact hu
      | 1, hu => exact hu
      | 2, hu => exact hu
      | i + 3, hu => simp at hu⟩
  | 1, _ => exact ⟨_, k44_mk _ ⟨2024, 10, head28_ps⟩ l2 h2, fun i u hu => by
      match i, hu with
      | 0, hu => exact hu
      | 1, hu => exact hu
      | 2, hu => exact hu
      | i + 3, hu => simp at hu⟩
  | 2, _ => exact ⟨_, k44_mk _ ⟨2026, 10, head28_ps⟩ l3 h3, fun i u hu => by
      match i, hu with
      | 0, hu => exact hu
      | 1, hu => exact hu
      | 2, hu => exact hu
      | i + 3, hu => simp at hu⟩
theorem head28_C1 {W : World} {A1 : Option Addr} {c1 : Nat} (h1 : Kd.C k75 W A1 head28_ps.length head28_ps) (l1 : head28_ps.length ≤ c1) :
    Kd.C k44 (W.alloc (.cells #[.int .i64 2024, .int .i64 10, .slice A1 head28_ps.length c1] 44)) (some ⟨W.heap.size, 0, none⟩) head28_b1.length head28_b1 := by
  refine C_of_block (blk_new W _) (by decide) fun j hj => ?_
  have hj3 : j < 1 := hj
  match j, hj3 with
  | 0, _ => exact ⟨_, k44_mk _ ⟨2024, 10, head28_ps⟩ l1 (Kd.C_alloc h1 _), fun i u hu => by
      match i, hu with
      | 0, hu => exact hu
      | 1, hu => exact hu
      | 2, hu => exact hu
      | i + 3, hu => simp at hu⟩
set_option maxRecDepth 100000 in
set_option maxHeartbeats 4000000 in
theorem wageofficelaw28_head.calls (r : Bool) (w : World) (h : wageofficelaw28_head.f = some r) : Calls Try.prog 27 #[] w fun e w' => e = .returned (.bool r) ∧ Below w.heap.size w w' := by
  have hu44 := Try.underlying44
  obtain rfl := Option.some.inj h
  clear h
  go_enter Try.func27, Try.ntmps27
  go_wp2_with fail
  refine (wageofficelaw28_Simple.calls 2024 _ _ _ w (head28_simple 2024)).mono ?_
  rintro e w1 ⟨v1, rfl, hv1, hb1⟩
  obtain ⟨A, c, rfl, hlc, hC1⟩ := Kd.R_reads hv1
  have HLC := Aside0.mk hlc
  obtain ⟨W, hW⟩ : ∃ W, W = w1.alloc (.cells #[.int .i64 2024, .int .i64 10, .slice A head28_ps.length c] 44) := ⟨_, rfl⟩
  have hB : Below w.heap.size w W := by subst hW; exact below_alloc hb1 _
  have HC := Aside0.mk (show Kd.C _ W A head28_ps.length head28_ps by subst hW; exact Kd.C_alloc hC1 _)
  clear hv1 hb1 hC1 hlc
  have c0 : W.cell? ⟨w1.heap.size, 0, none⟩ = some (.int .i64 2024) := by subst hW; go_simp
  have c1 : W.cell? ⟨w1.heap.size, 1, none⟩ = some (.int .i64 10) := by subst hW; go_simp
  have c2 : W.cell? ⟨w1.heap.size, 2, none⟩ = some (.slice A head28_ps.length c) := by subst hW; go_simp
  go_wp2_with fail
  rw [← hW]
  have HB := Aside0.mk hB
  clear hW hB
  generalize w1.heap.size = g at *
  refine (tax_Year.calls 20 _ _ A c head28_ps _ _ _ _ HC.out HLC.out head28_1).mono ?_
  rintro e W2 ⟨rfl, hb⟩
  have c0' := (hb.cell (World.block_lt_of_cell? _ _ c0)).trans c0
  have c1' := (hb.cell (World.block_lt_of_cell? _ _ c1)).trans c1
  have c2' := (hb.cell (World.block_lt_of_cell? _ _ c2)).trans c2
  have HB' := Aside0.mk (below_step HB.out hb)
  have HC' := Aside0.mk (Kd.C_below HC.out hb)
  clear hb c0 c1 c2 HB HC
  have c0 := c0'
  have c1 := c1'
  have c2 := c2'
  have HB := HB'
  have HC := HC'
  clear c0' c1' c2' HB' HC'
  go_wp2_with fail
  refine (tax_Year.calls 20 _ _ A c head28_ps _ _ _ _ HC.out HLC.out head28_2).mono ?_
  rintro e W2 ⟨rfl, hb⟩
  have c0' := (hb.cell (World.block_lt_of_cell? _ _ c0)).trans c0
  have c1' := (hb.cell (World.block_lt_of_cell? _ _ c1)).trans c1
  have c2' := (hb.cell (World.block_lt_of_cell? _ _ c2)).trans c2
  have HB' := Aside0.mk (below_step HB.out hb)
  have HC' := Aside0.mk (Kd.C_below HC.out hb)
  clear hb c0 c1 c2 HB HC
  have c0 := c0'
  have c1 := c1'
  have c2 := c2'
  have HB := HB'
  have HC := HC'
  clear c0' c1' c2' HB' HC'
  go_wp2_with fail
  refine (tax_Month.calls 20 _ _ A c head28_ps _ _ _ _ _ _ HC.out HLC.out head28_3).mono ?_
  rintro e W2 ⟨rfl, hb⟩
  have c0' := (hb.cell (World.block_lt_of_cell? _ _ c0)).trans c0
  have c1' := (hb.cell (World.block_lt_of_cell? _ _ c1)).trans c1
  have c2' := (hb.cell (World.block_lt_of_cell? _ _ c2)).trans c2
  have HB' := Aside0.mk (below_step HB.out hb)
  have HC' := Aside0.mk (Kd.C_below HC.out hb)
  clear hb c0 c1 c2 HB HC
  have c0 := c0'
  have c1 := c1'
  have c2 := c2'
  have HB := HB'
  have HC := HC'
  clear c0' c1' c2' HB' HC'
  go_wp2_with fail
  refine (tax_Month.calls 20 _ _ A c head28_ps _ _ _ _ _ _ HC.out HLC.out head28_4).mono ?_
  rintro e W2 ⟨rfl, hb⟩
  have c0' := (hb.cell (World.block_lt_of_cell? _ _ c0)).trans c0
  have c1' := (hb.cell (World.block_lt_of_cell? _ _ c1)).trans c1
  have c2' := (hb.cell (World.block_lt_of_cell? _ _ c2)).trans c2
  have HB' := Aside0.mk (below_step HB.out hb)
  have HC' := Aside0.mk (Kd.C_below HC.out hb)
  clear hb c0 c1 c2 HB HC
  have c0 := c0'
  have c1 := c1'
  have c2 := c2'
  have HB := HB'
  have HC := HC'
  clear c0' c1' c2' HB' HC'
  go_wp2_with fail
  refine (tax_Month.calls 20 _ _ A c head28_ps _ _ _ _ _ _ HC.out HLC.out head28_5).mono ?_
  rintro e W2 ⟨rfl, hb⟩
  have c0' := (hb.cell (World.block_lt_of_cell? _ _ c0)).trans c0
  have c1' := (hb.cell (World.block_lt_of_cell? _ _ c1)).trans c1
  have c2' := (hb.cell (World.block_lt_of_cell? _ _ c2)).trans c2
  have HB' := Aside0.mk (below_step HB.out hb)
  have HC' := Aside0.mk (Kd.C_below HC.out hb)
  clear hb c0 c1 c2 HB HC
  have c0 := c0'
  have c1 := c1'
  have c2 := c2'
  have HB := HB'
  have HC := HC'
  clear c0' c1' c2' HB' HC'
  go_wp2_with fail
  refine (tax_Month.calls 20 _ _ A c head28_ps _ _ _ _ _ _ HC.out HLC.out head28_6).mono ?_
  rintro e W2 ⟨rfl, hb⟩
  have c0' := (hb.cell (World.block_lt_of_cell? _ _ c0)).trans c0
  have c1' := (hb.cell (World.block_lt_of_cell? _ _ c1)).trans c1
  have c2' := (hb.cell (World.block_lt_of_cell? _ _ c2)).trans c2
  have HB' := Aside0.mk (below_step HB.out hb)
  have HC' := Aside0.mk (Kd.C_below HC.out hb)
  clear hb c0 c1 c2 HB HC
  have c0 := c0'
  have c1 := c1'
  have c2 := c2'
  have HB := HB'
  have HC := HC'
  clear c0' c1' c2' HB' HC'
  go_wp2_with fail
  refine (tax_Year.calls 20 _ _ none 0 ([] : List S75) _ _ _ _ ⟨rfl, by simp, fun h => absurd h (by simp)⟩ (Nat.le_refl _) head28_7).mono ?_
  rintro e W2 ⟨rfl, hb⟩
  have c0' := (hb.cell (World.block_lt_of_cell? _ _ c0)).trans c0
  have c1' := (hb.cell (World.block_lt_of_cell? _ _ c1)).trans c1
  have c2' := (hb.cell (World.block_lt_of_cell? _ _ c2)).trans c2
  have HB' := Aside0.mk (below_step HB.out hb)
  have HC' := Aside0.mk (Kd.C_below HC.out hb)
  clear hb c0 c1 c2 HB HC
  have c0 := c0'
  have c1 := c1'
  have c2 := c2'
  have HB := HB'
  have HC := HC'
  clear c0' c1' c2' HB' HC'
  go_upto_region 9 with fail
  obtain ⟨W0, rfl⟩ : ∃ W0, W0 = W2 := ⟨_, rfl⟩
  have L := World.block_lt_of_cell? _ _ c0
  have n0a : g ≠ W0.heap.size := Nat.ne_of_lt L
  have n0b : W0.heap.size ≠ g := (Nat.ne_of_lt L).symm
  go_cut [16, 17] (fun s16 s17 wx => ∃ gc : Nat, s16 = .pointer (some ⟨gc, 0, none⟩) ∧ s17 = .bool true ∧ wx.cell? ⟨gc, 0, none⟩ = some (.int .i64 2024) ∧ Aside0 (Below W0.heap.size W0 wx))
  case first =>
    go_region_held3 (fun w' => w'.cell? ⟨g, 0, none⟩ = some (.int .i64 2024) ∧ w'.cell? ⟨g, 1, none⟩ = some (.int .i64 10) ∧ w'.cell? ⟨g, 2, none⟩ = some (.slice A head28_ps.length c)) (go_keep)
      (first
        | (go_at_call_of 47 (Value.int IntKind.i64 2023); refine (wageofficelaw28_Simple.calls 2023 _ _ _ _ (head28_simple 2023)).mono ?_; rintro e Wa ⟨va, rfl, hva, hba⟩; have hA : Below W0.heap.size W0 Wa := below_step (by repeat (first | exact Below.refl _ _ | apply below_alloc | apply below_drew1)) hba; have ca0 := (hA.cell (p := ⟨g, 0, none⟩) L).trans c0; have ca1 := (hA.cell (p := ⟨g, 1, none⟩) L).trans c1; have ca2 := (hA.cell (p := ⟨g, 2, none⟩) L).trans c2; have La := Nat.lt_of_lt_of_le L hA.size; have n1a : g ≠ Wa.heap.size := Nat.ne_of_lt La; have n1b : Wa.heap.size ≠ g := (Nat.ne_of_lt La).symm; (try (have yA := Aside0.mk ((hba.block W0.heap.size (lt_alloc W0.drew _)).trans (blk_new W0.drew _)))); obtain ⟨Aa, ka, rfl, hla, hCa⟩ := Kd.R_reads hva; have HLA := Aside0.mk hla; have HCA := Aside0.mk hCa; have HBA := Aside0.mk hA; clear hva hba hla hCa hA)
        | (go_at_call 29; refine (tax_Find.calls (some ⟨_, 0, none⟩) 3 head28_b3 2025 _ _ _ _ _ (head28_C3' (by first | exact blk_new _ _ | exact blk_alloc (blk_new _ _) _ | exact blk_new1 _ _ _) (by repeat (first | exact HCY.out | refine Kd.C_alloc ?_ _)) (by repeat (first | exact Kd.C_below HC.out HBB.out | refine Kd.C_alloc ?_ _)) (by repeat (first | exact HCB.out | refine Kd.C_alloc ?_ _)) HLA.out HLC.out HLB.out) (Nat.le_refl _) head28_8).mono ?_; rintro e Wc ⟨vc, rfl, hvc, hbc⟩; have hBC : Below Wb.heap.size Wb Wc := below_step (by repeat (first | exact Below.refl _ _ | apply below_alloc)) hbc; have hC0 := below_step HBB.out hBC; have cc0 := (hC0.cell (p := ⟨g, 0, none⟩) L).trans c0; have cc1 := (hC0.cell (p := ⟨g, 1, none⟩) L).trans c1; have cc2 := (hC0.cell (p := ⟨g, 2, none⟩) L).trans c2; have Lc := Nat.lt_of_lt_of_le L hC0.size; have n4a : g ≠ Wc.heap.size := Nat.ne_of_lt Lc; have n4b : Wc.heap.size ≠ g := (Nat.ne_of_lt Lc).symm; (try (have yC := Aside0.mk ((hBC.block _ (blk_lt yB.out)).trans yB.out))); (try (have yD := Aside0.mk ((hbc.block (Wb.heap.size + 1) (lt_alloc21 Wb _ _)).trans (blk_new1 Wb _ _)))); (try (have yE := Aside0.mk ((hbc.block Wb.heap.size (lt_alloc2 Wb _ _)).trans (blk_alloc (blk_new Wb _) _)))); (try (have y0yC := blk_cell yC.out 0; have y1yC := blk_cell yC.out 1; have y2yC := blk_cell yC.out 2; have z0yC := blk_frozen yC.out 0; have z1yC := blk_frozen yC.out 1; have z2yC := blk_frozen yC.out 2; simp at y0yC y1yC y2yC)); (try (have y0yD := blk_cell yD.out 0; have y1yD := blk_cell yD.out 1; have y2yD := blk_cell yD.out 2; have z0yD := blk_frozen yD.out 0; have z1yD := blk_frozen yD.out 1; have z2yD := blk_frozen yD.out 2; simp at y0yD y1yD y2yD)); (try (have y0yE := blk_cell yE.out 0; have y1yE := blk_cell yE.out 1; have y2yE := blk_cell yE.out 2; have z0yE := blk_frozen yE.out 0; have z1yE := blk_frozen yE.out 1; have z2yE := blk_frozen yE.out 2; simp at y0yE y1yE y2yE)); obtain ⟨Ac, kc, rfl⟩ := Kd.R_slice hvc; have HBC := Aside0.mk hC0; clear hvc hbc hBC hC0)
        | (go_at_call_of 47 (Value.int IntKind.i64 2026); refine (wageofficelaw28_Simple.calls 2026 _ _ _ _ (head28_simple 2026)).mono ?_; rintro e Wb ⟨vb, rfl, hvb, hbb⟩; have hAB : Below Wa.heap.size Wa Wb := below_step (by repeat (first | exact Below.refl _ _ | apply below_alloc | apply below_drew1)) hbb; have hB0 := below_step HBA.out hAB; have cb0 := (hB0.cell (p := ⟨g, 0, none⟩) L).trans c0; have cb1 := (hB0.cell (p := ⟨g, 1, none⟩) L).trans c1; have cb2 := (hB0.cell (p := ⟨g, 2, none⟩) L).trans c2; have Lb := Nat.lt_of_lt_of_le L hB0.size; have n2a : g ≠ Wb.heap.size := Nat.ne_of_lt Lb; have n2b : Wb.heap.size ≠ g := (Nat.ne_of_lt Lb).symm; have n3a : g ≠ Wb.heap.size + 1 := Nat.ne_of_lt (Nat.lt_succ_of_lt Lb); have n3b : Wb.heap.size + 1 ≠ g := (Nat.ne_of_lt (Nat.lt_succ_of_lt Lb)).symm; (try (have yB := Aside0.mk ((hAB.block _ (blk_lt yA.out)).trans yA.out))); (try (have yB := Aside0.mk ((hbb.block Wa.heap.size (lt_alloc Wa _)).trans (blk_new Wa _)))); obtain ⟨Ab, kb, rfl, hlb, hCb⟩ := Kd.R_reads hvb; have HLB := Aside0.mk hlb; have HCB := Aside0.mk hCb; have HBB := Aside0.mk hB0; have HCY := Aside0.mk (Kd.C_below HCA.out hAB); clear hvb hbb hlb hCb hAB hB0))
    all_goals (go_wp2_with fail; go_meet; exact ⟨_, rfl, rfl, by go_simp, ⟨by repeat (first | exact HBC.out | apply below_alloc | refine below_set ?_ (by first | exact Nat.le_refl _ | exact HBA.out.size | exact HBB.out.size | exact Nat.le_succ_of_le HBB.out.size | exact HBC.out.size))⟩⟩)
  case rest =>
    obtain ⟨gc, rfl, rfl, hgc, HBX⟩ := hcut
    have d0 := (HBX.out.cell (p := ⟨g, 0, none⟩) L).trans c0
    have d1 := (HBX.out.cell (p := ⟨g, 1, none⟩) L).trans c1
    have d2 := (HBX.out.cell (p := ⟨g, 2, none⟩) L).trans c2
    have HCX := Aside0.mk (Kd.C_below HC.out HBX.out)
    have HBW := Aside0.mk (below_step HB.out HBX.out)
    clear c0 c1 c2 HC HB
    go_wp2_with fail
    refine (tax_Find.calls (some ⟨_, 0, none⟩) 1 head28_b1 2023 _ _ _ _ _ (head28_C1 HCX.out HLC.out) (Nat.le_refl _) head28_9).mono ?_
    rintro e Wd ⟨vd, rfl, hvd, hbd⟩
    have hbe := below_over hbd
    have hgd := (hbe.cell (World.block_lt_of_cell? _ _ hgc)).trans hgc
    have hne : gc ≠ Wd.heap.size := Nat.ne_of_lt (Nat.lt_of_lt_of_le (World.block_lt_of_cell? _ _ hgc) hbe.size)
    obtain ⟨Ad, kd, rfl⟩ := Kd.R_slice hvd
    have HBZ := Aside0.mk (below_step HBW.out hbe)
    clear hvd hbd hbe hgc d0 d1 d2
    have hgo := fun o1 => ((below_alloc (Below.refl Wd.heap.size Wd) o1).cell (World.block_lt_of_cell? _ _ hgd)).trans hgd
    go_wp2
    go_ret
    exact ⟨rfl, by repeat (first | exact HBZ.out | apply below_alloc | refine below_set ?_ HBZ.out.size)⟩

end Go.Proofs.Ytnadfkhllfgoiaa.My
