/- A range over a function whose rounds are counted, where the iterator tells the round what lies in memory when it yields. -/
import Derived.RangeFuncNested
import Derived.RangeFuncLeaves
namespace Go.Proofs.Yteapeglolkfimaa.Rgc
open Go Go.RowKit
variable {F : Fence} {n : Nat} {P : Program}

/-- The iterator's word: at round k it hands over x, and then C k x of the world; N rounds come, unless one of them stops it. -/
def Seq (F : Fence) (n : Nat) (P : Program) (gf : Nat) (lb : Array Value) (C : Nat → Array Value → World → Prop) (Kp : World → World → Prop) (N : Nat) (w : World) : Prop :=
  ∀ (l : Nat) (J Jx : Nat → World → Prop) (W : World), Below w.heap.size w W → AbidesFrom W.heap.size J →
    (∀ k x W1, J k W1 → k < N → C k x W1 → YieldAt F (n - 1) P l x W1 fun e W' =>
      (e = .returned (.bool true) ∧ J (k + 1) W' ∧ Kp W1 W') ∨ (e = .returned (.bool false) ∧ Jx k W')) →
    J 0 W →
    CallsIn F n P gf (#[.func (.yield l) #[] #[]] ++ lb) W fun e W' => (∃ v, e = .returned v) ∧ (J N W' ∨ ∃ k, k < N ∧ Jx k W')

/-- How a round's body may be left. -/
def Left (B : Nat) (Kp : World → World → Prop) (I : Nat → World → Prop) (Ix : Code → Nat → World → Prop) (k : Nat) (W : World) : Exit → Act → World → Prop
  | .normal, _, W' => KeepsFrom B W W' ∧ Kp W W' ∧ I (k + 1) W'
  | .ret, _, W' => KeepsFrom B W W' ∧ Ix .ret k W'
  | .exit id, _, W' => KeepsFrom B W W' ∧ Ix (.exit id) k W'
  | .goto t, _, W' => KeepsFrom B W W' ∧ Ix (.goto t) k W'
  | .panic _, _, _ => False
  | .outgrown, _, _ => False

theorem range_counted {g : Operand} {ps : Array Tmp} {assign body : Code} {Q : Exit → Act → World → Prop} {a : Act} {w w0 : World}
    (hro : F.round = none) (h1 : 1 ≤ n) {gf : Nat} {lb : Array Value} (hg : a.eval g = .func (.func gf) #[] lb) (hFg : F.fn gf) (eg : ∀ args w, (callFunc gf args).run P w = .ok (.enter gf args) w)
    {C : Nat → Array Value → World → Prop} {Kp : World → World → Prop} {N : Nat} (hseq : Seq F (n - 1) P gf lb C Kp N w0) (hb0 : Below w0.heap.size w0 w)
    (hKt : ∀ {X Y Z : World}, Kp X Y → Kp Y Z → Kp X Z) (hKb : ∀ (W : World) (l : Nat) (o o' : Obj), w.heap.size ≤ l → W.heap[l]? = some o → o.isCells = false → o.isWalk = false → Kp W (W.putObj l o'))
    (hps : ∀ k x W, C k x W → x.size = ps.size)
    (I : Nat → World → Prop) (Ix : Code → Nat → World → Prop) (hI : OwnFrom w.heap.size I) (hIx : ∀ c, OwnFrom w.heap.size (Ix c)) (h0 : I 0 w)
    (Ax : Nat → Array Value → Act → World → Prop) (hAx : ∀ k x a', OwnFrom w.heap.size (fun (_ : Unit) W => Ax k x a' W))
    (hassign : ∀ (l k : Nat) (x : Array Value) (W : World) (K : Act → World → Prop), I k W → C k x W → k < N → (∀ a' W', KeepsFrom w.heap.size W W' → Kp W W' → I k W' → Ax k x a' W' → K a' W') →
      assign.wpIn (F.inRound l) (n - 1 - 1) P (Exit.then K (fun _ _ _ => False)) { tmps := (ps.zip x).foldl (fun t (p, v) => t.setIfInBounds p v) a.tmps, defers := [] } W)
    (hbody : ∀ (l k : Nat) (x : Array Value) (a' : Act) (W : World), w.heap.size ≤ l → I k W → Ax k x a' W → k < N → body.wpIn (F.inRound l) (n - 1 - 1) P (Left w.heap.size Kp I Ix k W) a' W)
    (hdone : ∀ (D : Nat) (W : World), w.heap.size ≤ D → I N W → W.heap[D]? = some (.deferred (some [])) → Q .normal { a with defers := { target := .collected D, args := #[] } :: a.defers } W)
    (hstop : ∀ (D : Nat) (c : Code) (k : Nat) (W : World), w.heap.size ≤ D → k < N → Ix c k W → W.heap[D]? = some (.deferred (some [])) → c.wpIn F n P Q { a with defers := { target := .collected D, args := #[] } :: a.defers } W) :
    (Code.rangeFunc g ps assign body).wpIn F n P Q a w := by
  refine wpIn_rangeFunc fun fn hfn => ?_
  rw [hro]
  let D := w.heap.size
  let rc : LoopState → Option Code → Loop := fun st pe => { state := st, pending := pe, fn, tmps := a.tmps, params := ps, assign, body, defers := D }
  let W1 := (w.alloc (.deferred (some []))).alloc (.loop (rc .ready none))
  have hW1 : W1.heap.size = D + 2 := by simp [W1, D]
  have hD1 : W1.heap[D]? = some (.deferred (some [])) := (Below.heap_alloc _ _ _ (by simp [D])).trans (World.alloc_heap_new w _)
  have hL1 : W1.heap[D + 1]? = some (.loop (rc .ready none)) := by
    have := World.alloc_heap_new (w.alloc (.deferred (some []))) (.loop (rc .ready none)); rwa [World.size_alloc] at this
  have hbel : Below w0.heap.size w0 W1 := hb0.trans ((((Below.refl _ w).alloc (Nat.le_refl _) _).alloc (by simp) _).mono hb0.size)
  refine ⟨D + 1, [{ target := .collected D, args := #[] }], W1, { target := .fn (.func gf) lb, args := #[.func (.yield (D + 1)) #[] #[]] }, W1, gf, #[.func (.yield (D + 1)) #[] #[]] ++ lb, W1,
    run_enterLoop_outer _ _ _ _ _, by simp only [resolve, hg]; simp [go_sem], fun f' hf' => by simp [Target.leads] at hf'; subst hf'; exact hFg, by simp [invoke, go_sem, eg], fun _ => h1, ?_⟩
  -- a block of book-keeping that the caller's invariants do not see
  have keep : ∀ {A B : World} {row : Option Nat}, (∀ r, row = some r → W1.heap.size ≤ r ∧ ∃ o : Obj, A.heap[r]? = some o ∧ o.isWalk = true) → (∀ r, row = some r → D ≤ r ∧ ∃ o : Obj, A.heap[r]? = some o ∧ o.isCells = false) :=
    fun hr r e => by obtain ⟨hB, o, ho, hw⟩ := hr r e; exact ⟨by omega, o, ho, Obj.not_cells_of_walk hw⟩
  refine (hseq (D + 1) (fun k W => I k W ∧ W.heap[D + 1]? = some (.loop (rc .ready none)) ∧ W.heap[D]? = some (.deferred (some [])))
    (fun k W => ∃ c, Ix c k W ∧ W.heap[D + 1]? = some (.loop (rc .done (some c))) ∧ W.heap[D]? = some (.deferred (some []))) W1 hbel ?abide ?round ⟨hI.alloc _ (hI.alloc _ h0), hL1, hD1⟩).mono ?after
  case abide =>
    intro k A B row hs hgr hr
    exact ⟨hI k A B row hs.1 hgr (keep (B := B) hr), (grownBy_keeps hgr (fun r e => (hr r e).2) hs.2.1 rfl).trans hs.2.1, (grownBy_keeps hgr (fun r e => (hr r e).2) hs.2.2 rfl).trans hs.2.2⟩
  case after =>
    rintro e W2 ⟨⟨v, rfl⟩, (⟨hi, hl, hk⟩ | ⟨k, hkN, c, hi, hl, hk⟩)⟩
    · exact ⟨none, _, run_endLoop (P := P) hl (by simp [rc]), hdone D _ (Nat.le_refl _) (hI.putObj _ hi (by omega) hl rfl) ((World.putObj_heap_other (by omega)).trans hk)⟩
    · exact ⟨some c, _, run_endLoop (P := P) hl (by simp [rc]), hstop D c k _ (Nat.le_refl _) hkN ((hIx c).putObj _ hi (by omega) hl rfl) ((World.putObj_heap_other (by omega)).trans hk)⟩
  case round =>
    rintro k x W ⟨hi, hl, hk⟩ hkN hC
    refine ⟨fn, _, assign, body, run_yield (P := P) hl (hps k x W hC), roundIn_of_wpIn hfn (hassign _ k x W _ hi hC hkN ?_)⟩
    intro a' Wa hkf hkp hia hax
    have hl := hkf.same _ _ (by omega) hl rfl
    have hk := hkf.same _ _ (Nat.le_refl _) hk rfl
    have hlt : D + 1 < Wa.heap.size := (Array.getElem?_eq_some_iff.1 hl).1
    refine ⟨_, run_beginRound hl rfl, ?_⟩
    obtain ⟨Wb, hWb⟩ : ∃ Wb, Wb = Wa.putObj (D + 1) (.loop { rc .ready none with state := .busy }) := ⟨_, rfl⟩
    have hlb : Wb.heap[D + 1]? = some (.loop { rc .ready none with state := .busy }) := by rw [hWb]; exact World.putObj_heap_same hlt
    have hkb : Wb.heap[D]? = some (.deferred (some [])) := by rw [hWb]; exact (World.putObj_heap_other (by omega)).trans hk
    have hkpb : Kp W Wb := hKt hkp (by rw [hWb]; exact hKb _ _ _ _ (by omega) hl rfl rfl)
    have hib : I k Wb := by rw [hWb]; exact hI.putObj _ hia (by omega) hl rfl
    have hab : Ax k x a' Wb := by rw [hWb]; exact (hAx k x a').putObj (s := ()) _ hax (by omega) hl rfl
    change body.wpIn _ _ _ _ a' (Wa.putObj (D + 1) (.loop { rc .ready none with state := .busy }))
    rw [← hWb]
    refine wpIn_mono (hbody _ k x a' Wb (by omega) hib hab hkN) ?_
    -- the round's end, by the way it is left
    have fin : ∀ (jump : Option Code) (W3 : World), KeepsFrom D Wb W3 →
        (Instr.endRound (D + 1) jump).run P W3 = .ok (.bool jump.isNone) (W3.putObj (D + 1) (.loop (rc (if jump.isNone then .ready else .done) jump))) ∧
        W3.heap[D + 1]? = some (.loop { rc .ready none with state := .busy }) ∧
        (W3.putObj (D + 1) (.loop (rc (if jump.isNone then .ready else .done) jump))).heap[D + 1]? = some (.loop (rc (if jump.isNone then .ready else .done) jump)) ∧
        (W3.putObj (D + 1) (.loop (rc (if jump.isNone then .ready else .done) jump))).heap[D]? = some (.deferred (some [])) := fun jump W3 h3 => by
      have hl3 := h3.same _ _ (by omega) hlb rfl
      exact ⟨run_endRound (P := P) jump hl3, hl3, World.putObj_heap_same (Array.getElem?_eq_some_iff.1 hl3).1, (World.putObj_heap_other (by omega)).trans (h3.same _ _ (Nat.le_refl _) hkb rfl)⟩
    rintro e a3 W3 hp
    cases e with
    | normal =>
      obtain ⟨hk3, hkp3, hi3⟩ := hp
      obtain ⟨hr, hl3, hl4, hk4⟩ := fin none W3 hk3
      exact ⟨_, _, hr, .inl ⟨rfl, ⟨hI.putObj _ hi3 (by omega) hl3 rfl, hl4, hk4⟩, hKt hkpb (hKt hkp3 (hKb _ _ _ _ (by omega) hl3 rfl rfl))⟩⟩
    | ret =>
      obtain ⟨hk3, hi3⟩ := hp
      obtain ⟨hr, hl3, hl4, hk4⟩ := fin (some .ret) W3 hk3
      exact ⟨_, _, hr, .inr ⟨rfl, .ret, (hIx _).putObj _ hi3 (by omega) hl3 rfl, hl4, hk4⟩⟩
    | exit id =>
      obtain ⟨hk3, hi3⟩ := hp
      obtain ⟨hr, hl3, hl4, hk4⟩ := fin (some (.exit id)) W3 hk3
      exact ⟨_, _, hr, .inr ⟨rfl, .exit id, (hIx _).putObj _ hi3 (by omega) hl3 rfl, hl4, hk4⟩⟩
    | goto t =>
      obtain ⟨hk3, hi3⟩ := hp
      obtain ⟨hr, hl3, hl4, hk4⟩ := fin (some (.goto t)) W3 hk3
      exact ⟨_, _, hr, .inr ⟨rfl, .goto t, (hIx _).putObj _ hi3 (by omega) hl3 rfl, hl4, hk4⟩⟩
    | panic ch => exact hp.elim
    | outgrown => exact hp.elim
end Go.Proofs.Yteapeglolkfimaa.Rgc
