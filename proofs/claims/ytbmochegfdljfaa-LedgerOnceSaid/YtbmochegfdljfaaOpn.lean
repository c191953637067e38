/- A value that can be read as data is a value of the print's kinds: numbers, bools, strings, slices, structs, to any depth. -/
import Derived.Test.YtbmochegfdljfaaKdX
import Derived.ChangeArms
import Derived.WideShapes
import Derived.Lib.SmallJoins
import Derived.Deep.Slices
namespace Go.Proofs.Ytbmochegfdljfaa.Opn
open Go Go.RowKit Go.Proofs.YtbmochegfdljfaaW.PrintWords Go.Proofs.YtbmochegfdljfaaW.PrintLast Go.Proofs.YtbmochegfdljfaaW.PrintMore
set_option linter.unusedVariables false
set_option linter.unusedSimpArgs false

def Opn (P : Program) (t : TypeId) {α : Type} (d : Kd α) (B : α → Prop) : Prop :=
  ∀ {H : Type} (enc : TypeId × Value → H) (w : World) (base : Nat) (spare : Nat → Bool) (held : Bool) (fuel : Nat) (cs : List Value) (x : DataW H × List MemPlace),
    DataW.trod enc P w base spare held fuel t cs = some x → ∃ a : α, Kd.FK d w (fun _ => True) a cs ∧ B a
theorem Opn.int {P : Program} {t : TypeId} {k : IntKind} (ht : P.underlying t = some (.int k)) : Opn P t (Kd.int k) (fun n => (Lit.int k n).wf = true) := by
  intro H enc w base spare held fuel cs x h
  obtain ⟨n, rfl, _, hw⟩ := DataW.trod_int ht h
  exact ⟨n, fun _ _ => rfl, hw⟩
theorem Opn.bool {P : Program} {t : TypeId} (ht : P.underlying t = some .bool) : Opn P t Kd.bool (fun _ => True) := by
  intro H enc w base spare held fuel cs x h
  obtain ⟨n, rfl, _⟩ := DataW.trod_bool ht h
  exact ⟨n, fun _ _ => rfl, trivial⟩
theorem Opn.string {P : Program} {t : TypeId} (ht : P.underlying t = some .string) : Opn P t Kd.string (fun s => s.size ≤ maxLen) := by
  intro H enc w base spare held fuel cs x h
  obtain ⟨s, rfl, _, hs⟩ := DataW.trod_string ht h
  exact ⟨s, fun _ _ => rfl, hs⟩
theorem cell_same {w W : World} {a : Addr} {v : Value} (h : w.cell? a = some v) (hW : ∀ k, True → k < w.heap.size → W.heap[k]? = w.heap[k]?) : W.cell? a = w.cell? a := by
  have := hW a.block trivial (World.block_lt_of_cell? w a h)
  unfold World.cell?
  rw [this]
theorem list_of {α : Type} {n : Nat} {p : Nat → α → Prop} (h : ∀ i, i < n → ∃ x, p i x) : ∃ xs : List α, xs.length = n ∧ ∀ i (hi : i < xs.length), p i xs[i] := by
  induction n with
  | zero => exact ⟨[], rfl, fun i hi => absurd hi (by simp)⟩
  | succ n ih =>
    obtain ⟨xs, hl, hx⟩ := ih fun i hi => h i (by omega)
    obtain ⟨x, hp⟩ := h n (by omega)
    refine ⟨xs ++ [x], by simp [hl], fun i hi => ?_⟩
    rw [List.length_append] at hi
    by_cases e : i < xs.length
    · rw [List.getElem_append_left e]; exact hx i e
    · have : i = n := by simp at hi; omega
      subst this
      rw [List.getElem_append_right (by omega)]
      simp [hl]; exact hp
theorem Opn.slice {P : Program} {t e : TypeId} {α : Type} {d : Kd α} {B : α → Prop} (ht : P.underlying t = some (.slice e)) (hc : P.cellsOf e = d.sz) (he : Opn P e d B) :
    Opn P t (Kd.slice e d) (fun l => l.length ≤ maxLen ∧ ∀ x ∈ l, B x) := by
  intro H enc w base spare held fuel cs x h
  rcases DataW.trod_slice ht h with ⟨rfl, _⟩ | ⟨a, len, cap, elems, rest, n, _, rfl, _, hb, hl, hm, hlen, hel, _⟩
  · exact ⟨[], fun _ _ => ⟨none, 0, rfl, Nat.le_refl _, ⟨rfl, by simp, fun h => absurd h (by simp)⟩⟩, by simp, fun x hx => by simp at hx⟩
  · have hx : ∀ i, i < len → ∃ y : α, (∃ ci, w.cells? base (a.add (i * P.cellsOf e)) (P.cellsOf e) = some ci ∧ Kd.FK d w (fun _ => True) y ci) ∧ B y := by
      intro i hi
      have h1 := hel i hi
      rw [List.getElem?_eq_getElem (by omega)] at h1
      obtain ⟨ci, hci, hy⟩ := Option.bind_eq_some_iff.1 h1
      obtain ⟨y, hK, hB⟩ := he enc w base spare held n ci _ hy
      exact ⟨y, ⟨ci, hci, hK⟩, hB⟩
    obtain ⟨xs, hxl, hxs⟩ := list_of hx
    subst hxl
    refine ⟨xs, fun W' hW' => ⟨some a, cap, rfl, hl, ⟨rfl, by unfold maxLen at hm; omega, fun _ => ⟨a, rfl, fun j p hj => ?_⟩⟩⟩, by omega, fun x hx => ?_⟩
    · obtain ⟨hjl, rfl⟩ := List.getElem?_eq_some_iff.1 hj
      obtain ⟨⟨ci, hci, hK⟩, _⟩ := hxs j hjl
      refine ⟨ci, d.K_len (hK W' hW'), hK W' hW', fun i u hu => ?_⟩
      unfold World.cells? at hci
      split at hci
      · have hcl := mapM_some_length hci
        have hi : i < ci.length := (List.getElem?_eq_some_iff.1 hu).1
        have hg := mapM_some_get hci i i (by rw [List.getElem?_range (by simpa [hcl] using hi)])
        rw [hu] at hg
        rw [← hc, ← Go.Deep.add_add]
        exact (cell_same hg hW').trans hg
      · cases hci
    · obtain ⟨i, hi, rfl⟩ := List.getElem_of_mem hx
      exact (hxs i hi).2

def OpnFs (P : Program) (fs : List Field) (off : Nat) {α : Type} (d : Kd α) (B : α → Prop) : Prop :=
  ∀ {H : Type} (enc : TypeId × Value → H) (w : World) (base : Nat) (spare : Nat → Bool) (held : Bool) (n : Nat) (cs : List Value),
    (∀ (i : Nat) (f : Field), fs[i]? = some f → ∃ y, DataW.trod enc P w base spare held n f.type ((cs.drop f.offset).take (P.cellsOf f.type)) = some y) → cs.length = off + d.sz → ∃ a : α, Kd.FK d w (fun _ => True) a (cs.drop off) ∧ B a
theorem OpnFs.one {P : Program} {f : Field} {off : Nat} {α : Type} {d : Kd α} {B : α → Prop} (ho : f.offset = off) (hc : P.cellsOf f.type = d.sz) (h : Opn P f.type d B) : OpnFs P [f] off d B := by
  intro H enc w base spare held n cs hf hl
  obtain ⟨y, hy⟩ := hf 0 f rfl
  rw [ho, List.take_of_length_le (by rw [List.length_drop]; omega)] at hy
  exact h enc w base spare held n _ _ hy
theorem OpnFs.cons {P : Program} {f : Field} {fs : List Field} {off : Nat} {α β : Type} {a : Kd α} {b : Kd β} {Ba : α → Prop} {Bb : β → Prop} (ho : f.offset = off) (hc : P.cellsOf f.type = a.sz) (h : Opn P f.type a Ba)
    (hs : OpnFs P fs (off + a.sz) b Bb) : OpnFs P (f :: fs) off (Kd.pair a b) (fun x => Ba x.1 ∧ Bb x.2) := by
  intro H enc w base spare held n cs hf hl
  have hl' : cs.length = off + (a.sz + b.sz) := hl
  obtain ⟨y, hy⟩ := hf 0 f rfl
  obtain ⟨x1, hK1, hB1⟩ := h enc w base spare held n _ _ hy
  obtain ⟨x2, hK2, hB2⟩ := hs enc w base spare held n cs (fun i g hg => hf (i + 1) g (by simpa using hg)) (by omega)
  refine ⟨(x1, x2), fun W' hW' => ⟨(cs.drop off).take a.sz, cs.drop (off + a.sz), ?_, ?_, hK2 W' hW'⟩, hB1, hB2⟩
  · rw [← List.drop_drop, List.take_append_drop]
  · rw [ho, hc] at hK1; exact hK1 W' hW'
theorem OpnFs.iso {P : Program} {fs : List Field} {off : Nat} {α β : Type} {d : Kd α} {B : α → Prop} (f : β → α) (g : α → β) (hg : ∀ a, f (g a) = a) (h : OpnFs P fs off d B) : OpnFs P fs off (Kd.iso d f) (fun x => B (f x)) := by
  intro H enc w base spare held n cs hf hl
  obtain ⟨a, hK, hB⟩ := h enc w base spare held n cs hf hl
  exact ⟨g a, fun W' hW' => show d.K W' (f (g a)) _ from (hg a).symm ▸ hK W' hW', show B (f (g a)) from (hg a).symm ▸ hB⟩
theorem Opn.struct {P : Program} {t : TypeId} {fs : Array Field} {α : Type} {d : Kd α} {B : α → Prop} (ht : P.underlying t = some (.struct fs)) (hc : P.cellsOf t = d.sz) (h : OpnFs P fs.toList 0 d B) : Opn P t d B := by
  intro H enc w base spare held fuel cs x hx
  obtain ⟨xs, n, _, _, hl, hxl, hf⟩ := DataW.trod_struct ht hx
  obtain ⟨a, hK, hB⟩ := h enc w base spare held n cs (fun i f hi => by
    have hi' : fs[i]? = some f := by simpa using hi
    have h1 := hf i f hi'
    have hlt : i < xs.length := by rw [hxl]; exact (Array.getElem?_eq_some_iff.1 hi').1
    rw [List.getElem?_eq_getElem hlt] at h1
    exact ⟨_, h1⟩) (by omega)
  exact ⟨a, hK, hB⟩
theorem Opn.mono {P : Program} {t : TypeId} {α : Type} {d : Kd α} {B B' : α → Prop} (h : Opn P t d B) (hB : ∀ a, B a → B' a) : Opn P t d B' := by
  intro H enc w base spare held fuel cs x hx
  obtain ⟨a, hK, hb⟩ := h enc w base spare held fuel cs x hx
  exact ⟨a, hK, hB a hb⟩
theorem arr_of {cs : Array Value} {l : List Value} (h : cs.toList = l) : cs = l.toArray := by subst h; simp
end Go.Proofs.Ytbmochegfdljfaa.Opn
