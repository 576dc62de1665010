/- How Go's data, as the rows read them, become the values of the printed functions: whole numbers, bools, structs, slices of these, slices inside structs. No condition. -/
import Derived.Test.YtjdjliaachcofaaVEcfTellsWWords
import Derived.ProofKit
import Derived.ChangeArms
import Derived.ChangeOld
import Derived.Deep.Slices
namespace Go.Proofs.YtjdjliaachcofaaW.Opens
open Go.ChangeShapes Go.WideShapes Go.ChangeAt Go.RowKit Go.Proofs.YtjdjliaachcofaaW.PrintWords

/-- Cells that read as data of type t are a value of the kind d, of which Wf holds. -/
def Opens {α : Type} (P : Program) (d : Kd α) (t : TypeId) (Wf : α → Prop) : Prop :=
  ∀ {H : Type} {enc : TypeId × Value → H} {w : World} {base : Nat} {spare : Nat → Bool} {held : Bool} {fuel : Nat} {cs : List Value} {x : DataW H × List MemPlace},
    DataW.trod enc P w base spare held fuel t cs = some x → ∃ v, d.K w v cs ∧ Wf v
/-- The same of a struct's fields, from cell o on. -/
def OpensF {α : Type} (P : Program) (fs : List Field) (o : Nat) (d : Kd α) (Wf : α → Prop) : Prop :=
  ∀ {H : Type} {enc : TypeId × Value → H} {w : World} {base : Nat} {spare : Nat → Bool} {held : Bool} {n : Nat} {cs : List Value},
    (∀ (j : Nat) (f : Field), fs[j]? = some f → ∃ y, DataW.trod enc P w base spare held n f.type ((cs.drop f.offset).take (P.cellsOf f.type)) = some y) → cs.length = o + d.sz → ∃ v, d.K w v (cs.drop o) ∧ Wf v
theorem opens_int {P : Program} {t : TypeId} {k : IntKind} (ht : P.underlying t = some (.int k)) : Opens P (Kd.int k) t (fun n => (Lit.int k n).wf = true) := by
  intro H enc w base spare held fuel cs x h
  obtain ⟨n, rfl, _, hw⟩ := DataW.trod_int ht h
  exact ⟨n, rfl, hw⟩
theorem opens_bool {P : Program} {t : TypeId} (ht : P.underlying t = some .bool) : Opens P Kd.bool t (fun _ => True) := by
  intro H enc w base spare held fuel cs x h
  obtain ⟨b, rfl, _⟩ := DataW.trod_bool ht h
  exact ⟨b, rfl, trivial⟩
theorem opensF_one {α : Type} {P : Program} {f : Field} {o : Nat} {d : Kd α} {Wf : α → Prop} (ho : f.offset = o) (hs : P.cellsOf f.type = d.sz) (h : Opens P d f.type Wf) : OpensF P [f] o d Wf := by
  intro H enc w base spare held n cs hr hl
  obtain ⟨y, hy⟩ := hr 0 f rfl
  obtain ⟨v, hK, hw⟩ := h hy
  rw [ho, hs, List.take_of_length_le (by rw [List.length_drop]; omega)] at hK
  exact ⟨v, hK, hw⟩
theorem opensF_cons {α β : Type} {P : Program} {f : Field} {fs : List Field} {o : Nat} {d : Kd α} {d' : Kd β} {Wf : α → Prop} {Wf' : β → Prop} (ho : f.offset = o) (hs : P.cellsOf f.type = d.sz)
    (h : Opens P d f.type Wf) (h' : OpensF P fs (o + d.sz) d' Wf') : OpensF P (f :: fs) o (Kd.pair d d') (fun p => Wf p.1 ∧ Wf' p.2) := by
  intro H enc w base spare held n cs hr hl
  have hl' : cs.length = o + (d.sz + d'.sz) := hl
  obtain ⟨y, hy⟩ := hr 0 f rfl
  obtain ⟨v, hK, hw⟩ := h hy
  obtain ⟨v', hK', hw'⟩ := h' (cs := cs) (fun j g hg => hr (j + 1) g (by simpa using hg)) (by omega)
  rw [ho, hs] at hK
  refine ⟨(v, v'), ⟨(cs.drop o).take d.sz, cs.drop (o + d.sz), ?_, hK, hK'⟩, hw, hw'⟩
  rw [← List.drop_drop]
  exact (List.take_append_drop _ _).symm
theorem opens_struct {α : Type} {P : Program} {t : TypeId} {fs : Array Field} {d : Kd α} {Wf : α → Prop} (ht : P.underlying t = some (.struct fs)) (hc : P.cellsOf t = d.sz) (h : OpensF P fs.toList 0 d Wf) : Opens P d t Wf := by
  intro H enc w base spare held fuel cs x hx
  obtain ⟨xs, n, _, _, hl, hlen, hf⟩ := DataW.trod_struct ht hx
  have := h (enc := enc) (w := w) (base := base) (spare := spare) (held := held) (n := n) (cs := cs) (fun j f hj => ?_) (by omega)
  · simpa using this
  · rw [Array.getElem?_toList] at hj
    have hj' : j < fs.size := (Array.getElem?_eq_some_iff.1 hj).1
    exact ⟨xs[j]'(by omega), by rw [hf j f hj, List.getElem?_eq_getElem (by omega)]⟩
theorem opens_iso {α β : Type} {P : Program} {t : TypeId} {d : Kd α} {Wf : α → Prop} (f : β → α) (g : α → β) (hfg : ∀ a, f (g a) = a) (h : Opens P d t Wf) : Opens P (Kd.iso d f) t (fun x => Wf (f x)) := by
  intro H enc w base spare held fuel cs x hx
  obtain ⟨v, hK, hw⟩ := h hx
  refine ⟨g v, ?_, ?_⟩
  · show d.K w (f (g v)) cs
    rw [hfg]; exact hK
  · show Wf (f (g v))
    rw [hfg]; exact hw
theorem opens_imp {α : Type} {P : Program} {d : Kd α} {t : TypeId} {Wf Wf' : α → Prop} (h : Opens P d t Wf) (hi : ∀ x, Wf x → Wf' x) : Opens P d t Wf' := by
  intro H enc w base spare held fuel cs x hx
  obtain ⟨v, hK, hw⟩ := h hx
  exact ⟨v, hK, hi v hw⟩
/-- A slice: its elements up to its length. -/
theorem opens_slice {α : Type} [Inhabited α] {P : Program} {t e : TypeId} {d : Kd α} {Wf : α → Prop} (ht : P.underlying t = some (.slice e)) (hs : P.cellsOf e = d.sz) (h : Opens P d e Wf) :
    Opens P (Kd.slice e d) t (fun l => l.length ≤ maxLen ∧ ∀ x ∈ l, Wf x) := by
  intro H enc w base spare held fuel cs x hx
  rcases Deep.open_slice ht hx with ⟨rfl, _⟩ | ⟨a, len, cap, m, n, D, Pl, rfl, _, hl, hm, hmm, _, hel⟩
  · exact ⟨[], ⟨none, 0, rfl, Nat.le_refl _, Kd.C_nil d w⟩, by simp, by simp⟩
  · have hlm : len ≤ m := by rw [hmm]; split <;> omega
    obtain ⟨f, hf⟩ := Deep.choose_lt (n := len) (p := fun i v => ∃ c, c.length = d.sz ∧ d.K w v c ∧ Wf v ∧ ∀ j u, c[j]? = some u → w.cell? (a.add (i * d.sz + j)) = some u) (by
      intro i hi
      obtain ⟨c, hc, hr⟩ := hel i (by omega)
      obtain ⟨v, hK, hw⟩ := h hr
      refine ⟨v, c, d.K_len hK, hK, hw, fun j u hj => ?_⟩
      obtain ⟨_, hcl, hcc⟩ := World.cells?_some hc
      have hj' : j < c.length := (List.getElem?_eq_some_iff.1 hj).1
      rw [← Deep.add_add, ← hs, hcc j (by omega)]
      exact hj)
    have hlen : ((List.range len).map f).length = len := by simp
    refine ⟨(List.range len).map f, ⟨some a, cap, by rw [hlen], by rw [hlen]; exact hl, ?_⟩, by rw [hlen]; omega, ?_⟩
    · refine ⟨by simp, ?_, fun _ => ⟨a, rfl, ?_⟩⟩
      · rw [hlen]; unfold maxLen at hm; omega
      · intro j p hj
        have hj' : j < len := by
          have := (List.getElem?_eq_some_iff.1 hj).1
          rwa [hlen] at this
        obtain ⟨c, h1, h2, _, h4⟩ := hf j hj'
        have hp : p = f j := by
          rw [List.getElem?_map, List.getElem?_range hj'] at hj
          exact (Option.some.inj hj).symm
        subst hp
        exact ⟨c, h1, h2, h4⟩
    · intro x hx
      obtain ⟨i, hi, rfl⟩ := List.mem_map.1 hx
      obtain ⟨_, _, _, h3, _⟩ := hf i (List.mem_range.1 hi)
      exact h3
end Go.Proofs.YtjdjliaachcofaaW.Opens
