/- Arguments of a law as data: a value of a type of the program that can be read is a plain Lean value: whole numbers, bools, strings, slices and structs of these, one in the other. Nothing is assumed beyond the reading. -/
import Derived.Test.YtefagcpmadpefaaRows
import Derived.ChangeSlices
import Derived.ChangeMaps5
import Derived.DataElems
import Derived.Test.YtefagcpmadpefaaWWords
namespace Go.Proofs.Ytefagcpmadpefaa.Opn
open Go.ChangeShapes Go.WideShapes Go.RowKit Go.Proofs.YtefagcpmadpefaaW.PrintWords

/-- A value of type t that is read is a value of d's. -/
structure Opens {α : Type} (P : Program) (t : TypeId) (d : Kd α) (wf : α → Prop) : Prop where
  out : ∀ {H : Type} {enc : TypeId × Value → H} {w : World} {base : Nat} {spare : Nat → Bool} {held : Bool} {fuel : Nat} {cs : List Value} {x : DataW H × List MemPlace},
    DataW.trod enc P w base spare held fuel t cs = some x → ∃ a : α, d.K w a cs ∧ wf a

def WfI (k : IntKind) (n : Int) : Prop := (Lit.int k n).wf = true
def WfB (_ : Bool) : Prop := True
def WfS (s : ByteArray) : Prop := s.size ≤ maxLen
def WfL {α : Type} (wf : α → Prop) (xs : List α) : Prop := xs.length ≤ 9223372036854775807 ∧ ∀ x ∈ xs, wf x

theorem opens_int {P : Program} {t : TypeId} {k : IntKind} (ht : P.underlying t = some (.int k)) : Opens P t (Kd.int k) (WfI k) := by
  refine ⟨?_⟩
  intro H enc w base spare held fuel cs x h
  obtain ⟨n, rfl, _, hw⟩ := DataW.trod_int ht h
  exact ⟨n, rfl, hw⟩
theorem opens_bool {P : Program} {t : TypeId} (ht : P.underlying t = some .bool) : Opens P t Kd.bool WfB := by
  refine ⟨?_⟩
  intro H enc w base spare held fuel cs x h
  obtain ⟨b, rfl, _⟩ := DataW.trod_bool ht h
  exact ⟨b, rfl, trivial⟩
theorem opens_string {P : Program} {t : TypeId} (ht : P.underlying t = some .string) : Opens P t Kd.string WfS := by
  refine ⟨?_⟩
  intro H enc w base spare held fuel cs x h
  obtain ⟨s, rfl, _, hs⟩ := DataW.trod_string ht h
  exact ⟨s, rfl, hs⟩

/-- A list whose every place has a value that fits. -/
theorem pick_list {α : Type} (R : Nat → α → Prop) : ∀ n, (∀ i, i < n → ∃ a, R i a) → ∃ xs : List α, xs.length = n ∧ ∀ i a, xs[i]? = some a → R i a := by
  intro n
  induction n with
  | zero => exact fun _ => ⟨[], rfl, fun i a h => by simp at h⟩
  | succ n ih =>
    intro h
    obtain ⟨xs, hl, hx⟩ := ih (fun i hi => h i (by omega))
    obtain ⟨a, ha⟩ := h n (by omega)
    refine ⟨xs ++ [a], by simp [hl], fun i b hb => ?_⟩
    rw [List.getElem?_append] at hb
    split at hb
    · exact hx i b hb
    · have hi : i - xs.length = 0 := by
        rcases Nat.eq_zero_or_pos (i - xs.length) with h0 | h0
        · exact h0
        · rw [List.getElem?_eq_none (by simp; omega)] at hb
          cases hb
      rw [hi] at hb
      simp at hb
      subst hb
      have : i = n := by omega
      subst this
      exact ha

theorem opens_slice {α : Type} {P : Program} {t e : TypeId} {d : Kd α} {wf : α → Prop} (ht : P.underlying t = some (.slice e)) (hd : Opens P e d wf) (hs : d.sz = P.cellsOf e) : Opens P t (Kd.slice e d) (WfL wf) := by
  refine ⟨?_⟩
  intro H enc w base spare held fuel cs x h
  rcases DataW.trod_slice ht h with ⟨rfl, _⟩ | ⟨a, len, cap, elems, rest, n, _, rfl, _, hb, hl, hm, hlen, hel, _, _⟩
  · exact ⟨[], ⟨none, 0, rfl, Nat.le_refl _, Kd.C_nil d w⟩, by simp, fun y hy => by cases hy⟩
  · obtain ⟨xs, hxl, hxs⟩ := pick_list (fun i y => (∃ c, c.length = d.sz ∧ d.K w y c ∧ ∀ j u, c[j]? = some u → w.cell? (a.add (i * d.sz + j)) = some u) ∧ wf y) len (by
      intro i hi
      have h1 := hel i hi
      have hi' : i < elems.length := by omega
      rw [List.getElem?_eq_getElem hi', Option.bind_eq_some_iff] at h1
      obtain ⟨c, hc, hr⟩ := h1
      obtain ⟨_, hcl, hcc⟩ := World.cells?_some hc
      obtain ⟨y, hy, hw⟩ := hd.out hr
      refine ⟨y, ⟨c, by rw [hcl, hs], hy, fun j u hu => ?_⟩, hw⟩
      have hj : j < P.cellsOf e := by
        have := (List.getElem?_eq_some_iff.1 hu).1
        omega
      have := hcc j hj
      rw [Addr.add_add] at this
      rw [hs, this, hu])
    have hm' : cap ≤ 9223372036854775807 := hm
    refine ⟨xs, ⟨some a, cap, by rw [hxl], by omega, rfl, by omega, fun _ => ⟨a, rfl, fun j p hp => (hxs j p hp).1⟩⟩, by omega, fun y hy => ?_⟩
    · obtain ⟨i, hi⟩ := List.getElem?_of_mem hy
      exact (hxs i y hi).2

/-- The fields of a struct from the place o on, each behind the other. -/
structure OpensF {α : Type} (P : Program) (fs : List Field) (o : Nat) (d : Kd α) (wf : α → Prop) : Prop where
  out : ∀ {H : Type} {enc : TypeId × Value → H} {w : World} {base : Nat} {spare : Nat → Bool} {held : Bool} {fuel : Nat} {cs : List Value},
    cs.length = o + d.sz → (∀ (i : Nat) (f : Field), fs[i]? = some f → ∃ x, DataW.trod enc P w base spare held fuel f.type ((cs.drop f.offset).take (P.cellsOf f.type)) = some x) →
    ∃ a : α, d.K w a (cs.drop o) ∧ wf a

theorem opensF_one {α : Type} {P : Program} {f : Field} {o : Nat} {d : Kd α} {wf : α → Prop} (hd : Opens P f.type d wf) (hs : d.sz = P.cellsOf f.type) (ho : f.offset = o) : OpensF P [f] o d wf := by
  refine ⟨?_⟩
  intro H enc w base spare held fuel cs hl h
  obtain ⟨x, hx⟩ := h 0 f rfl
  rw [ho, List.take_of_length_le (by rw [List.length_drop]; omega)] at hx
  exact hd.out hx

theorem opensF_cons {α β : Type} {P : Program} {f : Field} {fs : List Field} {o : Nat} {d : Kd α} {d' : Kd β} {wf : α → Prop} {wf' : β → Prop} (hd : Opens P f.type d wf) (hs : d.sz = P.cellsOf f.type) (ho : f.offset = o)
    (hr : OpensF P fs (o + d.sz) d' wf') : OpensF P (f :: fs) o (Kd.pair d d') (fun x => wf x.1 ∧ wf' x.2) := by
  refine ⟨?_⟩
  intro H enc w base spare held fuel cs hl h
  have hl' : cs.length = o + d.sz + d'.sz := by
    have : (Kd.pair d d').sz = d.sz + d'.sz := rfl
    omega
  obtain ⟨x, hx⟩ := h 0 f rfl
  rw [ho, ← hs] at hx
  obtain ⟨a, ha, hwa⟩ := hd.out hx
  obtain ⟨b, hb, hwb⟩ := hr.out hl' (fun i g hg => h (i + 1) g hg)
  refine ⟨(a, b), ⟨_, _, ?_, ha, hb⟩, hwa, hwb⟩
  rw [← List.drop_drop, List.take_append_drop]

theorem opens_struct0 {α : Type} {P : Program} {t : TypeId} {fs : Array Field} {d : Kd α} {wf : α → Prop} (ht : P.underlying t = some (.struct fs)) (hf : OpensF P fs.toList 0 d wf) (hs : d.sz = P.cellsOf t) : Opens P t d wf := by
  refine ⟨?_⟩
  intro H enc w base spare held fuel cs x h
  obtain ⟨xs, n, _, _, hl, hxl, hx⟩ := DataW.trod_struct ht h
  obtain ⟨a, ha, hw⟩ := hf.out (H := H) (enc := enc) (w := w) (base := base) (spare := spare) (held := held) (fuel := n) (cs := cs) (by rw [hl, ← hs, Nat.zero_add]) (fun i f hf => by
    have hf' : fs[i]? = some f := by rw [← Array.getElem?_toList]; exact hf
    have h1 := hx i f hf'
    have hi : i < xs.length := by
      have := (Array.getElem?_eq_some_iff.1 hf').1
      omega
    rw [List.getElem?_eq_getElem hi] at h1
    exact ⟨_, h1⟩)
  rw [List.drop_zero] at ha
  exact ⟨a, ha, hw⟩
theorem opens_iso {α β : Type} {P : Program} {t : TypeId} {d : Kd α} {wf : α → Prop} (h : Opens P t d wf) (f : β → α) (g : α → β) (hfg : ∀ a, f (g a) = a) : Opens P t (Kd.iso d f) (fun y => wf (f y)) := by
  refine ⟨?_⟩
  intro H enc w base spare held fuel cs x hx
  obtain ⟨a, ha, hw⟩ := h.out hx
  refine ⟨g a, ?_, ?_⟩
  · show d.K w (f (g a)) cs
    rw [hfg]
    exact ha
  · show wf (f (g a))
    rw [hfg]
    exact hw

/-- A parameter that is opened whole: its cells. -/
theorem open_whole {α : Type} {H : Type} {enc : TypeId × Value → H} {P : Program} {w : World} {base : Nat} {sp : Nat → Bool} {held : Bool} {t : TypeId} {v : Value} {dd : DataW H} {ps : List MemPlace} {d : Kd α} {wf : α → Prop} (hd : Opens P t d wf)
    (h : DataW.Trod enc P w base sp held t v dd ps) : ∃ a, d.K w a v.cells.toList ∧ wf a := by
  obtain ⟨fuel, hf⟩ := h
  exact hd.out hf
theorem agg_of_cells {cs : Array Value} {l : List Value} (h : (Value.agg cs).cells.toList = l) : Value.agg cs = .agg l.toArray := by
  rw [← h]
  simp [Value.cells]
end Go.Proofs.Ytefagcpmadpefaa.Opn
