/- Arguments of a law as data: a value of a type of the program that can be read is a plain Lean value: whole numbers, bools, strings, slices and structs of these, one in the other. Nothing is assumed beyond the reading. -/
import Derived.Test.YtcjhbmjimjbphaaRows
import Derived.ChangeSlices
import Derived.ChangeMaps5
import Derived.DataElems
import Derived.Test.YtcjhbmjimjbphaaWWords
namespace Go.Proofs.Ytcjhbmjimjbphaa.Opn
open Go.ChangeShapes Go.WideShapes Go.RowKit Go.Proofs.YtcjhbmjimjbphaaW.PrintWords

structure Opens {α : Type} (P : Program) (t : TypeId) (d : Kd α) (wf : α → Prop) : Prop where
  out : ∀ {H : Type} {enc : TypeId × Value → H} {w : World} {base : Nat} {spare : Nat → Bool} {held : Bool} {fuel : Nat} {cs : List Value} {x : DataW H × List MemPlace},
    DataW.trod enc P w base spare held fuel t cs = some x → ∃ a : α, d.K w a cs ∧ wf a

def WfI (k : IntKind) (n : Int) : Prop := (Lit.int k n).wf = true
def WfL {α : Type} (wf : α → Prop) (xs : List α) : Prop := xs.length ≤ 9223372036854775807 ∧ ∀ x ∈ xs, wf x

theorem opens_int {P : Program} {t : TypeId} {k : IntKind} (ht : P.underlying t = some (.int k)) : Opens P t (Kd.int k) (WfI k) := by
  refine ⟨?_⟩
  intro H enc w base spare held fuel cs x h
  obtain ⟨n, rfl, _, hw⟩ := DataW.trod_int ht h
  exact ⟨n, rfl, hw⟩
theorem pick_list {α : Type} (R : Nat → α → Prop) : ∀ n, (∀ i, i < n → ∃ a, R i a) → ∃ xs : List α, xs.length = n ∧ ∀ i a, xs[i]? = some a → R i a := by
  intro n
  induction n with
  | zero => exact fun _ => ⟨[], rfl, fun i a h => by simp at h⟩
  | succ n ih =>
    intro h
    obtain ⟨xs, hl, hx⟩ := ih (fun i hi => h i (by omega))
    obtain ⟨a, ha⟩ := h n (by omega)
    refine ⟨xs ++ [a], by simp [hl], fun i b hb => ?_⟩
    rw [List.getElem?_append] at hb
    split at hb
    · exact hx i b hb
    · have hi : i - xs.length = 0 := by
        rcases Nat.eq_zero_or_pos (i - xs.length) with h0 | h0
        · exact h0
        · rw [List.getElem?_eq_none (by simp; omega)] at hb
          cases hb
      rw [hi] at hb
      simp at hb
      subst hb
      have : i = n := by omega
      subst this
      exact ha

theorem opens_slice {α : Type} {P : Program} {t e : TypeId} {d : Kd α} {wf : α → Prop} (ht : P.underlying t = some (.slice e)) (hd : Opens P e d wf) (hs : d.sz = P.cellsOf e) : Opens P t (Kd.slice e d) (WfL wf) := by
  refine ⟨?_⟩
  intro H enc w base spare held fuel cs x h
  rcases DataW.trod_slice ht h with ⟨rfl, _⟩ | ⟨a, len, cap, elems, rest, n, _, rfl, _, hb, hl, hm, hlen, hel, _, _⟩
  · exact ⟨[], ⟨none, 0, rfl, Nat.le_refl _, Kd.C_nil d w⟩, by simp, fun y hy => by cases hy⟩
  · obtain ⟨xs, hxl, hxs⟩ := pick_list (fun i y => (∃ c, c.length = d.sz ∧ d.K w y c ∧ ∀ j u, c[j]? = some u → w.cell? (a.add (i * d.sz + j)) = some u) ∧ wf y) len (by
      intro i hi
      have h1 := hel i hi
      have hi' : i < elems.length := by omega
      rw [List.getElem?_eq_getElem hi', Option.bind_eq_some_iff] at h1
      obtain ⟨c, hc, hr⟩ := h1
      obtain ⟨_, hcl, hcc⟩ := World.cells?_some hc
      obtain ⟨y, hy, hw⟩ := hd.out hr
      refine ⟨y, ⟨c, by rw [hcl, hs], hy, fun j u hu => ?_⟩, hw⟩
      have hj : j < P.cellsOf e := by
        have := (List.getElem?_eq_some_iff.1 hu).1
        omega
      have := hcc j hj
      rw [Addr.add_add] at this
      rw [hs, this, hu])
    have hm' : cap ≤ 9223372036854775807 := hm
    refine ⟨xs, ⟨some a, cap, by rw [hxl], by omega, rfl, by omega, fun _ => ⟨a, rfl, fun j p hp => (hxs j p hp).1⟩⟩, by omega, fun y hy => ?_⟩
    · obtain ⟨i, hi⟩ := List.getElem?_of_mem hy
      exact (hxs i y hi).2

structure OpensF {α : Type} (P : Program) (fs : List Field) (o : Nat) (d : Kd α) (wf : α → Prop) : Prop where
  out : ∀ {H : Type} {enc : TypeId × Value → H} {w : World} {base : Nat} {spare : Nat → Bool} {held : Bool} {fuel : Nat} {cs : List Value},
    cs.length = o + d.sz → (∀ (i : Nat) (f : Field), fs[i]? = some f → ∃ x, DataW.trod enc P w base spare held fuel f.type ((cs.drop f.offset).take (P.cellsOf f.type)) = some x) →
    ∃ a : α, d.K w a (cs.drop o) ∧ wf a

theorem open_whole {α : Type} {H : Type} {enc : TypeId × Value → H} {P : Program} {w : World} {base : Nat} {sp : Nat → Bool} {held : Bool} {t : TypeId} {v : Value} {dd : DataW H} {ps : List MemPlace} {d : Kd α} {wf : α → Prop} (hd : Opens P t d wf)
    (h : DataW.Trod enc P w base sp held t v dd ps) : ∃ a, d.K w a v.cells.toList ∧ wf a := by
  obtain ⟨fuel, hf⟩ := h
  exact hd.out hf
end Go.Proofs.Ytcjhbmjimjbphaa.Opn
