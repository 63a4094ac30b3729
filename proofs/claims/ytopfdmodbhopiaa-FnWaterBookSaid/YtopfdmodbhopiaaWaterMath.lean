/- Ways down a row of next cells: a way that ends passes no cell twice, so it has no more cells than the row. Plain lemmas on lists of whole numbers. No condition. -/
import Derived.Test.YtopfdmodbhopiaaLib
set_option linter.unusedVariables false
set_option linter.unusedSimpArgs false
namespace Go.Proofs.Ytopfdmodbhopiaa.Wm
open Go.RowKit Go.Proofs.YtopfdmodbhopiaaW.PrintWords Go.Proofs.Ytopfdmodbhopiaa.Opn Go.Proofs.Ytopfdmodbhopiaa.Pl

theorem pigeon : ∀ (n : Nat) (f : Nat → Nat), (∀ i, i ≤ n → f i < n) → ∃ i j, i < j ∧ j ≤ n ∧ f i = f j := by
  intro n
  induction n with
  | zero => intro f h; have := h 0 (Nat.le_refl _); omega
  | succ n ih =>
    intro f h
    by_cases hv : ∃ i, i ≤ n ∧ f i = f (n + 1)
    · obtain ⟨i, hi, he⟩ := hv; exact ⟨i, n + 1, by omega, by omega, he⟩
    · have hne : ∀ i, i ≤ n → f i ≠ f (n + 1) := fun i hi he => hv ⟨i, hi, he⟩
      obtain ⟨i, j, hij, hj, he⟩ := ih (fun i => if f i > f (n + 1) then f i - 1 else f i) (by
        intro i hi
        have h1 := h i (by omega); have h2 := h (n + 1) (by omega); have h3 := hne i hi
        show (if f i > f (n + 1) then f i - 1 else f i) < n
        split <;> omega)
      refine ⟨i, j, hij, by omega, ?_⟩
      have h1 := hne i (by omega); have h2 := hne j (by omega)
      have he' : (if f i > f (n + 1) then f i - 1 else f i) = (if f j > f (n + 1) then f j - 1 else f j) := he
      split at he' <;> split at he' <;> omega

/-- the cell after j steps -/
def nd (next : List Int) (x : Int) : Nat → Int
  | 0 => x
  | j + 1 => rd next (nd next x j)
theorem nd_shift (next : List Int) (x : Int) : ∀ j, nd next x (j + 1) = nd next (rd next x) j := by
  intro j
  induction j with
  | zero => rfl
  | succ j ih => show rd next (nd next x (j + 1)) = rd next (nd next (rd next x) j); rw [ih]
theorem nd_add (next : List Int) (x : Int) (a b m : Nat) (h : nd next x a = nd next x b) : nd next x (a + m) = nd next x (b + m) := by
  induction m with
  | zero => exact h
  | succ m ih => show rd next (nd next x (a + m)) = rd next (nd next x (b + m)); rw [ih]

/-- a way of at most r cells ends -/
def lastB (next : List Int) : Nat → Int → Bool
  | 0, _ => false
  | r + 1, x => if rd next x = -1 then true else lastB next r (rd next x)
/-- where it ends -/
def lastC (next : List Int) : Nat → Int → Int
  | 0, _ => 0
  | r + 1, x => if rd next x = -1 then x else lastC next r (rd next x)
def walkB (next : List Int) : Nat → Int → Bool
  | 0, x => decide (x < 0)
  | r + 1, x => if x < 0 then true else walkB next r (rd next x)

theorem lastB_iff (next : List Int) : ∀ r x, lastB next r x = true ↔ ∃ j, j < r ∧ nd next x (j + 1) = -1 := by
  intro r
  induction r with
  | zero => intro x; simp [lastB]
  | succ r ih =>
    intro x
    simp only [lastB]
    split
    · rename_i h; exact ⟨fun _ => ⟨0, by omega, h⟩, fun _ => rfl⟩
    · rename_i h
      rw [ih]
      constructor
      · rintro ⟨j, hj, he⟩; exact ⟨j + 1, by omega, by rw [nd_shift]; exact he⟩
      · rintro ⟨j, hj, he⟩
        cases j with
        | zero => exact absurd he h
        | succ j => exact ⟨j, by omega, by rw [← nd_shift]; exact he⟩

/-- all next cells are cells, or -1 -/
def Into (next : List Int) : Prop := ∀ x : Int, 0 ≤ x → x < (next.length : Int) → -1 ≤ rd next x ∧ rd next x ≤ (next.length : Int) - 1

theorem last_short (next : List Int) (hn : Into next) (x : Int) (h0 : 0 ≤ x) (h1 : x < (next.length : Int)) : lastB next (next.length + 1) x = lastB next next.length x := by
  rw [Bool.eq_iff_iff, lastB_iff, lastB_iff]
  constructor
  · rintro ⟨j, hj, he⟩
    by_cases hc : ∃ i, i < next.length ∧ nd next x (i + 1) = -1
    · exact hc
    · exfalso
      have hno : ∀ i, i < next.length → nd next x (i + 1) ≠ -1 := fun i hi hh => hc ⟨i, hi, hh⟩
      have hjn : j = next.length := by
        by_cases hl : j < next.length
        · exact absurd he (hno j hl)
        · omega
      subst hjn
      have hr : ∀ i, i ≤ next.length → 0 ≤ nd next x i ∧ nd next x i < (next.length : Int) := by
        intro i
        induction i with
        | zero => intro _; exact ⟨h0, h1⟩
        | succ i ih =>
          intro hi
          have h2 := ih (by omega)
          have h3 := hn _ h2.1 h2.2
          have h4 := hno i (by omega)
          have h5 : nd next x (i + 1) = rd next (nd next x i) := rfl
          omega
      obtain ⟨a, b, hab, hb, hab'⟩ := pigeon next.length (fun i => (nd next x i).toNat) (fun i hi => by have := hr i hi; show (nd next x i).toNat < next.length; omega)
      have ha' := hr a (by omega); have hb' := hr b hb
      have hab'' : (nd next x a).toNat = (nd next x b).toNat := hab'
      have hs := nd_add next x a b (next.length - b + 1) (by omega)
      have e1 : b + (next.length - b + 1) = next.length + 1 := by omega
      rw [e1, he] at hs
      exact hno (a + (next.length - b)) (by omega) hs
  · rintro ⟨j, hj, he⟩; exact ⟨j, by omega, he⟩

theorem walk_last (next : List Int) (hn : Into next) : ∀ r x, 0 ≤ x → x < (next.length : Int) → walkB next r x = lastB next r x := by
  intro r
  induction r with
  | zero => intro x h0 _; simp only [walkB, lastB]; exact decide_eq_false (by omega)
  | succ r ih =>
    intro x h0 h1
    have h2 := hn x h0 h1
    simp only [walkB, lastB]
    rw [if_neg (by omega)]
    by_cases h : rd next x = -1
    · rw [if_pos h, h]; cases r <;> simp [walkB]
    · rw [if_neg h]; exact ih _ (by omega) (by omega)

/-- every cell's way ends -/
def okN (next : List Int) : Bool := decide (next.length ≤ 576) && (next.all (fun x => decide (-1 ≤ x) && decide (x ≤ (next.length : Int) - 1)) && (List.range next.length).all (fun c => lastB next next.length (c : Int)))

theorem into_of (next : List Int) (h : next.all (fun x => decide (-1 ≤ x) && decide (x ≤ (next.length : Int) - 1)) = true) : Into next := by
  intro x h0 h1
  obtain ⟨i, rfl⟩ : ∃ i : Nat, x = (i : Int) := ⟨x.toNat, by omega⟩
  have hi : i < next.length := by omega
  rw [rd_lt next i hi]
  have := List.all_eq_true.mp h _ (List.getElem_mem hi)
  simpa using this
theorem range_drop (n i : Nat) (h : i < n) (p : Nat → Bool) : ((List.range n).drop i).all p = (p i && ((List.range n).drop (i + 1)).all p) := by
  rw [mem_range_get (List.range n) p i (by simpa using h), List.getElem_range]
theorem range_done (n : Nat) (p : Nat → Bool) : ((List.range n).drop n).all p = true := by rw [List.drop_of_length_le (by simp)]; rfl
end Go.Proofs.Ytopfdmodbhopiaa.Wm
