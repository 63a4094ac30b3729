/- Levels of a series, plainly: what has risen stays for hold numbers. Lists of whole numbers; the bounds stand in each lemma. -/
import Derived.Test.YtmjfmhbklifafaaLib
set_option linter.unusedVariables false
set_option linter.unusedSimpArgs false
namespace Go.Proofs.Ytmjfmhbklifafaa.Lev
open Go.RowKit Go.Proofs.YtmjfmhbklifafaaW.PrintWords Go.Proofs.Ytmjfmhbklifafaa.Opn Go.Proofs.Ytmjfmhbklifafaa.Pl

/-- the greatest k up to i with x at least its limit -/
def top (lim : List Int) (x : Int) : Nat → Nat
  | 0 => 0
  | i + 1 => if rd lim (i : Int) ≤ x then i + 1 else top lim x i
theorem top_le (lim : List Int) (x : Int) : ∀ i, top lim x i ≤ i := by
  intro i
  induction i with
  | zero => exact Nat.le_refl _
  | succ i ih => simp only [top]; split <;> omega
theorem top_at (lim : List Int) (x : Int) : ∀ i, 0 < top lim x i → rd lim ((top lim x i : Int) - 1) ≤ x := by
  intro i
  induction i with
  | zero => intro h; simp [top] at h
  | succ i ih =>
    intro h
    simp only [top] at h ⊢
    by_cases hc : rd lim (i : Int) ≤ x
    · rw [if_pos hc]; rw [show ((i + 1 : Nat) : Int) - 1 = (i : Int) by omega]; exact hc
    · rw [if_neg hc] at h ⊢; exact ih h
/-- above all that x does not reach -/
theorem top_lt (lim : List Int) (x : Int) (v : Nat) : ∀ i, (∀ j : Nat, v ≤ j → j < i → x < rd lim (j : Int)) → top lim x i ≤ v := by
  intro i
  induction i with
  | zero => intro _; exact Nat.zero_le _
  | succ i ih =>
    intro h
    simp only [top]
    by_cases hc : rd lim (i : Int) ≤ x
    · rw [if_pos hc]
      rcases Nat.lt_or_ge i v with h1 | h1
      · exact h1
      · have := h i h1 (by omega); omega
    · rw [if_neg hc]; exact ih (fun j h1 h2 => h j h1 (by omega))

/-- one number more: level and count -/
def stp (on off : List Int) (n : Nat) (hold x : Int) (s : Nat × Int) : Nat × Int :=
  if s.1 < top on x n then (top on x n, 0)
  else if 0 < s.1 ∧ x < rd off ((s.1 : Int) - 1) then (if s.2 + 1 = hold then (top off x n, 0) else (s.1, s.2 + 1))
  else (s.1, 0)
/-- the state behind i numbers -/
def lv (on off : List Int) (n : Nat) (hold : Int) (xs : List Int) : Nat → Nat × Int
  | 0 => (0, 0)
  | i + 1 => stp on off n hold (rd xs (i : Int)) (lv on off n hold xs i)

structure LimOk (on off : List Int) (n : Nat) (hold : Int) : Prop where
  up : ∀ j : Nat, j + 1 < n → rd off (j : Int) ≤ rd off ((j + 1 : Nat) : Int)
  h1 : 1 ≤ hold

theorem off_up {on off : List Int} {n : Nat} {hold : Int} (hl : LimOk on off n hold) : ∀ d j : Nat, j + d < n → rd off (j : Int) ≤ rd off ((j + d : Nat) : Int) := by
  intro d
  induction d with
  | zero => intro j _; exact Int.le_refl _
  | succ d ih =>
    intro j hj
    have h1 := ih j (by omega)
    have h2 := hl.up (j + d) (by omega)
    rw [show j + (d + 1) = j + d + 1 by omega]
    omega

theorem stp_cases {on off : List Int} {n : Nat} {hold : Int} (hl : LimOk on off n hold) (x : Int) (s : Nat × Int) (hs : s.1 ≤ n) (h0 : 0 ≤ s.2) (h1 : s.2 < hold) :
    (stp on off n hold x s).1 ≤ n ∧ 0 ≤ (stp on off n hold x s).2 ∧ (stp on off n hold x s).2 < hold ∧
    ((s.1 < (stp on off n hold x s).1 ∧ (stp on off n hold x s).2 = 0 ∧ rd on (((stp on off n hold x s).1 : Int) - 1) ≤ x) ∨
     ((stp on off n hold x s).1 = s.1 ∧ (stp on off n hold x s).2 ≤ s.2 + 1) ∨
     ((stp on off n hold x s).1 < s.1 ∧ (stp on off n hold x s).2 = 0 ∧ s.2 + 1 = hold)) := by
  have hh := hl.h1
  unfold stp
  by_cases c1 : s.1 < top on x n
  · rw [if_pos c1]
    exact ⟨top_le on x n, Int.le_refl _, by show (0 : Int) < hold; omega, .inl ⟨c1, rfl, top_at on x n (by omega)⟩⟩
  · rw [if_neg c1]
    by_cases c2 : 0 < s.1 ∧ x < rd off ((s.1 : Int) - 1)
    · rw [if_pos c2]
      by_cases c3 : s.2 + 1 = hold
      · rw [if_pos c3]
        have ht : top off x n ≤ s.1 - 1 := top_lt off x (s.1 - 1) n (fun j hj hjn => by
          have := off_up hl (j - (s.1 - 1)) (s.1 - 1) (by omega)
          rw [show s.1 - 1 + (j - (s.1 - 1)) = j by omega, show ((s.1 - 1 : Nat) : Int) = (s.1 : Int) - 1 by omega] at this
          omega)
        exact ⟨top_le off x n, Int.le_refl _, by show (0 : Int) < hold; omega, .inr (.inr ⟨by show top off x n < s.1; omega, rfl, c3⟩)⟩
      · rw [if_neg c3]
        exact ⟨hs, by show 0 ≤ s.2 + 1; omega, by show s.2 + 1 < hold; omega, .inr (.inl ⟨rfl, Int.le_refl _⟩)⟩
    · rw [if_neg c2]
      exact ⟨hs, Int.le_refl _, by show (0 : Int) < hold; omega, .inr (.inl ⟨rfl, by show (0 : Int) ≤ s.2 + 1; omega⟩)⟩

theorem lv_bd {on off : List Int} {n : Nat} {hold : Int} (hl : LimOk on off n hold) (xs : List Int) : ∀ i, (lv on off n hold xs i).1 ≤ n ∧ 0 ≤ (lv on off n hold xs i).2 ∧ (lv on off n hold xs i).2 < hold := by
  intro i
  induction i with
  | zero => exact ⟨Nat.zero_le _, Int.le_refl _, by show (0 : Int) < hold; have := hl.h1; omega⟩
  | succ i ih =>
    have := stp_cases hl (rd xs (i : Int)) _ ih.1 ih.2.1 ih.2.2
    exact ⟨this.1, this.2.1, this.2.2.1⟩

/-- where it rises: the limit is reached -/
theorem lv_rise {on off : List Int} {n : Nat} {hold : Int} (hl : LimOk on off n hold) (xs : List Int) (i : Nat) (h : (lv on off n hold xs i).1 < (lv on off n hold xs (i + 1)).1) :
    rd on (((lv on off n hold xs (i + 1)).1 : Int) - 1) ≤ rd xs (i : Int) ∧ (lv on off n hold xs (i + 1)).2 = 0 := by
  have hb := lv_bd hl xs i
  rcases (stp_cases hl (rd xs (i : Int)) _ hb.1 hb.2.1 hb.2.2).2.2.2 with ⟨_, h2, h3⟩ | ⟨h2, _⟩ | ⟨h2, _⟩
  · exact ⟨h3, h2⟩
  · have e : (lv on off n hold xs (i + 1)).1 = (lv on off n hold xs i).1 := h2
    omega
  · have e : (lv on off n hold xs (i + 1)).1 < (lv on off n hold xs i).1 := h2
    omega

/-- and stays -/
theorem lv_stay {on off : List Int} {n : Nat} {hold : Int} (hl : LimOk on off n hold) (xs : List Int) (i : Nat) (h0 : (lv on off n hold xs (i + 1)).2 = 0) :
    ∀ d : Nat, (d : Int) < hold → (lv on off n hold xs (i + 1)).1 ≤ (lv on off n hold xs (i + 1 + d)).1 ∧ (lv on off n hold xs (i + 1 + d)).2 ≤ (d : Int) := by
  intro d
  induction d with
  | zero => intro _; exact ⟨Nat.le_refl _, by rw [Nat.add_zero, h0]; exact Int.le_refl _⟩
  | succ d ih =>
    intro hd
    obtain ⟨h1, h2⟩ := ih (by omega)
    have hb := lv_bd hl xs (i + 1 + d)
    have e : lv on off n hold xs (i + 1 + (d + 1)) = stp on off n hold (rd xs ((i + 1 + d : Nat) : Int)) (lv on off n hold xs (i + 1 + d)) := rfl
    rw [e]
    rcases (stp_cases hl (rd xs ((i + 1 + d : Nat) : Int)) _ hb.1 hb.2.1 hb.2.2).2.2.2 with ⟨g1, g2, _⟩ | ⟨g1, g2⟩ | ⟨_, _, g3⟩
    · exact ⟨by omega, by omega⟩
    · exact ⟨by omega, by omega⟩
    · omega

/-- the levels told, one behind the other -/
def lvs (on off : List Int) (n : Nat) (hold : Int) (xs : List Int) (i : Nat) : List Int := (List.range i).map (fun j : Nat => ((lv on off n hold xs (j + 1)).1 : Int))
theorem lvs_len (on off : List Int) (n : Nat) (hold : Int) (xs : List Int) (i : Nat) : (lvs on off n hold xs i).length = i := by simp [lvs]
theorem lvs_succ (on off : List Int) (n : Nat) (hold : Int) (xs : List Int) (i : Nat) : lvs on off n hold xs (i + 1) = lvs on off n hold xs i ++ [((lv on off n hold xs (i + 1)).1 : Int)] := by
  simp [lvs, List.range_succ]
theorem lvs_rd (on off : List Int) (n : Nat) (hold : Int) (xs : List Int) (i j : Nat) (h : j < i) : rd (lvs on off n hold xs i) (j : Int) = ((lv on off n hold xs (j + 1)).1 : Int) := by
  rw [rd_lt _ j (by rw [lvs_len]; exact h)]
  simp [lvs]
end Go.Proofs.Ytmjfmhbklifafaa.Lev
