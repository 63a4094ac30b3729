/- A series in order, and how many of its numbers are not above one of them. Plain functions on lists of whole numbers. -/
import Derived.Test.YtmjfmhbklifafaaLib
import Derived.Test.YtmjfmhbklifafaaSortLib
import Derived.Test.YtmjfmhbklifafaaQFnSharesx3
set_option linter.unusedVariables false
set_option linter.unusedSimpArgs false
namespace Go.Proofs.Ytmjfmhbklifafaa.QFnShares
open Go.RowKit Go.Proofs.YtmjfmhbklifafaaW.PrintWords Go.Proofs.Ytmjfmhbklifafaa.Opn Go.Proofs.Ytmjfmhbklifafaa.Pl Go.Proofs.Ytmjfmhbklifafaa.Srt

def inB (n a b : Int) : Bool := decide (a ≤ n) && decide (n ≤ b)
theorem inB_iff (n a b : Int) : inB n a b = true ↔ a ≤ n ∧ n ≤ b := by simp [inB]
theorem specIn (n a b : Int) : spec_l2In.f n a b = some (inB n a b) := by
  unfold spec_l2In.f inB
  by_cases h : n ≥ a
  · rw [if_pos h, decide_eq_true (show a ≤ n from h), Bool.true_and]
  · rw [if_neg h, decide_eq_false (show ¬ a ≤ n from h), Bool.false_and]
theorem implIn (n a b : Int) : impl_in.f n a b = some (inB n a b) := by
  unfold impl_in.f inB
  by_cases h : n ≥ a
  · rw [if_pos h, decide_eq_true (show a ≤ n from h), Bool.true_and]
  · rw [if_neg h, decide_eq_false (show ¬ a ≤ n from h), Bool.false_and]

theorem up_ind {P : Nat → Prop} (n : Nat) (hend : P n) (hstep : ∀ i, i < n → P (i + 1) → P i) : ∀ i, i ≤ n → P i := by
  have key : ∀ d i, i + d = n → P i := by
    intro d
    induction d with
    | zero => intro i hi; rw [show i = n by omega]; exact hend
    | succ d ih => intro i hi; exact hstep i (by omega) (ih (i + 1) (by omega))
  intro i hi
  exact key (n - i) i (by omega)

def eachB (l : List Int) (n a b : Int) : Bool := decide ((l.length : Int) = n) && l.all (fun x => inB x a b)

theorem specAll_ev (l : List Int) (hl : l.length ≤ 1048576) (n a b : Int) : Ev (fun k => spec_l15All.f k l n a b) (eachB l n a b) := by
  unfold spec_l15All.f eachB
  by_cases h : (l.length : Int) = n
  · simp only [h, if_true, decide_true, Bool.true_and]
    have key := Ev_up (fun k i => spec_l15All.l0 k l a b (i : Int)) (fun i => (l.drop i).all (fun x => inB x a b)) l.length (by
        refine Ev.step (f := fun _ => some true) (fun k => ?_) (by simpa using Ev.now true)
        simp only [spec_l15All.l0]
        rw [if_neg (by omega)]) (by
        intro i hi ih
        refine Ev.step (f := fun k => if inB l[i] a b = true then spec_l15All.l0 k l a b ((i + 1 : Nat) : Int) else some false) (fun k => ?_) ?_
        · simp only [spec_l15All.l0]
          rw [if_pos (by omega), if_pos (by omega), specIn, rd_lt l i hi, w64 (by omega) (by omega)]
          rfl
        · rw [mem_range_get l _ i hi]
          cases hb : inB l[i] a b with
          | true => simpa using ih
          | false => simpa using Ev.now false) 0 (Nat.zero_le _)
    simpa using key
  · rw [decide_eq_false h, Bool.false_and]
    simp only [h, if_false]
    exact Ev.now false

theorem implEach_ev (l : List Int) (hl : l.length ≤ 1048576) (n a b : Int) : Ev (fun k => impl_each.f k l n a b) (eachB l n a b) := by
  unfold impl_each.f eachB
  by_cases h : (l.length : Int) = n
  · rw [decide_eq_true h, Bool.true_and]
    simp only [if_pos h]
    have key := Ev_up (fun k i => impl_each.l0 k a b l (l.length : Int) (i : Int)) (fun i => (l.drop i).all (fun x => inB x a b)) l.length (by
        refine Ev.step (f := fun _ => some true) (fun k => ?_) (by simpa using Ev.now true)
        simp only [impl_each.l0]
        rw [if_neg (by omega)]) (by
        intro i hi ih
        refine Ev.step (f := fun k => if inB l[i] a b = true then impl_each.l0 k a b l (l.length : Int) ((i + 1 : Nat) : Int) else some false) (fun k => ?_) ?_
        · simp only [impl_each.l0]
          rw [if_pos (by omega), if_pos (by omega), if_pos (by omega), implIn, rd_lt l i hi, w64 (by omega) (by omega)]
          rfl
        · rw [mem_range_get l _ i hi]
          cases hb : inB l[i] a b with
          | true => simpa using ih
          | false => simpa using Ev.now false) 0 (Nat.zero_le _)
    simpa using key
  · rw [decide_eq_false h, Bool.false_and]
    simp only [h, if_false]
    exact Ev.now false


def okS (l : List Int) : Bool := (decide (1 ≤ l.length) && decide (l.length ≤ 500)) && l.all (fun x => inB x (-100000) 100000)
theorem okS_len {l : List Int} (h : okS l = true) : 1 ≤ l.length ∧ l.length ≤ 500 := by
  unfold okS at h
  simp only [Bool.and_eq_true, decide_eq_true_eq] at h
  exact h.1
theorem okS_get {l : List Int} (h : okS l = true) (x : Int) (hx : x ∈ l) : -100000 ≤ x ∧ x ≤ 100000 := by
  unfold okS at h
  simp only [Bool.and_eq_true, decide_eq_true_eq] at h
  exact (inB_iff _ _ _).mp (List.all_eq_true.mp h.2 x hx)

theorem specSer_ev (l : List Int) (hl : l.length ≤ 1048576) : Ev (fun k => spec_l19Ok.f k l) (okS l) := by
  unfold spec_l19Ok.f okS
  by_cases h1 : 1 ≤ l.length
  · simp only [if_pos (show (l.length : Int) ≥ 1 by omega), decide_eq_true h1, Bool.true_and]
    by_cases h2 : l.length ≤ 500
    · simp only [if_pos (show (l.length : Int) ≤ 500 by omega), decide_eq_true h2, Bool.true_and]
      refine Ev_bind _ (specAll_ev l hl _ _ _) ?_
      unfold eachB
      simp only [decide_true, Bool.true_and]
      exact Ev.now _
    · simp only [if_neg (show ¬ (l.length : Int) ≤ 500 by omega), decide_eq_false h2, Bool.false_and]
      exact Ev.now _
  · simp only [if_neg (show ¬ (l.length : Int) ≥ 1 by omega), decide_eq_false h1, Bool.false_and]
    exact Ev.now _

theorem implSer_ev (l : List Int) (hl : l.length ≤ 1048576) : Ev (fun k => impl_seriesOk.f k l) (okS l) := by
  unfold impl_seriesOk.f okS
  simp only [implIn, Option.bind_some]
  cases h : inB (l.length : Int) 1 500 with
  | true =>
    have h' := (inB_iff _ _ _).mp h
    simp only [if_true]
    rw [decide_eq_true (show 1 ≤ l.length by omega), decide_eq_true (show l.length ≤ 500 by omega), Bool.true_and, Bool.true_and]
    refine Ev_bind _ (implEach_ev l hl _ _ _) ?_
    unfold eachB
    simp only [decide_true, Bool.true_and]
    exact Ev.now _
  | false =>
    have h' : ¬ (1 ≤ (l.length : Int) ∧ (l.length : Int) ≤ 500) := fun hh => by rw [(inB_iff _ _ _).mpr hh] at h; cases h
    have : (decide (1 ≤ l.length) && decide (l.length ≤ 500)) = false := by
      by_cases h1 : 1 ≤ l.length
      · rw [decide_eq_true h1, decide_eq_false (show ¬ l.length ≤ 500 by omega)]; rfl
      · rw [decide_eq_false h1]; rfl
    rw [this, Bool.false_and]
    simpa using Ev.now false

/-- how many are not above x -/
def cnt (l : List Int) (x : Int) : Nat := l.countP (fun y => decide (y ≤ x))
theorem cnt_le (l : List Int) (x : Int) : cnt l x ≤ l.length := List.countP_le_length

theorem below_ev (l : List Int) (hl : l.length ≤ 1048576) (x : Int) : Ev (fun k => spec_l19Below.f k l x) (cnt l x : Int) := by
  unfold spec_l19Below.f
  have key := up_ind (P := fun i => ∀ s : Nat, s ≤ i → Ev (fun k => spec_l19Below.l0 k l x (s : Int) (i : Int)) ((s + cnt (l.drop i) x : Nat) : Int)) l.length (by
    intro s _
    refine Ev.step (f := fun _ => some (s : Int)) (fun k => ?_) (by simpa [cnt] using Ev.now (s : Int))
    simp only [spec_l19Below.l0]
    rw [if_neg (by omega)]) (by
    intro i hi ih s hs
    have hc : cnt (l.drop i) x = cnt (l.drop (i + 1)) x + (if l[i] ≤ x then 1 else 0) := by
      unfold cnt
      rw [List.drop_eq_getElem_cons hi, List.countP_cons]
      simp only [decide_eq_true_eq]
    rw [hc]
    by_cases h : l[i] ≤ x
    · rw [if_pos h]
      have := ih (s + 1) (by omega)
      rw [show s + (cnt (l.drop (i + 1)) x + 1) = s + 1 + cnt (l.drop (i + 1)) x by omega]
      refine Ev.step (fun k => ?_) this
      simp only [spec_l19Below.l0]
      rw [if_pos (by omega), if_pos (by omega), rd_lt l i hi, if_pos h, w64 (by omega) (by omega), w64 (by omega) (by omega)]
      rfl
    · rw [if_neg h]
      refine Ev.step (fun k => ?_) (ih s (by omega))
      simp only [spec_l19Below.l0]
      rw [if_pos (by omega), if_pos (by omega), rd_lt l i hi, if_neg h, w64 (by omega) (by omega)]
      rfl) 0 (Nat.zero_le _) 0 (Nat.le_refl _)
  simpa using key

theorem sorted_cnt (x : Int) : ∀ (s : List Int), s.Pairwise (fun a b => a ≤ b) → ∀ j, (h : j < s.length) → (s[j] ≤ x ↔ j < cnt s x) := by
  intro s
  induction s with
  | nil => intro _ j h; simp at h
  | cons a t ih =>
    intro hp j h
    have hp' := List.pairwise_cons.mp hp
    have hc : cnt (a :: t) x = cnt t x + (if a ≤ x then 1 else 0) := by
      unfold cnt; rw [List.countP_cons]; simp only [decide_eq_true_eq]
    by_cases ha : a ≤ x
    · rw [hc, if_pos ha]
      cases j with
      | zero => simp only [List.getElem_cons_zero]; exact ⟨fun _ => by omega, fun _ => ha⟩
      | succ j =>
        have := ih hp'.2 j (by simpa using h)
        simp only [List.getElem_cons_succ]
        rw [this]; omega
    · have h0 : cnt t x = 0 := by
        unfold cnt
        rw [List.countP_eq_zero]
        intro y hy
        have := hp'.1 y hy
        simp only [decide_eq_true_eq]; omega
      rw [hc, if_neg ha, h0]
      cases j with
      | zero => simp only [List.getElem_cons_zero]; omega
      | succ j =>
        simp only [List.getElem_cons_succ]
        have := hp'.1 _ (List.getElem_mem (by simpa using h : j < t.length))
        omega

theorem ordI_perm (l : List Int) : (ordI l).Perm l := List.mergeSort_perm l _
theorem ordI_sorted (l : List Int) : (ordI l).Pairwise (fun a b => a ≤ b) := by
  have := List.pairwise_mergeSort (le := fun x y : Int => decide (x ≤ y)) (by intro a b c h1 h2; simp only [decide_eq_true_eq] at *; omega) (by intro a b; simp only [Bool.or_eq_true, decide_eq_true_eq]; omega) l
  exact this.imp (fun h => by simpa using h)
/-- the (j+1)-st in order is not above x just when more than j are not above x -/
theorem kth (l : List Int) (x : Int) (j : Nat) (h : j < (ordI l).length) : (ordI l)[j] ≤ x ↔ j < cnt l x := by
  rw [sorted_cnt x _ (ordI_sorted l) j h]
  have : cnt (ordI l) x = cnt l x := (ordI_perm l).countP_eq _
  rw [this]
theorem kth_mem (l : List Int) (j : Nat) (h : j < (ordI l).length) : (ordI l)[j] ∈ l := (ordI_perm l).mem_iff.mp (List.getElem_mem h)

end Go.Proofs.Ytmjfmhbklifafaa.QFnShares
