/- FnHomogen, plainly: the program and the reference find the same break, the same step and the same list; behind the step the two parts' means are less than 1 apart, for a quotient that is cut leaves less than its divisor. No condition. -/
import Derived.Test.YtmjfmhbklifafaaSeriesDrawFnHomogen
import Derived.Test.YtmjfmhbklifafaaQFnHomogenx4
set_option linter.unusedVariables false
set_option linter.unusedSimpArgs false
namespace Go.Proofs.Ytmjfmhbklifafaa.QFnHomogen
open Go.RowKit Go.Proofs.YtmjfmhbklifafaaW.PrintWords Go.Proofs.Ytmjfmhbklifafaa.Opn Go.Proofs.Ytmjfmhbklifafaa.Pl

def inB (n a b : Int) : Bool := decide (a ≤ n) && decide (n ≤ b)
theorem specIn (n a b : Int) : spec_l2In.f n a b = some (inB n a b) := by
  unfold spec_l2In.f inB
  by_cases h : n ≥ a
  · rw [if_pos h, decide_eq_true (show a ≤ n from h), Bool.true_and]
  · rw [if_neg h, decide_eq_false (show ¬ a ≤ n from h), Bool.false_and]
theorem implIn (n a b : Int) : impl_in.f n a b = some (inB n a b) := by
  unfold impl_in.f inB
  by_cases h : n ≥ a
  · rw [if_pos h, decide_eq_true (show a ≤ n from h), Bool.true_and]
  · rw [if_neg h, decide_eq_false (show ¬ a ≤ n from h), Bool.false_and]

def inR (x : Int) : Bool := inB x (-100000) 100000
def serB (l : List Int) : Bool := decide (1 ≤ l.length) && (decide (l.length ≤ 500) && l.all inR)

theorem specOk_ev (l : List Int) : Ev (fun k => spec_l19Ok.f k l) (serB l) := by
  unfold spec_l19Ok.f serB
  by_cases h1 : 1 ≤ l.length
  · rw [decide_eq_true h1, Bool.true_and]
    simp only [if_pos (show (l.length : Int) ≥ 1 by omega)]
    by_cases h2 : l.length ≤ 500
    · rw [decide_eq_true h2, Bool.true_and]
      simp only [if_pos (show (l.length : Int) ≤ 500 by omega)]
      refine Ev_bind (l.all inR) ?_ (Ev.now _)
      unfold spec_l15All.f
      simp only [if_true]
      have key := Ev_up (fun k i => spec_l15All.l0 k l (-100000) 100000 (i : Int)) (fun i => (l.drop i).all inR) l.length (by
          refine Ev.step (f := fun _ => some true) (fun k => ?_) (by simpa using Ev.now true)
          simp only [spec_l15All.l0]
          rw [if_neg (by omega)]) (by
          intro i hi ih
          refine Ev.step (f := fun k => if inR l[i] = true then spec_l15All.l0 k l (-100000) 100000 ((i + 1 : Nat) : Int) else some false) (fun k => ?_) ?_
          · simp only [spec_l15All.l0]
            rw [if_pos (by omega), if_pos (by omega), specIn, rd_lt l i hi, w64 (by omega) (by omega)]
            rfl
          · rw [mem_range_get l _ i hi]
            cases hb : inR l[i] with
            | true => simpa using ih
            | false => simpa using Ev.now false) 0 (Nat.zero_le _)
      simpa using key
    · rw [decide_eq_false h2, Bool.false_and]
      simp only [if_neg (show ¬ (l.length : Int) ≤ 500 by omega)]
      exact Ev.now _
  · rw [decide_eq_false h1, Bool.false_and]
    simp only [if_neg (show ¬ (l.length : Int) ≥ 1 by omega)]
    exact Ev.now _

theorem implOk_ev (l : List Int) (hl : l.length ≤ 1048576) : Ev (fun k => impl_seriesOk.f k l) (serB l) := by
  unfold impl_seriesOk.f serB
  simp only [implIn, Option.bind_some, inB]
  by_cases h1 : 1 ≤ l.length
  · rw [decide_eq_true h1, Bool.true_and, decide_eq_true (show (1 : Int) ≤ (l.length : Int) by omega), Bool.true_and]
    by_cases h2 : l.length ≤ 500
    · rw [decide_eq_true h2, Bool.true_and, decide_eq_true (show (l.length : Int) ≤ 500 by omega)]
      simp only [if_true]
      refine Ev_bind (l.all inR) ?_ (Ev.now _)
      unfold impl_each.f
      simp only [if_true]
      have key := Ev_up (fun k i => impl_each.l0 k (-100000) 100000 l (l.length : Int) (i : Int)) (fun i => (l.drop i).all inR) l.length (by
          refine Ev.step (f := fun _ => some true) (fun k => ?_) (by simpa using Ev.now true)
          simp only [impl_each.l0]
          rw [if_neg (by omega)]) (by
          intro i hi ih
          refine Ev.step (f := fun k => if inR l[i] = true then impl_each.l0 k (-100000) 100000 l (l.length : Int) ((i + 1 : Nat) : Int) else some false) (fun k => ?_) ?_
          · simp only [impl_each.l0]
            rw [if_pos (by omega), if_pos (by omega), if_pos (by omega), implIn, rd_lt l i hi, w64 (by omega) (by omega)]
            rfl
          · rw [mem_range_get l _ i hi]
            cases hb : inR l[i] with
            | true => simpa using ih
            | false => simpa using Ev.now false) 0 (Nat.zero_le _)
      simpa using key
    · rw [decide_eq_false h2, Bool.false_and, decide_eq_false (show ¬ (l.length : Int) ≤ 500 by omega)]
      simpa using Ev.now false
  · rw [decide_eq_false h1, Bool.false_and, decide_eq_false (show ¬ (1 : Int) ≤ (l.length : Int) by omega), Bool.false_and]
    simpa using Ev.now false

/-- A series: its length, its numbers. -/
structure Ser (l : List Int) : Prop where
  n1 : 1 ≤ l.length
  n5 : l.length ≤ 500
  r : ∀ i : Nat, i < l.length → -100000 ≤ rd l (i : Int) ∧ rd l (i : Int) ≤ 100000
theorem ser_of {l : List Int} (h : serB l = true) : Ser l := by
  simp only [serB, inR, inB, Bool.and_eq_true, decide_eq_true_eq, List.all_eq_true] at h
  exact ⟨h.1, h.2.1, fun i hi => by rw [rd_lt l i hi]; exact h.2.2 _ (List.getElem_mem hi)⟩

/-- The sum of the numbers from i on, j of them. -/
def S (l : List Int) (k : Nat) : Int := sumZ (fun i => rd l (i : Int)) k
theorem S_bd {l : List Int} (h : Ser l) (k : Nat) (hk : k ≤ l.length) : -50000000 ≤ S l k ∧ S l k ≤ 50000000 := by
  have := sumZ_bd 100000 k (fun i hi => h.r i (by omega))
  have h5 := h.n5
  unfold S
  omega
theorem S_take (l : List Int) (k : Nat) (hk : k ≤ l.length) : S (l.take k) k = S l k := by
  unfold S
  refine sumZ_congr k (fun i hi => ?_)
  rw [rd_lt _ i (by rw [List.length_take]; omega), rd_lt _ i (by omega), List.getElem_take]
theorem S_drop (l : List Int) (k : Nat) (hk : k ≤ l.length) : S (l.drop k) (l.length - k) = S l l.length - S l k := by
  unfold S
  have key : ∀ m, k + m ≤ l.length → sumZ (fun i => rd (l.drop k) (i : Int)) m = sumZ (fun i => rd l (i : Int)) (k + m) - sumZ (fun i => rd l (i : Int)) k := by
    intro m
    induction m with
    | zero => intro _; simp [sumZ]
    | succ m ih =>
      intro hm
      have e : k + (m + 1) = (k + m) + 1 := by omega
      rw [e]
      simp only [sumZ]
      rw [ih (by omega), rd_lt _ m (by rw [List.length_drop]; omega), rd_lt l (k + m) (by omega), List.getElem_drop]
      omega
  have := key (l.length - k) (by omega)
  rwa [show k + (l.length - k) = l.length by omega] at this
/-- Any list whose sums stay small is summed so. -/
theorem specSum_ev (l : List Int) (hl : l.length ≤ 500) (hb : ∀ i : Nat, i < l.length → -100000000 ≤ rd l (i : Int) ∧ rd l (i : Int) ≤ 100000000) : Ev (fun k => spec_l19Sum.f k l) (S l l.length) := by
  unfold spec_l19Sum.f
  have key := Ev_up (fun k i => spec_l19Sum.l0 k l (S l i) (i : Int)) (fun _ => S l l.length) l.length (by
      refine Ev.step (f := fun _ => some (S l l.length)) (fun k => ?_) (Ev.now _)
      simp only [spec_l19Sum.l0]
      rw [if_neg (by omega)]) (by
      intro i hi ih
      have h1 := hb i hi
      have h2 := sumZ_bd 100000000 i (fun j hj => hb j (by omega))
      refine Ev.step (fun k => ?_) ih
      simp only [spec_l19Sum.l0]
      rw [if_pos (by omega), if_pos (by omega), w64 (n := S l i + rd l (i : Int)) (by unfold S; omega) (by unfold S; omega), w64 (n := (i : Int) + 1) (by omega) (by omega)]
      rfl) 0 (Nat.zero_le _)
  exact key
theorem lawSum_ev (l : List Int) (hl : l.length ≤ 500) (hb : ∀ i : Nat, i < l.length → -100000000 ≤ rd l (i : Int) ∧ rd l (i : Int) ≤ 100000000) : Ev (fun k => laws_sum.f k l) (S l l.length) := by
  unfold laws_sum.f
  have key := Ev_up (fun k i => laws_sum.l0 k l (S l i) (i : Int)) (fun _ => S l l.length) l.length (by
      refine Ev.step (f := fun _ => some (S l l.length)) (fun k => ?_) (Ev.now _)
      simp only [laws_sum.l0]
      rw [if_neg (by omega)]) (by
      intro i hi ih
      have h1 := hb i hi
      have h2 := sumZ_bd 100000000 i (fun j hj => hb j (by omega))
      refine Ev.step (fun k => ?_) ih
      simp only [laws_sum.l0]
      rw [if_pos (by omega), if_pos (by omega), w64 (n := S l i + rd l (i : Int)) (by unfold S; omega) (by unfold S; omega), w64 (n := (i : Int) + 1) (by omega) (by omega)]
      rfl) 0 (Nat.zero_le _)
  exact key
theorem rd_take (l : List Int) (k i : Nat) (hk : k ≤ l.length) (hi : i < k) : rd (l.take k) (i : Int) = rd l (i : Int) := by
  rw [rd_lt _ i (by rw [List.length_take]; omega), rd_lt _ i (by omega), List.getElem_take]
theorem rd_drop (l : List Int) (k i : Nat) (hi : k + i < l.length) : rd (l.drop k) (i : Int) = rd l ((k + i : Nat) : Int) := by
  rw [rd_lt _ i (by rw [List.length_drop]; omega), rd_lt _ (k + i) (by omega), List.getElem_drop]
theorem specSumTake (l : List Int) (h : Ser l) (k : Nat) (hk : k ≤ l.length) : Ev (fun r => spec_l19Sum.f r (l.take k)) (S l k) := by
  have h5 := h.n5
  have hl : (l.take k).length = k := by rw [List.length_take]; omega
  have := specSum_ev (l.take k) (by omega) (fun i hi => by rw [rd_take l k i hk (by omega)]; have := h.r i (by omega); omega)
  rw [hl, S_take l k hk] at this
  exact this
theorem specSumDrop (l : List Int) (h : Ser l) (k : Nat) (hk : k ≤ l.length) : Ev (fun r => spec_l19Sum.f r (l.drop k)) (S l l.length - S l k) := by
  have h5 := h.n5
  have hl : (l.drop k).length = l.length - k := by rw [List.length_drop]
  have := specSum_ev (l.drop k) (by omega) (fun i hi => by rw [rd_drop l k i (by omega)]; have := h.r (k + i) (by omega); omega)
  rw [hl, S_drop l k hk] at this
  exact this

theorem mx_eq (a b : Int) : mx a b = max a b := by unfold mx; omega

/-- How far a break at k parts the means, in whole numbers. -/
def far (l : List Int) (k : Nat) : Int := max ((l.length : Int) * S l k - (k : Int) * S l l.length) (-((l.length : Int) * S l k - (k : Int) * S l l.length))
theorem far_bd {l : List Int} (h : Ser l) (k : Nat) (hk : k ≤ l.length) : (-25000000000 ≤ (l.length : Int) * S l k ∧ (l.length : Int) * S l k ≤ 25000000000) ∧ (-25000000000 ≤ (k : Int) * S l l.length ∧ (k : Int) * S l l.length ≤ 25000000000) := by
  have h1 := S_bd h k hk
  have h2 := S_bd h l.length (Nat.le_refl _)
  have h5 := h.n5
  have m1 := mul_bd (a := (l.length : Int)) (b := S l k) (A := 500) (B := 50000000) (by omega) (by omega) h1.1 h1.2
  have m2 := mul_bd (a := (k : Int)) (b := S l l.length) (A := 500) (B := 50000000) (by omega) (by omega) h2.1 h2.2
  omega

/-- Both find the same break. -/
theorem break_both {l : List Int} (h : Ser l) (h2 : 2 ≤ l.length) : ∃ at_ most : Int, Ev (fun k => spec_Break.l0 k l (l.length : Int) 0 (-1) 1) (at_, most) ∧ Ev (fun k => impl_Break.l1 k l (l.length : Int) (S l l.length) 0 0 (-1) 1) (at_, most) ∧ 1 ≤ at_ ∧ at_ < (l.length : Int) := by
  have h5 := h.n5
  have key : ∀ d (k : Nat), k + d = l.length → 1 ≤ k → ∀ at_ most : Int, (k = 1 ∧ at_ = 0 ∧ most = -1) ∨ (1 ≤ at_ ∧ at_ < (k : Int) ∧ 0 ≤ most) → (2 ≤ k ∨ 1 ≤ d) →
      ∃ a m : Int, Ev (fun r => spec_Break.l0 r l (l.length : Int) at_ most (k : Int)) (a, m) ∧ Ev (fun r => impl_Break.l1 r l (l.length : Int) (S l l.length) (S l (k - 1)) at_ most (k : Int)) (a, m) ∧ 1 ≤ a ∧ a < (l.length : Int) := by
    intro d
    induction d with
    | zero =>
      intro k hk hk1 at_ most hinv hz
      have hinv' : 1 ≤ at_ ∧ at_ < (k : Int) ∧ 0 ≤ most := by omega
      refine ⟨at_, most, Ev.step (f := fun _ => some (at_, most)) (fun r => ?_) (Ev.now _), Ev.step (f := fun _ => some (at_, most)) (fun r => ?_) (Ev.now _), by omega, by omega⟩
      · simp only [spec_Break.l0]
        rw [if_neg (by omega), mx_eq, show max most 0 = most by omega]
      · simp only [impl_Break.l1]
        rw [if_neg (by omega)]
    | succ d ih =>
      intro k hk hk1 at_ most hinv _
      obtain ⟨f1, f2⟩ := far_bd h k (by omega)
      have hfn : 0 ≤ far l k := by unfold far; omega
      have es : S l (k - 1) + rd l ((k : Int) - 1) = S l k := by
        obtain ⟨j, rfl⟩ : ∃ j, k = j + 1 := ⟨k - 1, by omega⟩
        rw [show ((j + 1 : Nat) : Int) - 1 = (j : Int) by omega]
        rfl
      have hsb := S_bd h k (by omega)
      have hend : ∀ at' most' : Int, (1 ≤ at' ∧ at' < ((k + 1 : Nat) : Int) ∧ 0 ≤ most') → ∃ a m : Int, Ev (fun r => spec_Break.l0 r l (l.length : Int) at' most' ((k + 1 : Nat) : Int)) (a, m) ∧ Ev (fun r => impl_Break.l1 r l (l.length : Int) (S l l.length) (S l k) at' most' ((k + 1 : Nat) : Int)) (a, m) ∧ 1 ≤ a ∧ a < (l.length : Int) := by
        intro at' most' hh
        exact ih (k + 1) (by omega) (by omega) at' most' (.inr hh) (.inl (by omega))
      have hsp : ∀ r, spec_Break.l0 (r + 1) l (l.length : Int) at_ most (k : Int) = ((spec_l19Sum.f r (l.take k)).bind fun t181 => (spec_l19Sum.f r l).bind fun t182 => if (mx (wrap64 ((wrap64 ((l.length : Int) * t181)) - (wrap64 ((k : Int) * t182)))) (wrap64 (-(wrap64 ((wrap64 ((l.length : Int) * t181)) - (wrap64 ((k : Int) * t182))))))) > most then spec_Break.l0 r l (l.length : Int) (k : Int) (mx (wrap64 ((wrap64 ((l.length : Int) * t181)) - (wrap64 ((k : Int) * t182)))) (wrap64 (-(wrap64 ((wrap64 ((l.length : Int) * t181)) - (wrap64 ((k : Int) * t182))))))) ((k + 1 : Nat) : Int) else spec_Break.l0 r l (l.length : Int) at_ most ((k + 1 : Nat) : Int)) := by
        intro r
        simp only [spec_Break.l0]
        rw [if_pos (by omega), if_pos (by omega), if_pos (by omega), w64 (n := (k : Int) + 1) (by omega) (by omega)]
        rfl
      have hall : Ev (fun r => spec_l19Sum.f r l) (S l l.length) := specSum_ev l (by omega) (fun i hi => by have := h.r i hi; omega)
      have hv : mx (wrap64 ((wrap64 ((l.length : Int) * S l k)) - (wrap64 ((k : Int) * S l l.length)))) (wrap64 (-(wrap64 ((wrap64 ((l.length : Int) * S l k)) - (wrap64 ((k : Int) * S l l.length)))))) = far l k := by
        rw [w64 (n := (l.length : Int) * S l k) (by omega) (by omega), w64 (n := (k : Int) * S l l.length) (by omega) (by omega), w64 (n := (l.length : Int) * S l k - (k : Int) * S l l.length) (by omega) (by omega), w64 (n := -((l.length : Int) * S l k - (k : Int) * S l l.length)) (by omega) (by omega), mx_eq]
        rfl
      have him : ∀ r, impl_Break.l1 (r + 1) l (l.length : Int) (S l l.length) (S l (k - 1)) at_ most (k : Int) = if far l k > most then impl_Break.l1 r l (l.length : Int) (S l l.length) (S l k) (k : Int) (far l k) ((k + 1 : Nat) : Int) else impl_Break.l1 r l (l.length : Int) (S l l.length) (S l k) at_ most ((k + 1 : Nat) : Int) := by
        intro r
        simp only [impl_Break.l1]
        rw [if_pos (by omega), w64 (n := (k : Int) - 1) (by omega) (by omega), if_pos (by omega), if_pos (by omega), es, w64 (n := S l k) (by omega) (by omega), w64 (n := (k : Int) + 1) (by omega) (by omega)]
        unfold impl_away.f
        rw [w64 (n := (l.length : Int) * S l k) (by omega) (by omega), w64 (n := (k : Int) * S l l.length) (by omega) (by omega), w64 (n := (l.length : Int) * S l k - (k : Int) * S l l.length) (by omega) (by omega), w64 (n := (k : Int) * S l l.length - (l.length : Int) * S l k) (by omega) (by omega), mx_eq]
        have e : max ((l.length : Int) * S l k - (k : Int) * S l l.length) ((k : Int) * S l l.length - (l.length : Int) * S l k) = far l k := by unfold far; omega
        rw [e]
        rfl
      by_cases hc : far l k > most
      · obtain ⟨a, m, e1, e2, a1, a2⟩ := hend (k : Int) (far l k) (by omega)
        refine ⟨a, m, Ev.step hsp (Ev_bind _ (specSumTake l h k (by omega)) (Ev_bind _ hall ?_)), Ev.step him ?_, a1, a2⟩
        · simp only [hv, if_pos hc]; exact e1
        · simp only [if_pos hc]; exact e2
      · obtain ⟨a, m, e1, e2, a1, a2⟩ := hend at_ most (by omega)
        refine ⟨a, m, Ev.step hsp (Ev_bind _ (specSumTake l h k (by omega)) (Ev_bind _ hall ?_)), Ev.step him ?_, a1, a2⟩
        · simp only [hv, if_neg hc]; exact e1
        · simp only [if_neg hc]; exact e2
  exact key (l.length - 1) 1 (by omega) (by omega) 0 (-1) (.inl ⟨rfl, rfl, rfl⟩) (.inr (by omega))

theorem specBreak_ev {l : List Int} (h : Ser l) (hok : serB l = true) {a m : Int} (e : Ev (fun k => spec_Break.l0 k l (l.length : Int) 0 (-1) 1) (a, m)) : Ev (fun k => spec_Break.f k l) (a, m) := by
  unfold spec_Break.f
  refine Ev_bind _ (specOk_ev l) ?_
  simp only [hok, if_true]
  exact e
theorem implBreak_ev {l : List Int} (h : Ser l) (hok : serB l = true) (h2 : 2 ≤ l.length) {a m : Int} (e : Ev (fun k => impl_Break.l1 k l (l.length : Int) (S l l.length) 0 0 (-1) 1) (a, m)) : Ev (fun k => impl_Break.f k l) (a, m) := by
  have h5 := h.n5
  unfold impl_Break.f
  refine Ev_bind _ (implOk_ev l (by omega)) ?_
  simp only [hok, if_true]
  refine Ev.step (f := fun k => impl_Break.l0 k l (l.length : Int) 0 l (l.length : Int) 0) (fun k => ?_) ?_
  · simp only [impl_Break.j0]
    rw [if_neg (by simp; omega)]
  have key := Ev_up (fun k i => impl_Break.l0 k l (l.length : Int) (S l i) l (l.length : Int) (i : Int)) (fun _ => (a, m)) l.length (by
      refine Ev.step (fun k => ?_) e
      simp only [impl_Break.l0]
      rw [if_neg (by omega)]) (by
      intro i hi ih
      have h1 := h.r i hi
      have h2 := S_bd h i (by omega)
      refine Ev.step (fun k => ?_) ih
      simp only [impl_Break.l0]
      rw [if_pos (by omega), if_pos (by omega), if_pos (by omega), w64 (n := S l i + rd l (i : Int)) (by omega) (by omega), w64 (n := (i : Int) + 1) (by omega) (by omega)]
      rfl) 0 (Nat.zero_le _)
  exact key

/-- The list with t more in its first j places. -/
def up (l : List Int) (t : Int) (j : Nat) : List Int := (l.take j).map (· + t) ++ l.drop j
theorem up_len (l : List Int) (t : Int) (j : Nat) : (up l t j).length = l.length := by
  unfold up
  rw [List.length_append, List.length_map, List.length_take, List.length_drop]
  omega
theorem up_rd (l : List Int) (t : Int) (j i : Nat) (hj : j ≤ l.length) (hi : i < l.length) : rd (up l t j) (i : Int) = if i < j then rd l (i : Int) + t else rd l (i : Int) := by
  rw [rd_lt _ i (by rw [up_len]; exact hi), rd_lt l i hi]
  unfold up
  by_cases h : i < j
  · rw [if_pos h, List.getElem_append_left (by rw [List.length_map, List.length_take]; omega), List.getElem_map, List.getElem_take]
  · rw [if_neg h, List.getElem_append_right (by rw [List.length_map, List.length_take]; omega)]
    rw [List.getElem_drop]
    congr 1
    rw [List.length_map, List.length_take]
    omega
theorem up_step (l : List Int) (t : Int) (j : Nat) (hj : j < l.length) : (up l t j).set j (rd (up l t j) (j : Int) + t) = up l t (j + 1) := by
  rw [up_rd l t j j (by omega) hj, if_neg (by omega)]
  unfold up
  rw [List.set_append, if_neg (by rw [List.length_map, List.length_take]; omega), List.length_map, List.length_take, show j - min j l.length = 0 by omega, List.drop_eq_getElem_cons hj, List.set_cons_zero, List.take_succ_eq_append_getElem hj, List.map_append, List.append_assoc, rd_lt l j hj]
  rfl
theorem up_zero (l : List Int) (t : Int) : up l t 0 = l := by simp [up]
theorem up_drop (l : List Int) (t : Int) (j : Nat) (hj : j ≤ l.length) : (up l t j).drop j = l.drop j := by
  unfold up
  rw [List.drop_append, List.length_map, List.length_take]
  rw [show j - min j l.length = 0 by omega, List.drop_of_length_le (by rw [List.length_map, List.length_take]; omega)]
  rfl

/-- The step. -/
def stepZ (l : List Int) (k : Nat) : Int := Int.tdiv ((S l l.length - S l k) * (k : Int) - S l k * ((l.length : Int) - (k : Int))) ((k : Int) * ((l.length : Int) - (k : Int)))

theorem tdiv_rest {p d : Int} (hd : 0 < d) : (p - Int.tdiv p d * d < d ∧ -d < p - Int.tdiv p d * d) ∧ (p.tdiv d).natAbs ≤ p.natAbs := by
  refine ⟨?_, Int.natAbs_tdiv_le_natAbs p d⟩
  rcases Int.le_total 0 p with h | h
  · rw [Int.tdiv_eq_ediv_of_nonneg h]
    have h1 := Int.mul_ediv_add_emod p d
    have h2 := Int.emod_nonneg p (show d ≠ 0 by omega)
    have h3 := Int.emod_lt_of_pos p hd
    rw [Int.mul_comm] at h1
    omega
  · obtain ⟨m, rfl⟩ : ∃ m, p = -m := ⟨-p, by omega⟩
    have hm : 0 ≤ m := by omega
    rw [Int.neg_tdiv, Int.tdiv_eq_ediv_of_nonneg hm, Int.neg_mul]
    have h1 := Int.mul_ediv_add_emod m d
    have h2 := Int.emod_nonneg m (show d ≠ 0 by omega)
    have h3 := Int.emod_lt_of_pos m hd
    rw [Int.mul_comm] at h1
    omega

structure Cut (l : List Int) (k : Nat) : Prop where
  ser : Ser l
  k1 : 1 ≤ k
  kn : k < l.length

theorem cut_bd {l : List Int} {k : Nat} (h : Cut l k) :
    (0 < (k : Int) * ((l.length : Int) - (k : Int)) ∧ (k : Int) * ((l.length : Int) - (k : Int)) ≤ 250000) ∧ (-50000000000 ≤ (S l l.length - S l k) * (k : Int) ∧ (S l l.length - S l k) * (k : Int) ≤ 50000000000) ∧
      (-25000000000 ≤ S l k * ((l.length : Int) - (k : Int)) ∧ S l k * ((l.length : Int) - (k : Int)) ≤ 25000000000) ∧ -75000000000 ≤ stepZ l k ∧ stepZ l k ≤ 75000000000 := by
  have h1 := S_bd h.ser k (by have := h.kn; omega)
  have h2 := S_bd h.ser l.length (Nat.le_refl _)
  have h5 := h.ser.n5
  have hk := h.k1
  have hn := h.kn
  have m1 := mul_bd (a := (k : Int)) (b := (l.length : Int) - (k : Int)) (A := 500) (B := 500) (by omega) (by omega) (by omega) (by omega)
  have m0 := Int.mul_pos (a := (k : Int)) (b := (l.length : Int) - (k : Int)) (by omega) (by omega)
  have m2 := mul_bd (a := S l l.length - S l k) (b := (k : Int)) (A := 100000000) (B := 500) (by omega) (by omega) (by omega) (by omega)
  have m3 := mul_bd (a := S l k) (b := (l.length : Int) - (k : Int)) (A := 50000000) (B := 500) (by omega) (by omega) (by omega) (by omega)
  have t := tdiv_rest (p := (S l l.length - S l k) * (k : Int) - S l k * ((l.length : Int) - (k : Int))) m0
  have t2 := t.2
  unfold stepZ
  refine ⟨⟨m0, by omega⟩, by omega, by omega, by omega, by omega⟩

/-- The answer: the list and its step, or nothing. -/
def homB (l : List Int) (k : Nat) : List Int × Int := if ((up l (stepZ l k) k).all inR) = true then (up l (stepZ l k) k, stepZ l k) else ([], 0)

theorem up_wrap {l : List Int} {k : Nat} (h : Cut l k) (j : Nat) (hj : j < k) : wrap64 (rd (up l (stepZ l k) j) (j : Int) + stepZ l k) = rd (up l (stepZ l k) j) (j : Int) + stepZ l k := by
  have hn := h.kn
  have h1 := h.ser.r j (by omega)
  have hb := cut_bd h
  rw [up_rd l _ j j (by omega) (by omega), if_neg (by omega)]
  exact w64 (by omega) (by omega)

theorem up_all (l : List Int) (t : Int) (k : Nat) (hk : k ≤ l.length) (h : Ser l) : (up l t k).all inR = ((List.range k).all fun j => inR (rd l (j : Int) + t)) := by
  rw [Bool.eq_iff_iff]
  simp only [List.all_eq_true, List.mem_range]
  constructor
  · intro ha j hj
    have hjl : j < (up l t k).length := by rw [up_len]; omega
    have := ha _ (List.getElem_mem hjl)
    rw [← rd_lt, up_rd l t k j hk (by omega), if_pos hj] at this
    exact this
  · intro ha x hx
    obtain ⟨i, hi, rfl⟩ := List.getElem_of_mem hx
    rw [← rd_lt, up_rd l t k i hk (by rw [up_len] at hi; exact hi)]
    rw [up_len] at hi
    by_cases h' : i < k
    · rw [if_pos h']; exact ha i h'
    · rw [if_neg h']
      have := h.r i hi
      simp only [inR, inB, Bool.and_eq_true, decide_eq_true_eq]
      exact this

theorem specHom_ev {l : List Int} {k : Nat} (h : Cut l k) (hok : serB l = true) {m : Int} (e : Ev (fun r => spec_Break.f r l) ((k : Int), m)) : Ev (fun r => spec_Homogen.f r l) (homB l k) := by
  have h5 := h.ser.n5
  have hn := h.kn
  have hk := h.k1
  obtain ⟨d1, d2, d3, d4⟩ := cut_bd h
  unfold spec_Homogen.f
  refine Ev_bind _ (specOk_ev l) ?_
  simp only [hok, if_true, Option.bind_some, List.nil_append, List.length_nil, Nat.zero_add, if_pos (show l.length < 17592186044416 by omega)]
  refine Ev_bind _ e ?_
  simp only [if_neg (show ¬ (k : Int) = 0 by omega), if_pos (show (0 : Int) ≤ (k : Int) by omega), if_pos (show (k : Int) ≤ (l.length : Int) by omega), Int.toNat_natCast]
  refine Ev_bind _ (specSumDrop l h.ser k (by omega)) ?_
  refine Ev_bind _ (specSumTake l h.ser k (by omega)) ?_
  simp only [w64 (n := (l.length : Int) - (k : Int)) (by omega) (by omega), w64 (n := (k : Int) * ((l.length : Int) - (k : Int))) (by omega) (by omega), if_neg (show ¬ (k : Int) * ((l.length : Int) - (k : Int)) = 0 by omega),
    w64 (n := (S l l.length - S l k) * (k : Int)) (by omega) (by omega), w64 (n := S l k * ((l.length : Int) - (k : Int))) (by omega) (by omega), w64 (n := (S l l.length - S l k) * (k : Int) - S l k * ((l.length : Int) - (k : Int))) (by omega) (by omega)]
  have hw : wrap64 (Int.tdiv ((S l l.length - S l k) * (k : Int) - S l k * ((l.length : Int) - (k : Int))) ((k : Int) * ((l.length : Int) - (k : Int)))) = stepZ l k := w64 (by unfold stepZ at d4; omega) (by unfold stepZ at d4; omega)
  simp only [hw]
  have key := Ev_up (fun r j => spec_Homogen.l0 r (up l (stepZ l k) j) (k : Int) (stepZ l k) (j : Int)) (fun _ => homB l k) k (by
      refine Ev.step (f := fun r => (spec_l19Ok.f r (up l (stepZ l k) k)).bind fun t201 => if t201 = true then some (up l (stepZ l k) k, stepZ l k) else some ([], 0)) (fun r => ?_) (Ev_bind _ (specOk_ev _) ?_)
      · simp only [spec_Homogen.l0]
        rw [if_neg (by omega)]
      · have hs : serB (up l (stepZ l k) k) = (up l (stepZ l k) k).all inR := by
          unfold serB
          rw [up_len, decide_eq_true (show 1 ≤ l.length by omega), decide_eq_true (show l.length ≤ 500 by omega)]
          rfl
        rw [hs]
        unfold homB
        cases (up l (stepZ l k) k).all inR
        · simpa using Ev.now _
        · simpa using Ev.now _) (by
      intro j hj ih
      refine Ev.step (fun r => ?_) ih
      simp only [spec_Homogen.l0]
      rw [if_pos (by omega), if_pos (by omega), if_pos (by rw [up_len]; omega), Int.toNat_natCast, up_wrap h j hj, up_step l _ j (by omega), w64 (n := (j : Int) + 1) (by omega) (by omega)]
      rfl) 0 (Nat.zero_le _)
  rw [up_zero] at key
  exact key

theorem implHom_ev {l : List Int} {k : Nat} (h : Cut l k) (hok : serB l = true) {m : Int} (e : Ev (fun r => impl_Break.f r l) ((k : Int), m)) : Ev (fun r => impl_Homogen.f r l) (homB l k) := by
  have h5 := h.ser.n5
  have hn := h.kn
  have hk := h.k1
  obtain ⟨d1, d2, d3, d4⟩ := cut_bd h
  unfold impl_Homogen.f slices_Clone_int64_int64.f
  refine Ev_bind _ (implOk_ev l (by omega)) ?_
  simp only [hok, if_true, if_pos (show l.length < 17592186044416 by omega), Option.bind_some, if_neg (show ¬ (l.length : Int) = 1 by omega)]
  refine Ev_bind _ e ?_
  have hw : wrap64 (Int.tdiv ((S l l.length - S l k) * (k : Int) - S l k * ((l.length : Int) - (k : Int))) ((k : Int) * ((l.length : Int) - (k : Int)))) = stepZ l k := w64 (by unfold stepZ at d4; omega) (by unfold stepZ at d4; omega)
  -- the second loop
  have second : Ev (fun r => impl_Homogen.l1 r l (k : Int) (stepZ l k) 0) (homB l k) := by
    have hall := up_all l (stepZ l k) k (by omega) h.ser
    have key : ∀ d j, j + d = k → ((List.range j).all fun i => inR (rd l (i : Int) + stepZ l k)) = true → Ev (fun r => impl_Homogen.l1 r (up l (stepZ l k) j) (k : Int) (stepZ l k) (j : Int)) (homB l k) := by
      intro d
      induction d with
      | zero =>
        intro j hj hr
        have : j = k := by omega
        subst this
        refine Ev.step (f := fun _ => some (up l (stepZ l j) j, stepZ l j)) (fun r => ?_) ?_
        · simp only [impl_Homogen.l1]
          rw [if_neg (by omega)]
        · unfold homB
          rw [hall, hr]
          exact Ev.now _
      | succ d ih =>
        intro j hj hr
        refine Ev.step (f := fun r => if inR (rd l (j : Int) + stepZ l k) = true then impl_Homogen.l1 r (up l (stepZ l k) (j + 1)) (k : Int) (stepZ l k) ((j + 1 : Nat) : Int) else some ([], 0)) (fun r => ?_) ?_
        · simp only [impl_Homogen.l1]
          rw [if_pos (by omega), if_pos (by omega), if_pos (by rw [up_len]; omega), Int.toNat_natCast, up_wrap h j (by omega), up_step l _ j (by omega), w64 (n := (j : Int) + 1) (by omega) (by omega)]
          simp only [Option.bind_some, implIn]
          rw [up_rd l _ (j + 1) j (by omega) (by omega), if_pos (show j < j + 1 by omega)]
          rfl
        · cases hc : inR (rd l (j : Int) + stepZ l k) with
          | true =>
            simp only [if_true]
            exact ih (j + 1) (by omega) (by rw [List.range_succ, List.all_append, hr]; simp [hc])
          | false =>
            have hf : (up l (stepZ l k) k).all inR = false := by
              rw [hall, Bool.eq_false_iff]
              intro ha
              simp only [List.all_eq_true, List.mem_range] at ha
              have := ha j (by omega)
              rw [hc] at this
              cases this
            unfold homB
            rw [hf]
            simpa using Ev.now _
    have := key k 0 (by omega) (by simp)
    rw [up_zero] at this
    exact this
  -- the first loop's two sums
  have first := Ev_up (fun r i => impl_Homogen.l0 r l (l.length : Int) (k : Int) (S l (min i k)) (S l i - S l (min i k)) l (l.length : Int) (i : Int)) (fun _ => homB l k) l.length (by
      refine Ev.step (fun r => ?_) second
      simp only [impl_Homogen.l0]
      rw [if_neg (by omega), show min l.length k = k by omega]
      simp only [w64 (n := (l.length : Int) - (k : Int)) (by omega) (by omega), w64 (n := (k : Int) * ((l.length : Int) - (k : Int))) (by omega) (by omega), if_neg (show ¬ (k : Int) * ((l.length : Int) - (k : Int)) = 0 by omega),
        w64 (n := (S l l.length - S l k) * (k : Int)) (by omega) (by omega), w64 (n := S l k * ((l.length : Int) - (k : Int))) (by omega) (by omega), w64 (n := (S l l.length - S l k) * (k : Int) - S l k * ((l.length : Int) - (k : Int))) (by omega) (by omega), hw]) (by
      intro i hi ih
      have b1 := S_bd h.ser i (by omega)
      have b2 := S_bd h.ser (min i k) (by omega)
      have b3 := h.ser.r i hi
      have es : S l (i + 1) = S l i + rd l (i : Int) := rfl
      refine Ev.step (fun r => ?_) ih
      simp only [impl_Homogen.l0]
      rw [if_pos (by omega), if_pos (by omega), if_pos (by omega), w64 (n := (i : Int) + 1) (by omega) (by omega)]
      by_cases hc : i < k
      · rw [if_pos (by omega), show min i k = i by omega, show min (i + 1) k = i + 1 by omega, w64 (n := S l i + rd l (i : Int)) (by omega) (by omega), es, Int.sub_self, Int.sub_self]
        rfl
      · rw [if_neg (by omega), show min i k = k by omega, show min (i + 1) k = k by omega, w64 (n := S l i - S l k + rd l (i : Int)) (by rw [show min i k = k by omega] at b2; omega) (by rw [show min i k = k by omega] at b2; omega), es, show S l i + rd l (i : Int) - S l k = S l i - S l k + rd l (i : Int) by omega]
        rfl) 0 (Nat.zero_le _)
  have e0 : S l 0 = 0 := rfl
  simpa [e0] using first

theorem same_ev (l : List Int) (hl : l.length ≤ 1048576) : Ev (fun k => laws_sameInts.f k l l) true := by
  unfold laws_sameInts.f
  simp only [if_true]
  have key := Ev_up (fun k i => laws_sameInts.l0 k l l (i : Int)) (fun _ => true) l.length (by
      refine Ev.step (f := fun _ => some true) (fun k => ?_) (Ev.now _)
      simp only [laws_sameInts.l0]
      rw [if_neg (by omega)]) (by
      intro i hi ih
      refine Ev.step (fun k => ?_) ih
      simp only [laws_sameInts.l0]
      rw [if_pos (by omega), if_pos (by omega), if_pos (by omega), if_pos True.intro, w64 (n := (i : Int) + 1) (by omega) (by omega)]
      rfl) 0 (Nat.zero_le _)
  exact key

theorem sumZ_const (t : Int) : ∀ k : Nat, sumZ (fun _ => t) k = (k : Int) * t := by
  intro k
  induction k with
  | zero => simp [sumZ]
  | succ k ih =>
    simp only [sumZ]
    rw [ih, Int.natCast_add, Int.add_mul]
    simp

/-- Behind the step. -/
theorem law_end {l : List Int} {k : Nat} (h : Cut l k) (hall : (up l (stepZ l k) k).all inR = true) : Ev (fun r => laws_FnHomogen.j2 r (up l (stepZ l k) k) (k : Int) (l.length : Int) false) true := by
  have h5 := h.ser.n5
  have hn := h.kn
  have hk := h.k1
  obtain ⟨d1, d2, d3, d4⟩ := cut_bd h
  have b1 := S_bd h.ser k (by omega)
  have b2 := S_bd h.ser l.length (Nat.le_refl _)
  have hrest := (tdiv_rest (p := (S l l.length - S l k) * (k : Int) - S l k * ((l.length : Int) - (k : Int))) d1.1).1
  have hst : stepZ l k = Int.tdiv ((S l l.length - S l k) * (k : Int) - S l k * ((l.length : Int) - (k : Int))) ((k : Int) * ((l.length : Int) - (k : Int))) := rfl
  rw [← hst] at hrest
  obtain ⟨t, ht⟩ : ∃ t, t = stepZ l k := ⟨_, rfl⟩
  rw [← ht] at d4 hall hrest ⊢
  have hlen := up_len l t k
  have hel : ∀ i : Nat, i < k → -100000 ≤ rd l (i : Int) + t ∧ rd l (i : Int) + t ≤ 100000 := by
    intro i hi
    rw [up_all l t k (by omega) h.ser] at hall
    simp only [List.all_eq_true, List.mem_range] at hall
    have := hall i hi
    simp only [inR, inB, Bool.and_eq_true, decide_eq_true_eq] at this
    exact this
  have e1 : Ev (fun r => laws_sum.f r ((up l t k).drop k)) (S l l.length - S l k) := by
    rw [up_drop l t k (by omega)]
    have hl : (l.drop k).length = l.length - k := by rw [List.length_drop]
    have := lawSum_ev (l.drop k) (by omega) (fun i hi => by rw [rd_drop l k i (by omega)]; have := h.ser.r (k + i) (by omega); omega)
    rw [hl, S_drop l k (by omega)] at this
    exact this
  have es : S ((up l t k).take k) k = S l k + (k : Int) * t := by
    rw [S_take _ k (by omega)]
    unfold S
    rw [← sumZ_const t k, ← sumZ_add]
    refine sumZ_congr k (fun i hi => ?_)
    rw [up_rd l t k i (by omega) (by omega), if_pos hi]
  have hsb : -50000000 ≤ S l k + (k : Int) * t ∧ S l k + (k : Int) * t ≤ 50000000 := by
    have := sumZ_bd 100000 k hel
    rw [sumZ_add (fun i => rd l (i : Int)) (fun _ => t) k, sumZ_const] at this
    unfold S
    omega
  have e2 : Ev (fun r => laws_sum.f r ((up l t k).take k)) (S l k + (k : Int) * t) := by
    have hl : ((up l t k).take k).length = k := by rw [List.length_take]; omega
    have := lawSum_ev ((up l t k).take k) (by omega) (fun i hi => by
      rw [rd_take _ k i (by omega) (by omega), up_rd l t k i (by omega) (by omega), if_pos (by omega)]
      have := hel i (by omega)
      omega)
    rw [hl, es] at this
    exact this
  have m1 := mul_bd (a := S l k + (k : Int) * t) (b := (l.length : Int) - (k : Int)) (A := 50000000) (B := 500) (by omega) (by omega) (by omega) (by omega)
  have hid : (S l l.length - S l k) * (k : Int) - (S l k + (k : Int) * t) * ((l.length : Int) - (k : Int)) = ((S l l.length - S l k) * (k : Int) - S l k * ((l.length : Int) - (k : Int))) - t * ((k : Int) * ((l.length : Int) - (k : Int))) := by grind
  refine Ev.step (f := fun r => (laws_sum.f r ((up l t k).drop k)).bind fun t255 => (laws_sum.f r ((up l t k).take k)).bind fun t260 => (laws_abs.f (wrap64 ((wrap64 (t255 * (k : Int))) - (wrap64 (t260 * (wrap64 ((l.length : Int) - (k : Int)))))))).bind fun t261 => some (decide (t261 < (wrap64 ((k : Int) * (wrap64 ((l.length : Int) - (k : Int)))))))) (fun r => ?_) (Ev_bind _ e1 (Ev_bind _ e2 ?_))
  · simp only [laws_FnHomogen.j2]
    rw [if_neg (by simp), if_pos (by omega), if_pos (by omega)]
    rfl
  · refine Ev_const ?_
    rw [w64 (n := (l.length : Int) - (k : Int)) (by omega) (by omega), w64 (n := (S l l.length - S l k) * (k : Int)) (by omega) (by omega), w64 (n := (S l k + (k : Int) * t) * ((l.length : Int) - (k : Int))) (by omega) (by omega), hid,
      w64 (n := ((S l l.length - S l k) * (k : Int) - S l k * ((l.length : Int) - (k : Int))) - t * ((k : Int) * ((l.length : Int) - (k : Int)))) (by omega) (by omega), w64 (n := (k : Int) * ((l.length : Int) - (k : Int))) (by omega) (by omega)]
    unfold laws_abs.f
    by_cases hc : ((S l l.length - S l k) * (k : Int) - S l k * ((l.length : Int) - (k : Int))) - t * ((k : Int) * ((l.length : Int) - (k : Int))) < 0
    · rw [if_pos hc, w64 (by omega) (by omega)]
      simp only [Option.bind_some]
      rw [decide_eq_true (by omega)]
    · rw [if_neg hc]
      simp only [Option.bind_some]
      rw [decide_eq_true (by omega)]

/-- What is no series. -/
theorem no_series {l : List Int} (hl : l.length ≤ 1000) (h : serB l = false) :
    Ev (fun r => spec_Homogen.f r l) ([], 0) ∧ Ev (fun r => impl_Homogen.f r l) ([], 0) ∧ Ev (fun r => impl_Break.f r l) (0, 0) := by
  refine ⟨?_, ?_, ?_⟩
  · unfold spec_Homogen.f
    refine Ev_bind _ (specOk_ev l) ?_
    simp only [h, Bool.false_eq_true, if_false]
    exact Ev.now _
  · unfold impl_Homogen.f
    refine Ev_bind _ (implOk_ev l (by omega)) ?_
    simp only [h, Bool.false_eq_true, if_false]
    exact Ev.now _
  · unfold impl_Break.f
    refine Ev_bind _ (implOk_ev l (by omega)) ?_
    simp only [h, Bool.false_eq_true, if_false]
    refine Ev.step (f := fun _ => some (0, 0)) (fun k => ?_) (Ev.now _)
    simp only [impl_Break.j0]
    rw [if_pos True.intro]
theorem one_series {l : List Int} (h1 : l.length = 1) (h : serB l = true) :
    Ev (fun r => spec_Homogen.f r l) (l, 0) ∧ Ev (fun r => impl_Homogen.f r l) (l, 0) ∧ Ev (fun r => impl_Break.f r l) (0, 0) := by
  refine ⟨?_, ?_, ?_⟩
  · unfold spec_Homogen.f
    refine Ev_bind _ (specOk_ev l) ?_
    simp only [h, if_true, Option.bind_some, List.nil_append, List.length_nil, Nat.zero_add, if_pos (show l.length < 17592186044416 by omega)]
    refine Ev_bind (0, 0) ?_ (by simpa using Ev.now _)
    unfold spec_Break.f
    refine Ev_bind _ (specOk_ev l) ?_
    simp only [h, if_true]
    refine Ev.step (f := fun _ => some (0, 0)) (fun k => ?_) (Ev.now _)
    simp only [spec_Break.l0]
    rw [if_neg (by omega), mx_eq]
    rfl
  · unfold impl_Homogen.f slices_Clone_int64_int64.f
    refine Ev_bind _ (implOk_ev l (by omega)) ?_
    simp only [h, if_true, if_pos (show l.length < 17592186044416 by omega), Option.bind_some, if_pos (show (l.length : Int) = 1 by omega)]
    exact Ev.now _
  · unfold impl_Break.f
    refine Ev_bind _ (implOk_ev l (by omega)) ?_
    simp only [h, if_true]
    refine Ev.step (f := fun _ => some (0, 0)) (fun k => ?_) (Ev.now _)
    simp only [impl_Break.j0]
    rw [if_pos (by simp; omega)]

theorem drawA {b : List Int} {l : List Int} {p1 p2 : Int} (e1 : Ev (fun k => spec_l19Draw.f k b 0) (l, p1)) (e2 : spec_l1Rd_once.f b p1 9 = some (false, p2)) : Ev (fun k => spec_DrawHomogen.f k b) l := by
  unfold spec_DrawHomogen.f
  refine Ev_bind (b, 0) (Ev_const rfl) ?_
  refine Ev_bind (l, p1) e1 ?_
  refine Ev_const ?_
  show ((spec_l1Rd_once.f b p1 9).bind fun bt167 => (if bt167.1 = true then ((some (([100000, (-100000)] : List Int) : List Int)).bind fun y169 => (if y169.length < 17592186044416 then (some (y169 ++ [100000])) else (none))) else (some l))) = some l
  rw [e2]
  rfl
theorem small_if {y : List Int} (h : y.length = 2) : (if y.length < 17592186044416 then (some (y ++ [100000])) else (none)) = some (y ++ [100000]) := if_pos (by omega)
theorem drawB {b : List Int} {l : List Int} {p1 p2 : Int} (e1 : Ev (fun k => spec_l19Draw.f k b 0) (l, p1)) (e2 : spec_l1Rd_once.f b p1 9 = some (true, p2)) : ∃ y : List Int, y.length = 2 ∧ Ev (fun k => spec_DrawHomogen.f k b) (y ++ [100000]) := by
  refine ⟨[100000, -100000], rfl, ?_⟩
  unfold spec_DrawHomogen.f
  refine Ev_bind (b, 0) (Ev_const rfl) ?_
  refine Ev_bind (l, p1) e1 ?_
  refine Ev_const ?_
  show ((spec_l1Rd_once.f b p1 9).bind fun bt167 => (if bt167.1 = true then ((some (([100000, (-100000)] : List Int) : List Int)).bind fun y169 => (if y169.length < 17592186044416 then (some (y169 ++ [100000])) else (none))) else (some l))) = _
  rw [e2]
  exact small_if (y := [100000, -100000]) rfl
theorem draw_ev {b : List Int} (h : RdOk b 0) : ∃ s : List Int, s.length ≤ 1000 ∧ Ev (fun k => spec_DrawHomogen.f k b) s := by
  obtain ⟨l, p1, e1, hl1, h1⟩ := draw19_ev h
  obtain ⟨v, p2, e2, h2⟩ := rdOnce h1 9 (by omega)
  cases v with
  | true =>
    obtain ⟨y, hy, e⟩ := drawB e1 e2
    exact ⟨_, by rw [List.length_append, hy]; decide, e⟩
  | false => exact ⟨l, hl1, drawA e1 e2⟩

/-- The law for any list. -/
theorem law_list (l : List Int) (hl : l.length ≤ 1000) : ∃ w i : List Int × Int, Ev (fun r => spec_Homogen.f r l) w ∧ Ev (fun r => impl_Homogen.f r l) i ∧ i.2 = w.2 ∧ i.1 = w.1 ∧ i.1.length ≤ 1000 ∧ Ev (fun r => laws_FnHomogen.j0 r l w.1 i.1 false) true := by
  have top : ∀ (w : List Int) (a m : Int), Ev (fun r => impl_Break.f r l) (a, m) → Ev (fun r => laws_FnHomogen.j1 r l w a (l.length : Int) (if (w.length : Int) = 0 then true else decide ((l.length : Int) < 2))) true → Ev (fun r => laws_FnHomogen.j0 r l w w false) true := by
    intro w a m e1 e2
    refine Ev.step (f := fun r => (impl_Break.f r l).bind fun bt240 => if (w.length : Int) = 0 then laws_FnHomogen.j1 r l w bt240.1 (l.length : Int) true else laws_FnHomogen.j1 r l w bt240.1 (l.length : Int) (decide ((l.length : Int) < 2))) (fun k => ?_) (Ev_bind _ e1 ?_)
    · simp only [laws_FnHomogen.j0]
      rw [if_neg (by simp)]
    · by_cases hw : (w.length : Int) = 0
      · simp only [if_pos hw] at e2 ⊢
        exact e2
      · simp only [if_neg hw] at e2 ⊢
        exact e2
  have jt : ∀ (w : List Int) (a : Int), Ev (fun r => laws_FnHomogen.j1 r l w a (l.length : Int) true) true := by
    intro w a
    refine Ev.step (f := fun _ => some true) (fun k => ?_) (Ev.now _)
    simp only [laws_FnHomogen.j1]
    rw [if_pos True.intro]
  cases hok : serB l with
  | false =>
    obtain ⟨e1, e2, e3⟩ := no_series hl hok
    exact ⟨([], 0), ([], 0), e1, e2, rfl, rfl, by simp, top [] 0 0 e3 (by simpa using jt [] 0)⟩
  | true =>
    have hs := ser_of hok
    have hn1 := hs.n1
    have hn5 := hs.n5
    by_cases h1 : l.length = 1
    · obtain ⟨e1, e2, e3⟩ := one_series h1 hok
      refine ⟨(l, 0), (l, 0), e1, e2, rfl, rfl, hl, top l 0 0 e3 ?_⟩
      rw [if_neg (by omega), decide_eq_true (by omega)]
      exact jt l 0
    · obtain ⟨a, m, b1, b2, a1, a2⟩ := break_both hs (by omega)
      obtain ⟨k, rfl⟩ : ∃ k : Nat, a = (k : Int) := ⟨a.toNat, by omega⟩
      have hc : Cut l k := ⟨hs, by omega, by omega⟩
      have eb := implBreak_ev hs hok (by omega) b2
      have e1 := specHom_ev hc hok (specBreak_ev hs hok b1)
      have e2 := implHom_ev hc hok eb
      cases hall : (up l (stepZ l k) k).all inR with
      | false =>
        have hh : homB l k = ([], 0) := by unfold homB; rw [hall]; rfl
        rw [hh] at e1 e2
        exact ⟨([], 0), ([], 0), e1, e2, rfl, rfl, by simp, top [] k m eb (by simpa using jt [] k)⟩
      | true =>
        have hh : homB l k = (up l (stepZ l k) k, stepZ l k) := by unfold homB; rw [hall]; rfl
        rw [hh] at e1 e2
        have hlen := up_len l (stepZ l k) k
        refine ⟨_, _, e1, e2, rfl, rfl, by show (up l (stepZ l k) k).length ≤ 1000; omega, top _ k m eb ?_⟩
        show Ev (fun r => laws_FnHomogen.j1 r l (up l (stepZ l k) k) (k : Int) (l.length : Int) (if ((up l (stepZ l k) k).length : Int) = 0 then true else decide ((l.length : Int) < 2))) true
        rw [if_neg (by omega), decide_eq_false (by omega)]
        refine Ev.step (f := fun r => (laws_sameInts.f r (l.drop k) (l.drop k)).bind fun t250 => laws_FnHomogen.j2 r (up l (stepZ l k) k) (k : Int) (l.length : Int) (!t250)) (fun r => ?_) (Ev_bind true (same_ev _ (by rw [List.length_drop]; omega)) (by simpa using law_end hc hall))
        simp only [laws_FnHomogen.j1]
        rw [if_neg (by simp), if_neg (by omega), if_neg (by omega), if_pos (by omega), if_pos (by omega), if_pos (by omega), Int.toNat_natCast, up_drop l _ k (by omega)]
end Go.Proofs.Ytmjfmhbklifafaa.QFnHomogen
namespace Go.Proofs.Ytmjfmhbklifafaa.Pure
open Go.RowKit Go.Proofs.YtmjfmhbklifafaaW.PrintWords Go.Proofs.YtmjfmhbklifafaaW.PrintLast Go.Proofs.Ytmjfmhbklifafaa.Opn Go.Proofs.Ytmjfmhbklifafaa.Pl Go.Proofs.Ytmjfmhbklifafaa.QFnHomogen

theorem FnHomogen : laws_FnHomogen.Pure := by
  intro b hl hs hb
  refine Ev.rounds (r := true) ?_
  unfold laws_FnHomogen.f laws_big.f
  simp only [Option.bind_some]
  by_cases hbig : (b.length : Int) > 1048576
  · simp only [decide_eq_true hbig, if_true]
    exact Ev.now _
  simp only [decide_eq_false hbig, Bool.false_eq_true, if_false]
  have hd := draw_ev (rdOpen b (by omega) hb)
  obtain ⟨s, hs', es⟩ := hd
  refine Ev_bind _ es ?_
  obtain ⟨w, i, ew, ei, q1, q2, q3, ej⟩ := law_list s hs'
  refine Ev_bind _ ew (Ev_bind _ ei ?_)
  simp only [if_pos q1]
  rw [← q2] at ej ⊢
  refine Ev_bind true (same_ev _ (by omega)) ?_
  simpa using ej
end Go.Proofs.Ytmjfmhbklifafaa.Pure
