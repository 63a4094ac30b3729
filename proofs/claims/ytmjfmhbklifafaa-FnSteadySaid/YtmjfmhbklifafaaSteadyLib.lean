/- Levels of a series, as the reference and the program tell them: both tell the same. Plain functions on lists of whole numbers; the sizes stand in each lemma. -/
import Derived.Test.YtmjfmhbklifafaaLevMath
import Derived.Test.YtmjfmhbklifafaaQFnSteadyx5
set_option linter.unusedVariables false
set_option linter.unusedSimpArgs false
namespace Go.Proofs.Ytmjfmhbklifafaa.QFnSteady
open Go.RowKit Go.Proofs.YtmjfmhbklifafaaW.PrintWords Go.Proofs.Ytmjfmhbklifafaa.Opn Go.Proofs.Ytmjfmhbklifafaa.Pl Go.Proofs.Ytmjfmhbklifafaa.Lev

def inB (n a b : Int) : Bool := decide (a ≤ n) && decide (n ≤ b)
theorem inB_iff (n a b : Int) : inB n a b = true ↔ a ≤ n ∧ n ≤ b := by simp [inB]
theorem specIn (n a b : Int) : spec_l2In.f n a b = some (inB n a b) := by
  unfold spec_l2In.f inB
  by_cases h : n ≥ a
  · rw [if_pos h, decide_eq_true (show a ≤ n from h), Bool.true_and]
  · rw [if_neg h, decide_eq_false (show ¬ a ≤ n from h), Bool.false_and]
theorem implIn (n a b : Int) : impl_in.f n a b = some (inB n a b) := by
  unfold impl_in.f inB
  by_cases h : n ≥ a
  · rw [if_pos h, decide_eq_true (show a ≤ n from h), Bool.true_and]
  · rw [if_neg h, decide_eq_false (show ¬ a ≤ n from h), Bool.false_and]

theorem up_ind {P : Nat → Prop} (n : Nat) (hend : P n) (hstep : ∀ i, i < n → P (i + 1) → P i) : ∀ i, i ≤ n → P i := by
  have key : ∀ d i, i + d = n → P i := by
    intro d
    induction d with
    | zero => intro i hi; rw [show i = n by omega]; exact hend
    | succ d ih => intro i hi; exact hstep i (by omega) (ih (i + 1) (by omega))
  intro i hi
  exact key (n - i) i (by omega)

def eachB (l : List Int) (n a b : Int) : Bool := decide ((l.length : Int) = n) && l.all (fun x => inB x a b)

theorem specAll_ev (l : List Int) (hl : l.length ≤ 1048576) (n a b : Int) : Ev (fun k => spec_l15All.f k l n a b) (eachB l n a b) := by
  unfold spec_l15All.f eachB
  by_cases h : (l.length : Int) = n
  · simp only [h, if_true, decide_true, Bool.true_and]
    have key := Ev_up (fun k i => spec_l15All.l0 k l a b (i : Int)) (fun i => (l.drop i).all (fun x => inB x a b)) l.length (by
        refine Ev.step (f := fun _ => some true) (fun k => ?_) (by simpa using Ev.now true)
        simp only [spec_l15All.l0]
        rw [if_neg (by omega)]) (by
        intro i hi ih
        refine Ev.step (f := fun k => if inB l[i] a b = true then spec_l15All.l0 k l a b ((i + 1 : Nat) : Int) else some false) (fun k => ?_) ?_
        · simp only [spec_l15All.l0]
          rw [if_pos (by omega), if_pos (by omega), specIn, rd_lt l i hi, w64 (by omega) (by omega)]
          rfl
        · rw [mem_range_get l _ i hi]
          cases hb : inB l[i] a b with
          | true => simpa using ih
          | false => simpa using Ev.now false) 0 (Nat.zero_le _)
    simpa using key
  · rw [decide_eq_false h, Bool.false_and]
    simp only [h, if_false]
    exact Ev.now false

theorem implEach_ev (l : List Int) (hl : l.length ≤ 1048576) (n a b : Int) : Ev (fun k => impl_each.f k l n a b) (eachB l n a b) := by
  unfold impl_each.f eachB
  by_cases h : (l.length : Int) = n
  · rw [decide_eq_true h, Bool.true_and]
    simp only [if_pos h]
    have key := Ev_up (fun k i => impl_each.l0 k a b l (l.length : Int) (i : Int)) (fun i => (l.drop i).all (fun x => inB x a b)) l.length (by
        refine Ev.step (f := fun _ => some true) (fun k => ?_) (by simpa using Ev.now true)
        simp only [impl_each.l0]
        rw [if_neg (by omega)]) (by
        intro i hi ih
        refine Ev.step (f := fun k => if inB l[i] a b = true then impl_each.l0 k a b l (l.length : Int) ((i + 1 : Nat) : Int) else some false) (fun k => ?_) ?_
        · simp only [impl_each.l0]
          rw [if_pos (by omega), if_pos (by omega), if_pos (by omega), implIn, rd_lt l i hi, w64 (by omega) (by omega)]
          rfl
        · rw [mem_range_get l _ i hi]
          cases hb : inB l[i] a b with
          | true => simpa using ih
          | false => simpa using Ev.now false) 0 (Nat.zero_le _)
    simpa using key
  · rw [decide_eq_false h, Bool.false_and]
    simp only [h, if_false]
    exact Ev.now false


def okS (l : List Int) : Bool := (decide (1 ≤ l.length) && decide (l.length ≤ 500)) && l.all (fun x => inB x (-100000) 100000)
theorem okS_len {l : List Int} (h : okS l = true) : 1 ≤ l.length ∧ l.length ≤ 500 := by
  unfold okS at h
  simp only [Bool.and_eq_true, decide_eq_true_eq] at h
  exact h.1
theorem okS_get {l : List Int} (h : okS l = true) (x : Int) (hx : x ∈ l) : -100000 ≤ x ∧ x ≤ 100000 := by
  unfold okS at h
  simp only [Bool.and_eq_true, decide_eq_true_eq] at h
  exact (inB_iff _ _ _).mp (List.all_eq_true.mp h.2 x hx)

theorem specSer_ev (l : List Int) (hl : l.length ≤ 1048576) : Ev (fun k => spec_l19Ok.f k l) (okS l) := by
  unfold spec_l19Ok.f okS
  by_cases h1 : 1 ≤ l.length
  · simp only [if_pos (show (l.length : Int) ≥ 1 by omega), decide_eq_true h1, Bool.true_and]
    by_cases h2 : l.length ≤ 500
    · simp only [if_pos (show (l.length : Int) ≤ 500 by omega), decide_eq_true h2, Bool.true_and]
      refine Ev_bind _ (specAll_ev l hl _ _ _) ?_
      unfold eachB
      simp only [decide_true, Bool.true_and]
      exact Ev.now _
    · simp only [if_neg (show ¬ (l.length : Int) ≤ 500 by omega), decide_eq_false h2, Bool.false_and]
      exact Ev.now _
  · simp only [if_neg (show ¬ (l.length : Int) ≥ 1 by omega), decide_eq_false h1, Bool.false_and]
    exact Ev.now _

theorem implSer_ev (l : List Int) (hl : l.length ≤ 1048576) : Ev (fun k => impl_seriesOk.f k l) (okS l) := by
  unfold impl_seriesOk.f okS
  simp only [implIn, Option.bind_some]
  cases h : inB (l.length : Int) 1 500 with
  | true =>
    have h' := (inB_iff _ _ _).mp h
    simp only [if_true]
    rw [decide_eq_true (show 1 ≤ l.length by omega), decide_eq_true (show l.length ≤ 500 by omega), Bool.true_and, Bool.true_and]
    refine Ev_bind _ (implEach_ev l hl _ _ _) ?_
    unfold eachB
    simp only [decide_true, Bool.true_and]
    exact Ev.now _
  | false =>
    have h' : ¬ (1 ≤ (l.length : Int) ∧ (l.length : Int) ≤ 500) := fun hh => by rw [(inB_iff _ _ _).mpr hh] at h; cases h
    have : (decide (1 ≤ l.length) && decide (l.length ≤ 500)) = false := by
      by_cases h1 : 1 ≤ l.length
      · rw [decide_eq_true h1, decide_eq_false (show ¬ l.length ≤ 500 by omega)]; rfl
      · rw [decide_eq_false h1]; rfl
    rw [this, Bool.false_and]
    simpa using Ev.now false


theorem specTop_ev (lim : List Int) (hl : lim.length ≤ 1048576) (x : Int) : Ev (fun k => spec_l22Top.f k lim x) (top lim x lim.length : Int) := by
  unfold spec_l22Top.f
  have key := Ev_up (fun k i => spec_l22Top.l0 k lim x (top lim x i : Int) (i : Int)) (fun _ => (top lim x lim.length : Int)) lim.length (by
      refine Ev.step (f := fun _ => some (top lim x lim.length : Int)) (fun k => ?_) (Ev.now _)
      simp only [spec_l22Top.l0]
      rw [if_neg (by omega)]) (by
      intro i hi ih
      refine Ev.step (fun k => ?_) ih
      simp only [spec_l22Top.l0]
      rw [if_pos (by omega), if_pos (by omega), w64 (n := (i : Int) + 1) (by omega) (by omega)]
      by_cases hc : rd lim (i : Int) ≤ x
      · rw [if_pos (show x ≥ rd lim (i : Int) from hc)]; simp only [top, if_pos hc]; rfl
      · rw [if_neg (show ¬ x ≥ rd lim (i : Int) from hc)]; simp only [top, if_neg hc]; rfl) 0 (Nat.zero_le _)
  exact key

theorem implTop_ev (lim : List Int) (hl : lim.length ≤ 1048576) (x : Int) : ∀ i : Nat, i ≤ lim.length → Ev (fun k => impl_Levels_1.f k lim x (i : Int)) (top lim x i : Int) := by
  intro i
  unfold impl_Levels_1.f
  induction i with
  | zero =>
    intro _
    refine Ev.step (f := fun _ => some 0) (fun k => ?_) (Ev.now _)
    simp only [impl_Levels_1.l0]
    rw [if_neg (by omega)]
  | succ i ih =>
    intro hi
    refine Ev.step (f := fun k => if x ≥ rd lim (i : Int) then some ((i + 1 : Nat) : Int) else impl_Levels_1.l0 k lim x (i : Int)) (fun k => ?_) ?_
    · simp only [impl_Levels_1.l0]
      rw [w64 (n := ((i + 1 : Nat) : Int) - 1) (by omega) (by omega), show ((i + 1 : Nat) : Int) - 1 = (i : Int) by omega, if_pos (by omega), if_pos (by omega), if_pos (by omega)]
    · by_cases hc : rd lim (i : Int) ≤ x
      · simp only [top, if_pos hc, if_pos (show x ≥ rd lim (i : Int) from hc)]; exact Ev.now _
      · simp only [top, if_neg hc, if_neg (show ¬ x ≥ rd lim (i : Int) from hc)]; exact ih (by omega)

/-- the limits of one level fit -/
def limI (on off : List Int) (i : Nat) : Bool := decide (rd off (i : Int) ≤ rd on (i : Int)) && (decide (i = 0) || (decide (rd on ((i : Int) - 1) < rd on (i : Int)) && decide (rd off ((i : Int) - 1) ≤ rd off (i : Int))))
def limF (on off : List Int) : Nat → Nat → Bool
  | 0, _ => true
  | d + 1, i => limI on off i && limF on off d (i + 1)
theorem limF_at (on off : List Int) (j : Nat) : ∀ d i, limF on off d i = true → i ≤ j → j < i + d → limI on off j = true := by
  intro d
  induction d with
  | zero => intro i _ h1 h2; omega
  | succ d ih =>
    intro i h h1 h2
    simp only [limF, Bool.and_eq_true] at h
    rcases Nat.eq_or_lt_of_le h1 with e | e
    · rw [← e]; exact h.1
    · exact ih (i + 1) h.2 (by omega) (by omega)
theorem limI_cases (on off : List Int) (i : Nat) :
    (rd off (i : Int) > rd on (i : Int) ∧ limI on off i = false) ∨
    (¬ rd off (i : Int) > rd on (i : Int) ∧ i = 0 ∧ limI on off i = true) ∨
    (¬ rd off (i : Int) > rd on (i : Int) ∧ 0 < i ∧ rd on (i : Int) ≤ rd on ((i : Int) - 1) ∧ limI on off i = false) ∨
    (¬ rd off (i : Int) > rd on (i : Int) ∧ 0 < i ∧ ¬ rd on (i : Int) ≤ rd on ((i : Int) - 1) ∧ rd off (i : Int) < rd off ((i : Int) - 1) ∧ limI on off i = false) ∨
    (¬ rd off (i : Int) > rd on (i : Int) ∧ 0 < i ∧ ¬ rd on (i : Int) ≤ rd on ((i : Int) - 1) ∧ ¬ rd off (i : Int) < rd off ((i : Int) - 1) ∧ limI on off i = true) := by
  unfold limI
  by_cases c1 : rd off (i : Int) > rd on (i : Int)
  · exact .inl ⟨c1, by rw [decide_eq_false (by omega), Bool.false_and]⟩
  · refine .inr ?_
    rw [decide_eq_true (show rd off (i : Int) ≤ rd on (i : Int) by omega), Bool.true_and]
    by_cases c2 : i = 0
    · exact .inl ⟨c1, c2, by rw [decide_eq_true c2, Bool.true_or]⟩
    · refine .inr ?_
      rw [decide_eq_false c2, Bool.false_or]
      by_cases c3 : rd on (i : Int) ≤ rd on ((i : Int) - 1)
      · exact .inl ⟨c1, by omega, c3, by rw [decide_eq_false (by omega), Bool.false_and]⟩
      · refine .inr ?_
        rw [decide_eq_true (show rd on ((i : Int) - 1) < rd on (i : Int) by omega), Bool.true_and]
        by_cases c4 : rd off (i : Int) < rd off ((i : Int) - 1)
        · exact .inl ⟨c1, by omega, c3, c4, decide_eq_false (by omega)⟩
        · exact .inr ⟨c1, by omega, c3, c4, decide_eq_true (by omega)⟩

theorem lims_ok {on off : List Int} {hold : Int} (h : ∀ j, j < on.length → limI on off j = true) (h1 : 1 ≤ hold) : LimOk on off on.length hold := by
  refine ⟨fun j hj => ?_, h1⟩
  have hj' := h (j + 1) hj
  rcases limI_cases on off (j + 1) with ⟨_, h⟩ | ⟨_, h, _⟩ | ⟨_, _, _, h⟩ | ⟨_, _, _, _, h⟩ | ⟨_, _, _, h, _⟩
  · rw [h] at hj'; cases hj'
  · omega
  · rw [h] at hj'; cases hj'
  · rw [h] at hj'; cases hj'
  · rw [show ((j + 1 : Nat) : Int) - 1 = (j : Int) by omega] at h; omega

def limB (on off : List Int) (hold : Int) : Bool := inB (on.length : Int) 1 5 && (eachB on (on.length : Int) (-100000) 100000 && (eachB off (on.length : Int) (-100000) 100000 && (inB hold 1 100 && limF on off on.length 0)))
theorem limB_ok {on off : List Int} {hold : Int} (h : limB on off hold = true) : 1 ≤ on.length ∧ on.length ≤ 5 ∧ off.length = on.length ∧ 1 ≤ hold ∧ hold ≤ 100 ∧ LimOk on off on.length hold := by
  unfold limB at h
  simp only [Bool.and_eq_true] at h
  obtain ⟨h1, _, h3, h4, h5⟩ := h
  have h1' := (inB_iff _ _ _).mp h1
  have h4' := (inB_iff _ _ _).mp h4
  unfold eachB at h3
  simp only [Bool.and_eq_true, decide_eq_true_eq] at h3
  exact ⟨by omega, by omega, by omega, h4'.1, h4'.2, lims_ok (fun j hj => limF_at on off j on.length 0 h5 (by omega) (by omega)) h4'.1⟩

theorem specLims_ev (on off : List Int) (hn : on.length ≤ 5) (ho : off.length = on.length) : ∀ d i : Nat, i + d = on.length → Ev (fun k => spec_l22LimitsOk.l0 k on off (i : Int)) (limF on off d i) := by
  intro d
  induction d with
  | zero =>
    intro i hi
    refine Ev.step (f := fun _ => some true) (fun k => ?_) (Ev.now _)
    simp only [spec_l22LimitsOk.l0]
    rw [if_neg (by omega)]
  | succ d ih =>
    intro i hi
    have ih' := ih (i + 1) (by omega)
    simp only [limF]
    have w1 : wrap64 ((i : Int) + 1) = ((i + 1 : Nat) : Int) := w64 (by omega) (by omega)
    have w2 : wrap64 ((i : Int) - 1) = (i : Int) - 1 := w64 (by omega) (by omega)
    rcases limI_cases on off i with ⟨c1, e⟩ | ⟨c1, c2, e⟩ | ⟨c1, c2, c3, e⟩ | ⟨c1, c2, c3, c4, e⟩ | ⟨c1, c2, c3, c4, e⟩ <;> rw [e]
    · refine Ev.step (f := fun _ => some false) (fun k => ?_) (Ev.now _)
      simp only [spec_l22LimitsOk.l0]
      rw [if_pos (by omega), if_pos (by omega), if_pos (by omega), if_pos c1]
    · rw [Bool.true_and]
      refine Ev.step (fun k => ?_) ih'
      simp only [spec_l22LimitsOk.l0]
      rw [if_pos (by omega), if_pos (by omega), if_pos (by omega), if_neg c1, if_neg (by omega), w1]
    · refine Ev.step (f := fun _ => some false) (fun k => ?_) (Ev.now _)
      simp only [spec_l22LimitsOk.l0]
      rw [w2, if_pos (by omega), if_pos (by omega), if_pos (by omega), if_neg c1, if_pos (by omega), if_pos (by omega), if_pos (by omega), if_pos c3]
    · refine Ev.step (f := fun _ => some false) (fun k => ?_) (Ev.now _)
      simp only [spec_l22LimitsOk.l0]
      rw [w2, if_pos (by omega), if_pos (by omega), if_pos (by omega), if_neg c1, if_pos (by omega), if_pos (by omega), if_pos (by omega), if_neg c3, if_pos (by omega), if_pos c4]
    · rw [Bool.true_and]
      refine Ev.step (fun k => ?_) ih'
      simp only [spec_l22LimitsOk.l0]
      rw [w2, if_pos (by omega), if_pos (by omega), if_pos (by omega), if_neg c1, if_pos (by omega), if_pos (by omega), if_pos (by omega), if_neg c3, if_pos (by omega), if_neg c4, w1]

theorem implLims_ev (xs on off : List Int) (hold : Int) (hn : on.length ≤ 5) (ho : off.length = on.length) (r : List Int × Bool)
    (hend : (∀ j, j < on.length → limI on off j = true) → Ev (fun k => impl_Levels.l1 k on off hold 0 0 [] xs (xs.length : Int) 0 (on.length : Int)) r) : ∀ d i : Nat, i + d = on.length → (∀ j, j < i → limI on off j = true) → Ev (fun k => impl_Levels.l0 k xs on off hold (on.length : Int) (i : Int) (on.length : Int)) (cond (limF on off d i) r ([], false)) := by
  intro d
  induction d with
  | zero =>
    intro i hi hbef
    simp only [limF, cond_true]
    refine Ev.step (fun k => ?_) (hend (fun j hj => hbef j (by omega)))
    simp only [impl_Levels.l0]
    rw [if_neg (by omega)]
  | succ d ih =>
    intro i hi hbef
    have ih' : limI on off i = true → _ := fun e => ih (i + 1) (by omega) (fun j hj => by
      rcases Nat.lt_or_ge j i with h | h
      · exact hbef j h
      · rw [show j = i by omega]; exact e)
    simp only [limF]
    have w1 : wrap64 ((i : Int) + 1) = ((i + 1 : Nat) : Int) := w64 (by omega) (by omega)
    have w2 : wrap64 ((i : Int) - 1) = (i : Int) - 1 := w64 (by omega) (by omega)
    have bad : Ev (fun _ => some (([] : List Int), false)) (cond (false && limF on off d (i + 1)) r ([], false)) := Ev.now _
    rcases limI_cases on off i with ⟨c1, e⟩ | ⟨c1, c2, e⟩ | ⟨c1, c2, c3, e⟩ | ⟨c1, c2, c3, c4, e⟩ | ⟨c1, c2, c3, c4, e⟩ <;> have e' := e <;> rw [e]
    · refine Ev.step (fun k => ?_) bad
      simp only [impl_Levels.l0]
      rw [if_pos (by omega), if_pos (by omega), if_pos (by omega), if_pos (by omega), if_pos c1]
    · rw [Bool.true_and]
      refine Ev.step (fun k => ?_) (ih' e')
      simp only [impl_Levels.l0]
      rw [if_pos (by omega), if_pos (by omega), if_pos (by omega), if_pos (by omega), if_neg c1, if_neg (by omega), w1]
    · refine Ev.step (fun k => ?_) bad
      simp only [impl_Levels.l0]
      rw [w2, if_pos (by omega), if_pos (by omega), if_pos (by omega), if_pos (by omega), if_neg c1, if_pos (by omega), if_pos (by omega), if_pos (by omega), if_pos c3]
    · refine Ev.step (fun k => ?_) bad
      simp only [impl_Levels.l0]
      rw [w2, if_pos (by omega), if_pos (by omega), if_pos (by omega), if_pos (by omega), if_neg c1, if_pos (by omega), if_pos (by omega), if_pos (by omega), if_neg c3, if_pos (by omega), if_pos c4]
    · rw [Bool.true_and]
      refine Ev.step (fun k => ?_) (ih' e')
      simp only [impl_Levels.l0]
      rw [w2, if_pos (by omega), if_pos (by omega), if_pos (by omega), if_pos (by omega), if_neg c1, if_pos (by omega), if_pos (by omega), if_pos (by omega), if_neg c3, if_pos (by omega), if_neg c4, w1]

theorem specLim_ev (on off : List Int) (hold : Int) (hn : on.length ≤ 1048576) (ho : off.length ≤ 1048576) : Ev (fun k => spec_l22LimitsOk.f k on off hold) (limB on off hold) := by
  have bad : Ev (fun k => spec_l22LimitsOk.j0 k on off true) false :=
    Ev.step (f := fun _ => some false) (fun k => by simp only [spec_l22LimitsOk.j0]; rfl) (Ev.now _)
  unfold spec_l22LimitsOk.f limB
  cases h : inB (on.length : Int) 1 5 with
  | false =>
    have h' : ¬ (1 ≤ (on.length : Int) ∧ (on.length : Int) ≤ 5) := fun hh => by rw [(inB_iff _ _ _).mpr hh] at h; cases h
    rw [Bool.false_and]
    by_cases c : (on.length : Int) < 1
    · simp only [if_pos c]; exact bad
    · simp only [if_neg c, if_pos (show (on.length : Int) > 5 by omega)]; exact bad
  | true =>
    have h' := (inB_iff _ _ _).mp h
    rw [Bool.true_and]
    simp only [if_neg (show ¬ (on.length : Int) < 1 by omega), if_neg (show ¬ (on.length : Int) > 5 by omega)]
    refine Ev_bind _ (specAll_ev on hn _ _ _) ?_
    cases h2 : eachB on (on.length : Int) (-100000) 100000 with
    | false => simpa using bad
    | true =>
      simp only [if_true, Bool.true_and]
      refine Ev_bind _ (specAll_ev off ho _ _ _) ?_
      cases h3 : eachB off (on.length : Int) (-100000) 100000 with
      | false => simpa using bad
      | true =>
        have h3' := h3
        unfold eachB at h3'
        simp only [Bool.and_eq_true, decide_eq_true_eq] at h3'
        simp only [if_true, Bool.true_and, specIn, Option.bind_some]
        cases h4 : inB hold 1 100 with
        | false => simpa using bad
        | true =>
          simp only [Bool.not_true, Bool.true_and]
          exact Ev.step (f := fun k => spec_l22LimitsOk.l0 k on off 0) (fun k => by simp only [spec_l22LimitsOk.j0]; rfl) (specLims_ev on off (by omega) (by omega) on.length 0 (by omega))

section
variable {xs on off : List Int} {hold : Int}
theorem specLoop_ev (hx : xs.length ≤ 500) (hn : on.length ≤ 5) (ho : off.length = on.length) (hh : hold ≤ 100) (hl : LimOk on off on.length hold) :
    Ev (fun k => spec_Levels.l0 k xs on off hold [] 0 0 0) (lvs on off on.length hold xs xs.length, true) := by
  have key := Ev_up (fun k i => spec_Levels.l0 k xs on off hold (lvs on off on.length hold xs i) ((lv on off on.length hold xs i).1 : Int) (lv on off on.length hold xs i).2 (i : Int)) (fun _ => (lvs on off on.length hold xs xs.length, true)) xs.length (by
      refine Ev.step (f := fun _ => some (lvs on off on.length hold xs xs.length, true)) (fun k => ?_) (Ev.now _)
      simp only [spec_Levels.l0]
      rw [if_neg (by omega)]) (by
      intro i hi ih
      have hb := lv_bd hl xs i
      rw [lvs_succ] at ih
      have hlen : (lvs on off on.length hold xs i).length < 17592186044416 := by rw [lvs_len]; omega
      have e : lv on off on.length hold xs (i + 1) = stp on off on.length hold (rd xs (i : Int)) (lv on off on.length hold xs i) := rfl
      rw [e] at ih
      generalize lvs on off on.length hold xs i = L at ih hlen ⊢
      generalize lv on off on.length hold xs i = s at ih hb ⊢
      have w1 : wrap64 ((i : Int) + 1) = ((i + 1 : Nat) : Int) := w64 (by omega) (by omega)
      have w2 : wrap64 ((s.1 : Int) - 1) = (s.1 : Int) - 1 := w64 (by omega) (by omega)
      have w3 : wrap64 (s.2 + 1) = s.2 + 1 := w64 (by omega) (by omega)
      apply Ev.step
      · intro k
        simp only [spec_Levels.l0]
        rw [if_pos (by omega), if_pos (by omega), w1, w2]
      refine Ev_bind _ (specTop_ev on (by omega) _) ?_
      unfold stp at ih
      by_cases c1 : s.1 < top on (rd xs (i : Int)) on.length
      · simp only [if_pos c1] at ih
        simp only [if_pos (show ((top on (rd xs (i : Int)) on.length : Nat) : Int) > (s.1 : Int) by omega)]
        refine Ev_bind _ (specTop_ev on (by omega) _) ?_
        simp only [if_pos hlen]
        exact ih
      · simp only [if_neg c1] at ih
        simp only [if_neg (show ¬ ((top on (rd xs (i : Int)) on.length : Nat) : Int) > (s.1 : Int) by omega)]
        have j2f : ((0 < s.1 ∧ rd xs (i : Int) < rd off ((s.1 : Int) - 1)) → False) → Ev (fun k => spec_Levels.j2 k xs on off hold L (s.1 : Int) s.2 (i : Int) (rd xs (i : Int)) false) (lvs on off on.length hold xs xs.length, true) := by
          intro hc
          simp only [if_neg (show ¬ (0 < s.1 ∧ rd xs (i : Int) < rd off ((s.1 : Int) - 1)) from hc)] at ih
          refine Ev.step (fun k => ?_) ih
          simp only [spec_Levels.j2]
          rw [if_neg (by simp), if_pos hlen, w1]
        by_cases c2 : 0 < s.1
        · simp only [if_pos (show (s.1 : Int) > 0 by omega), if_pos (show 0 ≤ (s.1 : Int) - 1 by omega), if_pos (show (s.1 : Int) - 1 < (off.length : Int) by omega)]
          by_cases c3 : rd xs (i : Int) < rd off ((s.1 : Int) - 1)
          · simp only [decide_eq_true c3]
            simp only [if_pos (show 0 < s.1 ∧ rd xs (i : Int) < rd off ((s.1 : Int) - 1) from ⟨c2, c3⟩)] at ih
            by_cases c4 : s.2 + 1 = hold
            · simp only [if_pos c4] at ih
              apply Ev.step
              · intro k
                simp only [spec_Levels.j2]
                rw [if_pos True.intro, w3, if_pos c4, w1]
              have ht := specTop_ev off (by omega) (rd xs (i : Int))
              rw [ho] at ht
              refine Ev_bind _ ht ?_
              simp only [if_pos hlen]
              exact ih
            · simp only [if_neg c4] at ih
              refine Ev.step (fun k => ?_) ih
              simp only [spec_Levels.j2]
              rw [if_pos True.intro, w3, if_neg c4, if_pos hlen, w1]
          · simp only [decide_eq_false c3]
            exact j2f (fun h => c3 h.2)
        · simp only [if_neg (show ¬ (s.1 : Int) > 0 by omega)]
          exact j2f (fun h => c2 h.1)) 0 (Nat.zero_le _)
  exact key

theorem implLoop_ev (hx : xs.length ≤ 500) (hn : on.length ≤ 5) (ho : off.length = on.length) (hh : hold ≤ 100) (hl : LimOk on off on.length hold) :
    Ev (fun k => impl_Levels.l1 k on off hold 0 0 [] xs (xs.length : Int) 0 (on.length : Int)) (lvs on off on.length hold xs xs.length, true) := by
  have key := Ev_up (fun k i => impl_Levels.l1 k on off hold ((lv on off on.length hold xs i).1 : Int) (lv on off on.length hold xs i).2 (lvs on off on.length hold xs i) xs (xs.length : Int) (i : Int) (on.length : Int)) (fun _ => (lvs on off on.length hold xs xs.length, true)) xs.length (by
      refine Ev.step (f := fun _ => some (lvs on off on.length hold xs xs.length, true)) (fun k => ?_) (Ev.now _)
      simp only [impl_Levels.l1]
      rw [if_neg (by omega)]) (by
      intro i hi ih
      have hb := lv_bd hl xs i
      rw [lvs_succ] at ih
      have hlen : (lvs on off on.length hold xs i).length < 17592186044416 := by rw [lvs_len]; omega
      have e : lv on off on.length hold xs (i + 1) = stp on off on.length hold (rd xs (i : Int)) (lv on off on.length hold xs i) := rfl
      rw [e] at ih
      generalize lvs on off on.length hold xs i = L at ih hlen ⊢
      generalize lv on off on.length hold xs i = s at ih hb ⊢
      have w1 : wrap64 ((i : Int) + 1) = ((i + 1 : Nat) : Int) := w64 (by omega) (by omega)
      have w2 : wrap64 ((s.1 : Int) - 1) = (s.1 : Int) - 1 := w64 (by omega) (by omega)
      have w3 : wrap64 (s.2 + 1) = s.2 + 1 := w64 (by omega) (by omega)
      apply Ev.step
      · intro k
        simp only [impl_Levels.l1]
        rw [if_pos (by omega), if_pos (by omega), if_pos (by omega), w1, w2]
      refine Ev_bind _ (implTop_ev on (by omega) _ on.length (Nat.le_refl _)) ?_
      unfold stp at ih
      by_cases c1 : s.1 < top on (rd xs (i : Int)) on.length
      · simp only [if_pos c1] at ih
        simp only [if_pos (show ((top on (rd xs (i : Int)) on.length : Nat) : Int) > (s.1 : Int) by omega)]
        simp only [if_pos hlen]
        exact ih
      · simp only [if_neg c1] at ih
        simp only [if_neg (show ¬ ((top on (rd xs (i : Int)) on.length : Nat) : Int) > (s.1 : Int) by omega)]
        have j3f : ((0 < s.1 ∧ rd xs (i : Int) < rd off ((s.1 : Int) - 1)) → False) → Ev (fun k => impl_Levels.j3 k on off hold (s.1 : Int) s.2 L (rd xs (i : Int)) xs (xs.length : Int) (i : Int) false (on.length : Int)) (lvs on off on.length hold xs xs.length, true) := by
          intro hc
          simp only [if_neg (show ¬ (0 < s.1 ∧ rd xs (i : Int) < rd off ((s.1 : Int) - 1)) from hc)] at ih
          refine Ev.step (fun k => ?_) ih
          simp only [impl_Levels.j3]
          rw [if_neg (by simp), if_pos hlen, w1]
        by_cases c2 : 0 < s.1
        · simp only [if_pos (show (s.1 : Int) > 0 by omega), if_pos (show 0 ≤ (s.1 : Int) - 1 by omega), if_pos (show (s.1 : Int) - 1 < (off.length : Int) by omega)]
          by_cases c3 : rd xs (i : Int) < rd off ((s.1 : Int) - 1)
          · simp only [decide_eq_true c3]
            simp only [if_pos (show 0 < s.1 ∧ rd xs (i : Int) < rd off ((s.1 : Int) - 1) from ⟨c2, c3⟩)] at ih
            by_cases c4 : s.2 + 1 = hold
            · simp only [if_pos c4] at ih
              apply Ev.step
              · intro k
                simp only [impl_Levels.j3]
                rw [if_pos True.intro, w3, if_pos c4, w1]
              refine Ev_bind _ (implTop_ev off (by omega) (rd xs (i : Int)) on.length (by omega)) ?_
              simp only [if_pos hlen]
              exact ih
            · simp only [if_neg c4] at ih
              refine Ev.step (fun k => ?_) ih
              simp only [impl_Levels.j3]
              rw [if_pos True.intro, w3, if_neg c4, if_pos hlen, w1]
          · simp only [decide_eq_false c3]
            exact j3f (fun h => c3 h.2)
        · simp only [if_neg (show ¬ (s.1 : Int) > 0 by omega)]
          exact j3f (fun h => c2 h.1)) 0 (Nat.zero_le _)
  exact key
end

def levB (xs on off : List Int) (hold : Int) : Bool := okS xs && limB on off hold
def levR (xs on off : List Int) (hold : Int) : List Int × Bool := if levB xs on off hold = true then (lvs on off on.length hold xs xs.length, true) else ([], false)
theorem levR_snd (xs on off : List Int) (hold : Int) : (levR xs on off hold).2 = levB xs on off hold := by
  unfold levR
  cases levB xs on off hold with
  | true => rfl
  | false => rfl

theorem specLevels_ev (xs on off : List Int) (hold : Int) (hx : xs.length ≤ 1048576) (hn : on.length ≤ 1048576) (ho : off.length ≤ 1048576) : Ev (fun k => spec_Levels.f k xs on off hold) (levR xs on off hold) := by
  have bad : Ev (fun k => spec_Levels.j0 k xs on off hold [] true) ([], false) :=
    Ev.step (f := fun _ => some ([], false)) (fun k => by simp only [spec_Levels.j0]; rfl) (Ev.now _)
  unfold spec_Levels.f levR levB
  simp only [Option.bind_some]
  refine Ev_bind _ (specSer_ev xs hx) ?_
  cases h1 : okS xs with
  | false => simpa using bad
  | true =>
    simp only [if_true, Bool.true_and]
    refine Ev_bind _ (specLim_ev on off hold hn ho) ?_
    cases h2 : limB on off hold with
    | false => simpa using bad
    | true =>
      obtain ⟨_, q2, q3, _, q5, q6⟩ := limB_ok h2
      simp only [Bool.not_true, if_true]
      exact Ev.step (f := fun k => spec_Levels.l0 k xs on off hold [] 0 0 0) (fun k => by simp only [spec_Levels.j0]; rfl) (specLoop_ev (okS_len h1).2 q2 q3 q5 q6)

theorem implLevels_ev (xs on off : List Int) (hold : Int) (hx : xs.length ≤ 1048576) (hn : on.length ≤ 1048576) (ho : off.length ≤ 1048576) : Ev (fun k => impl_Levels.f k xs on off hold) (levR xs on off hold) := by
  have bad : Ev (fun k => impl_Levels.j0 k xs on off hold true (on.length : Int)) ([], false) :=
    Ev.step (f := fun _ => some ([], false)) (fun k => by simp only [impl_Levels.j0]; rfl) (Ev.now _)
  unfold impl_Levels.f levR levB
  refine Ev_bind _ (implSer_ev xs hx) ?_
  cases h1 : okS xs with
  | false => simpa using bad
  | true =>
    simp only [if_true, Bool.true_and, implIn, Option.bind_some]
    unfold limB
    cases h2 : inB (on.length : Int) 1 5 with
    | false => simpa using bad
    | true =>
      simp only [if_true, Bool.true_and]
      refine Ev_bind _ (implEach_ev on hn _ _ _) ?_
      cases h3 : eachB on (on.length : Int) (-100000) 100000 with
      | false => simpa using bad
      | true =>
        simp only [if_true, Bool.true_and]
        refine Ev_bind _ (implEach_ev off ho _ _ _) ?_
        cases h4 : eachB off (on.length : Int) (-100000) 100000 with
        | false => simpa using bad
        | true =>
          simp only [if_true, Bool.true_and]
          cases h5 : inB hold 1 100 with
          | false => simpa using bad
          | true =>
            have h2' := (inB_iff _ _ _).mp h2
            have h5' := (inB_iff _ _ _).mp h5
            have h4' := h4
            unfold eachB at h4'
            simp only [Bool.and_eq_true, decide_eq_true_eq] at h4'
            simp only [Bool.not_true, Bool.true_and]
            refine Ev.step (f := fun k => impl_Levels.l0 k xs on off hold (on.length : Int) 0 (on.length : Int)) (fun k => by simp only [impl_Levels.j0]; rfl) ?_
            have := implLims_ev xs on off hold (by omega) (by omega) _ (fun hall => implLoop_ev (okS_len h1).2 (by omega) (by omega) h5'.2 (lims_ok hall h5'.1)) on.length 0 (by omega) (fun j hj => by omega)
            cases h6 : limF on off on.length 0 with
            | true => rw [h6] at this; exact this
            | false => rw [h6] at this; simpa using this
end Go.Proofs.Ytmjfmhbklifafaa.QFnSteady
