/- What the program's own functions on next rows and waters compute: plain functions on lists of whole numbers. No condition but the sizes that are named. -/
import Derived.Test.YtopfdmodbhopiaaIntLibFnWaterBook
import Derived.Test.YtopfdmodbhopiaaWaterMath
set_option linter.unusedVariables false
set_option linter.unusedSimpArgs false
namespace Go.Proofs.Ytopfdmodbhopiaa.QFnWaterBook
open Go.RowKit Go.Proofs.YtopfdmodbhopiaaW.PrintWords Go.Proofs.Ytopfdmodbhopiaa.Opn Go.Proofs.Ytopfdmodbhopiaa.Pl Go.Proofs.Ytopfdmodbhopiaa.Wm

theorem up_ind {P : Nat → Prop} (n : Nat) (hend : P n) (hstep : ∀ i, i < n → P (i + 1) → P i) : ∀ i, i ≤ n → P i := by
  have key : ∀ d i, i + d = n → P i := by
    intro d
    induction d with
    | zero => intro i hi; rw [show i = n by omega]; exact hend
    | succ d ih => intro i hi; exact hstep i (by omega) (ih (i + 1) (by omega))
  intro i hi
  exact key (n - i) i (by omega)

theorem last_ev (next : List Int) (hl : next.length ≤ 576) (hn : Into next) : ∀ r, r ≤ next.length + 1 → ∀ x, 0 ≤ x → x < (next.length : Int) →
    Ev (fun k => spec_l13Last.l0 k next x (((next.length + 1 - r : Nat)) : Int)) (lastC next r x, lastB next r x) := by
  intro r
  induction r with
  | zero =>
    intro _ x h0 h1
    refine Ev.step (f := fun _ => some (0, false)) (fun k => ?_) (Ev.now _)
    simp only [spec_l13Last.l0]
    rw [if_neg (by omega)]
  | succ r ih =>
    intro hr x h0 h1
    have h2 := hn x h0 h1
    simp only [lastC, lastB]
    refine Ev.step (f := fun k => if rd next x = -1 then some (x, true) else spec_l13Last.l0 k next (rd next x) (((next.length + 1 - r : Nat)) : Int)) (fun k => ?_) ?_
    · simp only [spec_l13Last.l0]
      rw [if_pos (by omega), if_pos (by omega), if_pos (by omega), w64 (by omega) (by omega), show ((next.length + 1 - (r + 1) : Nat) : Int) + 1 = ((next.length + 1 - r : Nat) : Int) by omega]
    · by_cases h : rd next x = -1
      · simp only [if_pos h]; exact Ev.now _
      · simp only [if_neg h]; exact ih (by omega) _ (by omega) (by omega)

theorem specOk_ev (next : List Int) (hs : next.length ≤ 1048576) : Ev (fun k => spec_l13Ok.f k next) (okN next) := by
  unfold spec_l13Ok.f okN
  by_cases hl : next.length ≤ 576
  · rw [decide_eq_true hl, Bool.true_and]
    simp only [if_neg (show ¬ (next.length : Int) > 576 by omega)]
    by_cases hi : next.all (fun x => decide (-1 ≤ x) && decide (x ≤ (next.length : Int) - 1)) = true
    · have hn := into_of next hi
      have fin := Ev_up (fun k i => spec_l13Ok.l1 k next (i : Int)) (fun i => ((List.range next.length).drop i).all (fun c => lastB next next.length (c : Int))) next.length (by
        refine Ev.step (f := fun _ => some true) (fun k => ?_) (by rw [range_done]; exact Ev.now true)
        simp only [spec_l13Ok.l1]
        rw [if_neg (by omega)]) (by
        intro i hi ih
        have h1 := last_ev next hl hn (next.length + 1) (Nat.le_refl _) (i : Int) (by omega) (by omega)
        rw [Nat.sub_self, last_short next hn _ (by omega) (by omega)] at h1
        refine Ev.step (f := fun k => (spec_l13Last.f k next (i : Int)).bind fun bt107 => if bt107.2 = true then spec_l13Ok.l1 k next ((i + 1 : Nat) : Int) else some false) (fun k => ?_) ?_
        · simp only [spec_l13Ok.l1]
          rw [if_pos (by omega), w64 (by omega) (by omega)]
          rfl
        · refine Ev_bind _ h1 ?_
          rw [range_drop _ i hi]
          cases hb : lastB next next.length (i : Int) with
          | true => simpa using ih
          | false => simpa using Ev.now false) 0 (Nat.zero_le _)
      have key := Ev_up (fun k i => spec_l13Ok.l0 k next (i : Int)) (fun _ => (List.range next.length).all (fun c => lastB next next.length (c : Int))) next.length (by
        refine Ev.step (f := fun k => spec_l13Ok.l1 k next 0) (fun k => ?_) (by simpa using fin)
        simp only [spec_l13Ok.l0]
        rw [if_neg (by omega)]) (by
        intro i hi' ih
        have h2 := hn (i : Int) (by omega) (by omega)
        refine Ev.step (fun k => ?_) ih
        simp only [spec_l13Ok.l0]
        rw [if_pos (by omega), if_pos (by omega), specIn, w64 (n := (next.length : Int) - 1) (by omega) (by omega), (inB_iff _ _ _).mpr h2, w64 (by omega) (by omega)]
        rfl) 0 (Nat.zero_le _)
      rw [hi, Bool.true_and]
      exact key
    · rw [Bool.eq_false_iff.mpr hi, Bool.false_and]
      have key := Ev_up (fun k i => spec_l13Ok.l0 k next (i : Int)) (fun i => false) next.length
      have key2 := up_ind (P := fun i => (next.drop i).all (fun x => decide (-1 ≤ x) && decide (x ≤ (next.length : Int) - 1)) = false → Ev (fun k => spec_l13Ok.l0 k next (i : Int)) false) next.length (by
        intro h; simp at h) (by
        intro i hi' ih h
        refine Ev.step (f := fun k => if inB next[i] (-1) ((next.length : Int) - 1) = true then spec_l13Ok.l0 k next ((i + 1 : Nat) : Int) else some false) (fun k => ?_) ?_
        · simp only [spec_l13Ok.l0]
          rw [if_pos (by omega), if_pos (by omega), specIn, rd_lt next i hi', w64 (n := (next.length : Int) - 1) (by omega) (by omega), w64 (by omega) (by omega)]
          rfl
        · rw [mem_range_get next _ i hi'] at h
          cases hb : inB next[i] (-1) ((next.length : Int) - 1) with
          | true =>
            have hb' : (decide (-1 ≤ next[i]) && decide (next[i] ≤ (next.length : Int) - 1)) = true := hb
            rw [hb', Bool.true_and] at h
            simpa using ih h
          | false => simpa using Ev.now false) 0 (Nat.zero_le _)
      simpa using key2 (by simpa using Bool.eq_false_iff.mpr hi)
  · rw [decide_eq_false hl, Bool.false_and]
    simp only [if_pos (show (next.length : Int) > 576 by omega)]
    exact Ev.now false

theorem walk_ev (next : List Int) (hl : next.length ≤ 576) (hn : Into next) (c : Int) : ∀ r, r ≤ next.length → ∀ x v, -1 ≤ x → x < (next.length : Int) → v.length = next.length →
    ((walkB next r x = true → ∃ v', v'.length = next.length ∧ ∀ R, Ev (fun k => impl_Catch.l1 k next (next.length : Int) v' (wrap64 (c + 1))) R → Ev (fun k => impl_Catch.l2 k next (next.length : Int) v c (((next.length - r : Nat)) : Int) x) R)
     ∧ (walkB next r x = false → Ev (fun k => impl_Catch.l2 k next (next.length : Int) v c (((next.length - r : Nat)) : Int) x) ([], false))) := by
  intro r
  induction r with
  | zero =>
    intro _ x v h0 h1 hv
    simp only [walkB]
    by_cases h : x < 0
    · rw [decide_eq_true h]
      refine ⟨fun _ => ⟨v, hv, fun R hR => ?_⟩, fun hh => by cases hh⟩
      refine Ev.step (fun k => ?_) hR
      simp only [impl_Catch.l2]
      rw [if_neg (by omega)]
    · rw [decide_eq_false h]
      refine ⟨fun hh => (by cases hh), fun _ => ?_⟩
      refine Ev.step (f := fun _ => some ([], false)) (fun k => ?_) (Ev.now _)
      simp only [impl_Catch.l2]
      rw [if_pos (by omega), if_pos (by omega), if_pos (by omega), w64 (by omega) (by omega), if_pos (by omega)]
  | succ r ih =>
    intro hr x v h0 h1 hv
    simp only [walkB]
    by_cases h : x < 0
    · rw [if_pos h]
      refine ⟨fun _ => ⟨v, hv, fun R hR => ?_⟩, fun hh => by cases hh⟩
      refine Ev.step (fun k => ?_) hR
      simp only [impl_Catch.l2]
      rw [if_neg (by omega)]
    · rw [if_neg h]
      have h2 := hn x (by omega) h1
      have e : ∀ k, impl_Catch.l2 (k + 1) next (next.length : Int) v c (((next.length - (r + 1) : Nat)) : Int) x = impl_Catch.l2 k next (next.length : Int) (v.set x.toNat (wrap64 (rd v x + 1))) c (((next.length - r : Nat)) : Int) (rd next x) := by
        intro k
        simp only [impl_Catch.l2]
        rw [if_pos (by omega), if_pos (by omega), if_pos (by omega), w64 (n := ((next.length - (r + 1) : Nat) : Int) + 1) (by omega) (by omega), if_neg (by omega), if_pos (by omega), show ((next.length - (r + 1) : Nat) : Int) + 1 = ((next.length - r : Nat) : Int) by omega]
      have h3 := ih (by omega) (rd next x) (v.set x.toNat (wrap64 (rd v x + 1))) (by omega) (by omega) (by simpa using hv)
      refine ⟨fun hh => ?_, fun hh => ?_⟩
      · obtain ⟨v', hv', hR⟩ := h3.1 hh
        exact ⟨v', hv', fun R hR' => Ev.step e (hR R hR')⟩
      · exact Ev.step e (h3.2 hh)

theorem catch_ev (next : List Int) (hs : next.length ≤ 1048576) : ∃ v, Ev (fun k => impl_Catch.f k next) (v, okN next) := by
  unfold impl_Catch.f okN
  by_cases hl : next.length ≤ 576
  · rw [decide_eq_true hl, Bool.true_and]
    simp only [if_neg (show ¬ (next.length : Int) > 576 by omega)]
    by_cases hi : next.all (fun x => decide (-1 ≤ x) && decide (x ≤ (next.length : Int) - 1)) = true
    · have hn := into_of next hi
      have fin := up_ind (P := fun i => ∀ v : List Int, v.length = next.length → ∃ v', Ev (fun k => impl_Catch.l1 k next (next.length : Int) v (i : Int)) (v', ((List.range next.length).drop i).all (fun c => lastB next next.length (c : Int)))) next.length (by
        intro v hv
        refine ⟨v, Ev.step (f := fun _ => some (v, true)) (fun k => ?_) (by rw [range_done]; exact Ev.now (v, true))⟩
        simp only [impl_Catch.l1]
        rw [if_neg (by omega)]) (by
        intro i hi ih v hv
        have hw := walk_ev next hl hn (i : Int) next.length (Nat.le_refl _) (i : Int) v (by omega) (by omega) hv
        rw [Nat.sub_self, walk_last next hn _ _ (by omega) (by omega), w64 (by omega) (by omega)] at hw
        have e : ∀ k, impl_Catch.l1 (k + 1) next (next.length : Int) v (i : Int) = impl_Catch.l2 k next (next.length : Int) v (i : Int) ((0 : Nat) : Int) (i : Int) := by
          intro k
          simp only [impl_Catch.l1]
          rw [if_pos (by omega)]
          rfl
        rw [range_drop _ i hi]
        cases hb : lastB next next.length (i : Int) with
        | true =>
          obtain ⟨v', hv', hR⟩ := hw.1 hb
          obtain ⟨v2, h2⟩ := ih v' hv'
          exact ⟨v2, Ev.step e (by simpa using hR _ h2)⟩
        | false => exact ⟨[], Ev.step e (by simpa using hw.2 hb)⟩) 0 (Nat.zero_le _)
      obtain ⟨v', h'⟩ := fin (List.replicate next.length 0) (by simp)
      rw [hi, Bool.true_and]
      refine ⟨v', ?_⟩
      have key := Ev_up (fun k i => impl_Catch.l0 k next (next.length : Int) next (next.length : Int) (i : Int)) (fun _ => (v', (List.range next.length).all (fun c => lastB next next.length (c : Int)))) next.length (by
        refine Ev.step (f := fun k => impl_Catch.l1 k next (next.length : Int) (List.replicate next.length 0) 0) (fun k => ?_) (by simpa using h')
        simp only [impl_Catch.l0]
        rw [if_neg (by omega), if_pos (by omega), Int.toNat_natCast, if_pos (by omega)]) (by
        intro i hi' ih
        have h2 := hn (i : Int) (by omega) (by omega)
        refine Ev.step (fun k => ?_) ih
        simp only [impl_Catch.l0]
        rw [if_pos (by omega), if_pos (by omega), if_pos (by omega), implIn, w64 (n := (next.length : Int) - 1) (by omega) (by omega), (inB_iff _ _ _).mpr h2, w64 (by omega) (by omega)]
        rfl) 0 (Nat.zero_le _)
      exact key
    · rw [Bool.eq_false_iff.mpr hi, Bool.false_and]
      have key2 := up_ind (P := fun i => (next.drop i).all (fun x => decide (-1 ≤ x) && decide (x ≤ (next.length : Int) - 1)) = false → Ev (fun k => impl_Catch.l0 k next (next.length : Int) next (next.length : Int) (i : Int)) ([], false)) next.length (by
        intro h; simp at h) (by
        intro i hi' ih h
        refine Ev.step (f := fun k => if inB next[i] (-1) ((next.length : Int) - 1) = true then impl_Catch.l0 k next (next.length : Int) next (next.length : Int) ((i + 1 : Nat) : Int) else some ([], false)) (fun k => ?_) ?_
        · simp only [impl_Catch.l0]
          rw [if_pos (by omega), if_pos (by omega), if_pos (by omega), implIn, rd_lt next i hi', w64 (n := (next.length : Int) - 1) (by omega) (by omega), w64 (by omega) (by omega)]
          rfl
        · rw [mem_range_get next _ i hi'] at h
          cases hb : inB next[i] (-1) ((next.length : Int) - 1) with
          | true =>
            have hb' : (decide (-1 ≤ next[i]) && decide (next[i] ≤ (next.length : Int) - 1)) = true := hb
            rw [hb', Bool.true_and] at h
            simpa using ih h
          | false => simpa using Ev.now (([] : List Int), false)) 0 (Nat.zero_le _)
      exact ⟨[], by simpa using key2 (by simpa using Bool.eq_false_iff.mpr hi)⟩
  · rw [decide_eq_false hl, Bool.false_and]
    simp only [if_pos (show (next.length : Int) > 576 by omega)]
    exact ⟨[], Ev.now _⟩

def wetB (l : List Int) : Bool := l.all (fun x => inB x 0 1000000000000)
theorem wet_get {l : List Int} (h : wetB l = true) (i : Nat) (hi : i < l.length) : 0 ≤ l[i] ∧ l[i] ≤ 1000000000000 := by
  have := List.all_eq_true.mp h _ (List.getElem_mem hi)
  simpa [inB] using this

theorem sum_ev (l : List Int) (hl : l.length ≤ 576) : Ev (fun k => spec_l13Sum.f k l) (if wetB l = true then (l.sum, true) else (0, false)) := by
  unfold spec_l13Sum.f
  have key := up_ind (P := fun i => ∀ s : Int, 0 ≤ s → s ≤ (i : Int) * 1000000000000 → Ev (fun k => spec_l13Sum.l0 k l s (i : Int)) (if wetB (l.drop i) = true then (s + (l.drop i).sum, true) else (0, false))) l.length (by
    intro s _ _
    refine Ev.step (f := fun _ => some (s, true)) (fun k => ?_) (by simpa [wetB] using Ev.now (s, true))
    simp only [spec_l13Sum.l0]
    rw [if_neg (by omega)]) (by
    intro i hi ih s h0 h1
    have hw : wetB (l.drop i) = (inB l[i] 0 1000000000000 && wetB (l.drop (i + 1))) := mem_range_get l _ i hi
    have hsum : (l.drop i).sum = l[i] + (l.drop (i + 1)).sum := by rw [List.drop_eq_getElem_cons hi, List.sum_cons]
    refine Ev.step (f := fun k => if inB l[i] 0 1000000000000 = true then spec_l13Sum.l0 k l (wrap64 (s + l[i])) ((i + 1 : Nat) : Int) else some (0, false)) (fun k => ?_) ?_
    · simp only [spec_l13Sum.l0]
      rw [if_pos (by omega), if_pos (by omega), specIn, rd_lt l i hi, w64 (n := (i : Int) + 1) (by omega) (by omega)]
      rfl
    · rw [hw, hsum]
      cases hb : inB l[i] 0 1000000000000 with
      | true =>
        have hb' := (inB_iff _ _ _).mp hb
        have := ih (s + l[i]) (by omega) (by omega)
        rw [w64 (by omega) (by omega)]
        rw [show s + (l[i] + (l.drop (i + 1)).sum) = s + l[i] + (l.drop (i + 1)).sum by omega, Bool.true_and]
        simpa using this
      | false => simpa using Ev.now ((0 : Int), false)) 0 (Nat.zero_le _) 0 (by omega) (by omega)
  simpa using key

theorem sum_bd (l : List Int) (h : wetB l = true) : 0 ≤ l.sum ∧ l.sum ≤ (l.length : Int) * 1000000000000 := by
  induction l with
  | nil => simp
  | cons a l ih =>
    have h' : inB a 0 1000000000000 = true ∧ wetB l = true := by simpa [wetB] using h
    have h1 := (inB_iff _ _ _).mp h'.1
    have h2 := ih h'.2
    rw [List.sum_cons, List.length_cons]
    omega

end Go.Proofs.Ytopfdmodbhopiaa.QFnWaterBook
