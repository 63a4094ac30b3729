/- What both FlowStep functions compute: one plain function on lists of whole numbers. No condition but the sizes that are named. -/
import Derived.Test.YtopfdmodbhopiaaWaterLibFnWaterBook
set_option linter.unusedVariables false
set_option linter.unusedSimpArgs false
namespace Go.Proofs.Ytopfdmodbhopiaa.QFnWaterBook
open Go.RowKit Go.Proofs.YtopfdmodbhopiaaW.PrintWords Go.Proofs.Ytopfdmodbhopiaa.Opn Go.Proofs.Ytopfdmodbhopiaa.Pl Go.Proofs.Ytopfdmodbhopiaa.Wm

/-- what each cell gives away, one cell behind the other -/
def flowR (next was : List Int) : Nat → Nat → List Int → Int → List Int × Int
  | 0, _, W, o => (W, o)
  | m + 1, i, W, o =>
    let h := (rd was (i : Int) + 1) / 2
    let W1 := W.set i (wrap64 (rd W (i : Int) - h))
    if rd next (i : Int) < 0 then flowR next was m (i + 1) W1 (wrap64 (o + h))
    else flowR next was m (i + 1) (W1.set (rd next (i : Int)).toNat (wrap64 (rd W1 (rd next (i : Int)) + h))) o

def bad : List Int × Int × Int × Bool := ([], 0, 0, false)
def addL (w r : List Int) : List Int := List.zipWith (fun a b => a + b) w r
def inOk (next w : List Int) (o r : Int) (rain : List Int) : Bool :=
  okN next && (decide (w.length = next.length) && (decide (rain.length = next.length) && (inB o 0 1000000000000 && inB r 0 1000000000000)))
def sumsOk (w : List Int) (o r : Int) (rain : List Int) : Bool :=
  (wetB w && wetB rain) && (decide (w.sum + o = r) && decide (r ≤ 1000000000000 - rain.sum))
def FS (next w : List Int) (o r : Int) (rain : List Int) : List Int × Int × Int × Bool :=
  if inOk next w o r rain = true then
    if sumsOk w o r rain = true then
      ((flowR next (addL w rain) next.length 0 (addL w rain) o).1, (flowR next (addL w rain) next.length 0 (addL w rain) o).2, r + rain.sum, true)
    else bad
  else bad

theorem add_len (w r : List Int) (h : r.length = w.length) : (addL w r).length = w.length := by simp [addL, h]
theorem add_get (w r : List Int) (i : Nat) (hi : i < (addL w r).length) (h1 : i < w.length) (h2 : i < r.length) : (addL w r)[i] = w[i] + r[i] := by simp [addL]
theorem add_bd (w r : List Int) (hw : wetB w = true) (hr : wetB r = true) (h : r.length = w.length) (i : Nat) (hi : i < (addL w r).length) : 0 ≤ (addL w r)[i] ∧ (addL w r)[i] ≤ 2000000000000 := by
  have hl := add_len w r h
  have h1 := wet_get hw i (by omega); have h2 := wet_get hr i (by omega)
  rw [add_get w r i hi (by omega) (by omega)]; omega

theorem specHalf (w : Int) (h0 : 0 ≤ w) (h1 : w ≤ 2000000000000) : wrap64 (w - wrap64 (Int.tdiv w 2)) = (w + 1) / 2 := by
  rw [Int.tdiv_eq_ediv_of_nonneg h0, w64 (n := w / 2) (by omega) (by omega), w64 (by omega) (by omega)]; omega
theorem implHalf (w : Int) (h0 : 0 ≤ w) (h1 : w ≤ 2000000000000) : wrap64 (Int.tdiv (wrap64 (w + 1)) 2) = (w + 1) / 2 := by
  rw [w64 (n := w + 1) (by omega) (by omega), Int.tdiv_eq_ediv_of_nonneg (by omega), w64 (by omega) (by omega)]

theorem set_lens (W : List Int) (i j : Nat) (a b : Int) : ((W.set i a).set j b).length = W.length := by simp

theorem specFlow_ev (next was : List Int) (hn : Into next) (hl : next.length ≤ 576) (hw : was.length = next.length) (hb : ∀ i, (h : i < was.length) → 0 ≤ was[i] ∧ was[i] ≤ 2000000000000) (r : Int) :
    ∀ i, i ≤ next.length → ∀ W o, W.length = next.length → Ev (fun k => spec_FlowStep.l1 k next was (i : Int) W o r) ((flowR next was (next.length - i) i W o).1, (flowR next was (next.length - i) i W o).2, r, true) := by
  refine up_ind next.length ?_ ?_
  · intro W o _
    refine Ev.step (f := fun _ => some (W, o, r, true)) (fun k => ?_) (by rw [Nat.sub_self]; exact Ev.now _)
    simp only [spec_FlowStep.l1]
    rw [if_neg (by omega)]
  · intro i hi ih W o hW
    have h2 := hn (i : Int) (by omega) (by omega)
    have h3 := hb i (by omega)
    have hr : rd was (i : Int) = was[i] := rd_lt was i (by omega)
    rw [show next.length - i = (next.length - (i + 1)) + 1 by omega]
    simp only [flowR]
    by_cases hneg : rd next (i : Int) < 0
    · simp only [if_pos hneg]
      refine Ev.step (fun k => ?_) (ih _ _ (by simpa using hW))
      simp only [spec_FlowStep.l1, Option.bind_some]
      rw [if_pos (by omega), if_pos (by omega), if_pos (by omega), if_pos (by omega), if_pos hneg, w64 (n := (i : Int) + 1) (by omega) (by omega), hr, specHalf _ h3.1 h3.2]
      rfl
    · simp only [if_neg hneg]
      refine Ev.step (fun k => ?_) (ih _ _ (by simpa using hW))
      simp only [spec_FlowStep.l1, Option.bind_some]
      rw [if_pos (by omega), if_pos (by omega), if_pos (by omega), if_pos (by omega), if_neg hneg, if_pos (by omega), if_pos (by omega), w64 (n := (i : Int) + 1) (by omega) (by omega), hr, specHalf _ h3.1 h3.2]
      rfl

theorem implFlow_ev (next was : List Int) (hn : Into next) (hl : next.length ≤ 576) (hw : was.length = next.length) (hb : ∀ i, (h : i < was.length) → 0 ≤ was[i] ∧ was[i] ≤ 2000000000000) (r : Int) :
    ∀ i, i ≤ next.length → ∀ W o, W.length = next.length → Ev (fun k => impl_FlowStep.l2 k next was (was.length : Int) (i : Int) W o r) ((flowR next was (next.length - i) i W o).1, (flowR next was (next.length - i) i W o).2, r, true) := by
  refine up_ind next.length ?_ ?_
  · intro W o _
    refine Ev.step (f := fun _ => some (W, o, r, true)) (fun k => ?_) (by rw [Nat.sub_self]; exact Ev.now _)
    simp only [impl_FlowStep.l2]
    rw [if_neg (by omega)]
  · intro i hi ih W o hW
    have h2 := hn (i : Int) (by omega) (by omega)
    have h3 := hb i (by omega)
    have hr : rd was (i : Int) = was[i] := rd_lt was i (by omega)
    rw [show next.length - i = (next.length - (i + 1)) + 1 by omega]
    simp only [flowR]
    by_cases hneg : rd next (i : Int) < 0
    · simp only [if_pos hneg]
      refine Ev.step (fun k => ?_) (ih _ _ (by simpa using hW))
      simp only [impl_FlowStep.l2, Option.bind_some]
      rw [if_pos (by omega), if_pos (by omega), if_pos (by omega), if_pos (by omega), if_pos (by omega), if_pos hneg, w64 (n := (i : Int) + 1) (by omega) (by omega), hr, implHalf _ h3.1 h3.2]
      rfl
    · simp only [if_neg hneg]
      refine Ev.step (fun k => ?_) (ih _ _ (by simpa using hW))
      simp only [impl_FlowStep.l2, Option.bind_some]
      rw [if_pos (by omega), if_pos (by omega), if_pos (by omega), if_pos (by omega), if_pos (by omega), if_neg hneg, if_pos (by omega), if_pos (by omega), w64 (n := (i : Int) + 1) (by omega) (by omega), hr, implHalf _ h3.1 h3.2]
      rfl

theorem into_ok (next : List Int) (h : okN next = true) : next.length ≤ 576 ∧ Into next := by
  have h' : (decide (next.length ≤ 576) && (next.all (fun x => decide (-1 ≤ x) && decide (x ≤ (next.length : Int) - 1)) && (List.range next.length).all (fun c => lastB next next.length (c : Int)))) = true := h
  rw [Bool.and_eq_true, Bool.and_eq_true] at h'
  exact ⟨of_decide_eq_true h'.1, into_of next h'.2.1⟩

theorem specStep_ev (next w : List Int) (o r : Int) (rain : List Int) (hs : next.length ≤ 1048576) (hw1 : w.length ≤ 1048576) (hr1 : rain.length ≤ 1048576) :
    Ev (fun k => spec_FlowStep.f k next w o r rain) (FS next w o r rain) := by
  have jbad : Ev (fun k => spec_FlowStep.j0 k next rain true w o r) bad := by
    refine Ev.step (f := fun _ => some bad) (fun k => ?_) (Ev.now _)
    simp only [spec_FlowStep.j0]; rfl
  have j1bad : ∀ f, Ev (fun k => spec_FlowStep.j1 k next rain f true w o r) bad := by
    intro f
    refine Ev.step (f := fun _ => some bad) (fun k => ?_) (Ev.now _)
    simp only [spec_FlowStep.j1]; rfl
  unfold spec_FlowStep.f FS inOk
  refine Ev_bind _ (specOk_ev next hs) ?_
  cases hok : okN next with
  | false => simpa using jbad
  | true =>
    simp only [if_true, Bool.true_and]
    by_cases h1 : w.length = next.length
    · simp only [if_pos (show (w.length : Int) = (next.length : Int) by omega), decide_eq_true h1, Bool.true_and]
      by_cases h2 : rain.length = next.length
      · simp only [if_pos (show (rain.length : Int) = (next.length : Int) by omega), decide_eq_true h2, Bool.true_and]
        simp only [specIn]
        refine Ev_bind (f := fun k t115 => if t115 = true then ((some (inB r 0 1000000000000)).bind fun t116 => spec_FlowStep.j0 k next rain (!t116) w o r) else spec_FlowStep.j0 k next rain true w o r) _ (Ev.now (inB o 0 1000000000000)) ?_
        cases ho : inB o 0 1000000000000 with
        | false => simpa using jbad
        | true =>
          simp only [if_true, Option.bind_some, Bool.true_and]
          cases hr : inB r 0 1000000000000 with
          | false => simpa using jbad
          | true =>
            obtain ⟨hl, hn⟩ := into_ok next hok
            have ho' := (inB_iff _ _ _).mp ho; have hr' := (inB_iff _ _ _).mp hr
            simp only [Bool.not_true, if_true]
            refine Ev.step (f := fun k => (spec_l13Sum.f k w).bind fun bt117 => ((spec_l13Sum.f k rain).bind fun bt119 => (if bt117.2 = true then (if bt119.2 = true then (if (wrap64 (bt117.1 + o)) = r then (spec_FlowStep.j1 k next rain bt119.1 (decide (r > (wrap64 (1000000000000 - bt119.1)))) w o r) else (spec_FlowStep.j1 k next rain bt119.1 true w o r)) else (spec_FlowStep.j1 k next rain bt119.1 true w o r)) else (spec_FlowStep.j1 k next rain bt119.1 true w o r)))) (fun k => ?_) ?_
            · simp only [spec_FlowStep.j0]; rfl
            refine Ev_bind _ (sum_ev w (by omega)) (Ev_bind _ (sum_ev rain (by omega)) ?_)
            unfold sumsOk
            cases hw : wetB w with
            | false => simpa using j1bad _
            | true =>
              cases hrn : wetB rain with
              | false => simpa using j1bad _
              | true =>
                have b1 := sum_bd w hw; have b2 := sum_bd rain hrn
                simp only [if_true, Bool.true_and]
                rw [w64 (n := w.sum + o) (by omega) (by omega), w64 (n := 1000000000000 - rain.sum) (by omega) (by omega)]
                by_cases he : w.sum + o = r
                · simp only [if_pos he, decide_eq_true he, Bool.true_and]
                  by_cases hm : r ≤ 1000000000000 - rain.sum
                  · rw [decide_eq_true hm, decide_eq_false (show ¬ r > 1000000000000 - rain.sum by omega)]
                    simp only [if_true]
                    have hal : (addL w rain).length = next.length := by rw [add_len w rain (by omega), h1]
                    have fin := specFlow_ev next (addL w rain) hn hl hal (fun i h => add_bd w rain hw hrn (by omega) i h) (r + rain.sum) 0 (Nat.zero_le _) (addL w rain) o hal
                    have key := Ev_up (fun k i => spec_FlowStep.l0 k next rain (i : Int) w o r ((addL w rain).take i) o (r + rain.sum)) (fun _ => ((flowR next (addL w rain) next.length 0 (addL w rain) o).1, (flowR next (addL w rain) next.length 0 (addL w rain) o).2, r + rain.sum, true)) next.length (by
                      refine Ev.step (fun k => ?_) fin
                      simp only [spec_FlowStep.l0]
                      rw [if_neg (by omega), Option.bind_some, if_pos (by rw [List.length_take]; simp; omega), List.take_of_length_le (by omega)]
                      rfl) (by
                      intro i hi ih
                      refine Ev.step (fun k => ?_) ih
                      simp only [spec_FlowStep.l0]
                      have hg : (addL w rain).take (i + 1) = (addL w rain).take i ++ [wrap64 (rd w (i : Int) + rd rain (i : Int))] := by
                        have g1 := wet_get hw i (by omega); have g2 := wet_get hrn i (by omega)
                        rw [List.take_succ_eq_append_getElem (by omega), add_get w rain i (by omega) (by omega) (by omega), rd_lt w i (by omega), rd_lt rain i (by omega), w64 (by omega) (by omega)]
                      rw [if_pos (by omega), if_pos (by omega), if_pos (by omega), if_pos (by omega), if_pos (by rw [List.length_take]; omega), w64 (n := (i : Int) + 1) (by omega) (by omega), ← hg]
                      rfl) 0 (Nat.zero_le _)
                    refine Ev.step (f := fun k => spec_FlowStep.l0 k next rain 0 w o r [] o (r + rain.sum)) (fun k => ?_) (by simpa using key)
                    simp only [spec_FlowStep.j1]
                    rw [if_neg (by simp), w64 (by omega) (by omega)]
                  · rw [decide_eq_false hm, decide_eq_true (show r > 1000000000000 - rain.sum by omega)]
                    simpa using j1bad _
                · simp only [if_neg he, decide_eq_false he, Bool.false_and]
                  simpa using j1bad _
      · simp only [if_neg (show ¬ (rain.length : Int) = (next.length : Int) by omega), decide_eq_false h2, Bool.false_and]
        simpa using jbad
    · simp only [if_neg (show ¬ (w.length : Int) = (next.length : Int) by omega), decide_eq_false h1, Bool.false_and]
      simpa using jbad

theorem implSum_ev (next w : List Int) (o r : Int) (rain : List Int) (hl : next.length ≤ 576) (h1 : w.length = next.length) (h2 : rain.length = next.length)
    (ho : 0 ≤ o ∧ o ≤ 1000000000000) (hr : 0 ≤ r ∧ r ≤ 1000000000000) (R : List Int × Int × Int × Bool)
    (hfin : sumsOk w o r rain = true → Ev (fun k => impl_FlowStep.j2 k next rain rain.sum false w o r) R) (hbad : sumsOk w o r rain = false → R = bad) :
    Ev (fun k => impl_FlowStep.l0 k next rain o 0 w (w.length : Int) 0 w o r) R := by
  have j2bad : ∀ f, Ev (fun k => impl_FlowStep.j2 k next rain f true w o r) bad := by
    intro f
    refine Ev.step (f := fun _ => some bad) (fun k => ?_) (Ev.now _)
    simp only [impl_FlowStep.j2]; rfl
  have key := up_ind (P := fun i => ∀ s f : Int, 0 ≤ s → s ≤ 1000000000000 + (i : Int) * 1000000000000 → 0 ≤ f → f ≤ (i : Int) * 1000000000000 →
      (if wetB (w.drop i) = true ∧ wetB (rain.drop i) = true then (if r ≤ 1000000000000 - (f + (rain.drop i).sum) ∧ s + (w.drop i).sum = r then (∀ F, F = f + (rain.drop i).sum → Ev (fun k => impl_FlowStep.j2 k next rain F false w o r) R) else R = bad) else R = bad) →
      Ev (fun k => impl_FlowStep.l0 k next rain s f w (w.length : Int) (i : Int) w o r) R) next.length (by
    intro s f h0 h3 h4 h5 h
    rw [List.drop_of_length_le (by omega), List.drop_of_length_le (by omega)] at h
    rw [if_pos (by simp [wetB])] at h
    simp only [List.sum_nil, Int.add_zero] at h
    refine Ev.step (f := fun k => if r > 1000000000000 - f then impl_FlowStep.j2 k next rain f true w o r else impl_FlowStep.j2 k next rain f (s != r) w o r) (fun k => ?_) ?_
    · simp only [impl_FlowStep.l0]
      rw [if_neg (by omega), w64 (by omega) (by omega)]
    by_cases hm : r > 1000000000000 - f
    · simp only [if_pos hm]
      rw [if_neg (by omega)] at h
      rw [h]; exact j2bad f
    · simp only [if_neg hm]
      by_cases he : s = r
      · rw [if_pos ⟨by omega, he⟩] at h
        rw [show (s != r) = false by simp [he]]
        exact h f rfl
      · rw [if_neg (by omega)] at h
        rw [h, show (s != r) = true by simp [he]]
        exact j2bad f) (by
    intro i hi ih s f h0 h3 h4 h5 h
    have hw : wetB (w.drop i) = (inB w[i] 0 1000000000000 && wetB (w.drop (i + 1))) := mem_range_get w _ i (by omega)
    have hrn : wetB (rain.drop i) = (inB rain[i] 0 1000000000000 && wetB (rain.drop (i + 1))) := mem_range_get rain _ i (by omega)
    have hs1 : (w.drop i).sum = w[i] + (w.drop (i + 1)).sum := by rw [List.drop_eq_getElem_cons (by omega), List.sum_cons]
    have hs2 : (rain.drop i).sum = rain[i] + (rain.drop (i + 1)).sum := by rw [List.drop_eq_getElem_cons (by omega), List.sum_cons]
    rw [hw, hrn, hs1, hs2] at h
    refine Ev.step (f := fun k => if inB w[i] 0 1000000000000 = true then (if inB rain[i] 0 1000000000000 = true then impl_FlowStep.l0 k next rain (wrap64 (s + w[i])) (wrap64 (f + rain[i])) w (w.length : Int) ((i + 1 : Nat) : Int) w o r else some bad) else some bad) (fun k => ?_) ?_
    · simp only [impl_FlowStep.l0, implIn, Option.bind_some]
      rw [if_pos (by omega), if_pos (by omega), if_pos (by omega), rd_lt w i (by omega), rd_lt rain i (by omega), if_pos (show (i : Int) < (rain.length : Int) by omega), w64 (n := (i : Int) + 1) (by omega) (by omega)]
      rfl
    cases hb : inB w[i] 0 1000000000000 with
    | false => rw [hb] at h; simp only [Bool.false_and, Bool.false_eq_true, false_and, if_false] at h ⊢; rw [h]; exact Ev.now _
    | true =>
      cases hb2 : inB rain[i] 0 1000000000000 with
      | false => rw [hb2] at h; simp only [Bool.false_and, Bool.false_eq_true, and_false, if_false, if_true] at h ⊢; rw [h]; exact Ev.now _
      | true =>
        have c1 := (inB_iff _ _ _).mp hb; have c2 := (inB_iff _ _ _).mp hb2
        simp only [if_true]
        rw [w64 (n := s + w[i]) (by omega) (by omega), w64 (n := f + rain[i]) (by omega) (by omega)]
        refine ih (s + w[i]) (f + rain[i]) (by omega) (by omega) (by omega) (by omega) ?_
        rw [hb, hb2, Bool.true_and, Bool.true_and] at h
        rw [show f + rain[i] + (rain.drop (i + 1)).sum = f + (rain[i] + (rain.drop (i + 1)).sum) by omega, show s + w[i] + (w.drop (i + 1)).sum = s + (w[i] + (w.drop (i + 1)).sum) by omega]
        exact h) 0 (Nat.zero_le _) o 0 (by omega) (by omega) (by omega) (by omega)
  refine key ?_
  rw [List.drop_zero, List.drop_zero]
  simp only [Int.zero_add]
  cases hok : sumsOk w o r rain with
  | true =>
    have h' := hok
    unfold sumsOk at h'
    simp only [Bool.and_eq_true, decide_eq_true_eq] at h'
    rw [if_pos h'.1, if_pos ⟨h'.2.2, by omega⟩]
    intro F hF; rw [hF]; exact hfin hok
  | false =>
    have hR := hbad hok
    unfold sumsOk at hok
    by_cases hw : wetB w = true ∧ wetB rain = true
    · rw [if_pos hw]
      rw [hw.1, hw.2] at hok
      have hk : ¬ (w.sum + o = r ∧ r ≤ 1000000000000 - rain.sum) := by
        intro hh; rw [decide_eq_true hh.1, decide_eq_true hh.2] at hok; simp at hok
      rw [if_neg (by omega)]; exact hR
    · rw [if_neg hw]; exact hR

theorem implStep_ev (next w : List Int) (o r : Int) (rain : List Int) (hs : next.length ≤ 1048576) (hw1 : w.length ≤ 1048576) (hr1 : rain.length ≤ 1048576) :
    Ev (fun k => impl_FlowStep.f k next w o r rain) (FS next w o r rain) := by
  have jbad : Ev (fun k => impl_FlowStep.j0 k next rain true w o r) bad := by
    refine Ev.step (f := fun _ => some bad) (fun k => ?_) (Ev.now _)
    simp only [impl_FlowStep.j0]; rfl
  obtain ⟨v, hv⟩ := catch_ev next hs
  unfold impl_FlowStep.f FS inOk
  refine Ev_bind _ hv ?_
  cases hok : okN next with
  | false => simpa using jbad
  | true =>
    simp only [if_true, Bool.true_and]
    by_cases h1 : w.length = next.length
    · simp only [if_pos (show (w.length : Int) = (next.length : Int) by omega), decide_eq_true h1, Bool.true_and]
      by_cases h2 : rain.length = next.length
      · simp only [if_pos (show (rain.length : Int) = (next.length : Int) by omega), decide_eq_true h2, Bool.true_and]
        simp only [implIn]
        refine Ev_bind (f := fun k t115 => if t115 = true then ((some (inB r 0 1000000000000)).bind fun t116 => impl_FlowStep.j0 k next rain (!t116) w o r) else impl_FlowStep.j0 k next rain true w o r) _ (Ev.now (inB o 0 1000000000000)) ?_
        cases ho : inB o 0 1000000000000 with
        | false => simpa using jbad
        | true =>
          simp only [if_true, Option.bind_some, Bool.true_and]
          cases hr : inB r 0 1000000000000 with
          | false => simpa using jbad
          | true =>
            obtain ⟨hl, hn⟩ := into_ok next hok
            have ho' := (inB_iff _ _ _).mp ho; have hr' := (inB_iff _ _ _).mp hr
            simp only [Bool.not_true, if_true]
            refine Ev.step (f := fun k => impl_FlowStep.l0 k next rain o 0 w (w.length : Int) 0 w o r) (fun k => ?_) (implSum_ev next w o r rain hl h1 h2 ho' hr' _ (fun hsm => ?_) (fun hsm => ?_))
            · simp only [impl_FlowStep.j0]; rfl
            · rw [hsm]
              simp only [if_true]
              unfold sumsOk at hsm
              simp only [Bool.and_eq_true, decide_eq_true_eq] at hsm
              obtain ⟨⟨hw, hrn⟩, he, hm⟩ := hsm
              have b1 := sum_bd w hw; have b2 := sum_bd rain hrn
              have hal : (addL w rain).length = next.length := by rw [add_len w rain (by omega), h1]
              have fin := implFlow_ev next (addL w rain) hn hl hal (fun i h => add_bd w rain hw hrn (by omega) i h) (r + rain.sum) 0 (Nat.zero_le _) (addL w rain) o hal
              have key := Ev_up (fun k i => impl_FlowStep.l1 k next rain (rain.length : Int) (i : Int) ((addL w rain).take i ++ w.drop i) o (r + rain.sum)) (fun _ => ((flowR next (addL w rain) next.length 0 (addL w rain) o).1, (flowR next (addL w rain) next.length 0 (addL w rain) o).2, r + rain.sum, true)) next.length (by
                refine Ev.step (fun k => ?_) fin
                simp only [impl_FlowStep.l1]
                rw [if_neg (by omega), List.take_of_length_le (by omega), List.drop_of_length_le (by omega), List.append_nil]
                unfold slices_Clone_int64_int64.f
                rw [if_pos (by omega), Option.bind_some]
                rfl) (by
                intro i hi ih
                refine Ev.step (fun k => ?_) ih
                simp only [impl_FlowStep.l1]
                have g1 := wet_get hw i (by omega); have g2 := wet_get hrn i (by omega)
                have hlen : ((addL w rain).take i ++ w.drop i).length = next.length := by rw [List.length_append, List.length_take, List.length_drop]; omega
                have hget : rd ((addL w rain).take i ++ w.drop i) (i : Int) = w[i] := by
                  rw [rd_lt _ i (by omega), List.getElem_append_right (by rw [List.length_take]; omega)]
                  simp only [List.getElem_drop, List.length_take]
                  congr 1; omega
                have hset := set_take_drop w (addL w rain) i (by omega) (by omega)
                rw [add_get w rain i (by omega) (by omega) (by omega)] at hset
                rw [if_pos (by omega), if_pos (by omega), if_pos (by omega), if_pos (by omega), w64 (n := (i : Int) + 1) (by omega) (by omega), hget, rd_lt rain i (by omega), w64 (n := w[i] + rain[i]) (by omega) (by omega), Int.toNat_natCast, hset]
                rfl) 0 (Nat.zero_le _)
              refine Ev.step (f := fun k => impl_FlowStep.l1 k next rain (rain.length : Int) 0 w o (r + rain.sum)) (fun k => ?_) (by simpa using key)
              simp only [impl_FlowStep.j2]
              unfold slices_Clone_int64_int64.f
              rw [if_neg (by simp), if_pos (by omega), Option.bind_some, w64 (by omega) (by omega)]
            · rw [hsm]; rfl
      · simp only [if_neg (show ¬ (rain.length : Int) = (next.length : Int) by omega), decide_eq_false h2, Bool.false_and]
        simpa using jbad
    · simp only [if_neg (show ¬ (w.length : Int) = (next.length : Int) by omega), decide_eq_false h1, Bool.false_and]
      simpa using jbad

end Go.Proofs.Ytopfdmodbhopiaa.QFnWaterBook
