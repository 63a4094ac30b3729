/- FnWaterBook, plainly: the program's step and the reference's are one function; it keeps what rained: what lies and what has flowed out; nothing is below 0; without rain it goes on so. No condition. -/
import Derived.Test.YtopfdmodbhopiaaDrawWaterFnWaterBook
import Derived.Test.YtopfdmodbhopiaaQFnWaterBookx13
set_option linter.unusedVariables false
set_option linter.unusedSimpArgs false
namespace Go.Proofs.Ytopfdmodbhopiaa.QFnWaterBook
open Go.RowKit Go.Proofs.YtopfdmodbhopiaaW.PrintWords Go.Proofs.Ytopfdmodbhopiaa.Opn Go.Proofs.Ytopfdmodbhopiaa.Pl Go.Proofs.Ytopfdmodbhopiaa.Wm

theorem lawSum_ev (l : List Int) (hl : l.length ≤ 1048576) (hw : wetB l = true) : Ev (fun k => laws_sum.f k l) l.sum := by
  unfold laws_sum.f
  have key := up_ind (P := fun i => ∀ s : Int, 0 ≤ s → s ≤ (i : Int) * 1000000000000 → Ev (fun k => laws_sum.l0 k l s (i : Int)) (s + (l.drop i).sum)) l.length (by
    intro s h0 h1
    refine Ev.step (f := fun _ => some s) (fun k => ?_) ?_
    · simp only [laws_sum.l0]
      rw [if_neg (by omega)]
    · rw [List.drop_of_length_le (Nat.le_refl _)]
      simpa using Ev.now s) (by
    intro i hi ih s h0 h1
    have hx := wet_get hw i hi
    have e : (l.drop i).sum = l[i] + (l.drop (i + 1)).sum := by rw [List.drop_eq_getElem_cons hi, List.sum_cons]
    have := ih (s + l[i]) (by omega) (by omega)
    rw [e, show s + (l[i] + (l.drop (i + 1)).sum) = s + l[i] + (l.drop (i + 1)).sum by omega]
    refine Ev.step (fun k => ?_) this
    simp only [laws_sum.l0]
    rw [if_pos (by omega), if_pos (by omega), rd_lt l i hi, w64 (n := s + l[i]) (by omega) (by omega), w64 (n := (i : Int) + 1) (by omega) (by omega)]
    rfl) 0 (Nat.zero_le _) 0 (by omega) (by omega)
  simpa using key

theorem end_ev (next rain w : List Int) (o r : Int) (w0 : List Int) (o0 r0 : Int) (h : BookOk next w o r) (hn : next.length ≤ 577) (hr : rain.length ≤ 577) (hw : wetB rain = true) (he : r = r0 + rain.sum) (hr0 : 0 ≤ r0 ∧ r0 ≤ 1000000000000) :
    Ev (fun k => laws_FnWaterBook.l1 k next rain 0 w0 o0 r0 w o r) true := by
  have hl := h.len
  have hnn := wet_nn w h.wet
  have h1 := h.all; have h2 := h.most; have h3 := h.o0
  have hs := le_sum rain (fun j hj => (wet_nn rain hw j hj).1)
  refine up_ind (P := fun i => Ev (fun k => laws_FnWaterBook.l1 k next rain (i : Int) w0 o0 r0 w o r) true) w.length ?_ ?_ 0 (Nat.zero_le _)
  · refine Ev.step (f := fun k => (laws_sum.f k w).bind fun t411 => (if (wrap64 (t411 + o)) = r then ((laws_sum.f k rain).bind fun t412 => (some (r == (wrap64 (r0 + t412))))) else (some false))) (fun k => ?_) ?_
    · simp only [laws_FnWaterBook.l1]
      rw [if_neg (by omega), if_pos (by omega)]
    · refine Ev_bind _ (lawSum_ev w (by omega) h.wet) ?_
      simp only [h1, w64 (n := r) (by omega) (by omega), if_true]
      refine Ev_bind _ (lawSum_ev rain (by omega) hw) ?_
      simp only [w64 (n := r0 + rain.sum) (by omega) (by omega), he, beq_self_eq_true]
      exact Ev.now _
  · intro i hi ih
    refine Ev.step (fun k => ?_) ih
    simp only [laws_FnWaterBook.l1]
    rw [if_pos (by omega), if_pos (by omega), if_neg (by have := (hnn i hi).1; omega), w64 (n := (i : Int) + 1) (by omega) (by omega)]
    rfl

theorem dry_ev (l1 next rain : List Int) (w0 : List Int) (o0 r0 : Int) (hn : next.length ≤ 577) (hr : rain.length ≤ 577) (hw : wetB rain = true) (hr0 : 0 ≤ r0 ∧ r0 ≤ 1000000000000) :
    ∀ (d : Nat) (i : Nat) (w : List Int) (o : Int), (i : Int) + (d : Int) = (l1.length : Int) % 12 → BookOk next w o (r0 + rain.sum) →
    Ev (fun k => laws_FnWaterBook.l0 k l1 next rain true true (List.replicate next.length 0) (i : Int) w0 o0 r0 w o (r0 + rain.sum)) true := by
  intro d
  induction d with
  | zero =>
    intro i w o hi hb
    refine Ev.step (f := fun k => laws_FnWaterBook.j2 k l1 next rain true true (List.replicate next.length 0) (i : Int) false w0 o0 r0 w o (r0 + rain.sum)) (fun k => ?_) ?_
    · simp only [laws_FnWaterBook.l0]
      rw [if_neg (by omega)]
    · refine Ev.step (fun k => ?_) (end_ev next rain w o (r0 + rain.sum) w0 o0 r0 hb hn hr hw rfl hr0)
      simp only [laws_FnWaterBook.j2, Bool.false_eq_true, if_false, if_true]
  | succ d ih =>
    intro i w o hi hb
    have hl := hb.len
    obtain ⟨hc, hz⟩ := dry_ok next w o (r0 + rain.sum) hb next.length rfl
    obtain ⟨w', o', e, hb', ho, _⟩ := FS_ok next w o (r0 + rain.sum) (List.replicate next.length 0) hc
    rw [hz] at e hb'
    simp only [Int.add_zero] at e hb'
    refine Ev.step (f := fun k => laws_FnWaterBook.j2 k l1 next rain true true (List.replicate next.length 0) (i : Int) true w0 o0 r0 w o (r0 + rain.sum)) (fun k => ?_) ?_
    · simp only [laws_FnWaterBook.l0]
      rw [if_pos (by omega)]
    · refine Ev.step (f := fun k => (impl_FlowStep.f k next w o (r0 + rain.sum) (List.replicate next.length 0)).bind fun bt403 => (if bt403.2.2.2 = true then (if bt403.2.2.1 = (r0 + rain.sum) then (if bt403.2.1 < o then (some false) else (laws_FnWaterBook.l0 k l1 next rain true true (List.replicate next.length 0) (wrap64 ((i : Int) + 1)) w0 o0 r0 bt403.1 bt403.2.1 bt403.2.2.1)) else (some false)) else (some false))) (fun k => ?_) ?_
      · simp only [laws_FnWaterBook.j2, if_true]
      · refine Ev_bind _ (implStep_ev next w o (r0 + rain.sum) (List.replicate next.length 0) (by omega) (by omega) (by simp; omega)) ?_
        rw [e]
        simp only [if_true, if_neg (show ¬ o' < o by omega), w64 (n := (i : Int) + 1) (by omega) (by omega)]
        exact ih (i + 1) w' o' (by omega) hb'

end Go.Proofs.Ytopfdmodbhopiaa.QFnWaterBook
namespace Go.Proofs.Ytopfdmodbhopiaa.Pure
open Go.RowKit Go.Proofs.YtopfdmodbhopiaaW.PrintWords Go.Proofs.YtopfdmodbhopiaaW.PrintLast Go.Proofs.Ytopfdmodbhopiaa.Opn Go.Proofs.Ytopfdmodbhopiaa.Pl Go.Proofs.Ytopfdmodbhopiaa.Wm Go.Proofs.Ytopfdmodbhopiaa.QFnWaterBook

theorem FnWaterBook : laws_FnWaterBook.Pure := by
  intro l0 l1 _ _ hb0 _ _ _
  refine Ev.rounds (g := fun k => laws_FnWaterBook.f k l0 l1) ?_
  have jtrue : Ev (fun k => laws_FnWaterBook.j0 k l0 l1 true) true := Ev.step (f := fun _ => some true) (fun k => by simp only [laws_FnWaterBook.j0, if_true]) (Ev.now _)
  unfold laws_FnWaterBook.f laws_big.f
  simp only [Option.bind_some]
  by_cases g0 : (l0.length : Int) > 1048576
  · simp only [decide_eq_true g0, if_true]; exact jtrue
  by_cases g1 : (l1.length : Int) > 1048576
  · simp only [decide_eq_false g0, Bool.false_eq_true, if_false, decide_eq_true g1]; exact jtrue
  simp only [decide_eq_false g0, Bool.false_eq_true, if_false, decide_eq_false g1]
  obtain ⟨⟨next, w, o, r, rain⟩, hd, hn, hw, hr⟩ := drawFlow_ev (rdOpen l0 (by omega) (fun x hx => hb0 x hx))
  have hn' : next.length ≤ 577 := hn
  have hw' : w.length ≤ 578 := hw
  have hr' : rain.length ≤ 577 := hr
  refine Ev.step (f := fun k => (spec_DrawFlowStep.f k l0).bind fun bt374 => ((spec_FlowStep.f k bt374.1 bt374.2.1 bt374.2.2.1 bt374.2.2.2.1 bt374.2.2.2.2).bind fun bt386 => ((impl_FlowStep.f k bt374.1 bt374.2.1 bt374.2.2.1 bt374.2.2.2.1 bt374.2.2.2.2).bind fun bt393 => (if (bt393.2.2.2 != bt386.2.2.2) = true then (some false) else (if 0 ≤ (bt374.1.length : Int) then (if ((bt374.1.length : Int) : Int).toNat ≤ 35184372088832 then (laws_FnWaterBook.l0 k l1 bt374.1 bt374.2.2.2.2 bt386.2.2.2 bt393.2.2.2 (List.replicate ((bt374.1.length : Int) : Int).toNat 0) 0 bt374.2.1 bt374.2.2.1 bt374.2.2.2.1 bt393.1 bt393.2.1 bt393.2.2.1) else (none)) else (none)))))) (fun k => by simp only [laws_FnWaterBook.j0, Bool.false_eq_true, if_false]) ?_
  refine Ev_bind _ hd (Ev_bind _ (specStep_ev next w o r rain (by omega) (by omega) (by omega)) (Ev_bind _ (implStep_ev next w o r rain (by omega) (by omega) (by omega)) ?_))
  simp only [bne_self_eq_false, Bool.false_eq_true, if_false, Int.toNat_natCast, if_pos (show 0 ≤ (next.length : Int) by omega), if_pos (show next.length ≤ 35184372088832 by omega)]
  cases hc : (inOk next w o r rain && sumsOk w o r rain) with
  | false =>
    rw [FS_false _ _ _ _ _ hc]
    have e2 : Ev (fun k => laws_FnWaterBook.j2 k l1 next rain false false (List.replicate next.length 0) 0 false w o r ([] : List Int) 0 0) true :=
      Ev.step (f := fun _ => some true) (fun k => by simp only [laws_FnWaterBook.j2, Bool.false_eq_true, if_false]) (Ev.now _)
    refine Ev.step (fun k => ?_) e2
    simp only [laws_FnWaterBook.l0, bad]
    split <;> rfl
  | true =>
    obtain ⟨w', o', e, hb, _, _⟩ := FS_ok next w o r rain hc
    rw [e]
    rw [Bool.and_eq_true] at hc
    obtain ⟨c1, c2⟩ := hc
    unfold inOk at c1
    unfold sumsOk at c2
    simp only [Bool.and_eq_true, decide_eq_true_eq] at c1 c2
    have hrr := (inB_iff _ _ _).mp c1.2.2.2.2
    exact dry_ev l1 next rain w o r hn' hr' c2.1.2 ⟨hrr.1, hrr.2⟩ ((l1.length : Int) % 12).toNat 0 w' o' (by omega) hb
end Go.Proofs.Ytopfdmodbhopiaa.Pure
