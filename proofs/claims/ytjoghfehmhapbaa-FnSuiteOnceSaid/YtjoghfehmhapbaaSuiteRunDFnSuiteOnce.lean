/- A good suite, asked the spec's way and the program's; its copy. Plain. -/
import Derived.Test.YtjoghfehmhapbaaSuiteOkDFnSuiteOnce
set_option linter.unusedVariables false
set_option linter.unusedSimpArgs false
namespace Go.Proofs.Ytjoghfehmhapbaa.QFnSuiteOnce
open Go.RowKit Go.Proofs.YtjoghfehmhapbaaW.PrintWords Go.Proofs.Ytjoghfehmhapbaa.Opn Go.Proofs.Ytjoghfehmhapbaa.Pl

theorem specAfter_ev (l0 : List S39) (l1 : List Int) (f0 : List Int) (f1 f2 f3 : Int) (i : Nat) (T : Prop) (hi : i ≤ 1048576) (hf : f0.length ≤ 1048576) (ih : Ev (fun k => spec_SuiteOk.l0 k ((i + 1 : Nat) : Int) l0 l1) (dec_ T)) :
    Ev (fun k => spec_SuiteOk.l1 k (i : Int) 0 l0 l1 f0 f1 f2 f3) (dec_ (okFrom (i : Int) f0 0 ∧ T)) :=
  Ev_up (fun k j => spec_SuiteOk.l1 k (i : Int) (j : Int) l0 l1 f0 f1 f2 f3) (fun j => dec_ (okFrom (i : Int) f0 j ∧ T)) f0.length (by
      rw [ok_end]
      refine Ev.step (fun k => ?_) ih
      simp only [spec_SuiteOk.l1]
      rw [if_neg (by omega), w64 (n := (i : Int) + 1) (by omega) (by omega)]
      rfl) (by
      intro j hj jh
      by_cases c : 1 ≤ rd f0 (j : Int) ∧ rd f0 (j : Int) ≤ (i : Int)
      · by_cases j0 : j = 0
        · subst j0
          rw [← ok_step hj ⟨c, fun x => by omega⟩]
          refine Ev.step (fun k => ?_) jh
          simp only [spec_SuiteOk.l1, specIn]
          rw [if_pos (by omega), if_pos (by omega), decide_eq_true c, Option.bind_some, if_pos rfl, if_neg (by omega), w64 (n := ((0 : Nat) : Int) + 1) (by omega) (by omega)]
          rfl
        · have e : wrap64 ((j : Int) - 1) = ((j - 1 : Nat) : Int) := by rw [w64 (by omega) (by omega)]; omega
          by_cases d : rd f0 ((j - 1 : Nat) : Int) < rd f0 (j : Int)
          · rw [← ok_step hj ⟨c, fun _ => d⟩]
            refine Ev.step (fun k => ?_) jh
            simp only [spec_SuiteOk.l1, specIn]
            rw [if_pos (by omega), if_pos (by omega), decide_eq_true c, Option.bind_some, if_pos rfl, if_pos (by omega), e, if_pos (by omega), if_pos (by omega), if_neg (by omega), w64 (n := (j : Int) + 1) (by omega) (by omega)]
            rfl
          · rw [dec_false (fun x => d ((x.1 j (Nat.le_refl _) hj).2 (by omega)))]
            refine Ev.step (f := fun _ => some false) (fun k => ?_) (Ev.now _)
            simp only [spec_SuiteOk.l1, specIn]
            rw [if_pos (by omega), if_pos (by omega), decide_eq_true c, Option.bind_some, if_pos rfl, if_pos (by omega), e, if_pos (by omega), if_pos (by omega), if_pos (by omega)]
      · rw [dec_false (fun x => c (x.1 j (Nat.le_refl _) hj).1)]
        refine Ev.step (f := fun _ => some false) (fun k => ?_) (Ev.now _)
        simp only [spec_SuiteOk.l1, specIn]
        rw [if_pos (by omega), if_pos (by omega), decide_eq_false c]
        rfl) 0 (Nat.zero_le _)
theorem specTasks_ev (l0 : List S39) (l1 : List Int) (h : Fits l0 l1) : Ev (fun k => spec_SuiteOk.l0 k 0 l0 l1) (dec_ (tasksFrom l0 (l1.length : Int) 0)) :=
  Ev_up (fun k i => spec_SuiteOk.l0 k (i : Int) l0 l1) (fun i => dec_ (tasksFrom l0 (l1.length : Int) i)) l0.length (by
      rw [dec_true (show tasksFrom l0 (l1.length : Int) l0.length from fun q h1 h2 => by omega)]
      refine Ev.step (f := fun _ => some true) (fun k => ?_) (Ev.now _)
      simp only [spec_SuiteOk.l0]
      rw [if_neg (by omega)]) (by
      intro i hi ih
      have hn0 := h.n0
      have bad : ∀ f0 f1 f2 f3, Ev (fun k => spec_SuiteOk.j2 k (i : Int) true l0 l1 f0 f1 f2 f3) false := fun _ _ _ _ => Ev.step (f := fun _ => some false) (fun k => by simp only [spec_SuiteOk.j2, if_true]) (Ev.now _)
      rw [tasks_step l0 _ i hi]
      have hfi := h.n1 i hi
      by_cases cl : ((rd_T39 l0 (i : Int)).f0.length : Int) > (i : Int)
      · rw [dec_false (fun x => by have := ok_len x.1 (by omega); omega)]
        refine Ev.step (fun k => ?_) (bad (rd_T39 l0 (i : Int)).f0 (rd_T39 l0 (i : Int)).f1 (rd_T39 l0 (i : Int)).f2 (rd_T39 l0 (i : Int)).f3)
        simp only [spec_SuiteOk.l0]
        rw [if_pos (by omega), if_pos (by omega), if_pos cl]
      by_cases a1 : 1 ≤ (rd_T39 l0 (i : Int)).f1 ∧ (rd_T39 l0 (i : Int)).f1 ≤ (l1.length : Int)
      rotate_left
      · rw [dec_false (fun x => a1 x.2.1.1)]
        refine Ev.step (fun k => ?_) (bad (rd_T39 l0 (i : Int)).f0 (rd_T39 l0 (i : Int)).f1 (rd_T39 l0 (i : Int)).f2 (rd_T39 l0 (i : Int)).f3)
        simp only [spec_SuiteOk.l0, specIn]
        rw [if_pos (by omega), if_pos (by omega), if_neg cl, decide_eq_false a1]
        rfl
      by_cases a2 : 0 ≤ (rd_T39 l0 (i : Int)).f2 ∧ (rd_T39 l0 (i : Int)).f2 ≤ 1000000000000
      rotate_left
      · rw [dec_false (fun x => a2 x.2.1.2.1)]
        refine Ev.step (fun k => ?_) (bad (rd_T39 l0 (i : Int)).f0 (rd_T39 l0 (i : Int)).f1 (rd_T39 l0 (i : Int)).f2 (rd_T39 l0 (i : Int)).f3)
        simp only [spec_SuiteOk.l0, specIn]
        rw [if_pos (by omega), if_pos (by omega), if_neg cl, decide_eq_true a1, decide_eq_false a2]
        rfl
      by_cases a3 : 1 ≤ (rd_T39 l0 (i : Int)).f3 ∧ (rd_T39 l0 (i : Int)).f3 ≤ 5
      rotate_left
      · rw [dec_false (fun x => a3 x.2.1.2.2)]
        refine Ev.step (fun k => ?_) (bad (rd_T39 l0 (i : Int)).f0 (rd_T39 l0 (i : Int)).f1 (rd_T39 l0 (i : Int)).f2 (rd_T39 l0 (i : Int)).f3)
        simp only [spec_SuiteOk.l0, specIn]
        rw [if_pos (by omega), if_pos (by omega), if_neg cl, decide_eq_true a1, decide_eq_true a2, decide_eq_false a3]
        rfl
      rw [dec_iff (show (okFrom (i : Int) (rd_T39 l0 (i : Int)).f0 0 ∧ attrOk (l1.length : Int) (rd_T39 l0 (i : Int)) ∧ tasksFrom l0 (l1.length : Int) (i + 1)) ↔ (okFrom (i : Int) (rd_T39 l0 (i : Int)).f0 0 ∧ tasksFrom l0 (l1.length : Int) (i + 1)) from ⟨fun x => ⟨x.1, x.2.2⟩, fun x => ⟨x.1, ⟨a1, a2, a3⟩, x.2⟩⟩)]
      refine Ev.step (fun k => ?_) (Ev.step (g := fun k => spec_SuiteOk.j2 k (i : Int) false l0 l1 (rd_T39 l0 (i : Int)).f0 (rd_T39 l0 (i : Int)).f1 (rd_T39 l0 (i : Int)).f2 (rd_T39 l0 (i : Int)).f3) (fun k => by simp only [spec_SuiteOk.j2, Bool.false_eq_true, if_false]) (specAfter_ev l0 l1 (rd_T39 l0 (i : Int)).f0 (rd_T39 l0 (i : Int)).f1 (rd_T39 l0 (i : Int)).f2 (rd_T39 l0 (i : Int)).f3 i _ (by omega) hfi ih))
      simp only [spec_SuiteOk.l0, specIn]
      rw [if_pos (by omega), if_pos (by omega), if_neg cl, decide_eq_true a1, decide_eq_true a2, decide_eq_true a3]
      rfl) 0 (Nat.zero_le _)
theorem specOk_ev (l0 : List S39) (l1 : List Int) (h : Fits l0 l1) : Ev (fun k => spec_SuiteOk.f k l0 l1) (dec_ (suiteOk l0 l1)) := by
  have hn0 := h.n0
  have hn2 := h.n2
  have bad : Ev (fun k => spec_SuiteOk.j0 k true l0 l1) false := Ev.step (f := fun _ => some false) (fun k => by simp only [spec_SuiteOk.j0, if_true]) (Ev.now _)
  unfold spec_SuiteOk.f
  by_cases c1 : (l0.length : Int) < 1
  · rw [dec_false (fun x => by have := x.1.1; omega)]; simp only [if_pos c1]; exact bad
  by_cases c2 : (l0.length : Int) > 60
  · rw [dec_false (fun x => by have := x.1.2; omega)]; simp only [if_neg c1, if_pos c2]; exact bad
  by_cases c3 : (l1.length : Int) < 1
  · rw [dec_false (fun x => by have := x.2.1.1; omega)]; simp only [if_neg c1, if_neg c2, if_pos c3]; exact bad
  by_cases c4 : (l1.length : Int) > 6
  · rw [dec_false (fun x => by have := x.2.1.2; omega)]; simp only [if_neg c1, if_neg c2, if_neg c3, if_pos c4]; exact bad
  simp only [if_neg c1, if_neg c2, if_neg c3, if_neg c4]
  refine Ev_bind _ (specAll_ev l1 1 60 h.n2) ?_
  by_cases c5 : intsFrom l1 1 60 0
  · rw [dec_true c5]
    rw [dec_iff (show suiteOk l0 l1 ↔ tasksFrom l0 (l1.length : Int) 0 from ⟨fun x => x.2.2.2, fun x => ⟨⟨by omega, by omega⟩, ⟨by omega, by omega⟩, c5, x⟩⟩)]
    refine Ev.step (fun k => ?_) (specTasks_ev l0 l1 h)
    simp only [spec_SuiteOk.j0, Bool.not_true, Bool.false_eq_true, if_false]
  · rw [dec_false c5, dec_false (fun x => c5 x.2.2.1)]
    exact bad

theorem implAfter_ev (l0 : List S39) (l1 : List Int) (t : S39) (i : Nat) (T : Prop) (hi : i ≤ 1048576) (hf : t.f0.length ≤ 1048576) (ih : Ev (fun k => impl_SuiteOk.l0 k l0 (l0.length : Int) ((i + 1 : Nat) : Int) l0 l1) (dec_ T)) :
    Ev (fun k => impl_SuiteOk.l1 k (i : Int) l0 (l0.length : Int) (i : Int) t.f0 (t.f0.length : Int) 0 l0 l1 t.f0 t.f1 t.f2 t.f3) (dec_ (okFrom (i : Int) t.f0 0 ∧ attrOk (l1.length : Int) t ∧ T)) :=
  Ev_up (fun k j => impl_SuiteOk.l1 k (i : Int) l0 (l0.length : Int) (i : Int) t.f0 (t.f0.length : Int) (j : Int) l0 l1 t.f0 t.f1 t.f2 t.f3) (fun j => dec_ (okFrom (i : Int) t.f0 j ∧ attrOk (l1.length : Int) t ∧ T)) t.f0.length (by
      rw [ok_end]
      by_cases a1 : 1 ≤ t.f1 ∧ t.f1 ≤ (l1.length : Int)
      rotate_left
      · rw [dec_false (fun x => a1 x.1.1)]
        refine Ev.step (f := fun _ => some false) (fun k => ?_) (Ev.now _)
        simp only [impl_SuiteOk.l1, implIn]
        rw [if_neg (by omega), decide_eq_false a1]
        rfl
      by_cases a2 : 0 ≤ t.f2 ∧ t.f2 ≤ 1000000000000
      rotate_left
      · rw [dec_false (fun x => a2 x.1.2.1)]
        refine Ev.step (f := fun _ => some false) (fun k => ?_) (Ev.now _)
        simp only [impl_SuiteOk.l1, implIn]
        rw [if_neg (by omega), decide_eq_true a1, decide_eq_false a2]
        rfl
      by_cases a3 : 1 ≤ t.f3 ∧ t.f3 ≤ 5
      rotate_left
      · rw [dec_false (fun x => a3 x.1.2.2)]
        refine Ev.step (f := fun _ => some false) (fun k => ?_) (Ev.now _)
        simp only [impl_SuiteOk.l1, implIn]
        rw [if_neg (by omega), decide_eq_true a1, decide_eq_true a2, decide_eq_false a3]
        rfl
      rw [dec_iff (show (attrOk (l1.length : Int) t ∧ T) ↔ T from ⟨fun x => x.2, fun x => ⟨⟨a1, a2, a3⟩, x⟩⟩)]
      refine Ev.step (fun k => ?_) ih
      simp only [impl_SuiteOk.l1, implIn]
      rw [if_neg (by omega), decide_eq_true a1, decide_eq_true a2, decide_eq_true a3, w64 (n := (i : Int) + 1) (by omega) (by omega)]
      rfl) (by
      intro j hj jh
      by_cases c : 1 ≤ rd t.f0 (j : Int) ∧ rd t.f0 (j : Int) ≤ (i : Int)
      · by_cases j0 : j = 0
        · subst j0
          rw [← ok_step hj ⟨c, fun x => by omega⟩]
          refine Ev.step (fun k => ?_) jh
          simp only [impl_SuiteOk.l1, implIn]
          rw [if_pos (by omega), if_pos (by omega), if_pos (by omega), decide_eq_true c, Option.bind_some, if_pos rfl, if_neg (by omega), w64 (n := ((0 : Nat) : Int) + 1) (by omega) (by omega)]
          rfl
        · have e : wrap64 ((j : Int) - 1) = ((j - 1 : Nat) : Int) := by rw [w64 (by omega) (by omega)]; omega
          by_cases d : rd t.f0 ((j - 1 : Nat) : Int) < rd t.f0 (j : Int)
          · rw [← ok_step hj ⟨c, fun _ => d⟩]
            refine Ev.step (fun k => ?_) jh
            simp only [impl_SuiteOk.l1, implIn]
            rw [if_pos (by omega), if_pos (by omega), if_pos (by omega), decide_eq_true c, Option.bind_some, if_pos rfl, if_pos (by omega), e, if_pos (by omega), if_pos (by omega), if_neg (by omega), w64 (n := (j : Int) + 1) (by omega) (by omega)]
            rfl
          · rw [dec_false (fun x => d ((x.1 j (Nat.le_refl _) hj).2 (by omega)))]
            refine Ev.step (f := fun _ => some false) (fun k => ?_) (Ev.now _)
            simp only [impl_SuiteOk.l1, implIn]
            rw [if_pos (by omega), if_pos (by omega), if_pos (by omega), decide_eq_true c, Option.bind_some, if_pos rfl, if_pos (by omega), e, if_pos (by omega), if_pos (by omega), if_pos (by omega)]
      · rw [dec_false (fun x => c (x.1 j (Nat.le_refl _) hj).1)]
        refine Ev.step (f := fun _ => some false) (fun k => ?_) (Ev.now _)
        simp only [impl_SuiteOk.l1, implIn]
        rw [if_pos (by omega), if_pos (by omega), if_pos (by omega), decide_eq_false c]
        rfl) 0 (Nat.zero_le _)
theorem implTasks_ev (l0 : List S39) (l1 : List Int) (h : Fits l0 l1) : Ev (fun k => impl_SuiteOk.l0 k l0 (l0.length : Int) 0 l0 l1) (dec_ (tasksFrom l0 (l1.length : Int) 0)) :=
  Ev_up (fun k i => impl_SuiteOk.l0 k l0 (l0.length : Int) (i : Int) l0 l1) (fun i => dec_ (tasksFrom l0 (l1.length : Int) i)) l0.length (by
      rw [dec_true (show tasksFrom l0 (l1.length : Int) l0.length from fun q h1 h2 => by omega)]
      refine Ev.step (f := fun _ => some true) (fun k => ?_) (Ev.now _)
      simp only [impl_SuiteOk.l0]
      rw [if_neg (by omega)]) (by
      intro i hi ih
      have hn0 := h.n0
      rw [tasks_step l0 _ i hi]
      have hfi := h.n1 i hi
      refine Ev.step (fun k => ?_) (implAfter_ev l0 l1 (rd_T39 l0 (i : Int)) i _ (by omega) hfi ih)
      simp only [impl_SuiteOk.l0]
      rw [if_pos (by omega), if_pos (by omega), if_pos (by omega)]) 0 (Nat.zero_le _)
theorem implOk_ev (l0 : List S39) (l1 : List Int) (h : Fits l0 l1) : Ev (fun k => impl_SuiteOk.f k l0 l1) (dec_ (suiteOk l0 l1)) := by
  have hn0 := h.n0
  have hn2 := h.n2
  have bad : Ev (fun k => impl_SuiteOk.j0 k true l0 l1) false := Ev.step (f := fun _ => some false) (fun k => by simp only [impl_SuiteOk.j0, if_true]) (Ev.now _)
  unfold impl_SuiteOk.f
  simp only [implIn, Option.bind_some]
  by_cases c1 : (1 : Int) ≤ (l0.length : Int) ∧ (l0.length : Int) ≤ 60
  rotate_left
  · rw [dec_false (fun x => c1 ⟨by have := x.1.1; omega, by have := x.1.2; omega⟩)]; simp only [decide_eq_false c1, Bool.false_eq_true, if_false]; exact bad
  by_cases c2 : (1 : Int) ≤ (l1.length : Int) ∧ (l1.length : Int) ≤ 6
  rotate_left
  · rw [dec_false (fun x => c2 ⟨by have := x.2.1.1; omega, by have := x.2.1.2; omega⟩)]; simp only [decide_eq_true c1, decide_eq_false c2, Bool.false_eq_true, if_false, if_true]; exact bad
  simp only [decide_eq_true c1, decide_eq_true c2, if_true]
  refine Ev_bind _ (implEach_ev l1 1 60 h.n2) ?_
  by_cases c5 : intsFrom l1 1 60 0
  · rw [dec_true c5]
    rw [dec_iff (show suiteOk l0 l1 ↔ tasksFrom l0 (l1.length : Int) 0 from ⟨fun x => x.2.2.2, fun x => ⟨⟨by omega, by omega⟩, ⟨by omega, by omega⟩, c5, x⟩⟩)]
    refine Ev.step (fun k => ?_) (implTasks_ev l0 l1 h)
    simp only [impl_SuiteOk.j0, Bool.not_true, Bool.false_eq_true, if_false]
  · rw [dec_false c5, dec_false (fun x => c5 x.2.2.1)]
    exact bad

/-! ### the copy, and a new run -/
theorem specCopy_ev (l0 : List S39) (l1 : List Int) (h : Fits l0 l1) : Ev (fun k => spec_l24CopySuite.f k l0 l1) (l0, l1) := by
  have hn0 := h.n0
  have hn2 := h.n2
  unfold spec_l24CopySuite.f
  simp only [Option.bind_some, List.nil_append, List.length_nil, Nat.zero_add, if_pos (show l1.length < 17592186044416 by omega)]
  have key := Ev_up (fun k i => spec_l24CopySuite.l0 k (i : Int) l0 l1 (l0.take i) l1) (fun _ => (l0, l1)) l0.length (by
      refine Ev.step (f := fun _ => some (l0, l1)) (fun k => ?_) (Ev.now _)
      simp only [spec_l24CopySuite.l0]
      rw [if_neg (by omega), List.take_length]) (by
      intro i hi ih
      have hfi := h.n1 i hi
      refine Ev.step (fun k => ?_) ih
      simp only [spec_l24CopySuite.l0, Option.bind_some, List.nil_append, List.length_nil, Nat.zero_add]
      rw [if_pos (by omega), if_pos (by omega), if_pos (by omega), if_pos (by rw [List.length_take]; omega), w64 (n := (i : Int) + 1) (by omega) (by omega)]
      rw [show (⟨(rd_T39 l0 (i : Int)).f0, (rd_T39 l0 (i : Int)).f1, (rd_T39 l0 (i : Int)).f2, (rd_T39 l0 (i : Int)).f3⟩ : S39) = l0[i] from rdT39 l0 i hi, List.take_append_getElem hi]
      rfl) 0 (Nat.zero_le _)
  simpa using key
theorem implCopy_ev (l0 : List S39) (l1 : List Int) (h : Fits l0 l1) : Ev (fun k => impl_copySuite.f k l0 l1) (l0, l1) := by
  have hn0 := h.n0
  have hn2 := h.n2
  unfold impl_copySuite.f slices_Clone_int64_int64.f
  simp only [if_pos (show l1.length < 17592186044416 by omega), Option.bind_some]
  have key := Ev_up (fun k i => impl_copySuite.l0 k l0 (l0.length : Int) (i : Int) (l0.take i) l1) (fun _ => (l0, l1)) l0.length (by
      refine Ev.step (f := fun _ => some (l0, l1)) (fun k => ?_) (Ev.now _)
      simp only [impl_copySuite.l0]
      rw [if_neg (by omega), List.take_length]) (by
      intro i hi ih
      have hfi := h.n1 i hi
      refine Ev.step (fun k => ?_) ih
      simp only [impl_copySuite.l0, slices_Clone_int64_int64.f]
      rw [if_pos (by omega), if_pos (by omega), if_pos (by omega), if_pos (by omega), Option.bind_some, if_pos (by rw [List.length_take]; omega), w64 (n := (i : Int) + 1) (by omega) (by omega)]
      rw [show (⟨(rd_T39 l0 (i : Int)).f0, (rd_T39 l0 (i : Int)).f1, (rd_T39 l0 (i : Int)).f2, (rd_T39 l0 (i : Int)).f3⟩ : S39) = l0[i] from rdT39 l0 i hi, List.take_append_getElem hi]
      rfl) 0 (Nat.zero_le _)
  simpa using key
end Go.Proofs.Ytjoghfehmhapbaa.QFnSuiteOnce
