/- The descent's answer, with its moves; what a cost on the way is, and that the last point is certified. Conditions: those of a right problem. -/
import Derived.Test.YtcjhbmjimjbphaaCertLibFnDescends
import Derived.Test.YtcjhbmjimjbphaaRunPathFnDescends
set_option linter.unusedVariables false
set_option linter.unusedSimpArgs false
namespace Go.Proofs.Ytcjhbmjimjbphaa.QFnDescends
open Go.RowKit Go.Proofs.YtcjhbmjimjbphaaW.PrintWords Go.Proofs.Ytcjhbmjimjbphaa.Opn Go.Proofs.Ytcjhbmjimjbphaa.Pl

/-- A right call: the problem, the point, the number of moves. -/
structure Call (n : Int) (g t : List Int) (rows : List S52) (x : List Int) (most : Int) (m : Nat) (r : List S50) : Prop where
  hm : most = (m : Int)
  m5 : m ≤ 500
  ok : okB n g t rows = true
  each : eachB x n (-500) 500 = true
  run : Run n.toNat m g t rows x [] false 0 r
  way : OnWay n.toNat x g t rows
  len : r.length ≤ m

theorem impl_call {n : Int} {g t : List Int} {rows : List S52} {x : List Int} {most : Int} {m : Nat} {r : List S50} (h : Call n g t rows x most m r) (hs : Small g t rows) (hx : x.length ≤ 1048576) : Ev (fun k => impl_Descend.f k n g t rows x most) (r, true) := by
  obtain ⟨hm, m5, h1, h2, hrun, ho, hlr⟩ := h
  obtain ⟨hr, hn⟩ := right_of n g t rows h1
  have h3 : inB most 0 500 = true := by simp only [inB, Bool.and_eq_true, decide_eq_true_eq]; omega
  have e2 := run_impl hr m5 hrun ho (by simp)
  rw [hn, ← hm] at e2
  unfold impl_Descend.f
  refine Ev_bind _ (implOk_ev n g t rows hs) ?_
  simp only [h1, if_true]
  refine Ev_bind _ (implEach_ev x hx n (-500) 500) ?_
  simp only [h2, if_true, implIn, Option.bind_some, h3, Bool.not_true]
  refine Ev.step (f := fun k => impl_Descend.l0 k x most [] n g t rows) (fun k => ?_) (Ev.step (fun k => ?_) e2)
  · simp only [impl_Descend.j0]
    rw [if_neg (by simp)]
    simp only [Option.bind_some, List.nil_append, List.length_nil, Nat.zero_add, if_pos (show x.length < 17592186044416 by omega)]
  · simp only [impl_Descend.l0]
    rfl
theorem spec_call {n : Int} {g t : List Int} {rows : List S52} {x : List Int} {most : Int} {m : Nat} {r : List S50} (h : Call n g t rows x most m r) (hs : Small g t rows) (hx : x.length ≤ 1048576) : Ev (fun k => spec_Descend.f k n g t rows x most) (r, true) := by
  obtain ⟨hm, m5, h1, h2, hrun, ho, hlr⟩ := h
  obtain ⟨hr, hn⟩ := right_of n g t rows h1
  have h3 : inB most 0 500 = true := by simp only [inB, Bool.and_eq_true, decide_eq_true_eq]; omega
  have e1 := run_spec hr m5 hrun ho (by simp)
  rw [hn, ← hm] at e1
  unfold spec_Descend.f
  simp only [Option.bind_some]
  refine Ev_bind _ (specOk_ev n g t rows hs) ?_
  simp only [h1, if_true]
  refine Ev_bind _ (specAll_ev x hx n (-500) 500) ?_
  simp only [h2, if_true, specIn, Option.bind_some, h3, Bool.not_true]
  refine Ev.step (f := fun k => spec_Descend.l0 k x most [] true n g t rows) (fun k => ?_) (Ev.step (fun k => ?_) e1)
  · simp only [spec_Descend.j0]
    rw [if_neg (by simp)]
    simp only [Option.bind_some, List.nil_append, List.length_nil, Nat.zero_add, if_pos (show x.length < 17592186044416 by omega)]
  · simp only [spec_Descend.l0]
    rw [if_pos True.intro]
    rfl
/-- What both answer. -/
theorem descend_full (n : Int) (g t : List Int) (rows : List S52) (x : List Int) (most : Int) (hs : Small g t rows) (hx : x.length ≤ 1048576) :
    (∃ m r, Call n g t rows x most m r) ∨ (Ev (fun k => spec_Descend.f k n g t rows x most) ([], false) ∧ Ev (fun k => impl_Descend.f k n g t rows x most) ([], false)) := by
  have fs : ∀ (b : Bool), b = true → Ev (fun k => spec_Descend.j0 k x most ([] : List S50) b n g t rows) ([], false) := by
    intro b hb
    subst hb
    refine Ev.step (f := fun _ => some (([] : List S50), false)) (fun k => ?_) (Ev.now _)
    simp only [spec_Descend.j0]
    rw [if_pos True.intro]
  have fi : ∀ (b : Bool), b = true → Ev (fun k => impl_Descend.j0 k x most b n g t rows) ([], false) := by
    intro b hb
    subst hb
    refine Ev.step (f := fun _ => some (([] : List S50), false)) (fun k => ?_) (Ev.now _)
    simp only [impl_Descend.j0]
    rw [if_pos True.intro]
  by_cases hall : okB n g t rows = true ∧ eachB x n (-500) 500 = true ∧ inB most 0 500 = true
  · left
    obtain ⟨h1, h2, h3⟩ := hall
    obtain ⟨hr, hn⟩ := right_of n g t rows h1
    have h3' := h3
    simp only [inB, Bool.and_eq_true, decide_eq_true_eq] at h3'
    obtain ⟨m, hm⟩ : ∃ m : Nat, most = (m : Int) := ⟨most.toNat, by omega⟩
    have h2' := h2
    simp only [eachB, inB, Bool.and_eq_true, decide_eq_true_eq, List.all_eq_true] at h2'
    have ho : OnWay n.toNat x g t rows := onway_first hr (by omega) (fun i hi => by rw [rd_lt x i (by omega)]; exact h2'.2 _ (List.getElem_mem _))
    obtain ⟨r, hrun⟩ := run_total (most := m) hr (by omega) m x [] (by simp) ho false 0 (by omega)
    have hlr : r.length ≤ m := by
      have key : ∀ {x : List Int} {out : List S50} {on : Bool} {i : Nat} {r : List S50}, Run n.toNat m g t rows x out on i r → out.length ≤ m → r.length ≤ m := by
        intro x out on i r h
        induction h with
        | done x out => exact fun h => h
        | again x out r _ ih => exact ih
        | full x out on i hi hl' => exact fun h => h
        | skip x out r on i hi hl' hb _ ih => exact ih
        | move x out r on i u hi hl' hu0 hb _ ih => exact fun _ => ih (by rw [List.length_append]; simp; omega)
      exact key hrun (by simp)
    exact ⟨m, r, hm, by omega, h1, h2, hrun, ho, hlr⟩
  · right
    refine ⟨?_, ?_⟩
    · unfold spec_Descend.f
      simp only [Option.bind_some]
      refine Ev_bind _ (specOk_ev n g t rows hs) ?_
      cases h1 : okB n g t rows
      · simpa using fs true rfl
      simp only [if_true]
      refine Ev_bind _ (specAll_ev x hx n (-500) 500) ?_
      cases h2 : eachB x n (-500) 500
      · simpa using fs true rfl
      simp only [if_true, specIn, Option.bind_some]
      refine fs _ ?_
      cases h3 : inB most 0 500
      · rfl
      · exact absurd ⟨h1, h2, h3⟩ hall
    · unfold impl_Descend.f
      refine Ev_bind _ (implOk_ev n g t rows hs) ?_
      cases h1 : okB n g t rows
      · simpa using fi true rfl
      simp only [if_true]
      refine Ev_bind _ (implEach_ev x hx n (-500) 500) ?_
      cases h2 : eachB x n (-500) 500
      · simpa using fi true rfl
      simp only [if_true, implIn, Option.bind_some]
      refine fi _ ?_
      cases h3 : inB most 0 500
      · rfl
      · exact absurd ⟨h1, h2, h3⟩ hall

theorem each_near {x : List Int} {n : Int} (hn : (x.length : Int) = n) (h : ∀ i : Nat, i < n.toNat → -200000 ≤ rd x (i : Int) ∧ rd x (i : Int) ≤ 200000) : eachB x n (-200000) 200000 = true := by
  simp only [eachB, inB, Bool.and_eq_true, decide_eq_true_eq, List.all_eq_true]
  refine ⟨hn, fun v hv => ?_⟩
  obtain ⟨i, hi, rfl⟩ := List.getElem_of_mem hv
  rw [← rd_lt x i hi]
  exact h i (by omega)
/-- The cost at a point on the way. -/
theorem cost_at {n : Int} {g t : List Int} {rows : List S52} (hok : okB n g t rows = true) {x : List Int} (ho : OnWay n.toNat x g t rows) : CostB n g t rows x = costZ x g t rows n.toNat ∧ 0 ≤ costZ x g t rows n.toNat := by
  obtain ⟨hr, hn⟩ := right_of n g t rows hok
  have hb := onway_near hr ho
  have hl := ho.len
  have he := each_near (x := x) (n := n) (by omega) (fun i hi => by have := hb i hi; omega)
  have hc := cost_eq (near_of n g t rows x hok hl (fun i hi => by have := hb i hi; omega))
  unfold CostB
  rw [hok, he]
  exact ⟨hc.1, hc.2.1⟩
theorem cert_true {n : Int} {g t : List Int} {rows : List S52} (hok : okB n g t rows = true) {x : List Int} (ho : OnWay n.toNat x g t rows) (hb : ∀ j : Nat, j < n.toNat → Best (aZ t rows j) (bZ x g t rows n.toNat j) 0) : certB n g t rows x = true := by
  obtain ⟨hr, hn⟩ := right_of n g t rows hok
  obtain ⟨e0, e1⟩ := cost_at hok ho
  have hw := onway_near hr ho
  have hl := ho.len
  have he := each_near (x := x) (n := n) (by omega) (fun i hi => by have := hw i hi; omega)
  unfold certB
  rw [e0, decide_eq_true e1, Bool.true_and, List.all_eq_true]
  intro j hj
  have hj' : j < n.toNat := List.mem_range.1 hj
  have one : ∀ b : Int, -1 ≤ b → b ≤ 1 → 0 ≤ aZ t rows j * b * b + 2 * bZ x g t rows n.toNat j * b → stepB n g t rows x (costZ x g t rows n.toNat) j b = true := by
    intro b b0 b1 hq
    rw [step_impl n g t rows x j b _ hok he hj']
    obtain ⟨m1, m2, _⟩ := near_set (ready_of hr ho j hj') b (by omega)
    have hc := cost_eq m2
    rw [hc.1, m1, cost_set x g t rows n.toNat j hj' hl b, decide_eq_false (by omega), Bool.and_false]
    rfl
  have h2 := best_one (hb j hj')
  unfold placeB
  rw [one (-1) (by omega) (by omega) h2.2, one 1 (by omega) (by omega) h2.1]
  rfl
theorem wf_near {n : Nat} {g t : List Int} {rows : List S52} (hr : Right n g t rows) {x : List Int} (ho : OnWay n x g t rows) : WfL (WfI .i64) x := by
  have hw := onway_near hr ho
  have hl := ho.len
  have h6 := hr.n6
  refine ⟨by omega, fun v hv => ?_⟩
  obtain ⟨i, hi, rfl⟩ := List.getElem_of_mem hv
  have := hw i (by omega)
  rw [rd_lt x i hi] at this
  exact wfI_mk (by omega)
end Go.Proofs.Ytcjhbmjimjbphaa.QFnDescends
