/- A good suite, asked both ways. Plain. -/
import Derived.Test.YtjoghfehmhapbaaSuiteLibDFnSuiteOnce
set_option linter.unusedVariables false
set_option linter.unusedSimpArgs false
namespace Go.Proofs.Ytjoghfehmhapbaa.QFnSuiteOnce
open Go.RowKit Go.Proofs.YtjoghfehmhapbaaW.PrintWords Go.Proofs.Ytjoghfehmhapbaa.Opn Go.Proofs.Ytjoghfehmhapbaa.Pl

theorem rdJ_set (l : List S43) (i q : Nat) (v : S43) (hq : q < l.length) : rd_T43 (l.set i v) (q : Int) = if i = q then v else rd_T43 l (q : Int) := by
  rw [rdT43 _ q (by simpa using hq), rdT43 l q hq, List.getElem_set]
/-! ### a good suite -/
def intsFrom (l : List Int) (a b : Int) (i : Nat) : Prop := ∀ q : Nat, i ≤ q → q < l.length → a ≤ rd l (q : Int) ∧ rd l (q : Int) ≤ b
def okFrom (i : Int) (l : List Int) (j : Nat) : Prop := ∀ q : Nat, j ≤ q → q < l.length → (1 ≤ rd l (q : Int) ∧ rd l (q : Int) ≤ i) ∧ (0 < q → rd l ((q - 1 : Nat) : Int) < rd l (q : Int))
def attrOk (n : Int) (t : S39) : Prop := (1 ≤ t.f1 ∧ t.f1 ≤ n) ∧ (0 ≤ t.f2 ∧ t.f2 ≤ 1000000000000) ∧ (1 ≤ t.f3 ∧ t.f3 ≤ 5)
def tasksFrom (l : List S39) (n : Int) (i : Nat) : Prop := ∀ q : Nat, i ≤ q → q < l.length → attrOk n (rd_T39 l (q : Int)) ∧ okFrom (q : Int) (rd_T39 l (q : Int)).f0 0
def suiteOk (l0 : List S39) (l1 : List Int) : Prop := (1 ≤ l0.length ∧ l0.length ≤ 60) ∧ (1 ≤ l1.length ∧ l1.length ≤ 6) ∧ intsFrom l1 1 60 0 ∧ tasksFrom l0 (l1.length : Int) 0
theorem specIn (a b c : Int) : spec_l2In.f a b c = some (decide (b ≤ a ∧ a ≤ c)) := by
  unfold spec_l2In.f
  by_cases h : a ≥ b
  · rw [if_pos h]; congr 1; exact decide_eq_decide.2 ⟨fun x => ⟨h, x⟩, fun x => x.2⟩
  · rw [if_neg h]; congr 1; exact (decide_eq_false (fun x => h x.1)).symm
theorem implIn (a b c : Int) : impl_in.f a b c = some (decide (b ≤ a ∧ a ≤ c)) := by
  unfold impl_in.f
  by_cases h : a ≥ b
  · rw [if_pos h]; congr 1; exact decide_eq_decide.2 ⟨fun x => ⟨h, x⟩, fun x => x.2⟩
  · rw [if_neg h]; congr 1; exact (decide_eq_false (fun x => h x.1)).symm
theorem ints_end (l : List Int) (a b : Int) : dec_ (intsFrom l a b l.length) = true := dec_true (fun q h1 h2 => by omega)
theorem ints_step (l : List Int) (a b : Int) (i : Nat) (hi : i < l.length) (h : a ≤ rd l (i : Int) ∧ rd l (i : Int) ≤ b) : dec_ (intsFrom l a b (i + 1)) = dec_ (intsFrom l a b i) := dec_iff ⟨fun x q h1 h2 => by
  by_cases e : q = i
  · rw [e]; exact h
  · exact x q (by omega) h2, fun x q h1 h2 => x q (by omega) h2⟩
theorem specAll_ev (l : List Int) (a b : Int) (hl : l.length ≤ 1048576) : Ev (fun k => spec_l15All.f k l (l.length : Int) a b) (dec_ (intsFrom l a b 0)) := by
  unfold spec_l15All.f
  simp only [if_true]
  exact Ev_up (fun k i => spec_l15All.l0 k l a b (i : Int)) (fun i => dec_ (intsFrom l a b i)) l.length (by
      rw [ints_end]
      refine Ev.step (f := fun _ => some true) (fun k => ?_) (Ev.now _)
      simp only [spec_l15All.l0]
      rw [if_neg (by omega)]) (by
      intro i hi ih
      by_cases c : a ≤ rd l (i : Int) ∧ rd l (i : Int) ≤ b
      · rw [← ints_step l a b i hi c]
        refine Ev.step (fun k => ?_) ih
        simp only [spec_l15All.l0, specIn]
        rw [if_pos (by omega), if_pos (by omega), decide_eq_true c, Option.bind_some, if_pos rfl, w64 (n := (i : Int) + 1) (by omega) (by omega)]
        rfl
      · rw [dec_false (fun x => c (x i (Nat.le_refl _) hi))]
        refine Ev.step (f := fun _ => some false) (fun k => ?_) (Ev.now _)
        simp only [spec_l15All.l0, specIn]
        rw [if_pos (by omega), if_pos (by omega), decide_eq_false c]
        rfl) 0 (Nat.zero_le _)
theorem implEach_ev (l : List Int) (a b : Int) (hl : l.length ≤ 1048576) : Ev (fun k => impl_each.f k l (l.length : Int) a b) (dec_ (intsFrom l a b 0)) := by
  unfold impl_each.f
  simp only [if_true]
  exact Ev_up (fun k i => impl_each.l0 k a b l (l.length : Int) (i : Int)) (fun i => dec_ (intsFrom l a b i)) l.length (by
      rw [ints_end]
      refine Ev.step (f := fun _ => some true) (fun k => ?_) (Ev.now _)
      simp only [impl_each.l0]
      rw [if_neg (by omega)]) (by
      intro i hi ih
      by_cases c : a ≤ rd l (i : Int) ∧ rd l (i : Int) ≤ b
      · rw [← ints_step l a b i hi c]
        refine Ev.step (fun k => ?_) ih
        simp only [impl_each.l0, implIn]
        rw [if_pos (by omega), if_pos (by omega), if_pos (by omega), decide_eq_true c, Option.bind_some, if_pos rfl, w64 (n := (i : Int) + 1) (by omega) (by omega)]
        rfl
      · rw [dec_false (fun x => c (x i (Nat.le_refl _) hi))]
        refine Ev.step (f := fun _ => some false) (fun k => ?_) (Ev.now _)
        simp only [impl_each.l0, implIn]
        rw [if_pos (by omega), if_pos (by omega), if_pos (by omega), decide_eq_false c]
        rfl) 0 (Nat.zero_le _)
theorem ok_len {i : Int} {l : List Int} (h : okFrom i l 0) (hi : 0 ≤ i) : (l.length : Int) ≤ i := by
  have key : ∀ q : Nat, q < l.length → (q : Int) + 1 ≤ rd l (q : Int) := by
    intro q
    induction q with
    | zero => intro hq; have := (h 0 (Nat.le_refl _) hq).1.1; simpa using this
    | succ q ih =>
      intro hq
      have h1 := ih (by omega)
      have h2 := (h (q + 1) (by omega) hq).2 (by omega)
      rw [show q + 1 - 1 = q by omega] at h2
      omega
  by_cases e : l.length = 0
  · omega
  · have h1 := key (l.length - 1) (by omega)
    have h2 := (h (l.length - 1) (by omega) (by omega)).1.2
    omega
theorem ok_step {i : Int} {l : List Int} {j : Nat} {R : Prop} (hj : j < l.length) (h : (1 ≤ rd l (j : Int) ∧ rd l (j : Int) ≤ i) ∧ (0 < j → rd l ((j - 1 : Nat) : Int) < rd l (j : Int))) : dec_ (okFrom i l (j + 1) ∧ R) = dec_ (okFrom i l j ∧ R) := dec_iff ⟨fun x => ⟨fun q h1 h2 => by
  by_cases e : q = j
  · rw [e]; exact h
  · exact x.1 q (by omega) h2, x.2⟩, fun x => ⟨fun q h1 h2 => x.1 q (by omega) h2, x.2⟩⟩
theorem ok_end (i : Int) (l : List Int) (R : Prop) : dec_ (okFrom i l l.length ∧ R) = dec_ R := dec_iff ⟨fun x => x.2, fun x => ⟨fun q h1 h2 => by omega, x⟩⟩
theorem tasks_step (l : List S39) (n : Int) (i : Nat) (hi : i < l.length) : dec_ (tasksFrom l n i) = dec_ (okFrom (i : Int) (rd_T39 l (i : Int)).f0 0 ∧ attrOk n (rd_T39 l (i : Int)) ∧ tasksFrom l n (i + 1)) := dec_iff ⟨fun x => ⟨(x i (Nat.le_refl _) hi).2, (x i (Nat.le_refl _) hi).1, fun q h1 h2 => x q (by omega) h2⟩, fun x q h1 h2 => by
  by_cases e : q = i
  · rw [e]; exact ⟨x.2.1, x.1⟩
  · exact x.2.2 q (by omega) h2⟩
end Go.Proofs.Ytjoghfehmhapbaa.QFnSuiteOnce
