/- Certified, as the program asks it: no place's step of one is cheaper. Conditions: the lists are no longer than what is drawn. -/
import Derived.Test.YtcjhbmjimjbphaaDescLib4FnDescends
set_option linter.unusedVariables false
set_option linter.unusedSimpArgs false
namespace Go.Proofs.Ytcjhbmjimjbphaa.QFnDescends
open Go.RowKit Go.Proofs.YtcjhbmjimjbphaaW.PrintWords Go.Proofs.Ytcjhbmjimjbphaa.Opn Go.Proofs.Ytcjhbmjimjbphaa.Pl

def stepB (n : Int) (g t : List Int) (rows : List S52) (x : List Int) (c : Int) (i : Nat) (b : Int) : Bool :=
  !(decide (0 ≤ CostB n g t rows (movedL x i b)) && decide (CostB n g t rows (movedL x i b) < c))
def placeB (n : Int) (g t : List Int) (rows : List S52) (x : List Int) (c : Int) (i : Nat) : Bool := stepB n g t rows x c i (-1) && stepB n g t rows x c i 1
def certB (n : Int) (g t : List Int) (rows : List S52) (x : List Int) : Bool :=
  decide (0 ≤ CostB n g t rows x) && (List.range n.toNat).all (placeB n g t rows x (CostB n g t rows x))

theorem CostB_right {n : Int} {g t : List Int} {rows : List S52} {x : List Int} (h : 0 ≤ CostB n g t rows x) : okB n g t rows = true ∧ eachB x n (-200000) 200000 = true ∧ CostB n g t rows x = costW x g t rows n.toNat := by
  unfold CostB at h ⊢
  by_cases hc : (okB n g t rows && eachB x n (-200000) 200000) = true
  · rw [if_pos hc]
    rw [Bool.and_eq_true] at hc
    exact ⟨hc.1, hc.2, rfl⟩
  · rw [if_neg hc] at h
    omega
theorem range_all (p : Nat → Bool) (n i : Nat) (h : i < n) : ((List.range n).drop i).all p = (p i && ((List.range n).drop (i + 1)).all p) := by
  rw [List.drop_eq_getElem_cons (by simpa using h), List.all_cons, List.getElem_range]

theorem step_impl (n : Int) (g t : List Int) (rows : List S52) (x : List Int) (i : Nat) (b : Int) (c : Int) (hok : okB n g t rows = true) (hea : eachB x n (-200000) 200000 = true) (hi : i < n.toNat) :
    stepB n g t rows x c i b = !(eachB (movedL x i b) n (-200000) 200000 && decide (costW (movedL x i b) g t rows n.toNat < c)) := by
  unfold stepB CostB
  rw [hok, Bool.true_and]
  cases he : eachB (movedL x i b) n (-200000) 200000
  · simp
  · simp only [if_true, Bool.true_and]
    obtain ⟨hf, hn⟩ := fits_of n g t rows x _ _ hok hea
    have hlx := hf.lx
    have hl : (movedL x i b).length = n.toNat := by unfold movedL; rw [List.length_set]; omega
    have hne := near_of n g t rows (movedL x i b) hok hl (by
      intro j hj
      simp only [eachB, inB, Bool.and_eq_true, decide_eq_true_eq, List.all_eq_true] at he
      rw [rd_lt _ j (by omega)]
      have := he.2 _ (List.getElem_mem (h := (by omega : j < (movedL x i b).length)))
      omega)
    obtain ⟨e1, e2, _, _⟩ := cost_eq hne
    rw [decide_eq_true (show 0 ≤ costW (movedL x i b) g t rows n.toNat by omega), Bool.true_and]

theorem set_back (x : List Int) (i : Nat) (hi : i < x.length) (v : Int) : (x.set i v).set i (rd x (i : Int)) = x := by
  rw [List.set_set, rd_lt x i hi]
  exact List.set_getElem_self hi

theorem implCert_ev (n : Int) (g t : List Int) (rows : List S52) (x : List Int) (hs : Small g t rows) (hx : x.length ≤ 1048576) (hw : WfL (WfI .i64) x) : Ev (fun k => impl_Certified.f k n g t rows x) (certB n g t rows x) := by
  unfold impl_Certified.f certB
  refine Ev_bind _ (implCostTop_ev n g t rows x hs hx) ?_
  by_cases hc : CostB n g t rows x < 0
  · simp only [if_pos hc, decide_eq_false (show ¬ 0 ≤ CostB n g t rows x by omega), Bool.false_and]
    exact Ev.now _
  simp only [if_neg hc, decide_eq_true (show 0 ≤ CostB n g t rows x by omega), Bool.true_and, Option.bind_some, List.nil_append, List.length_nil, Nat.zero_add, if_pos (show x.length < 17592186044416 by omega)]
  obtain ⟨hok, hea, _⟩ := CostB_right (show 0 ≤ CostB n g t rows x by omega)
  obtain ⟨hf, hn⟩ := fits_of n g t rows x _ _ hok hea
  obtain ⟨c, hcc⟩ : ∃ c, c = CostB n g t rows x := ⟨_, rfl⟩
  have hlx := hf.lx
  have hsm := hf.small
  rw [← hcc]
  have key := Ev_up (fun k i => impl_Certified.l0 k x c x (x.length : Int) (i : Int) n g t rows) (fun i => ((List.range n.toNat).drop i).all (placeB n g t rows x c)) n.toNat (by
      refine Ev.step (f := fun _ => some true) (fun k => ?_) (by rw [List.drop_of_length_le (by simp)]; exact Ev.now true)
      simp only [impl_Certified.l0]
      rw [if_neg (by omega)]) (by
      intro i hi ih
      have hq : ∀ (y : List Int) (j : Nat) (hj : j < 2) (b : Int) (_ : rd [-1, 1] (j : Int) = b) (_ : y.length = x.length) (_ : y.set i (wrap64 (rd x (i : Int) + b)) = movedL x i b) (r : Bool),
          (stepB n g t rows x c i b = true → Ev (fun k => impl_Certified.l1 k x c (movedL x i b) (i : Int) (x.length : Int) (i : Int) [-1, 1] 2 ((j + 1 : Nat) : Int) n g t rows) r) →
          Ev (fun k => impl_Certified.l1 k x c y (i : Int) (x.length : Int) (i : Int) [-1, 1] 2 (j : Int) n g t rows) (stepB n g t rows x c i b && r) := by
        intro y j hj b hb hy hset r hnext
        have hml : (movedL x i b).length ≤ 1048576 := by unfold movedL; rw [List.length_set]; exact hx
        refine Ev.step (f := fun k => (impl_point.f k n g t rows (movedL x i b)).bind fun t237 => if t237 = true then ((impl_cost.f k n g t rows (movedL x i b)).bind fun t238 => if t238 < c then some false else impl_Certified.l1 k x c (movedL x i b) (i : Int) (x.length : Int) (i : Int) [-1, 1] 2 ((j + 1 : Nat) : Int) n g t rows) else impl_Certified.l1 k x c (movedL x i b) (i : Int) (x.length : Int) (i : Int) [-1, 1] 2 ((j + 1 : Nat) : Int) n g t rows) (fun k => ?_) ?_
        · simp only [impl_Certified.l1]
          rw [if_pos (by omega), if_pos (by omega), if_pos (by simp; omega), if_pos (by omega), if_pos (by omega), if_pos (by omega), hb, Int.toNat_natCast, hset, w64 (n := (j : Int) + 1) (by omega) (by omega)]
          rfl
        · rw [step_impl n g t rows x i b c hok hea hi] at hnext ⊢
          unfold impl_point.f
          refine Ev_bind (eachB (movedL x i b) n (-200000) 200000) (Ev_bind _ (implEach_ev _ hml n (-200000) 200000) (Ev.now _)) ?_
          cases he : eachB (movedL x i b) n (-200000) 200000
          · rw [he] at hnext
            simpa using hnext rfl
          · rw [he] at hnext
            simp only [if_true]
            obtain ⟨hf', _⟩ := fits_of n g t rows (movedL x i b) _ _ hok he
            refine Ev_bind _ (implCost_ev n.toNat _ g t rows hf' n) ?_
            by_cases h1 : costW (movedL x i b) g t rows n.toNat < c
            · simp only [if_pos h1, decide_eq_true h1]
              exact Ev.now false
            · simp only [if_neg h1]
              rw [decide_eq_false h1] at hnext ⊢
              simpa using hnext rfl
      refine Ev.step (f := fun k => impl_Certified.l1 k x c x (i : Int) (x.length : Int) (i : Int) [-1, 1] 2 0 n g t rows) (fun k => ?_) ?_
      · simp only [impl_Certified.l0]
        rw [if_pos (by omega)]
        rfl
      · rw [range_all _ _ i hi]
        have hlen : ∀ b, (movedL x i b).length = x.length := fun b => by unfold movedL; rw [List.length_set]
        have hend : Ev (fun k => impl_Certified.l1 k x c (movedL x i 1) (i : Int) (x.length : Int) (i : Int) [-1, 1] 2 ((1 + 1 : Nat) : Int) n g t rows) (((List.range n.toNat).drop (i + 1)).all (placeB n g t rows x c)) := by
          refine Ev.step (fun k => ?_) ih
          simp only [impl_Certified.l1]
          rw [if_neg (by omega), if_pos (by omega), if_pos (by omega), if_pos (by rw [hlen]; omega), w64 (n := (i : Int) + 1) (by omega) (by omega), Int.toNat_natCast]
          unfold movedL
          rw [set_back x i (by omega)]
          rfl
        have h1 := hq (movedL x i (-1)) 1 (by omega) 1 rfl (hlen _) (by unfold movedL; rw [List.set_set]) _ (fun _ => hend)
        have h0 := hq x 0 (by omega) (-1) rfl rfl rfl _ (fun _ => h1)
        unfold placeB
        rw [Bool.and_assoc]
        exact h0) 0 (Nat.zero_le _)
  simpa using key
end Go.Proofs.Ytcjhbmjimjbphaa.QFnDescends
