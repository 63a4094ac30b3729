/- FnExactRunRing, plainly: both RunRing functions tell the same ring; copies, marks and comparisons of equal rings answer as they should. No condition. -/
import Derived.Test.YtjmpgngndnheaaaRingLibFnExactRunRing
import Derived.Test.YtjmpgngndnheaaaStatFnExactRunRing
set_option linter.unusedVariables false
set_option linter.unusedSimpArgs false
namespace Go.Proofs.Ytjmpgngndnheaaa.QFnExactRunRing
open Go.RowKit Go.Proofs.YtjmpgngndnheaaaW.PrintWords Go.Proofs.Ytjmpgngndnheaaa.Opn Go.Proofs.Ytjmpgngndnheaaa.Pl Go.Proofs.Ytjmpgngndnheaaa.Ring

noncomputable def runR (M T W : List Int) (a : Int) : List Int × List Int × Bool := if windsB M T W = true ∧ inB a 0 200 = true then ((RUN W a.toNat (M, T)).1, (RUN W a.toNat (M, T)).2, true) else ([], [], false)
theorem specRunL_ev {W : List Int} : ∀ (d : Nat) (i : Nat) (x : List Int × List Int), i + d ≤ 1000 → RV x.1 x.2 → WV W x.1.length → Ev (fun k => spec_RunRing.l0 k W ((i + d : Nat) : Int) (i : Int) x.1 x.2) ((RUN W d x).1, (RUN W d x).2, true) := by
  intro d
  induction d with
  | zero =>
    intro i x hi r v
    refine Ev.step (f := fun _ => some (x.1, x.2, true)) (fun k => ?_) (Ev.now _)
    simp only [spec_RunRing.l0]
    rw [if_neg (by omega)]
  | succ d ih =>
    intro i x hi r v
    obtain ⟨q, ql, _⟩ := STEP_ok r v
    refine Ev.step (f := fun k => (spec_l17Step.f k x.1 x.2 W).bind fun bt => spec_RunRing.l0 k W ((i + 1 + d : Nat) : Int) ((i + 1 : Nat) : Int) bt.1 bt.2) (fun k => ?_) ?_
    · simp only [spec_RunRing.l0]
      rw [if_pos (by omega), w64 (by omega) (by omega), show i + (d + 1) = i + 1 + d by omega]
      rfl
    · exact Ev_bind _ (specStep_ev r v) (ih (i + 1) (STEP W x) (by omega) q (by rw [ql]; exact v))
theorem implRunL_ev {W : List Int} : ∀ (d : Nat) (x : List Int × List Int), d ≤ 1000 → RV x.1 x.2 → WV W x.1.length → Ev (fun k => impl_RunRing.l0 k W (d : Int) x.1 x.2) ((RUN W d x).1, (RUN W d x).2, true) := by
  intro d
  induction d with
  | zero =>
    intro x hi r v
    refine Ev.step (f := fun _ => some (x.1, x.2, true)) (fun k => ?_) (Ev.now _)
    simp only [impl_RunRing.l0]
    rw [if_neg (by omega)]
  | succ d ih =>
    intro x hi r v
    obtain ⟨q, ql, _⟩ := STEP_ok r v
    refine Ev.step (f := fun k => (impl_advect.f k x.1 x.2 W).bind fun bt => impl_RunRing.l0 k W (d : Int) bt.1 bt.2) (fun k => ?_) ?_
    · simp only [impl_RunRing.l0]
      rw [if_pos (by omega), w64 (by omega) (by omega), show ((d + 1 : Nat) : Int) - 1 = (d : Int) by omega]
    · exact Ev_bind _ (implAdvect_ev r v) (ih (STEP W x) (by omega) q (by rw [ql]; exact v))
theorem specRunRing_ev (M T W : List Int) (a : Int) (h1 : M.length ≤ 1048576) (h2 : T.length ≤ 1048576) (h3 : W.length ≤ 1048576) : Ev (fun k => spec_RunRing.f k M T W a) (runR M T W a) := by
  unfold spec_RunRing.f runR
  refine Ev_bind _ (specWinds_ev M T W h1 h2 h3) ?_
  by_cases hb : windsB M T W = true
  · obtain ⟨r, v⟩ := windsB_true hb
    simp only [if_pos hb, specIn, Option.bind_some]
    by_cases ha : inB a 0 200 = true
    · simp only [hb, ha, and_self, if_true]
      have hh := (inB_iff _ _ _).1 ha
      refine Ev.step (f := fun k => spec_RunRing.l0 k W a 0 M T) (fun k => ?_) ?_
      · simp only [spec_RunRing.j0]
        rw [if_neg (by simp)]
        have := r.2.1
        have := r.2.2.1
        simp only [Option.bind_some, List.nil_append, List.length_nil]
        rw [if_pos (by omega), if_pos (by omega)]
      · have key := specRunL_ev (W := W) a.toNat 0 (M, T) (by omega) r v
        rw [show ((0 + a.toNat : Nat) : Int) = a by omega] at key
        exact key
    · simp only [Bool.not_eq_true] at ha; simp only [ha, Bool.false_eq_true, and_false, if_false]
      exact Ev.step (f := fun _ => some ([], [], false)) (fun k => by simp [spec_RunRing.j0]) (Ev.now _)
  · simp only [Bool.not_eq_true] at hb; simp only [hb, Bool.false_eq_true, false_and, if_false]
    exact Ev.step (f := fun _ => some ([], [], false)) (fun k => by simp [spec_RunRing.j0]) (Ev.now _)
theorem implRunRing_ev (M T W : List Int) (a : Int) (h1 : M.length ≤ 1048576) (h2 : T.length ≤ 1048576) (h3 : W.length ≤ 1048576) : Ev (fun k => impl_RunRing.f k M T W a) (runR M T W a) := by
  unfold impl_RunRing.f runR
  refine Ev_bind _ (implWinds_ev M T W h1 h2 h3) ?_
  by_cases hb : windsB M T W = true
  · obtain ⟨r, v⟩ := windsB_true hb
    simp only [if_pos hb, implIn, Option.bind_some]
    by_cases ha : inB a 0 200 = true
    · simp only [hb, ha, and_self, if_true]
      have hh := (inB_iff _ _ _).1 ha
      refine Ev.step (f := fun k => impl_RunRing.l0 k W a M T) (fun k => ?_) ?_
      · simp only [impl_RunRing.j0]
        rw [if_neg (by simp)]
        have := r.2.1
        have := r.2.2.1
        unfold slices_Clone_int64_int64.f
        rw [if_pos (by omega), if_pos (by omega)]
        rfl
      · have key := implRunL_ev (W := W) a.toNat (M, T) (by omega) r v
        rw [show ((a.toNat : Nat) : Int) = a by omega] at key
        exact key
    · simp only [Bool.not_eq_true] at ha; simp only [ha, Bool.false_eq_true, and_false, if_false]
      exact Ev.step (f := fun _ => some ([], [], false)) (fun k => by simp [impl_RunRing.j0]) (Ev.now _)
  · simp only [Bool.not_eq_true] at hb; simp only [hb, Bool.false_eq_true, false_and, if_false]
    exact Ev.step (f := fun _ => some ([], [], false)) (fun k => by simp [impl_RunRing.j0]) (Ev.now _)
theorem runR_len (M T W : List Int) (a : Int) : (runR M T W a).1.length ≤ 1048576 ∧ (runR M T W a).2.1.length ≤ 1048576 := by
  unfold runR
  by_cases h : windsB M T W = true ∧ inB a 0 200 = true
  · rw [if_pos h]
    obtain ⟨r, v⟩ := windsB_true h.1
    obtain ⟨q, _⟩ := RUN_ok a.toNat (M, T) r v
    have := q.2.1
    have := q.2.2.1
    dsimp only
    omega
  · rw [if_neg h]; simp

theorem toRing_ev (M T : List Int) (h1 : M.length ≤ 1048576) (h2 : T.length ≤ 1048576) : Ev (fun k => laws_toRing.f k M T) (M, T) := by
  unfold laws_toRing.f
  exact Ev_bind _ (toInts_ev M h1) (Ev_bind _ (toInts_ev T h2) (Ev.now _))
theorem eqRing_ev (M T : List Int) (h1 : M.length ≤ 1048576) (h2 : T.length ≤ 1048576) : Ev (fun k => laws_eqRing.f k M T M T) true := by
  unfold laws_eqRing.f
  refine Ev_bind _ (eqInts_ev M h1) ?_
  simp only [if_true]
  refine Ev_bind _ (eqInts_ev T h2) ?_
  simpa using Ev.now true
theorem markRing_ev (M T : List Int) (h1 : M.length ≤ 1048576) (h2 : T.length ≤ 1048576) : Ev (fun k => laws_markRing.f k M T 1) (1 + (M.length : Int) + (T.length : Int), rng 1 M.length, rng (1 + (M.length : Int)) T.length) := by
  unfold laws_markRing.f
  exact Ev_bind _ (mark_ev M h1 1 (by omega) (by omega)) (Ev_bind _ (mark_ev T h2 (1 + (M.length : Int)) (by omega) (by omega)) (Ev.now _))
theorem heldRing_ev (n m : Nat) (h1 : n ≤ 1048576) (h2 : m ≤ 1048576) : Ev (fun k => laws_heldRing.f k (rng 1 n) (rng (1 + (n : Int)) m) 1) (1 + (n : Int) + (m : Int)) := by
  unfold laws_heldRing.f
  refine Ev_bind _ (held_ev n h1 1 (by omega) (by omega)) ?_
  simp only [if_neg (show ¬ 1 + (n : Int) < 0 by omega)]
  refine Ev_bind _ (held_ev m h2 (1 + (n : Int)) (by omega) (by omega)) ?_
  simp only [if_neg (show ¬ 1 + (n : Int) + (m : Int) < 0 by omega)]
  exact Ev.now _

theorem Pure.FnExactRunRing : FnExactRunRing_Pure := by
  intro l0_0 l0_1 l1 a2 w0 w1 w2 w3
  refine Ev.rounds (g := fun k => laws_FnExactRunRing.f k l0_0 l0_1 l1 a2) ?_
  unfold laws_FnExactRunRing.f
  by_cases g2 : (l1.length : Int) > 1048576
  · simp only [if_pos g2]; exact Ev.now _
  simp only [if_neg g2]
  have hl0 : l0_0.length ≤ 9223372036854775807 := by have := w0.1; omega
  have hl1 : l0_1.length ≤ 9223372036854775807 := by have := w1.1; omega
  obtain ⟨t, ht, hs⟩ := szInt l0_0 hl0 1048576 (by omega) (by omega)
  have hsz : ∃ s, laws_szRing.f l0_0 l0_1 1048576 = some s ∧ (s < 0 ∨ (l0_0.length ≤ 1048576 ∧ l0_1.length ≤ 1048576)) := by
    unfold laws_szRing.f
    rw [ht, Option.bind_some]
    by_cases gt : t < 0
    · rw [if_pos gt]; exact ⟨-1, rfl, .inl (by omega)⟩
    · rw [if_neg gt]
      obtain ⟨t2, ht2, hs2⟩ := szInt l0_1 hl1 t (by omega) (by omega)
      rw [ht2, Option.bind_some]
      by_cases gt2 : t2 < 0
      · rw [if_pos gt2]; exact ⟨-1, rfl, .inl (by omega)⟩
      · rw [if_neg gt2]; exact ⟨t2, rfl, .inr (by omega)⟩
  obtain ⟨s, hs1, hs2⟩ := hsz
  simp only [hs1, Option.bind_some]
  by_cases gs : s < 0
  · simp only [if_pos gs]; exact Ev.now _
  simp only [if_neg gs]
  have h0 : l0_0.length ≤ 1048576 := by omega
  have h1 : l0_1.length ≤ 1048576 := by omega
  have h2 : l1.length ≤ 1048576 := by omega
  have e0 := toRing_ev l0_0 l0_1 h0 h1
  have e2 := toInts_ev l1 h2
  have eI := implRunRing_ev l0_0 l0_1 l1 a2 h0 h1 h2
  have eS := specRunRing_ev l0_0 l0_1 l1 a2 h0 h1 h2
  obtain ⟨n1, n2⟩ := runR_len l0_0 l0_1 l1 a2
  generalize runR l0_0 l0_1 l1 a2 = X at n1 n2 eI eS
  obtain ⟨A, B, b⟩ := X
  simp only at n1 n2
  have eq := eqRing_ev A B n1 n2
  refine Ev_bind _ e0 (Ev_bind _ e2 (Ev_bind _ eS (Ev_bind _ e0 (Ev_bind _ e2 (Ev_bind _ eI (Ev_bind _ eq ?_))))))
  simp only [if_true, bne_self_eq_false]
  refine Ev.step (fun k => by simp only [laws_FnExactRunRing.j0]; rw [if_neg (by simp)]) ?_
  refine Ev_bind _ e0 (Ev_bind _ (eqRing_ev l0_0 l0_1 h0 h1) ?_)
  simp only [if_true]
  refine Ev_bind _ e2 (Ev_bind _ (eqInts_ev l1 h2) ?_)
  simp only [if_true]
  refine Ev_bind _ (markRing_ev l0_0 l0_1 h0 h1) (Ev_bind _ (mark_ev l1 h2 (1 + (l0_0.length : Int) + (l0_1.length : Int)) (by omega) (by omega)) ?_)
  simp only [if_neg (show ¬ 1 + (l0_0.length : Int) + (l0_1.length : Int) + (l1.length : Int) < 0 by omega)]
  refine Ev_bind _ eq ?_
  simp only [if_true, bne_self_eq_false]
  refine Ev.step (fun k => by simp only [laws_FnExactRunRing.j1]; rw [if_neg (by simp)]) ?_
  refine Ev_bind _ (markRing_ev A B n1 n2) (Ev_bind _ (heldRing_ev A.length B.length n1 n2) ?_)
  simp only [if_neg (show ¬ 1 + (A.length : Int) + (B.length : Int) < 0 by omega), if_true]
  refine Ev_bind _ e0 (Ev_bind _ e2 (Ev_bind _ eI (Ev_bind _ eq ?_)))
  simp only [if_true, bne_self_eq_false]
  refine Ev.step (fun k => by simp only [laws_FnExactRunRing.j2]; rw [if_neg (by simp)]) ?_
  refine Ev_bind _ (heldRing_ev A.length B.length n1 n2) ?_
  simp only [if_neg (show ¬ 1 + (A.length : Int) + (B.length : Int) < 0 by omega), if_true]
  exact Ev.now _
end Go.Proofs.Ytjmpgngndnheaaa.QFnExactRunRing
