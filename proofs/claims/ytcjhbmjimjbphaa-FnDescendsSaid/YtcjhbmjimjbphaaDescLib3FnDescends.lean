/- The reference's halving steps find the best move, too. Conditions as in the text on the program's choice. -/
import Derived.Test.YtcjhbmjimjbphaaDescLib2FnDescends
set_option linter.unusedVariables false
set_option linter.unusedSimpArgs false
namespace Go.Proofs.Ytcjhbmjimjbphaa.QFnDescends
open Go.RowKit Go.Proofs.YtcjhbmjimjbphaaW.PrintWords Go.Proofs.Ytcjhbmjimjbphaa.Opn Go.Proofs.Ytcjhbmjimjbphaa.Pl

theorem specMoved' (x : List Int) (hx : x.length ≤ 1048576) (i : Nat) (hi : i < x.length) (b : Int) : spec_l15Moved.f x (i : Int) b = some (movedL x i b) := by
  unfold spec_l15Moved.f movedL
  simp only [Option.bind_some, List.nil_append, List.length_nil, Nat.zero_add]
  rw [if_pos (by omega), if_pos (by omega), if_pos (by omega)]
  simp

theorem search_ev {n : Nat} {x g t : List Int} {rows : List S52} {i : Nat} (hr : Ready n x g t rows i) (s : Int) (hs : s = 1 ∨ s = -1) (b0 l0 : Int) :
    ∀ (m : Nat) (hm : m ≤ 17) (v : Int) (P : Nat) (_ : P = 2 ^ m), 0 ≤ v → v + 2 * (P : Int) ≤ 262144 →
      (v = 0 ∨ 2 * (aZ t rows i * v) - aZ t rows i + 2 * (s * bZ x g t rows n i) < 0) → ¬ 2 * (aZ t rows i * (v + 2 * (P : Int))) - aZ t rows i + 2 * (s * bZ x g t rows n i) < 0 →
      ∃ v', 0 ≤ v' ∧ v' < 262144 ∧ (v' = 0 ∨ 2 * (aZ t rows i * v') - aZ t rows i + 2 * (s * bZ x g t rows n i) < 0) ∧ ¬ 2 * (aZ t rows i * (v' + 1)) - aZ t rows i + 2 * (s * bZ x g t rows n i) < 0 ∧
        ∀ r, Ev (fun k => spec_l15Best.l1 k x (i : Int) b0 l0 s v' 0 (n : Int) g t rows) r → Ev (fun k => spec_l15Best.l1 k x (i : Int) b0 l0 s v (P : Int) (n : Int) g t rows) r := by
  have hi := hr.hi
  have hlx := hr.hf.lx
  have hsm := hr.hf.small
  obtain ⟨a, hea⟩ : ∃ a, a = aZ t rows i := ⟨_, rfl⟩
  obtain ⟨b, heb⟩ : ∃ b, b = bZ x g t rows n i := ⟨_, rfl⟩
  rw [← hea, ← heb]
  -- one step
  have step : ∀ (v P : Int), 0 ≤ v → 0 < P → v + P ≤ 262144 → ∀ (P' : Int), wrap64 (P.tdiv 2) = P' → ∀ r,
      (2 * (a * (v + P)) - a + 2 * (s * b) < 0 → Ev (fun k => spec_l15Best.l1 k x (i : Int) b0 l0 s (v + P) P' (n : Int) g t rows) r) →
      (¬ 2 * (a * (v + P)) - a + 2 * (s * b) < 0 → Ev (fun k => spec_l15Best.l1 k x (i : Int) b0 l0 s v P' (n : Int) g t rows) r) →
      Ev (fun k => spec_l15Best.l1 k x (i : Int) b0 l0 s v P (n : Int) g t rows) r := by
    intro v P hv hP hvP P' hP' r h1 h2
    have hu : -262145 ≤ s * (v + P) ∧ s * (v + P) ≤ 262145 := by rcases hs with rfl | rfl <;> omega
    have hu2 : -262145 ≤ s * (v + P) - s ∧ s * (v + P) - s ≤ 262145 := by rcases hs with rfl | rfl <;> omega
    have c1 := costW_set hr (s * (v + P)) hu
    have c2 := costW_set hr (s * (v + P) - s) hu2
    rw [← hea, ← heb] at c1 c2
    have hd : costW (movedL x i (s * (v + P))) g t rows n - costW (movedL x i (s * (v + P) - s)) g t rows n = 2 * (a * (v + P)) - a + 2 * (s * b) := by
      rw [c1, c2]
      rcases hs with rfl | rfl <;> grind
    refine Ev.step (f := fun k => (spec_l15Cost.f k (n : Int) g t rows (movedL x i (s * (v + P)))).bind fun t190 => (spec_l15Cost.f k (n : Int) g t rows (movedL x i (s * (v + P) - s))).bind fun t194 => if t190 < t194 then spec_l15Best.l1 k x (i : Int) b0 l0 s (v + P) P' (n : Int) g t rows else spec_l15Best.l1 k x (i : Int) b0 l0 s v P' (n : Int) g t rows) (fun k => ?_) ?_
    · simp only [spec_l15Best.l1]
      rw [if_pos (by omega), w64 (n := v + P) (by omega) (by omega), w64 (n := s * (v + P)) (by omega) (by omega), w64 (n := s * (v + P) - s) (by omega) (by omega), specMoved' x (by omega) i (by omega), specMoved' x (by omega) i (by omega), hP']
      rfl
    · refine Ev_bind _ (specCost_ev n _ g t rows (near_set hr _ hu).2.2) ?_
      refine Ev_bind _ (specCost_ev n _ g t rows (near_set hr _ hu2).2.2) ?_
      by_cases hc : 2 * (a * (v + P)) - a + 2 * (s * b) < 0
      · simp only [if_pos (show costW (movedL x i (s * (v + P))) g t rows n < costW (movedL x i (s * (v + P) - s)) g t rows n by omega)]
        exact h1 hc
      · simp only [if_neg (show ¬ costW (movedL x i (s * (v + P))) g t rows n < costW (movedL x i (s * (v + P) - s)) g t rows n by omega)]
        exact h2 hc
  intro m
  induction m with
  | zero =>
    intro hm v P hP h0 hle hlo hhi
    obtain rfl : P = 1 := by simpa using hP
    have e1 : ((1 : Nat) : Int) = 1 := rfl
    have e2 : v + 2 * ((1 : Nat) : Int) = v + 1 + 1 := by omega
    rw [e2] at hhi hle
    have ht : wrap64 ((1 : Int).tdiv 2) = 0 := by
      rw [show (1 : Int).tdiv 2 = 0 from rfl]; exact w64 (by omega) (by omega)
    by_cases hc : 2 * (a * (v + 1)) - a + 2 * (s * b) < 0
    · refine ⟨v + 1, by omega, by omega, .inr hc, hhi, fun r hr' => ?_⟩
      rw [e1]
      exact step v 1 h0 (by omega) (by omega) 0 ht r (fun _ => hr') (fun h => absurd hc h)
    · refine ⟨v, h0, by omega, hlo, hc, fun r hr' => ?_⟩
      rw [e1]
      exact step v 1 h0 (by omega) (by omega) 0 ht r (fun h => absurd h hc) (fun _ => hr')
  | succ m ih =>
    intro hm v P hP h0 hle hlo hhi
    obtain ⟨Q, hQ⟩ : ∃ Q : Nat, Q = 2 ^ m := ⟨_, rfl⟩
    have hPQ : P = 2 * Q := by rw [hP, hQ, Nat.pow_succ]; omega
    have hQ0 : 0 < Q := by rw [hQ]; exact Nat.two_pow_pos m
    have HQ : Aside0 (Q = 2 ^ m) := ⟨hQ⟩
    clear hQ hP
    have ht : wrap64 ((P : Int).tdiv 2) = (Q : Int) := by
      rw [Int.tdiv_eq_ediv_of_nonneg (by omega), w64 (by omega) (by omega)]
      omega
    have HT := Aside0.mk ht
    clear ht
    by_cases hc : 2 * (a * (v + (P : Int))) - a + 2 * (s * b) < 0
    · have e : v + (P : Int) + 2 * (Q : Int) = v + 2 * (P : Int) := by omega
      obtain ⟨v', g1, g2, g3, g4, g5⟩ := ih (by omega) (v + (P : Int)) Q HQ.out (by omega) (by omega) (.inr hc) (by rw [e]; exact hhi)
      exact ⟨v', g1, g2, g3, g4, fun r hr' => step v (P : Int) h0 (by omega) (by omega) (Q : Int) HT.out r (fun _ => g5 r hr') (fun h => absurd hc h)⟩
    · have e : v + 2 * (Q : Int) = v + (P : Int) := by omega
      obtain ⟨v', g1, g2, g3, g4, g5⟩ := ih (by omega) v Q HQ.out h0 (by omega) hlo (by rw [e]; exact hc)
      exact ⟨v', g1, g2, g3, g4, fun r hr' => step v (P : Int) h0 (by omega) (by omega) (Q : Int) HT.out r (fun h => absurd h hc) (fun _ => g5 r hr')⟩

theorem specBest_ev {n : Nat} {x g t : List Int} {rows : List S52} {i : Nat} (hr : Ready n x g t rows i) :
    ∃ u, Best (aZ t rows i) (bZ x g t rows n i) u ∧ Ev (fun k => spec_l15Best.f k (n : Int) g t rows x (i : Int)) u := by
  have hi := hr.hi
  have hlx := hr.hf.lx
  have hsm := hr.hf.small
  have ha := hr.ha
  have hb := hr.hb
  obtain ⟨a, hea⟩ : ∃ a, a = aZ t rows i := ⟨_, rfl⟩
  obtain ⟨b, heb⟩ : ∃ b, b = bZ x g t rows n i := ⟨_, rfl⟩
  obtain ⟨C, hC⟩ : ∃ C, C = costZ x g t rows n := ⟨_, rfl⟩
  have c0 := (cost_eq hr.hn).1
  have z : a * 0 = 0 := Int.mul_zero a
  have zb : a * 262144 = 262144 * a := Int.mul_comm _ _
  -- both searches, whatever best and least are
  have S1 := fun b0 l0 => search_ev hr 1 (.inl rfl) b0 l0 17 (Nat.le_refl _) 0 131072 rfl (by omega) (by omega) (.inl rfl) (by rw [← hea, ← heb, show (0 : Int) + 2 * ((131072 : Nat) : Int) = 262144 by omega, zb]; rw [← hea, ← heb] at hb; omega)
  have S2 := fun b0 l0 => search_ev hr (-1) (.inr rfl) b0 l0 17 (Nat.le_refl _) 0 131072 rfl (by omega) (by omega) (.inl rfl) (by rw [← hea, ← heb, show (0 : Int) + 2 * ((131072 : Nat) : Int) = 262144 by omega, zb]; rw [← hea, ← heb] at hb; omega)
  rw [← hea] at ha S1 S2 ⊢
  rw [← heb] at hb S1 S2 ⊢
  rw [← hea] at hb
  -- a search's end
  have fin : ∀ (s v b0 l0 : Int), (s = 1 ∨ s = -1) → 0 ≤ v → v < 262144 → ∀ r,
      (C + (a * (s * v) * (s * v) + 2 * b * (s * v)) < l0 → Ev (fun k => spec_l15Best.l0 k x (i : Int) (s * v) (C + (a * (s * v) * (s * v) + 2 * b * (s * v))) (s - 2) (n : Int) g t rows) r) →
      (¬ C + (a * (s * v) * (s * v) + 2 * b * (s * v)) < l0 → Ev (fun k => spec_l15Best.l0 k x (i : Int) b0 l0 (s - 2) (n : Int) g t rows) r) →
      Ev (fun k => spec_l15Best.l1 k x (i : Int) b0 l0 s v 0 (n : Int) g t rows) r := by
    intro s v b0 l0 hs h0 h1 r k1 k2
    have hu : -262145 ≤ s * v ∧ s * v ≤ 262145 := by rcases hs with rfl | rfl <;> omega
    have c1 := costW_set hr (s * v) hu
    rw [← hea, ← heb, ← hC] at c1
    refine Ev.step (f := fun k => (spec_l15Cost.f k (n : Int) g t rows (movedL x i (s * v))).bind fun t198 => if t198 < l0 then spec_l15Best.l0 k x (i : Int) (s * v) t198 (s - 2) (n : Int) g t rows else spec_l15Best.l0 k x (i : Int) b0 l0 (s - 2) (n : Int) g t rows) (fun k => ?_) ?_
    · simp only [spec_l15Best.l1]
      rw [if_neg (by omega), w64 (n := s * v) (by omega) (by omega), w64 (n := s - 2) (by omega) (by omega), specMoved' x (by omega) i (by omega)]
      rfl
    · refine Ev_bind _ (specCost_ev n _ g t rows (near_set hr _ hu).2.2) ?_
      rw [c1]
      by_cases hc : C + (a * (s * v) * (s * v) + 2 * b * (s * v)) < l0
      · simp only [if_pos hc]; exact k1 hc
      · simp only [if_neg hc]; exact k2 hc
  have enter : ∀ (s b0 l0 : Int), -1 ≤ s → ∀ r, Ev (fun k => spec_l15Best.l1 k x (i : Int) b0 l0 s 0 131072 (n : Int) g t rows) r → Ev (fun k => spec_l15Best.l0 k x (i : Int) b0 l0 s (n : Int) g t rows) r := by
    intro s b0 l0 hs r h
    refine Ev.step (fun k => ?_) h
    simp only [spec_l15Best.l0]
    rw [if_pos (by omega)]
  have stop : ∀ (b0 l0 : Int), Ev (fun k => spec_l15Best.l0 k x (i : Int) b0 l0 (-3) (n : Int) g t rows) b0 := by
    intro b0 l0
    refine Ev.step (f := fun _ => some b0) (fun k => ?_) (Ev.now _)
    simp only [spec_l15Best.l0]
    rw [if_neg (by omega)]
  have top : ∀ r, Ev (fun k => spec_l15Best.l0 k x (i : Int) 0 C 1 (n : Int) g t rows) r → Ev (fun k => spec_l15Best.f k (n : Int) g t rows x (i : Int)) r := by
    intro r h
    unfold spec_l15Best.f
    refine Ev_bind _ (specCost_ev n x g t rows hr.hf) ?_
    rw [c0, ← hC]
    exact h
  obtain ⟨v, v0, v1, v2, v3, v4⟩ := S1 0 C
  by_cases hv : v = 0
  · -- nothing on the upper side
    subst hv
    rw [Int.zero_add, Int.mul_one, Int.one_mul] at v3
    obtain ⟨q, q0, q1, q2, q3, q4⟩ := S2 0 C
    have e3 : a * (q + 1) = a * q + a := by rw [Int.mul_add, Int.mul_one]
    have eN : a * (-1 * q) = -(a * q) := by grind
    have hB : Best a b (-1 * q) := by
      refine ⟨fun h => ?_, fun h => by omega, fun h => ?_⟩
      · have : q = 0 := by omega
        subst this
        omega
      · rcases q2 with q2 | q2
        · omega
        · rw [eN]; omega
    refine ⟨-1 * q, hB, top _ (enter 1 0 C (by omega) _ (v4 _ (fin 1 0 0 C (.inl rfl) (by omega) (by omega) _ (fun h => ?_) (fun _ => enter (-1) 0 C (by omega) _ (q4 _ (fin (-1) q 0 C (.inr rfl) q0 q1 _ (fun _ => stop _ _) (fun h => ?_)))))))⟩
    · exfalso
      simp at h
    · by_cases hq : q = 0
      · subst hq
        exact stop _ _
      · exfalso
        have := best_lower (by omega) hB (by omega)
        omega
  · have hP : 2 * (a * v) - a + 2 * (1 * b) < 0 := by rcases v2 with h | h <;> omega
    have e3 : a * (v + 1) = a * v + a := by rw [Int.mul_add, Int.mul_one]
    have hB : Best a b (1 * v) := by
      rw [Int.one_mul]
      refine ⟨fun h => by omega, fun h => by omega, fun h => by omega⟩
    have hlow := best_lower (by omega) hB (by omega)
    obtain ⟨C', hC'⟩ : ∃ C', C' = C + (a * (1 * v) * (1 * v) + 2 * b * (1 * v)) := ⟨_, rfl⟩
    obtain ⟨q, q0, q1, q2, q3, q4⟩ := S2 (1 * v) C'
    have hs := mul_step (a := a) (by omega) (show 0 + 1 ≤ v by omega)
    have hq : q = 0 := by
      rcases q2 with h | h
      · exact h
      · rcases Int.lt_or_le 0 q with h' | h'
        · have hs2 := mul_step (a := a) (by omega) (show 0 + 1 ≤ q by omega)
          omega
        · omega
    subst hq
    refine ⟨1 * v, hB, top _ (enter 1 0 C (by omega) _ (v4 _ (fin 1 v 0 C (.inl rfl) v0 v1 _ (fun _ => ?_) (fun h => by omega))))⟩
    rw [← hC']
    refine enter (1 - 2) (1 * v) C' (by omega) _ (q4 _ (fin (-1) 0 (1 * v) C' (.inr rfl) (by omega) (by omega) _ (fun h => ?_) (fun _ => stop _ _)))
    exfalso
    simp at h
    omega

theorem bothBest {n : Nat} {x g t : List Int} {rows : List S52} {i : Nat} (hr : Ready n x g t rows i) (m : Int) :
    ∃ u, Best (aZ t rows i) (bZ x g t rows n i) u ∧ Ev (fun k => spec_l15Best.f k (n : Int) g t rows x (i : Int)) u ∧ Ev (fun k => impl_best.f k m g t rows x (i : Int)) u := by
  obtain ⟨u, h1, e1⟩ := specBest_ev hr
  obtain ⟨v, h2, e2⟩ := implBest_ev hr m
  have := best_eq (by have := hr.ha; omega) h1 h2
  subst this
  exact ⟨u, h1, e1, e2⟩
end Go.Proofs.Ytcjhbmjimjbphaa.QFnDescends
