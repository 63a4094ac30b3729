/- One step of a ring of cells: what each cell hands on, in plain whole numbers; all that is there stays, nothing is below 0, no tracer above its mass. No condition but those that are named. -/
import Derived.Test.YtjmpgngndnheaaaLib
set_option linter.unusedVariables false
set_option linter.unusedSimpArgs false
namespace Go.Proofs.Ytjmpgngndnheaaa.Ring
open Go.RowKit Go.Proofs.YtjmpgngndnheaaaW.PrintWords Go.Proofs.Ytjmpgngndnheaaa.Opn Go.Proofs.Ytjmpgngndnheaaa.Pl

def tpart (t f m : Int) : Int := if m = 0 then 0 else t * f / m
def goesP (M : List Int) (c z : Nat) (w m t : Int) (A B : List Int) : Int × Int × List Int × List Int :=
  if w ≤ 0 then (m, t, A, B) else
    (m - M.getD c 0 * w / 256, t - tpart t (M.getD c 0 * w / 256) m,
      (A.set c (A.getD c 0 - M.getD c 0 * w / 256)).set z ((A.set c (A.getD c 0 - M.getD c 0 * w / 256)).getD z 0 + M.getD c 0 * w / 256),
      (B.set c (B.getD c 0 - tpart t (M.getD c 0 * w / 256) m)).set z ((B.set c (B.getD c 0 - tpart t (M.getD c 0 * w / 256) m)).getD z 0 + tpart t (M.getD c 0 * w / 256) m))
def halfP (M T W : List Int) (n c : Nat) (A B : List Int) : Int × Int × List Int × List Int := goesP M c ((c + n - 1) % n) (-(W.getD c 0)) (M.getD c 0) (T.getD c 0) A B
def roundP (M T W : List Int) (n c : Nat) (A B : List Int) : Int × Int × List Int × List Int :=
  goesP M c ((c + 1) % n) (W.getD ((c + 1) % n) 0) (halfP M T W n c A B).1 (halfP M T W n c A B).2.1 (halfP M T W n c A B).2.2.1 (halfP M T W n c A B).2.2.2
def stepR (M T W : List Int) (n : Nat) : Nat → Nat → List Int → List Int → List Int × List Int
  | 0, _, A, B => (A, B)
  | d + 1, c, A, B => stepR M T W n d (c + 1) (roundP M T W n c A B).2.2.1 (roundP M T W n c A B).2.2.2
def STEP (W : List Int) (x : List Int × List Int) : List Int × List Int := stepR x.1 x.2 W x.1.length x.1.length 0 x.1 x.2
def RUN (W : List Int) : Nat → List Int × List Int → List Int × List Int
  | 0, x => x
  | k + 1, x => RUN W k (STEP W x)
theorem RUN_add (W : List Int) (b : Nat) : ∀ a x, RUN W b (RUN W a x) = RUN W (a + b) x := by
  intro a
  induction a with
  | zero => intro x; rw [Nat.zero_add]; rfl
  | succ a ih => intro x; rw [Nat.succ_add]; exact ih _

/-- A ring that is right. -/
def RV (M T : List Int) : Prop := 1 ≤ M.length ∧ M.length ≤ 200 ∧ T.length = M.length ∧ (∀ i, i < M.length → 0 ≤ T.getD i 0 ∧ T.getD i 0 ≤ M.getD i 0) ∧ M.sum ≤ 1000000000
def WV (W : List Int) (n : Nat) : Prop := W.length = n ∧ ∀ i, i < n → -128 ≤ W.getD i 0 ∧ W.getD i 0 ≤ 128

theorem gdS_eq (l : List Int) (i : Nat) (v : Int) (h : i < l.length) : (l.set i v).getD i 0 = v := by
  rw [List.getD_eq_getElem?_getD, List.getElem?_set_self h]; rfl
theorem gdS_ne (l : List Int) (i j : Nat) (v : Int) (h : i ≠ j) : (l.set i v).getD j 0 = l.getD j 0 := by
  rw [List.getD_eq_getElem?_getD, List.getElem?_set_ne h, List.getD_eq_getElem?_getD]
theorem sum_set (l : List Int) : ∀ (i : Nat) (v : Int), i < l.length → (l.set i v).sum = l.sum - l.getD i 0 + v := by
  induction l with
  | nil => intro i v h; exact absurd h (Nat.not_lt_zero _)
  | cons a l ih =>
    intro i v h
    cases i with
    | zero => simp only [List.set_cons_zero, List.sum_cons, List.getD_cons_zero]; omega
    | succ i => simp only [List.set_cons_succ, List.sum_cons, List.getD_cons_succ]; rw [ih i v (by simpa using h)]; omega
theorem sum_nonneg (l : List Int) (h : ∀ i, i < l.length → 0 ≤ l.getD i 0) : 0 ≤ l.sum := by
  induction l with
  | nil => simp
  | cons a l ih =>
    have h0 : 0 ≤ a := by simpa using h 0 (by simp)
    have := ih (fun i hi => by simpa using h (i + 1) (by simpa using hi))
    rw [List.sum_cons]; omega
theorem le_sum (l : List Int) (h : ∀ i, i < l.length → 0 ≤ l.getD i 0) : ∀ i, i < l.length → l.getD i 0 ≤ l.sum := by
  induction l with
  | nil => intro i hi; exact absurd hi (Nat.not_lt_zero _)
  | cons a l ih =>
    have h0 : 0 ≤ a := by simpa using h 0 (by simp)
    have h1 : ∀ i, i < l.length → 0 ≤ l.getD i 0 := fun i hi => by simpa using h (i + 1) (by simpa using hi)
    have h2 := sum_nonneg l h1
    intro i hi
    cases i with
    | zero => simp only [List.getD_cons_zero, List.sum_cons]; omega
    | succ i => simp only [List.getD_cons_succ, List.sum_cons]; have := ih h1 i (by simpa using hi); omega

/-- What a tpart of the tracer comes z. -/
theorem part_bd {t f m : Int} (h0 : 0 ≤ t) (h1 : t ≤ m) (h2 : 0 ≤ f) (h3 : f ≤ m) : 0 ≤ tpart t f m ∧ tpart t f m ≤ f ∧ tpart t f m ≤ t ∧ t - tpart t f m ≤ m - f := by
  unfold tpart
  by_cases hm : m = 0
  · rw [if_pos hm]; omega
  · rw [if_neg hm]
    have hp : 0 < m := by omega
    have a1 : t * f ≤ f * m := by rw [Int.mul_comm f m]; exact Int.mul_le_mul_of_nonneg_right h1 h2
    have a2 : t * f ≤ t * m := Int.mul_le_mul_of_nonneg_left h3 h0
    have a3 : 0 ≤ t * f := Int.mul_nonneg h0 h2
    have a4 : 0 ≤ (m - t) * (m - f) := Int.mul_nonneg (by omega) (by omega)
    have a5 : (t + f - m) * m ≤ t * f := by
      rw [Int.sub_mul, Int.mul_sub, Int.mul_sub] at a4
      rw [Int.sub_mul, Int.add_mul]
      have e : m * f = f * m := Int.mul_comm _ _
      omega
    refine ⟨Int.ediv_nonneg a3 (by omega), Int.ediv_le_of_le_mul hp a1, Int.ediv_le_of_le_mul hp a2, ?_⟩
    have := Int.le_ediv_of_mul_le hp a5
    omega
theorem flux_bd {M w : Int} (h0 : 0 ≤ M) (h1 : 0 ≤ w) (h2 : w ≤ 128) : 0 ≤ M * w / 256 ∧ 2 * (M * w / 256) ≤ M := by
  have a1 : 0 ≤ M * w := Int.mul_nonneg h0 h1
  have a2 : M * w ≤ M * 128 := Int.mul_le_mul_of_nonneg_left h2 h0
  omega

/-- While cell c hands on (m, t of it are still to be handed): what is known of the rows. -/
def J (M T : List Int) (c : Nat) (m t : Int) (A B : List Int) : Prop :=
  A.length = M.length ∧ B.length = M.length ∧ A.sum = M.sum ∧ B.sum = T.sum ∧ 0 ≤ t ∧ t ≤ m ∧ (∀ i, i < c → i < M.length → 0 ≤ B.getD i 0 ∧ B.getD i 0 ≤ A.getD i 0) ∧
  (m ≤ A.getD c 0 ∧ t ≤ B.getD c 0 ∧ B.getD c 0 - t ≤ A.getD c 0 - m) ∧ ∀ i, c < i → i < M.length → M.getD i 0 ≤ A.getD i 0 ∧ T.getD i 0 ≤ B.getD i 0 ∧ B.getD i 0 - T.getD i 0 ≤ A.getD i 0 - M.getD i 0
/-- At cell c's begin. -/
def H (M T : List Int) (c : Nat) (A B : List Int) : Prop :=
  A.length = M.length ∧ B.length = M.length ∧ A.sum = M.sum ∧ B.sum = T.sum ∧ (∀ i, i < c → i < M.length → 0 ≤ B.getD i 0 ∧ B.getD i 0 ≤ A.getD i 0) ∧
  ∀ i, c ≤ i → i < M.length → M.getD i 0 ≤ A.getD i 0 ∧ T.getD i 0 ≤ B.getD i 0 ∧ B.getD i 0 - T.getD i 0 ≤ A.getD i 0 - M.getD i 0
theorem H.toJ {M T : List Int} {c : Nat} {A B : List Int} (r : RV M T) (hc : c < M.length) (h : H M T c A B) : J M T c (M.getD c 0) (T.getD c 0) A B := by
  obtain ⟨h1, h2, h3, h4, h5, h6⟩ := h
  have := r.2.2.2.1 c hc
  exact ⟨h1, h2, h3, h4, this.1, this.2, h5, h6 c (Nat.le_refl _) hc, fun i hi hl => h6 i (by omega) hl⟩
theorem J.toH {M T : List Int} {c : Nat} {m t : Int} {A B : List Int} (h : J M T c m t A B) : H M T (c + 1) A B := by
  obtain ⟨h1, h2, h3, h4, h5, h6, h7, h8, h9⟩ := h
  refine ⟨h1, h2, h3, h4, fun i hi hl => ?_, fun i hi hl => h9 i (by omega) hl⟩
  by_cases e : i = c
  · subst e; omega
  · exact h7 i (by omega) hl
theorem J.all {M T : List Int} {c : Nat} {m t : Int} {A B : List Int} (r : RV M T) (h : J M T c m t A B) : ∀ i, i < M.length → 0 ≤ B.getD i 0 ∧ B.getD i 0 ≤ A.getD i 0 ∧ A.getD i 0 ≤ 1000000000 := by
  obtain ⟨h1, h2, h3, h4, h5, h6, h7, h8, h9⟩ := h
  have key : ∀ i, i < M.length → 0 ≤ B.getD i 0 ∧ B.getD i 0 ≤ A.getD i 0 := by
    intro i hi
    rcases Nat.lt_trichotomy i c with hl | rfl | hg
    · exact h7 i hl hi
    · omega
    · have a := h9 i hg hi
      have b := r.2.2.2.1 i hi
      omega
  intro i hi
  have a := key i hi
  refine ⟨a.1, a.2, ?_⟩
  have := le_sum A (fun k hk => by have := key k (by omega); omega) i (by omega)
  have := r.2.2.2.2
  omega
theorem goes_J {M T : List Int} {c z : Nat} {w m t : Int} {A B : List Int} (r : RV M T) (hc : c < M.length) (ht : z < M.length) (hw : w ≤ 128) (hm : 2 * (M.getD c 0 - m) ≤ M.getD c 0) (h : J M T c m t A B) :
    J M T c (goesP M c z w m t A B).1 (goesP M c z w m t A B).2.1 (goesP M c z w m t A B).2.2.1 (goesP M c z w m t A B).2.2.2 := by
  unfold goesP
  by_cases h0 : w ≤ 0
  · rw [if_pos h0]; exact h
  rw [if_neg h0]
  have hM := r.2.2.2.1 c hc
  have fb := flux_bd (M := M.getD c 0) (w := w) (by omega) (by omega) hw
  obtain ⟨h1, h2, h3, h4, h5, h6, h7, h8, h9⟩ := h
  generalize M.getD c 0 * w / 256 = f at fb ⊢
  have pb := part_bd (t := t) (f := f) (m := m) h5 h6 fb.1 (by omega)
  generalize tpart t f m = x at pb ⊢
  dsimp only
  have a1 : c < A.length := by omega
  have a2 : c < B.length := by omega
  have a3 : z < (A.set c (A.getD c 0 - f)).length := by rw [List.length_set]; omega
  have a4 : z < (B.set c (B.getD c 0 - x)).length := by rw [List.length_set]; omega
  have gA : ∀ i, ((A.set c (A.getD c 0 - f)).set z ((A.set c (A.getD c 0 - f)).getD z 0 + f)).getD i 0 = A.getD i 0 - (if i = c then f else 0) + (if i = z then f else 0) := by
    intro i
    by_cases e : i = z
    · rw [e, gdS_eq _ _ _ a3, if_pos rfl]
      by_cases e2 : z = c
      · rw [e2, gdS_eq _ _ _ a1, if_pos rfl]
      · rw [gdS_ne _ _ _ _ (Ne.symm e2), if_neg e2]; omega
    · rw [gdS_ne _ _ _ _ (Ne.symm e), if_neg e]
      by_cases e2 : i = c
      · rw [e2, gdS_eq _ _ _ a1, if_pos rfl]; omega
      · rw [gdS_ne _ _ _ _ (Ne.symm e2), if_neg e2]; omega
  have gB : ∀ i, ((B.set c (B.getD c 0 - x)).set z ((B.set c (B.getD c 0 - x)).getD z 0 + x)).getD i 0 = B.getD i 0 - (if i = c then x else 0) + (if i = z then x else 0) := by
    intro i
    by_cases e : i = z
    · rw [e, gdS_eq _ _ _ a4, if_pos rfl]
      by_cases e2 : z = c
      · rw [e2, gdS_eq _ _ _ a2, if_pos rfl]
      · rw [gdS_ne _ _ _ _ (Ne.symm e2), if_neg e2]; omega
    · rw [gdS_ne _ _ _ _ (Ne.symm e), if_neg e]
      by_cases e2 : i = c
      · rw [e2, gdS_eq _ _ _ a2, if_pos rfl]; omega
      · rw [gdS_ne _ _ _ _ (Ne.symm e2), if_neg e2]; omega
  refine ⟨by rw [List.length_set, List.length_set]; exact h1, by rw [List.length_set, List.length_set]; exact h2, ?_, ?_, by omega, by omega, ?_, ?_, ?_⟩
  · rw [sum_set _ _ _ a3, sum_set _ _ _ a1]; omega
  · rw [sum_set _ _ _ a4, sum_set _ _ _ a2]; omega
  · intro i hi hl
    rw [gA, gB, if_neg (show ¬ i = c by omega), if_neg (show ¬ i = c by omega)]
    have := h7 i hi hl
    split <;> omega
  · rw [gA, gB, if_pos rfl, if_pos rfl]
    split <;> omega
  · intro i hi hl
    rw [gA, gB, if_neg (show ¬ i = c by omega), if_neg (show ¬ i = c by omega)]
    have := h9 i hi hl
    split <;> omega
theorem goes_m {M : List Int} {c z : Nat} {w t : Int} {A B : List Int} (h0 : 0 ≤ M.getD c 0) (hw : w ≤ 128) : 2 * (M.getD c 0 - (goesP M c z w (M.getD c 0) t A B).1) ≤ M.getD c 0 := by
  unfold goesP
  by_cases h : w ≤ 0
  · rw [if_pos h]; dsimp only; omega
  · rw [if_neg h]
    have fb := flux_bd (M := M.getD c 0) (w := w) h0 (by omega) hw
    dsimp only
    omega
theorem half_J {M T W : List Int} {c : Nat} {A B : List Int} (r : RV M T) (v : WV W M.length) (hc : c < M.length) (h : H M T c A B) :
    J M T c (halfP M T W M.length c A B).1 (halfP M T W M.length c A B).2.1 (halfP M T W M.length c A B).2.2.1 (halfP M T W M.length c A B).2.2.2 :=
  goes_J r hc (Nat.mod_lt _ (by omega)) (by have := v.2 c hc; omega) (by have := r.2.2.2.1 c hc; omega) (h.toJ r hc)
theorem half_m {M T W : List Int} {c : Nat} {A B : List Int} (r : RV M T) (v : WV W M.length) (hc : c < M.length) : 2 * (M.getD c 0 - (halfP M T W M.length c A B).1) ≤ M.getD c 0 :=
  goes_m (by have := r.2.2.2.1 c hc; omega) (by have := v.2 c hc; omega)
theorem round_H {M T W : List Int} {c : Nat} {A B : List Int} (r : RV M T) (v : WV W M.length) (hc : c < M.length) (h : H M T c A B) :
    H M T (c + 1) (roundP M T W M.length c A B).2.2.1 (roundP M T W M.length c A B).2.2.2 :=
  (goes_J r hc (Nat.mod_lt _ (by omega)) (by have := v.2 _ (Nat.mod_lt (c + 1) (show 0 < M.length by omega)); omega) (half_m r v hc) (half_J r v hc h)).toH
theorem stepR_H {M T W : List Int} (r : RV M T) (v : WV W M.length) : ∀ d c A B, c + d = M.length → H M T c A B → H M T M.length (stepR M T W M.length d c A B).1 (stepR M T W M.length d c A B).2 := by
  intro d
  induction d with
  | zero => intro c A B hd h; obtain rfl : c = M.length := by omega
            exact h
  | succ d ih => intro c A B hd h; exact ih (c + 1) _ _ (by omega) (round_H r v (by omega) h)
theorem H_start {M T : List Int} (r : RV M T) : H M T 0 M T := ⟨rfl, r.2.2.1, rfl, rfl, fun i hi => absurd hi (Nat.not_lt_zero _), fun i _ _ => ⟨Int.le_refl _, Int.le_refl _, by omega⟩⟩
/-- A right ring is right behind a step, with all its mass and all its tracer. -/
theorem STEP_ok {W : List Int} {x : List Int × List Int} (r : RV x.1 x.2) (v : WV W x.1.length) : RV (STEP W x).1 (STEP W x).2 ∧ (STEP W x).1.length = x.1.length ∧ (STEP W x).1.sum = x.1.sum ∧ (STEP W x).2.sum = x.2.sum := by
  obtain ⟨h1, h2, h3, h4, h5, _⟩ := stepR_H r v x.1.length 0 x.1 x.2 (by omega) (H_start r)
  unfold STEP
  refine ⟨⟨by rw [h1]; exact r.1, by rw [h1]; exact r.2.1, by rw [h1, h2], fun i hi => h5 i (by omega) (by omega), by rw [h3]; exact r.2.2.2.2⟩, h1, h3, h4⟩
theorem RUN_ok {W : List Int} : ∀ k (x : List Int × List Int), RV x.1 x.2 → WV W x.1.length → RV (RUN W k x).1 (RUN W k x).2 ∧ (RUN W k x).1.length = x.1.length ∧ (RUN W k x).1.sum = x.1.sum ∧ (RUN W k x).2.sum = x.2.sum := by
  intro k
  induction k with
  | zero => intro x r v; exact ⟨r, rfl, rfl, rfl⟩
  | succ k ih =>
    intro x r v
    obtain ⟨a, b, c, d⟩ := STEP_ok r v
    obtain ⟨a2, b2, c2, d2⟩ := ih (STEP W x) a (by rw [b]; exact v)
    exact ⟨a2, b2.trans b, c2.trans c, d2.trans d⟩
end Go.Proofs.Ytjmpgngndnheaaa.Ring
