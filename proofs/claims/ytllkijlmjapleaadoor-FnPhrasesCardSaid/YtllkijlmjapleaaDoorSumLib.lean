/- Sums of whole numbers that stay in 64 bits, and products' bounds. Plain lemmas. -/
import Derived.Test.YtllkijlmjapleaaDoorLib
set_option linter.unusedVariables false
set_option linter.unusedSimpArgs false
namespace Go.Proofs.YtllkijlmjapleaaDoor.Pl
open Go.RowKit Go.Proofs.YtllkijlmjapleaaDoorW.PrintWords Go.Proofs.YtllkijlmjapleaaDoor.Opn

def sumZ (f : Nat → Int) : Nat → Int
  | 0 => 0
  | n + 1 => sumZ f n + f n
theorem mul_bd {a b A B : Int} (h1 : -A ≤ a) (h2 : a ≤ A) (h3 : -B ≤ b) (h4 : b ≤ B) : -(A * B) ≤ a * b ∧ a * b ≤ A * B := by
  have ha : a.natAbs ≤ A.toNat := by omega
  have hb : b.natAbs ≤ B.toNat := by omega
  have h := Nat.mul_le_mul ha hb
  rw [← Int.natAbs_mul] at h
  have hA : (A.toNat : Int) = A := by omega
  have hB : (B.toNat : Int) = B := by omega
  have e : ((A.toNat * B.toNat : Nat) : Int) = A * B := by rw [Int.natCast_mul, hA, hB]
  omega
theorem mul_nn {a b : Int} (ha : 0 ≤ a) (hb : 0 ≤ b) : 0 ≤ a * b := Int.mul_nonneg ha hb
theorem sq_nn (a : Int) : 0 ≤ a * a := by
  rcases Int.le_total 0 a with h | h
  · exact Int.mul_nonneg h h
  · have := Int.mul_nonneg (a := -a) (b := -a) (by omega) (by omega)
    rwa [Int.neg_mul_neg] at this
theorem sumZ_congr {f g : Nat → Int} : ∀ n, (∀ i, i < n → f i = g i) → sumZ f n = sumZ g n := by
  intro n
  induction n with
  | zero => exact fun _ => rfl
  | succ n ih => intro h; simp only [sumZ]; rw [ih (fun i hi => h i (by omega)), h n (by omega)]
theorem sumZ_nn {f : Nat → Int} : ∀ n, (∀ i, i < n → 0 ≤ f i) → 0 ≤ sumZ f n := by
  intro n
  induction n with
  | zero => intro _; simp [sumZ]
  | succ n ih => intro h; have := ih (fun i hi => h i (by omega)); have := h n (by omega); simp only [sumZ]; omega
theorem sumZ_bd {f : Nat → Int} (B : Int) : ∀ n : Nat, (∀ i, i < n → -B ≤ f i ∧ f i ≤ B) → -((n : Int) * B) ≤ sumZ f n ∧ sumZ f n ≤ (n : Int) * B := by
  intro n
  induction n with
  | zero => intro _; simp [sumZ]
  | succ n ih =>
    intro h
    have h1 := ih (fun i hi => h i (by omega))
    have h2 := h n (by omega)
    have e : ((n + 1 : Nat) : Int) * B = (n : Int) * B + B := by rw [Int.natCast_add, Int.add_mul]; simp
    simp only [sumZ]
    rw [e]
    omega
theorem sumZ_le {f : Nat → Int} : ∀ n i, (∀ j, j < n → 0 ≤ f j) → i < n → f i ≤ sumZ f n := by
  intro n
  induction n with
  | zero => intro i _ hi; omega
  | succ n ih =>
    intro i h hi
    have h0 := sumZ_nn n (fun j hj => h j (by omega))
    have hn := h n (by omega)
    simp only [sumZ]
    by_cases e : i = n
    · subst e; omega
    · have := ih i (fun j hj => h j (by omega)) (by omega)
      omega
theorem accW_sum (s : Int) (f : Nat → Int) (S B : Int) (hB : 0 ≤ B) (hs : -S ≤ s ∧ s ≤ S) : ∀ n : Nat, (∀ i, i < n → -B ≤ f i ∧ f i ≤ B) → S + (n : Int) * B ≤ 9223372036854775807 → accW s f n = s + sumZ f n := by
  intro n
  induction n with
  | zero => intro _ _; simp [accW, sumZ]
  | succ n ih =>
    intro h hb
    have e : ((n + 1 : Nat) : Int) * B = (n : Int) * B + B := by rw [Int.natCast_add, Int.add_mul]; simp
    rw [e] at hb
    have h1 := ih (fun i hi => h i (by omega)) (by omega)
    have h2 := h n (by omega)
    have h3 := sumZ_bd B n (fun i hi => h i (by omega))
    simp only [accW, sumZ]
    rw [h1, w64 (by omega) (by omega)]
    omega
theorem sumZ_add (f g : Nat → Int) : ∀ n, sumZ (fun i => f i + g i) n = sumZ f n + sumZ g n := by
  intro n
  induction n with
  | zero => simp [sumZ]
  | succ n ih => simp only [sumZ]; omega
theorem sumZ_mul (c : Int) (f : Nat → Int) : ∀ n, sumZ (fun i => c * f i) n = c * sumZ f n := by
  intro n
  induction n with
  | zero => simp [sumZ]
  | succ n ih => simp only [sumZ]; rw [ih, Int.mul_add]
/-- One place changes. -/
theorem sumZ_set (f g : Nat → Int) (i : Nat) (h : ∀ j, j ≠ i → g j = f j) : ∀ n, i < n → sumZ g n = sumZ f n + (g i - f i) := by
  intro n
  induction n with
  | zero => intro hi; omega
  | succ n ih =>
    intro hi
    simp only [sumZ]
    by_cases e : i = n
    · subst e
      rw [sumZ_congr i (fun j hj => h j (by omega))]
      omega
    · rw [ih (by omega), h n (by omega)]
      omega
end Go.Proofs.YtllkijlmjapleaaDoor.Pl
