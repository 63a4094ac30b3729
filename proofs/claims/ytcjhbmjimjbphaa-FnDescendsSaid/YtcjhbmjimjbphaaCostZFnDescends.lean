/- The cost of a right problem at a point that is not far away: no operation wraps, it is the plain sum, and not below 0. -/
import Derived.Test.YtcjhbmjimjbphaaSumLib
import Derived.Test.YtcjhbmjimjbphaaCostLibFnDescends
set_option linter.unusedVariables false
set_option linter.unusedSimpArgs false
namespace Go.Proofs.Ytcjhbmjimjbphaa.QFnDescends
open Go.RowKit Go.Proofs.YtcjhbmjimjbphaaW.PrintWords Go.Proofs.Ytcjhbmjimjbphaa.Opn Go.Proofs.Ytcjhbmjimjbphaa.Pl

structure Near (n : Nat) (x g t : List Int) (rows : List S52) : Prop where
  n6 : n ≤ 6
  r20 : rows.length ≤ 20
  x : ∀ i : Nat, i < n → -1000000 ≤ rd x (i : Int) ∧ rd x (i : Int) ≤ 1000000
  g : ∀ i : Nat, i < n → -500 ≤ rd g (i : Int) ∧ rd g (i : Int) ≤ 500
  t : ∀ i : Nat, i < n → 1 ≤ rd t (i : Int) ∧ rd t (i : Int) ≤ 5
  h : ∀ k : Nat, k < rows.length → ∀ i : Nat, i < n → -5 ≤ rd (rd_T52 rows (k : Int)).f0 (i : Int) ∧ rd (rd_T52 rows (k : Int)).f0 (i : Int) ≤ 5
  y : ∀ k : Nat, k < rows.length → -500 ≤ (rd_T52 rows (k : Int)).f1 ∧ (rd_T52 rows (k : Int)).f1 ≤ 500
  w : ∀ k : Nat, k < rows.length → 1 ≤ (rd_T52 rows (k : Int)).f2 ∧ (rd_T52 rows (k : Int)).f2 ≤ 5

def missZ (x : List Int) (n : Nat) (r : S52) : Int := -r.f1 + sumZ (fun i => rd r.f0 (i : Int) * rd x (i : Int)) n
def offZ (x g t : List Int) (n : Nat) : Int := sumZ (fun i => rd t (i : Int) * (rd x (i : Int) - rd g (i : Int)) * (rd x (i : Int) - rd g (i : Int))) n
def rowsZ (x : List Int) (rows : List S52) (n : Nat) : Int := sumZ (fun k => (rd_T52 rows (k : Int)).f2 * missZ x n (rd_T52 rows (k : Int)) * missZ x n (rd_T52 rows (k : Int))) rows.length
def costZ (x g t : List Int) (rows : List S52) (n : Nat) : Int := offZ x g t n + rowsZ x rows n

theorem term_bd {a q A Q : Int} (h0 : 0 ≤ a) (h1 : a ≤ A) (h2 : -Q ≤ q) (h3 : q ≤ Q) : (-(A * Q) ≤ a * q ∧ a * q ≤ A * Q) ∧ 0 ≤ a * q * q ∧ a * q * q ≤ A * (Q * Q) := by
  have m1 := mul_bd (A := A) (B := Q) (show -A ≤ a by omega) h1 h2 h3
  have m2 := mul_bd (A := Q) (B := Q) h2 h3 h2 h3
  have s := sq_nn q
  have m3 := mul_bd (A := A) (B := Q * Q) (show -A ≤ a by omega) h1 (show -(Q * Q) ≤ q * q by omega) m2.2
  have m4 := mul_nn h0 s
  rw [Int.mul_assoc a q q]
  exact ⟨m1, m4, m3.2⟩
theorem mulb (n : Nat) (B : Int) (m : Nat) (h : n ≤ m) (hB : 0 ≤ B) : (n : Int) * B ≤ (m : Int) * B := Int.mul_le_mul_of_nonneg_right (by omega) hB

theorem miss_eq {n : Nat} {x g t : List Int} {rows : List S52} (hn : Near n x g t rows) (k : Nat) (hk : k < rows.length) :
    missW x n (rd_T52 rows (k : Int)) = missZ x n (rd_T52 rows (k : Int)) ∧ -30000500 ≤ missZ x n (rd_T52 rows (k : Int)) ∧ missZ x n (rd_T52 rows (k : Int)) ≤ 30000500 := by
  have hb : ∀ i, i < n → -5000000 ≤ rd (rd_T52 rows (k : Int)).f0 (i : Int) * rd x (i : Int) ∧ rd (rd_T52 rows (k : Int)).f0 (i : Int) * rd x (i : Int) ≤ 5000000 := by
    intro i hi
    have h1 := hn.h k hk i hi
    have h2 := hn.x i hi
    have := mul_bd (A := 5) (B := 1000000) h1.1 h1.2 h2.1 h2.2
    omega
  have hy := hn.y k hk
  have hs := sumZ_bd 5000000 n hb
  have hm := mulb n 5000000 6 hn.n6 (by omega)
  unfold missW missZ
  rw [w64 (n := -(rd_T52 rows (k : Int)).f1) (by omega) (by omega)]
  rw [accW_congr _ (g := fun i => rd (rd_T52 rows (k : Int)).f0 (i : Int) * rd x (i : Int)) n (fun i hi => by have := hb i hi; exact w64 (by omega) (by omega))]
  rw [accW_sum _ _ 500 5000000 (by omega) (by omega) n hb (by omega)]
  exact ⟨rfl, by omega, by omega⟩

theorem off_eq {n : Nat} {x g t : List Int} {rows : List S52} (hn : Near n x g t rows) : startW x g t n = offZ x g t n ∧ 0 ≤ offZ x g t n ∧ offZ x g t n ≤ 31000000000000 := by
  have hb : ∀ i : Nat, i < n → (0 ≤ rd t (i : Int) * (rd x (i : Int) - rd g (i : Int)) * (rd x (i : Int) - rd g (i : Int)) ∧ rd t (i : Int) * (rd x (i : Int) - rd g (i : Int)) * (rd x (i : Int) - rd g (i : Int)) ≤ 5005001250000) ∧
      wrap64 (wrap64 (rd t (i : Int) * wrap64 (rd x (i : Int) - rd g (i : Int))) * wrap64 (rd x (i : Int) - rd g (i : Int))) = rd t (i : Int) * (rd x (i : Int) - rd g (i : Int)) * (rd x (i : Int) - rd g (i : Int)) := by
    intro i hi
    have h1 := hn.x i hi
    have h2 := hn.g i hi
    have h3 := hn.t i hi
    rw [w64 (n := rd x (i : Int) - rd g (i : Int)) (by omega) (by omega)]
    obtain ⟨q, hq⟩ : ∃ q, q = rd x (i : Int) - rd g (i : Int) := ⟨_, rfl⟩
    rw [← hq]
    obtain ⟨u, hu⟩ : ∃ u, u = rd t (i : Int) := ⟨_, rfl⟩
    rw [← hu] at h3 ⊢
    have m := term_bd (a := u) (q := q) (A := 5) (Q := 1000500) (by omega) (by omega) (by omega) (by omega)
    rw [w64 (n := u * q) (by omega) (by omega), w64 (n := u * q * q) (by omega) (by omega)]
    exact ⟨⟨by omega, by omega⟩, rfl⟩
  have hb' : ∀ i, i < n → -5005001250000 ≤ rd t (i : Int) * (rd x (i : Int) - rd g (i : Int)) * (rd x (i : Int) - rd g (i : Int)) ∧ rd t (i : Int) * (rd x (i : Int) - rd g (i : Int)) * (rd x (i : Int) - rd g (i : Int)) ≤ 5005001250000 := fun i hi => ⟨by have := (hb i hi).1.1; omega, (hb i hi).1.2⟩
  have hm := mulb n 5005001250000 6 hn.n6 (by omega)
  have hs := sumZ_bd 5005001250000 n hb'
  have h0 := sumZ_nn n (fun i hi => (hb i hi).1.1)
  unfold startW offZ
  rw [accW_congr _ (g := fun i => rd t (i : Int) * (rd x (i : Int) - rd g (i : Int)) * (rd x (i : Int) - rd g (i : Int))) n (fun i hi => (hb i hi).2)]
  rw [accW_sum 0 _ 0 5005001250000 (by omega) (by omega) n hb' (by omega)]
  exact ⟨by omega, h0, by omega⟩

theorem cost_eq {n : Nat} {x g t : List Int} {rows : List S52} (hn : Near n x g t rows) : costW x g t rows n = costZ x g t rows n ∧ 0 ≤ costZ x g t rows n ∧ 0 ≤ offZ x g t n ∧ 0 ≤ rowsZ x rows n := by
  obtain ⟨e0, o0, o1⟩ := off_eq hn
  have hb : ∀ k : Nat, k < rows.length → (0 ≤ (rd_T52 rows (k : Int)).f2 * missZ x n (rd_T52 rows (k : Int)) * missZ x n (rd_T52 rows (k : Int)) ∧ (rd_T52 rows (k : Int)).f2 * missZ x n (rd_T52 rows (k : Int)) * missZ x n (rd_T52 rows (k : Int)) ≤ 4500150001250000) ∧
      wrap64 (wrap64 ((rd_T52 rows (k : Int)).f2 * missW x n (rd_T52 rows (k : Int))) * missW x n (rd_T52 rows (k : Int))) = (rd_T52 rows (k : Int)).f2 * missZ x n (rd_T52 rows (k : Int)) * missZ x n (rd_T52 rows (k : Int)) := by
    intro k hk
    obtain ⟨e1, m1, m2⟩ := miss_eq hn k hk
    have h3 := hn.w k hk
    rw [e1]
    obtain ⟨q, hq⟩ : ∃ q, q = missZ x n (rd_T52 rows (k : Int)) := ⟨_, rfl⟩
    rw [← hq] at m1 m2 ⊢
    obtain ⟨u, hu⟩ : ∃ u, u = (rd_T52 rows (k : Int)).f2 := ⟨_, rfl⟩
    rw [← hu] at h3 ⊢
    have m := term_bd (a := u) (q := q) (A := 5) (Q := 30000500) (by omega) (by omega) (by omega) (by omega)
    rw [w64 (n := u * q) (by omega) (by omega), w64 (n := u * q * q) (by omega) (by omega)]
    exact ⟨⟨by omega, by omega⟩, rfl⟩
  have hb' : ∀ k, k < rows.length → -4500150001250000 ≤ (rd_T52 rows (k : Int)).f2 * missZ x n (rd_T52 rows (k : Int)) * missZ x n (rd_T52 rows (k : Int)) ∧ (rd_T52 rows (k : Int)).f2 * missZ x n (rd_T52 rows (k : Int)) * missZ x n (rd_T52 rows (k : Int)) ≤ 4500150001250000 := fun k hk => ⟨by have := (hb k hk).1.1; omega, (hb k hk).1.2⟩
  have hm := mulb rows.length 4500150001250000 20 hn.r20 (by omega)
  have h0 := sumZ_nn rows.length (fun k hk => (hb k hk).1.1)
  unfold costW costZ rowsZ
  rw [accW_congr _ (g := fun k => (rd_T52 rows (k : Int)).f2 * missZ x n (rd_T52 rows (k : Int)) * missZ x n (rd_T52 rows (k : Int))) rows.length (fun k hk => (hb k hk).2), e0]
  rw [accW_sum _ _ 31000000000000 4500150001250000 (by omega) (by omega) rows.length hb' (by omega)]
  exact ⟨rfl, by omega, o0, h0⟩

theorem near_of (n : Int) (g t : List Int) (rows : List S52) (x : List Int) (h : okB n g t rows = true) (_hl : x.length = n.toNat) (hx : ∀ i : Nat, i < n.toNat → -1000000 ≤ rd x (i : Int) ∧ rd x (i : Int) ≤ 1000000) : Near n.toNat x g t rows := by
  simp only [okB, eachB, rowB, inB, Bool.and_eq_true, decide_eq_true_eq, List.all_eq_true] at h
  obtain ⟨⟨h1, h2⟩, ⟨h3, h3'⟩, ⟨h4, h4'⟩, h5, h6⟩ := h
  refine ⟨by omega, h5, hx, ?_, ?_, ?_, ?_, ?_⟩
  · intro i hi
    rw [rd_lt g i (by omega)]
    exact h3' _ (List.getElem_mem _)
  · intro i hi
    rw [rd_lt t i (by omega)]
    exact h4' _ (List.getElem_mem _)
  · intro k hk i hi
    have hr := h6 _ (List.getElem_mem hk)
    rw [rdT52 rows k hk, rd_lt _ i (by have := hr.1.1; omega)]
    exact hr.1.2 _ (List.getElem_mem _)
  · intro k hk
    have hr := h6 _ (List.getElem_mem hk)
    rw [rdT52 rows k hk]
    exact hr.2.1
  · intro k hk
    have hr := h6 _ (List.getElem_mem hk)
    rw [rdT52 rows k hk]
    exact hr.2.2
end Go.Proofs.Ytcjhbmjimjbphaa.QFnDescends
