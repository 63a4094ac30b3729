/- The two searches for the best move of an unknown come to the one place that is best. Conditions: the problem is right, the point is near, the parabola's place is nearer than 155242. -/
import Derived.Test.YtcjhbmjimjbphaaDescLibFnDescends
set_option linter.unusedVariables false
set_option linter.unusedSimpArgs false
namespace Go.Proofs.Ytcjhbmjimjbphaa.QFnDescends
open Go.RowKit Go.Proofs.YtcjhbmjimjbphaaW.PrintWords Go.Proofs.Ytcjhbmjimjbphaa.Opn Go.Proofs.Ytcjhbmjimjbphaa.Pl

def movedL (x : List Int) (i : Nat) (b : Int) : List Int := x.set i (wrap64 (rd x (i : Int) + b))

structure Ready (n : Nat) (x g t : List Int) (rows : List S52) (i : Nat) : Prop where
  hf : Fits n x g t rows
  hn : Near n x g t rows
  hx : ∀ j : Nat, j < n → -700000 ≤ rd x (j : Int) ∧ rd x (j : Int) ≤ 700000
  hi : i < n
  ha : 1 ≤ aZ t rows i ∧ aZ t rows i ≤ 2505
  hb : -(155242 * aZ t rows i) < bZ x g t rows n i ∧ bZ x g t rows n i < 155242 * aZ t rows i

theorem near_set {n : Nat} {x g t : List Int} {rows : List S52} {i : Nat} (hr : Ready n x g t rows i) (u : Int) (hu : -262145 ≤ u ∧ u ≤ 262145) :
    movedL x i u = x.set i (rd x (i : Int) + u) ∧ Near n (movedL x i u) g t rows ∧ Fits n (movedL x i u) g t rows := by
  have hi := hr.hi
  have hx := hr.hx i hi
  have e : movedL x i u = x.set i (rd x (i : Int) + u) := by
    unfold movedL
    rw [w64 (by omega) (by omega)]
  have hl := hr.hf.lx
  refine ⟨e, ?_, ?_⟩
  · rw [e]
    refine ⟨hr.hn.n6, hr.hn.r20, fun j hj => ?_, hr.hn.g, hr.hn.t, hr.hn.h, hr.hn.y, hr.hn.w⟩
    by_cases h : j = i
    · subst h
      rw [rd_set_same x j (by omega)]
      omega
    · rw [rd_set_other x i j h]
      exact hr.hn.x j hj
  · rw [e]
    exact ⟨hr.hf.small, by rw [List.length_set]; exact hl, hr.hf.lg, hr.hf.lt, hr.hf.lr, hr.hf.row⟩

theorem costW_set {n : Nat} {x g t : List Int} {rows : List S52} {i : Nat} (hr : Ready n x g t rows i) (u : Int) (hu : -262145 ≤ u ∧ u ≤ 262145) :
    costW (movedL x i u) g t rows n = costZ x g t rows n + (aZ t rows i * u * u + 2 * bZ x g t rows n i * u) := by
  obtain ⟨e, hn, _⟩ := near_set hr u hu
  rw [(cost_eq hn).1, e]
  exact cost_set x g t rows n i hr.hi hr.hf.lx u

theorem implBest_row {n : Nat} {x g t : List Int} {rows : List S52} {i : Nat} (hr : Ready n x g t rows i) (A B : Int) (k0 : Nat) (hk : k0 < rows.length) (v : Int)
    (hnext : Ev (fun k => impl_best.l0 k x (i : Int) (wrap64 (A + wrap64 (wrap64 (rows[k0].f2 * rd rows[k0].f0 (i : Int)) * rd rows[k0].f0 (i : Int)))) (wrap64 (B + wrap64 (wrap64 (rows[k0].f2 * missW x n rows[k0]) * rd rows[k0].f0 (i : Int)))) rows (rows.length : Int) ((k0 + 1 : Nat) : Int)) v) :
    Ev (fun k => impl_best.l1 k x (i : Int) A B (wrap64 (-rows[k0].f1)) rows (rows.length : Int) (k0 : Int) rows[k0].f0 (rows[k0].f0.length : Int) 0 rows[k0].f0 rows[k0].f1 rows[k0].f2) v := by
  have hh := hr.hf.row _ (List.getElem_mem hk)
  have hx := hr.hf.lx
  have hn := hr.hf.small
  have hrr := hr.hf.lr
  have hi := hr.hi
  have key := Ev_up (fun k j => impl_best.l1 k x (i : Int) A B (accW (wrap64 (-rows[k0].f1)) (fun j => wrap64 (rd rows[k0].f0 (j : Int) * rd x (j : Int))) j) rows (rows.length : Int) (k0 : Int) rows[k0].f0 (rows[k0].f0.length : Int) (j : Int) rows[k0].f0 rows[k0].f1 rows[k0].f2) (fun _ => v) n (by
      refine Ev.step (fun k => ?_) hnext
      simp only [impl_best.l1]
      rw [if_neg (by omega), if_pos (by omega), if_pos (by omega), w64 (n := (k0 : Int) + 1) (by omega) (by omega)]
      rfl) (by
      intro j hj ih
      refine Ev.step (fun k => ?_) ih
      simp only [impl_best.l1]
      rw [if_pos (by omega), if_pos (by omega), if_pos (by omega), if_pos (by omega), w64 (n := (j : Int) + 1) (by omega) (by omega)]
      rfl) 0 (Nat.zero_le _)
  exact key

theorem acc_a {n : Nat} {x g t : List Int} {rows : List S52} {i : Nat} (hr : Ready n x g t rows i) :
    accW (rd t (i : Int)) (fun k => wrap64 (wrap64 ((rd_T52 rows (k : Int)).f2 * rd (rd_T52 rows (k : Int)).f0 (i : Int)) * rd (rd_T52 rows (k : Int)).f0 (i : Int))) rows.length = aZ t rows i := by
  have hb : ∀ k : Nat, k < rows.length → (-125 ≤ (rd_T52 rows (k : Int)).f2 * rd (rd_T52 rows (k : Int)).f0 (i : Int) * rd (rd_T52 rows (k : Int)).f0 (i : Int) ∧ (rd_T52 rows (k : Int)).f2 * rd (rd_T52 rows (k : Int)).f0 (i : Int) * rd (rd_T52 rows (k : Int)).f0 (i : Int) ≤ 125) ∧
      wrap64 (wrap64 ((rd_T52 rows (k : Int)).f2 * rd (rd_T52 rows (k : Int)).f0 (i : Int)) * rd (rd_T52 rows (k : Int)).f0 (i : Int)) = (rd_T52 rows (k : Int)).f2 * rd (rd_T52 rows (k : Int)).f0 (i : Int) * rd (rd_T52 rows (k : Int)).f0 (i : Int) := by
    intro k hk
    have h1 := hr.hn.w k hk
    have h2 := hr.hn.h k hk i hr.hi
    have m := term_bd (a := (rd_T52 rows (k : Int)).f2) (q := rd (rd_T52 rows (k : Int)).f0 (i : Int)) (A := 5) (Q := 5) (by omega) (by omega) h2.1 h2.2
    rw [w64 (n := (rd_T52 rows (k : Int)).f2 * rd (rd_T52 rows (k : Int)).f0 (i : Int)) (by omega) (by omega), w64 (by omega) (by omega)]
    exact ⟨by omega, rfl⟩
  have ht := hr.hn.t i hr.hi
  have hm := mulb rows.length 125 20 hr.hn.r20 (by omega)
  rw [accW_congr _ rows.length (fun k hk => (hb k hk).2)]
  rw [accW_sum _ _ 5 125 (by omega) (by omega) rows.length (fun k hk => (hb k hk).1) (by omega)]
  rfl
theorem acc_b {n : Nat} {x g t : List Int} {rows : List S52} {i : Nat} (hr : Ready n x g t rows i) :
    accW (wrap64 (rd t (i : Int) * wrap64 (rd x (i : Int) - rd g (i : Int)))) (fun k => wrap64 (wrap64 ((rd_T52 rows (k : Int)).f2 * missW x n (rd_T52 rows (k : Int))) * rd (rd_T52 rows (k : Int)).f0 (i : Int))) rows.length = bZ x g t rows n i := by
  have hb : ∀ k : Nat, k < rows.length → (-750012500 ≤ (rd_T52 rows (k : Int)).f2 * missZ x n (rd_T52 rows (k : Int)) * rd (rd_T52 rows (k : Int)).f0 (i : Int) ∧ (rd_T52 rows (k : Int)).f2 * missZ x n (rd_T52 rows (k : Int)) * rd (rd_T52 rows (k : Int)).f0 (i : Int) ≤ 750012500) ∧
      wrap64 (wrap64 ((rd_T52 rows (k : Int)).f2 * missW x n (rd_T52 rows (k : Int))) * rd (rd_T52 rows (k : Int)).f0 (i : Int)) = (rd_T52 rows (k : Int)).f2 * missZ x n (rd_T52 rows (k : Int)) * rd (rd_T52 rows (k : Int)).f0 (i : Int) := by
    intro k hk
    obtain ⟨e1, m1, m2⟩ := miss_eq hr.hn k hk
    have h1 := hr.hn.w k hk
    have h2 := hr.hn.h k hk i hr.hi
    rw [e1]
    have p1 := mul_bd (a := (rd_T52 rows (k : Int)).f2) (b := missZ x n (rd_T52 rows (k : Int))) (A := 5) (B := 30000500) (by omega) (by omega) (by omega) (by omega)
    have p2 := mul_bd (a := (rd_T52 rows (k : Int)).f2 * missZ x n (rd_T52 rows (k : Int))) (b := rd (rd_T52 rows (k : Int)).f0 (i : Int)) (A := 150002500) (B := 5) (by omega) (by omega) h2.1 h2.2
    rw [w64 (n := (rd_T52 rows (k : Int)).f2 * missZ x n (rd_T52 rows (k : Int))) (by omega) (by omega), w64 (by omega) (by omega)]
    exact ⟨by omega, rfl⟩
  have ht := hr.hn.t i hr.hi
  have hx := hr.hn.x i hr.hi
  have hg := hr.hn.g i hr.hi
  have p := mul_bd (a := rd t (i : Int)) (b := rd x (i : Int) - rd g (i : Int)) (A := 5) (B := 1000500) (by omega) (by omega) (by omega) (by omega)
  have hm := mulb rows.length 750012500 20 hr.hn.r20 (by omega)
  rw [w64 (n := rd x (i : Int) - rd g (i : Int)) (by omega) (by omega), w64 (n := rd t (i : Int) * (rd x (i : Int) - rd g (i : Int))) (by omega) (by omega)]
  rw [accW_congr _ rows.length (fun k hk => (hb k hk).2)]
  rw [accW_sum _ _ 5002500 750012500 (by omega) (by omega) rows.length (fun k hk => (hb k hk).1) (by omega)]
  rfl

theorem mx_eq (a b : Int) : mx a b = max a b := by unfold mx; omega

theorem implBest_ev {n : Nat} {x g t : List Int} {rows : List S52} {i : Nat} (hr : Ready n x g t rows i) (m : Int) :
    ∃ u, Best (aZ t rows i) (bZ x g t rows n i) u ∧ Ev (fun k => impl_best.f k m g t rows x (i : Int)) u := by
  have hi := hr.hi
  have hlx := hr.hf.lx
  have hlg := hr.hf.lg
  have hlt := hr.hf.lt
  have hlr := hr.hf.lr
  have ha := hr.ha
  have hb := hr.hb
  obtain ⟨a, hea⟩ : ∃ a, a = aZ t rows i := ⟨_, rfl⟩
  obtain ⟨b, heb⟩ : ∃ b, b = bZ x g t rows n i := ⟨_, rfl⟩
  have h2505 : 155242 * a ≤ 388881210 := by omega
  rw [← hea] at ha hb ⊢
  rw [← heb] at hb ⊢
  obtain ⟨T, hT, t1, t2, t3, t4⟩ := floorDiv_eq (-b) a (by omega) (by omega)
  have hT1 : T ≤ 155242 := by
    rcases Int.lt_or_le 155242 T with h | h
    · have := mul_step (a := a) (by omega) (show 155242 + 1 ≤ T by omega)
      omega
    · exact h
  have hT2 : -155243 ≤ T := by
    rcases Int.lt_or_le T (-155243) with h | h
    · have := mul_step (a := a) (by omega) (show T + 1 ≤ -155243 by omega)
      omega
    · exact h
  have e1 : a * (T + 1) = a * T + a := by rw [Int.mul_add, Int.mul_one]
  have p1 := mul_bd (a := a) (b := T) (A := 2505) (B := 155243) (by omega) (by omega) (by omega) (by omega)
  have p2 := mul_bd (a := a) (b := T + 1) (A := 2505) (B := 155244) (by omega) (by omega) (by omega) (by omega)
  have q1 := mul_bd (a := a * T) (b := T) (A := 388883715) (B := 155243) (by omega) (by omega) (by omega) (by omega)
  have q2 := mul_bd (a := a * (T + 1)) (b := T + 1) (A := 388886220) (B := 155244) (by omega) (by omega) (by omega) (by omega)
  have s1 := mul_bd (a := 2 * b) (b := T) (A := 777762420) (B := 155243) (by omega) (by omega) (by omega) (by omega)
  have s2 := mul_bd (a := 2 * b) (b := T + 1) (A := 777762420) (B := 155244) (by omega) (by omega) (by omega) (by omega)
  have hpb := pick_best a b T (by omega) (by omega) (by omega)
  have hd := par_step a b (T + 1)
  rw [show T + 1 - 1 = T by omega] at hd
  refine ⟨_, hpb, ?_⟩
  unfold impl_best.f
  simp only [if_pos (show (0 : Int) ≤ (i : Int) by omega), if_pos (show (i : Int) < (t.length : Int) by omega), if_pos (show (i : Int) < (x.length : Int) by omega), if_pos (show (i : Int) < (g.length : Int) by omega)]
  have key := Ev_up (fun k j => impl_best.l0 k x (i : Int) (accW (rd t (i : Int)) (fun k => wrap64 (wrap64 ((rd_T52 rows (k : Int)).f2 * rd (rd_T52 rows (k : Int)).f0 (i : Int)) * rd (rd_T52 rows (k : Int)).f0 (i : Int))) j)
      (accW (wrap64 (rd t (i : Int) * wrap64 (rd x (i : Int) - rd g (i : Int)))) (fun k => wrap64 (wrap64 ((rd_T52 rows (k : Int)).f2 * missW x n (rd_T52 rows (k : Int))) * rd (rd_T52 rows (k : Int)).f0 (i : Int))) j) rows (rows.length : Int) (j : Int))
    (fun _ => (if 2 * (a * T) + a + 2 * b < 0 then T + 1 else if 2 * (a * T) + a + 2 * b = 0 then (if max (T + 1) (-T - 1) < max T (-T) then T + 1 else if max (T + 1) (-T - 1) = max T (-T) then (if 0 < T + 1 then T + 1 else T) else T) else T)) rows.length (by
      refine Ev.step (f := fun _ => some (if 2 * (a * T) + a + 2 * b < 0 then T + 1 else if 2 * (a * T) + a + 2 * b = 0 then (if max (T + 1) (-T - 1) < max T (-T) then T + 1 else if max (T + 1) (-T - 1) = max T (-T) then (if 0 < T + 1 then T + 1 else T) else T) else T)) (fun k => ?_) (Ev.now _)
      simp only [impl_best.l0]
      rw [if_neg (by omega), acc_a hr, acc_b hr, ← hea, ← heb, w64 (n := -b) (by omega) (by omega), hT]
      simp only [Option.bind_some]
      rw [w64 (n := T + 1) (by omega) (by omega), w64 (n := a * (T + 1)) (by omega) (by omega), w64 (n := a * (T + 1) * (T + 1)) (by omega) (by omega), w64 (n := 2 * b) (by omega) (by omega), w64 (n := 2 * b * (T + 1)) (by omega) (by omega),
        w64 (n := a * (T + 1) * (T + 1) + 2 * b * (T + 1)) (by omega) (by omega), w64 (n := a * T) (by omega) (by omega), w64 (n := a * T * T) (by omega) (by omega), w64 (n := 2 * b * T) (by omega) (by omega), w64 (n := a * T * T + 2 * b * T) (by omega) (by omega),
        w64 (n := -T) (by omega) (by omega), w64 (n := -T - 1) (by omega) (by omega), mx_eq, mx_eq]
      by_cases c1 : 2 * (a * T) + a + 2 * b < 0
      · rw [if_pos (by omega)]
        (try simp only [if_pos c1])
        (try rfl)
      rw [if_neg (by omega)]
      by_cases c2 : 2 * (a * T) + a + 2 * b = 0
      · rw [if_pos (by omega)]
        simp only [if_neg c1, if_pos c2]
        by_cases c3 : max (T + 1) (-T - 1) < max T (-T)
        · rw [if_pos c3]
          (try simp only [if_pos c3])
          (try rfl)
        · rw [if_neg c3]
          simp only [if_neg c3]
          by_cases c4 : max (T + 1) (-T - 1) = max T (-T)
          · rw [if_pos c4]
            (try simp only [if_pos c4])
            by_cases c5 : T + 1 > 0
            · rw [if_pos c5, if_pos (by omega)]
            · rw [if_neg c5, if_neg (by omega)]
          · rw [if_neg c4]
            (try simp only [if_neg c4])
            (try rfl)
      · rw [if_neg (by omega)]
        (try simp only [if_neg c1, if_neg c2])
        (try rfl)) (by
      intro j hj ih
      refine Ev.step (fun k => ?_) (implBest_row hr _ _ j hj _ (by
        simp only [accW, rdT52 rows j hj] at ih
        exact ih))
      simp only [impl_best.l0]
      rw [if_pos (by omega), if_pos (by omega), if_pos (by omega), rdT52 rows j hj]) 0 (Nat.zero_le _)
  exact key
end Go.Proofs.Ytcjhbmjimjbphaa.QFnDescends
