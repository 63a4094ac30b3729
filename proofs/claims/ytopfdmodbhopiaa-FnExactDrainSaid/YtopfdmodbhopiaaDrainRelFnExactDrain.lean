/- The two floods of a box, side by side: plain mathematics of lists of whole numbers. -/
import Derived.Test.YtopfdmodbhopiaaIntLibFnExactDrain
set_option linter.unusedVariables false
set_option linter.unusedSimpArgs false
namespace Go.Proofs.Ytopfdmodbhopiaa.QFnExactDrain
open Go.RowKit Go.Proofs.YtopfdmodbhopiaaW.PrintWords Go.Proofs.Ytopfdmodbhopiaa.Opn Go.Proofs.Ytopfdmodbhopiaa.Pl

theorem rd_ne (l : List Int) (i j : Nat) (v : Int) (hj : j < l.length) (h : i ≠ j) : rd (l.set i v) (j : Int) = rd l (j : Int) := by
  rw [rd_lt _ j (by simpa using hj), rd_lt l j hj, List.getElem_set_ne h]
theorem rd_eq (l : List Int) (i : Nat) (v : Int) (h : i < l.length) : rd (l.set i v) (i : Int) = v := by
  rw [rd_lt _ i (by simpa using h), List.getElem_set_self]
theorem rdB (l : List Bool) (i : Nat) (h : i < l.length) : rdOf false l (i : Int) = l[i] := by
  simp [rdOf, List.getD_eq_getElem?_getD, List.getElem?_eq_getElem h]
theorem rdB_ne (l : List Bool) (i j : Nat) (v : Bool) (hj : j < l.length) (h : i ≠ j) : rdOf false (l.set i v) (j : Int) = rdOf false l (j : Int) := by
  rw [rdB _ j (by simpa using hj), rdB l j hj, List.getElem_set_ne h]
theorem rdB_eq (l : List Bool) (i : Nat) (v : Bool) (h : i < l.length) : rdOf false (l.set i v) (i : Int) = v := by
  rw [rdB _ i (by simpa using h), List.getElem_set_self]
theorem ext_rd (a b : List Int) (h : a.length = b.length) (hr : ∀ c : Nat, c < a.length → rd a (c : Int) = rd b (c : Int)) : a = b := by
  refine List.ext_getElem h fun i h1 h2 => ?_
  have := hr i h1
  rwa [rd_lt a i h1, rd_lt b i h2] at this

/-- a weight over a list -/
def cnt (p : Int → Nat) : List Int → Nat
  | [] => 0
  | x :: xs => p x + cnt p xs
theorem cnt_set (p : Int → Nat) : ∀ (l : List Int) (i : Nat) (v : Int), i < l.length → cnt p (l.set i v) + p (rd l (i : Int)) = cnt p l + p v := by
  intro l
  induction l with
  | nil => intro i v h; simp at h
  | cons a l ih =>
    intro i v h
    cases i with
    | zero =>
      have : rd (a :: l) ((0 : Nat) : Int) = a := rfl
      rw [this]; simp only [List.set_cons_zero, cnt]; omega
    | succ i =>
      have h' : i < l.length := by simpa using h
      have e := ih i v h'
      have : rd (a :: l) ((i + 1 : Nat) : Int) = rd l (i : Int) := by rw [rd_lt _ (i + 1) h, rd_lt l i h']; rfl
      rw [this]; simp only [List.set_cons_succ, cnt]; omega
theorem cnt_app (p : Int → Nat) : ∀ (l : List Int) (v : Int), cnt p (l ++ [v]) = cnt p l + p v := by
  intro l
  induction l with
  | nil => intro v; simp [cnt]
  | cons a l ih => intro v; simp only [List.cons_append, cnt, ih]; omega
def p2 (x : Int) : Nat := if x = 2 then 0 else 1
def p0 (x : Int) : Nat := if x = 0 then 1 else 0

/-- where both stand -/
structure St where
  (F N H F' N' : List Int)
  W : List Bool
  fr : List Int
structure Rel (n : Nat) (s : St) : Prop where
  lF : s.F.length = n
  lN : s.N.length = n
  lH : s.H.length = n
  lF' : s.F'.length = n
  lN' : s.N'.length = n
  lW : s.W.length = n
  w : ∀ c : Nat, c < n → rdOf false s.W (c : Int) = decide (rd s.H (c : Int) ≠ 0)
  h : ∀ c : Nat, c < n → rd s.H (c : Int) = 0 ∨ rd s.H (c : Int) = 1 ∨ rd s.H (c : Int) = 2
  f : ∀ c : Nat, c < n → rd s.H (c : Int) ≠ 0 → rd s.F' (c : Int) = rd s.F (c : Int) ∧ rd s.N' (c : Int) = rd s.N (c : Int)
  nd : s.fr.Nodup
  mem : ∀ x : Int, x ∈ s.fr ↔ ∃ c : Nat, x = (c : Int) ∧ c < n ∧ rd s.H (c : Int) = 1
  len : s.fr.length + cnt p0 s.H ≤ n

/-- a cell is visited from a -/
def vis (l : List Int) (a m : Nat) (s : St) : St :=
  if rd s.H (m : Int) = 0 then ⟨s.F.set m (mx (rd l (m : Int)) (rd s.F (a : Int))), s.N.set m (a : Int), s.H.set m 1, s.F'.set m (mx (rd l (m : Int)) (rd s.F' (a : Int))), s.N'.set m (a : Int), s.W.set m true, s.fr ++ [(m : Int)]⟩ else s

theorem vis_rel {n : Nat} {s : St} (l : List Int) (a m : Nat) (hr : Rel n s) (ha : a < n) (hm : m < n) (hHa : rd s.H (a : Int) ≠ 0) : Rel n (vis l a m s) := by
  unfold vis
  by_cases h0 : rd s.H (m : Int) = 0
  · rw [if_pos h0]
    have hfa := (hr.f a ha hHa).1
    have hlH := hr.lH; have hlF := hr.lF; have hlF' := hr.lF'; have hlN := hr.lN; have hlN' := hr.lN'; have hlW := hr.lW
    refine ⟨by simpa using hr.lF, by simpa using hr.lN, by simpa using hr.lH, by simpa using hr.lF', by simpa using hr.lN', by simpa using hr.lW, ?_, ?_, ?_, ?_, ?_, ?_⟩
    · intro c hc
      show rdOf false (s.W.set m true) (c : Int) = decide (rd (s.H.set m 1) (c : Int) ≠ 0)
      by_cases e : m = c
      · subst e; rw [rdB_eq _ _ _ (by omega), rd_eq _ _ _ (by omega)]; rfl
      · rw [rdB_ne _ _ _ _ (by omega) e, rd_ne _ _ _ _ (by omega) e]; exact hr.w c hc
    · intro c hc
      show rd (s.H.set m 1) (c : Int) = 0 ∨ _
      by_cases e : m = c
      · subst e; exact .inr (.inl (rd_eq _ _ _ (by omega)))
      · show rd (s.H.set m 1) (c : Int) = 0 ∨ rd (s.H.set m 1) (c : Int) = 1 ∨ rd (s.H.set m 1) (c : Int) = 2
        rw [rd_ne _ _ _ _ (by omega) e]; exact hr.h c hc
    · intro c hc hne
      show rd (s.F'.set m _) (c : Int) = rd (s.F.set m _) (c : Int) ∧ rd (s.N'.set m _) (c : Int) = rd (s.N.set m _) (c : Int)
      by_cases e : m = c
      · subst e; rw [rd_eq _ _ _ (by omega), rd_eq _ _ _ (by omega), rd_eq _ _ _ (by omega), rd_eq _ _ _ (by omega), hfa]; exact ⟨rfl, rfl⟩
      · rw [rd_ne _ _ _ _ (by omega) e, rd_ne _ _ _ _ (by omega) e, rd_ne _ _ _ _ (by omega) e, rd_ne _ _ _ _ (by omega) e]
        have hne' : rd (s.H.set m 1) (c : Int) ≠ 0 := hne
        rw [rd_ne _ _ _ _ (by omega) e] at hne'
        exact hr.f c hc hne'
    · show (s.fr ++ [(m : Int)]).Nodup
      rw [List.nodup_append]
      refine ⟨hr.nd, by simp, ?_⟩
      intro x hx y hy he
      simp only [List.mem_singleton] at hy
      obtain ⟨c, hc, hcn, h1⟩ := (hr.mem x).mp hx
      have : c = m := by omega
      subst this; omega
    · intro x
      show x ∈ s.fr ++ [(m : Int)] ↔ ∃ c : Nat, x = (c : Int) ∧ c < n ∧ rd (s.H.set m 1) (c : Int) = 1
      rw [List.mem_append, List.mem_singleton]
      constructor
      · rintro (hx | rfl)
        · obtain ⟨c, hc, hcn, h1⟩ := (hr.mem x).mp hx
          have e : m ≠ c := by intro e; subst e; omega
          exact ⟨c, hc, hcn, by rw [rd_ne _ _ _ _ (by omega) e]; exact h1⟩
        · exact ⟨m, rfl, hm, rd_eq _ _ _ (by omega)⟩
      · rintro ⟨c, hc, hcn, h1⟩
        by_cases e : m = c
        · subst e; exact .inr hc
        · rw [rd_ne _ _ _ _ (by omega) e] at h1
          exact .inl ((hr.mem x).mpr ⟨c, hc, hcn, h1⟩)
    · show (s.fr ++ [(m : Int)]).length + cnt p0 (s.H.set m 1) ≤ n
      have := cnt_set p0 s.H m 1 (by omega)
      rw [h0] at this
      have hl := hr.len
      simp only [p0, List.length_append, List.length_singleton] at this ⊢
      simp at this
      omega
  · rw [if_neg h0]; exact hr

/-- the cell that leaves -/
def pop (a : Nat) (q : Nat) (s : St) : St := ⟨s.F, s.N, s.H.set a 2, s.F', s.N', s.W, s.fr.eraseIdx q⟩
theorem pop_rel {n : Nat} {s : St} (a q : Nat) (hr : Rel n s) (hq : q < s.fr.length) (hf : s.fr[q] = (a : Int)) (ha : a < n) (hHa : rd s.H (a : Int) = 1) : Rel n (pop a q s) := by
  have hlH := hr.lH
  have hpw := List.pairwise_iff_getElem.1 hr.nd
  refine ⟨hr.lF, hr.lN, by show (s.H.set a 2).length = n; simpa using hr.lH, hr.lF', hr.lN', hr.lW, ?_, ?_, ?_, ?_, ?_, ?_⟩
  · intro c hc
    show rdOf false s.W (c : Int) = decide (rd (s.H.set a 2) (c : Int) ≠ 0)
    by_cases e : a = c
    · subst e; rw [rd_eq _ _ _ (by omega), hr.w a hc, hHa]; rfl
    · rw [rd_ne _ _ _ _ (by omega) e]; exact hr.w c hc
  · intro c hc
    show rd (s.H.set a 2) (c : Int) = 0 ∨ rd (s.H.set a 2) (c : Int) = 1 ∨ rd (s.H.set a 2) (c : Int) = 2
    by_cases e : a = c
    · subst e; exact .inr (.inr (rd_eq _ _ _ (by omega)))
    · rw [rd_ne _ _ _ _ (by omega) e]; exact hr.h c hc
  · intro c hc hne
    have hne' : rd (s.H.set a 2) (c : Int) ≠ 0 := hne
    by_cases e : a = c
    · subst e; exact hr.f a hc (by omega)
    · rw [rd_ne _ _ _ _ (by omega) e] at hne'; exact hr.f c hc hne'
  · exact (List.eraseIdx_sublist s.fr q).nodup hr.nd
  · intro x
    show x ∈ s.fr.eraseIdx q ↔ ∃ c : Nat, x = (c : Int) ∧ c < n ∧ rd (s.H.set a 2) (c : Int) = 1
    rw [List.mem_eraseIdx_iff_getElem]
    constructor
    · rintro ⟨i, hi, hne, rfl⟩
      obtain ⟨c, hc, hcn, h1⟩ := (hr.mem s.fr[i]).mp (List.getElem_mem hi)
      have e : a ≠ c := by
        intro e
        subst e
        rcases Nat.lt_trichotomy i q with h | h | h
        · exact hpw i q hi hq h (by rw [hf, hc])
        · exact hne h
        · exact hpw q i hq hi h (by rw [hf, hc])
      exact ⟨c, hc, hcn, by rw [rd_ne _ _ _ _ (by omega) e]; exact h1⟩
    · rintro ⟨c, rfl, hcn, h1⟩
      by_cases e : a = c
      · subst e; rw [rd_eq _ _ _ (by omega)] at h1; omega
      · rw [rd_ne _ _ _ _ (by omega) e] at h1
        obtain ⟨i, hi, he⟩ := List.mem_iff_getElem.1 ((hr.mem (c : Int)).mpr ⟨c, rfl, hcn, h1⟩)
        exact ⟨i, hi, fun hiq => by subst hiq; rw [hf] at he; omega, he⟩
  · show (s.fr.eraseIdx q).length + cnt p0 (s.H.set a 2) ≤ n
    have := cnt_set p0 s.H a 2 (by omega)
    rw [hHa] at this
    have hl := hr.len
    have he : (s.fr.eraseIdx q).length ≤ s.fr.length := (List.eraseIdx_sublist s.fr q).length_le
    simp only [p0] at this
    simp at this
    omega

/-- what stays true -/
structure Good (n C : Nat) (s : St) (a : Nat) (m : Nat) : Prop where
  rel : Rel n s
  cn : cnt p2 s.H ≤ m
  ha : rd s.H (a : Int) = 2
  top : ∀ c : Nat, c < n → c < C → rd s.H (c : Int) ≠ 0
  dn : ∀ c : Nat, c ≠ a → c + C < n → rd s.H (c : Int) = 2 → rd s.H ((c + C : Nat) : Int) ≠ 0

theorem vis_H (l : List Int) (a m : Nat) (s : St) (n : Nat) (hr : Rel n s) (hm : m < n) (c : Nat) (hc : c < n) :
    (rd s.H (c : Int) ≠ 0 → rd (vis l a m s).H (c : Int) = rd s.H (c : Int)) ∧ (rd (vis l a m s).H (c : Int) = 2 → rd s.H (c : Int) = 2) ∧ rd (vis l a m s).H (m : Int) ≠ 0 := by
  unfold vis
  have hlH := hr.lH
  by_cases h0 : rd s.H (m : Int) = 0
  · rw [if_pos h0]
    refine ⟨fun h => ?_, fun h => ?_, ?_⟩
    · exact rd_ne _ _ _ _ (by omega) (fun e => by subst e; omega)
    · have h' : rd (s.H.set m 1) (c : Int) = 2 := h
      by_cases e : m = c
      · subst e; rw [rd_eq _ _ _ (by omega)] at h'; omega
      · rwa [rd_ne _ _ _ _ (by omega) e] at h'
    · show rd (s.H.set m 1) (m : Int) ≠ 0
      rw [rd_eq _ _ _ (by omega)]; omega
  · rw [if_neg h0]; exact ⟨fun _ => rfl, fun h => h, h0⟩

theorem vis_good {n C : Nat} {s : St} (l : List Int) (a m k : Nat) (hg : Good n C s a k) (ha : a < n) (hm : m < n) : Good n C (vis l a m s) a k := by
  have hH := vis_H l a m s n hg.rel hm
  refine ⟨vis_rel l a m hg.rel ha hm (by rw [hg.ha]; omega), ?_, ?_, ?_, ?_⟩
  · unfold vis
    have hlH := hg.rel.lH
    by_cases h0 : rd s.H (m : Int) = 0
    · rw [if_pos h0]
      have := cnt_set p2 s.H m 1 (by omega)
      rw [h0] at this
      have hc := hg.cn
      simp only [p2] at this
      simp at this
      show cnt p2 (s.H.set m 1) ≤ k
      have e : cnt p2 (s.H.set m 1) = cnt p2 s.H := this
      omega
    · rw [if_neg h0]; exact hg.cn
  · rw [(hH a ha).1 (by rw [hg.ha]; omega)]; exact hg.ha
  · intro c hc hcC
    rw [(hH c hc).1 (hg.top c hc hcC)]; exact hg.top c hc hcC
  · intro c hca hc h2
    have h2' := (hH c (by omega)).2.1 h2
    have := hg.dn c hca hc h2'
    rw [(hH (c + C) hc).1 this]; exact this

/-- all sides of a cell, one behind the other -/
def visL (l : List Int) (a : Nat) (L : List Nat) (s : St) : St := L.foldl (fun s m => vis l a m s) s
theorem visL_good {n C : Nat} (l : List Int) (a k : Nat) (ha : a < n) : ∀ (L : List Nat) (s : St), (∀ m ∈ L, m < n) → Good n C s a k → Good n C (visL l a L s) a k ∧ (∀ c : Nat, c < n → rd s.H (c : Int) ≠ 0 → rd (visL l a L s).H (c : Int) ≠ 0) ∧ ∀ m ∈ L, rd (visL l a L s).H (m : Int) ≠ 0 := by
  intro L
  induction L with
  | nil => intro s _ hg; exact ⟨hg, fun c _ h => h, fun m hm => by cases hm⟩
  | cons m L ih =>
    intro s hL hg
    have hm := hL m (by simp)
    obtain ⟨g1, g2, g3⟩ := ih (vis l a m s) (fun x hx => hL x (by simp [hx])) (vis_good l a m k hg ha hm)
    have hH := vis_H l a m s n hg.rel hm
    refine ⟨g1, fun c hc h => g2 c hc (by rw [(hH c hc).1 h]; exact h), fun x hx => ?_⟩
    rw [List.mem_cons] at hx
    rcases hx with rfl | hx
    · exact g2 x hm (hH x hm).2.2
    · exact g3 x hx
end Go.Proofs.Ytopfdmodbhopiaa.QFnExactDrain
