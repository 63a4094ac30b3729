/- What a step of water keeps: what lies and what has flowed out is together what it was; nothing is below 0. Plain lemmas on lists of whole numbers. -/
import Derived.Test.YtopfdmodbhopiaaFlowLibFnWaterBook
set_option linter.unusedVariables false
set_option linter.unusedSimpArgs false
namespace Go.Proofs.Ytopfdmodbhopiaa.QFnWaterBook
open Go.RowKit Go.Proofs.YtopfdmodbhopiaaW.PrintWords Go.Proofs.Ytopfdmodbhopiaa.Opn Go.Proofs.Ytopfdmodbhopiaa.Pl Go.Proofs.Ytopfdmodbhopiaa.Wm

theorem sum_set : ∀ (l : List Int) (i : Nat) (v : Int), i < l.length → (l.set i v).sum = l.sum - rd l (i : Int) + v := by
  intro l
  induction l with
  | nil => intro i v h; simp at h
  | cons a l ih =>
    intro i v h
    cases i with
    | zero => simp only [List.set_cons_zero, List.sum_cons]; have : rd (a :: l) ((0 : Nat) : Int) = a := rfl; omega
    | succ i =>
      simp only [List.set_cons_succ, List.sum_cons]
      have h' : i < l.length := by simpa using h
      have e := ih i v h'
      have : rd (a :: l) ((i + 1 : Nat) : Int) = rd l (i : Int) := by rw [rd_lt _ (i + 1) h, rd_lt l i h']; rfl
      omega
theorem rd_set_ne (l : List Int) (i j : Nat) (v : Int) (hj : j < l.length) (h : i ≠ j) : rd (l.set i v) (j : Int) = rd l (j : Int) := by
  rw [rd_lt _ j (by simpa using hj), rd_lt l j hj, List.getElem_set_ne h]
theorem rd_set_eq (l : List Int) (i : Nat) (v : Int) (h : i < l.length) : rd (l.set i v) (i : Int) = v := by
  rw [rd_lt _ i (by simpa using h), List.getElem_set_self]
theorem le_sum : ∀ (l : List Int), (∀ j : Nat, j < l.length → 0 ≤ rd l (j : Int)) → 0 ≤ l.sum ∧ ∀ j : Nat, j < l.length → rd l (j : Int) ≤ l.sum := by
  intro l
  induction l with
  | nil => intro _; exact ⟨by simp, fun j hj => by simp at hj⟩
  | cons a l ih =>
    intro h
    have h0 := h 0 (by simp)
    have e0 : rd (a :: l) ((0 : Nat) : Int) = a := rfl
    have hs : ∀ j : Nat, j < l.length → rd (a :: l) ((j + 1 : Nat) : Int) = rd l (j : Int) := fun j hj => by rw [rd_lt _ (j + 1) (by simpa using hj), rd_lt l j hj]; rfl
    obtain ⟨i1, i2⟩ := ih (fun j hj => by have := h (j + 1) (by simpa using hj); rw [hs j hj] at this; exact this)
    rw [e0] at h0
    simp only [List.sum_cons]
    refine ⟨by omega, fun j hj => ?_⟩
    cases j with
    | zero => rw [e0]; omega
    | succ j => have hj' : j < l.length := by simpa using hj
                rw [hs j hj']; have := i2 j hj'; omega

theorem flow_keep (next was : List Int) (hn : Into next) (hw : was.length = next.length) (hb : ∀ j : Nat, j < next.length → 0 ≤ rd was (j : Int)) :
    ∀ m i W o, i + m = next.length → W.length = next.length → (∀ j : Nat, j < next.length → 0 ≤ rd W (j : Int)) → (∀ j : Nat, i ≤ j → j < next.length → rd was (j : Int) ≤ rd W (j : Int)) → 0 ≤ o → W.sum + o ≤ 4000000000000 →
      (flowR next was m i W o).1.sum + (flowR next was m i W o).2 = W.sum + o ∧ (∀ j : Nat, j < next.length → 0 ≤ rd (flowR next was m i W o).1 (j : Int)) ∧ o ≤ (flowR next was m i W o).2 ∧ (flowR next was m i W o).1.length = next.length := by
  intro m
  induction m with
  | zero => intro i W o _ hl h0 _ ho _; exact ⟨rfl, h0, Int.le_refl _, hl⟩
  | succ m ih =>
    intro i W o hi hl h0 h1 ho hs
    have hil : i < next.length := by omega
    have hx := hn (i : Int) (by omega) (by omega)
    have hwi := hb i hil
    have hWi := h1 i (Nat.le_refl _) hil
    have hsum := le_sum W (by rw [hl]; exact h0)
    have hWs := hsum.2 i (by omega)
    have eh : wrap64 (rd W (i : Int) - (rd was (i : Int) + 1) / 2) = rd W (i : Int) - (rd was (i : Int) + 1) / 2 := w64 (by omega) (by omega)
    have hs1 := sum_set W i (rd W (i : Int) - (rd was (i : Int) + 1) / 2) (by omega)
    have hl1 : (W.set i (rd W (i : Int) - (rd was (i : Int) + 1) / 2)).length = next.length := by simpa using hl
    have g0 : ∀ j : Nat, j < next.length → 0 ≤ rd (W.set i (rd W (i : Int) - (rd was (i : Int) + 1) / 2)) (j : Int) := by
      intro j hj
      by_cases e : i = j
      · subst e; rw [rd_set_eq _ _ _ (by omega)]; omega
      · rw [rd_set_ne _ _ _ _ (by omega) e]; exact h0 j hj
    have g1 : ∀ j : Nat, i + 1 ≤ j → j < next.length → rd was (j : Int) ≤ rd (W.set i (rd W (i : Int) - (rd was (i : Int) + 1) / 2)) (j : Int) := by
      intro j hj hj2
      rw [rd_set_ne _ _ _ _ (by omega) (by omega)]; exact h1 j (by omega) hj2
    simp only [flowR, eh]
    generalize W.set i (rd W (i : Int) - (rd was (i : Int) + 1) / 2) = W1 at hs1 hl1 g0 g1 ⊢
    by_cases hneg : rd next (i : Int) < 0
    · simp only [if_pos hneg]
      rw [w64 (n := o + (rd was (i : Int) + 1) / 2) (by omega) (by omega)]
      obtain ⟨r1, r2, r3, r4⟩ := ih (i + 1) W1 (o + (rd was (i : Int) + 1) / 2) (by omega) hl1 g0 g1 (by omega) (by omega)
      exact ⟨by omega, r2, by omega, r4⟩
    · simp only [if_neg hneg]
      obtain ⟨t, ht⟩ : ∃ t : Nat, rd next (i : Int) = (t : Int) := ⟨(rd next (i : Int)).toNat, by omega⟩
      rw [ht, Int.toNat_natCast]
      have htl : t < next.length := by omega
      have h2 := g0 t htl
      have hsum1 := le_sum W1 (by rw [hl1]; exact g0)
      have h3 := hsum1.2 t (by omega)
      rw [w64 (n := rd W1 (t : Int) + (rd was (i : Int) + 1) / 2) (by omega) (by omega)]
      have hs2 := sum_set W1 t (rd W1 (t : Int) + (rd was (i : Int) + 1) / 2) (by omega)
      obtain ⟨r1, r2, r3, r4⟩ := ih (i + 1) (W1.set t (rd W1 (t : Int) + (rd was (i : Int) + 1) / 2)) o (by omega) (by simpa using hl1) (by
        intro j hj
        by_cases e : t = j
        · subst e; rw [rd_set_eq _ _ _ (by omega)]; omega
        · rw [rd_set_ne _ _ _ _ (by omega) e]; exact g0 j hj) (by
        intro j hj hj2
        have := g1 j hj hj2
        by_cases e : t = j
        · subst e; rw [rd_set_eq _ _ _ (by omega)]; omega
        · rw [rd_set_ne _ _ _ _ (by omega) e]; exact this) ho (by omega)
      exact ⟨by omega, r2, r3, r4⟩

theorem add_sum : ∀ (w r : List Int), r.length = w.length → (addL w r).sum = w.sum + r.sum := by
  intro w
  induction w with
  | nil => intro r h; have : r = [] := List.eq_nil_of_length_eq_zero h; subst this; rfl
  | cons a w ih =>
    intro r h
    cases r with
    | nil => simp at h
    | cons b r =>
      have := ih r (by simpa using h)
      have e : addL (a :: w) (b :: r) = (a + b) :: addL w r := rfl
      rw [e, List.sum_cons, List.sum_cons, List.sum_cons]; omega

/-- A book that fits its cells. -/
structure BookOk (next w : List Int) (o r : Int) : Prop where
  ok : okN next = true
  len : w.length = next.length
  wet : wetB w = true
  o0 : 0 ≤ o
  all : w.sum + o = r
  most : r ≤ 1000000000000

theorem wet_of (l : List Int) (h : ∀ j : Nat, j < l.length → 0 ≤ rd l (j : Int) ∧ rd l (j : Int) ≤ 1000000000000) : wetB l = true := by
  refine List.all_eq_true.mpr fun x hx => ?_
  obtain ⟨j, hj, rfl⟩ := List.mem_iff_getElem.1 hx
  have := h j hj
  rw [rd_lt l j hj] at this
  exact (inB_iff _ _ _).mpr this
theorem wet_nn (l : List Int) (h : wetB l = true) : ∀ j : Nat, j < l.length → 0 ≤ rd l (j : Int) ∧ rd l (j : Int) ≤ 1000000000000 := by
  intro j hj
  rw [rd_lt l j hj]
  exact wet_get h j hj

theorem FS_false (next w : List Int) (o r : Int) (rain : List Int) (h : (inOk next w o r rain && sumsOk w o r rain) = false) : FS next w o r rain = bad := by
  unfold FS
  cases h1 : inOk next w o r rain with
  | false => rfl
  | true => cases h2 : sumsOk w o r rain with
    | false => rfl
    | true => rw [h1, h2] at h; cases h

theorem FS_ok (next w : List Int) (o r : Int) (rain : List Int) (h : (inOk next w o r rain && sumsOk w o r rain) = true) :
    ∃ w' o', FS next w o r rain = (w', o', r + rain.sum, true) ∧ BookOk next w' o' (r + rain.sum) ∧ o ≤ o' ∧ rain.length = next.length := by
  rw [Bool.and_eq_true] at h
  obtain ⟨h1, h2⟩ := h
  have h1' := h1; have h2' := h2
  unfold inOk at h1'
  unfold sumsOk at h2'
  simp only [Bool.and_eq_true, decide_eq_true_eq] at h1' h2'
  obtain ⟨hok, hwl, hrl, ho, hr⟩ := h1'
  obtain ⟨⟨hw, hra⟩, he, hm⟩ := h2'
  have ho' := (inB_iff _ _ _).mp ho; have hr' := (inB_iff _ _ _).mp hr
  obtain ⟨hl, hn⟩ := into_ok next hok
  have hal : (addL w rain).length = next.length := by rw [add_len w rain (by omega), hwl]
  have hsum := add_sum w rain (by omega)
  have hw0 := le_sum w (fun j hj => (wet_nn w hw j hj).1)
  have hr0 := le_sum rain (fun j hj => (wet_nn rain hra j hj).1)
  have hb : ∀ j : Nat, j < next.length → 0 ≤ rd (addL w rain) (j : Int) := fun j hj => by
    rw [rd_lt _ j (by omega)]; exact (add_bd w rain hw hra (by omega) j (by omega)).1
  obtain ⟨r1, r2, r3, r4⟩ := flow_keep next (addL w rain) hn hal hb next.length 0 (addL w rain) o (by omega) hal hb (fun j _ _ => Int.le_refl _) ho'.1 (by omega)
  refine ⟨_, _, ?_, ⟨hok, r4, wet_of _ fun j hj => ⟨r2 j (by omega), ?_⟩, by omega, by omega, by omega⟩, r3, hrl⟩
  · unfold FS; rw [if_pos h1, if_pos h2]
  · have := (le_sum (flowR next (addL w rain) next.length 0 (addL w rain) o).1 (by rw [r4]; exact r2)).2 j hj
    omega

theorem dry_ok (next w : List Int) (o r : Int) (h : BookOk next w o r) (n : Nat) (hn : n = next.length) :
    (inOk next w o r (List.replicate n 0) && sumsOk w o r (List.replicate n 0)) = true ∧ (List.replicate n (0 : Int)).sum = 0 := by
  subst hn
  have hs : ∀ m : Nat, (List.replicate m (0 : Int)).sum = 0 := by
    intro m
    induction m with
    | zero => rfl
    | succ m ih => rw [List.replicate_succ, List.sum_cons, ih]; rfl
  have h0 := (le_sum w (fun j hj => (wet_nn w h.wet j hj).1)).1
  have h1 := h.o0; have h2 := h.all; have h3 := h.most
  refine ⟨?_, hs _⟩
  unfold inOk sumsOk
  simp only [Bool.and_eq_true, decide_eq_true_eq]
  refine ⟨⟨h.ok, h.len, by simp, (inB_iff _ _ _).mpr ⟨by omega, by omega⟩, (inB_iff _ _ _).mpr ⟨by omega, by omega⟩⟩, ⟨h.wet, ?_⟩, by omega, ?_⟩
  · refine wet_of _ fun j hj => ?_
    rw [rd_lt _ j hj]; simp
  · rw [hs]; omega
end Go.Proofs.Ytopfdmodbhopiaa.QFnWaterBook
