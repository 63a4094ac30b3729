/- What the functions around Cost compute: plain functions on whole numbers and lists. No condition but the sizes that are named. -/
import Derived.Test.YtcjhbmjimjbphaaLib
import Derived.Test.YtcjhbmjimjbphaaQFnDescendsx10
set_option linter.unusedVariables false
set_option linter.unusedSimpArgs false
namespace Go.Proofs.Ytcjhbmjimjbphaa.QFnDescends
open Go.RowKit Go.Proofs.YtcjhbmjimjbphaaW.PrintWords Go.Proofs.Ytcjhbmjimjbphaa.Opn Go.Proofs.Ytcjhbmjimjbphaa.Pl

def inB (n a b : Int) : Bool := decide (a ≤ n) && decide (n ≤ b)
theorem specIn (n a b : Int) : spec_l2In.f n a b = some (inB n a b) := by
  unfold spec_l2In.f inB
  by_cases h : n ≥ a
  · rw [if_pos h, decide_eq_true (show a ≤ n from h), Bool.true_and]
  · rw [if_neg h, decide_eq_false (show ¬ a ≤ n from h), Bool.false_and]
theorem implIn (n a b : Int) : impl_in.f n a b = some (inB n a b) := by
  unfold impl_in.f inB
  by_cases h : n ≥ a
  · rw [if_pos h, decide_eq_true (show a ≤ n from h), Bool.true_and]
  · rw [if_neg h, decide_eq_false (show ¬ a ≤ n from h), Bool.false_and]

def eachB (l : List Int) (n a b : Int) : Bool := decide ((l.length : Int) = n) && l.all (fun x => inB x a b)

theorem specAll_ev (l : List Int) (hl : l.length ≤ 1048576) (n a b : Int) : Ev (fun k => spec_l15All.f k l n a b) (eachB l n a b) := by
  unfold spec_l15All.f eachB
  by_cases h : (l.length : Int) = n
  · simp only [h, if_true, decide_true, Bool.true_and]
    have key := Ev_up (fun k i => spec_l15All.l0 k l a b (i : Int)) (fun i => (l.drop i).all (fun x => inB x a b)) l.length (by
        refine Ev.step (f := fun _ => some true) (fun k => ?_) (by simpa using Ev.now true)
        simp only [spec_l15All.l0]
        rw [if_neg (by omega)]) (by
        intro i hi ih
        refine Ev.step (f := fun k => if inB l[i] a b = true then spec_l15All.l0 k l a b ((i + 1 : Nat) : Int) else some false) (fun k => ?_) ?_
        · simp only [spec_l15All.l0]
          rw [if_pos (by omega), if_pos (by omega), specIn, rd_lt l i hi, w64 (by omega) (by omega)]
          rfl
        · rw [mem_range_get l _ i hi]
          cases hb : inB l[i] a b with
          | true => simpa using ih
          | false => simpa using Ev.now false) 0 (Nat.zero_le _)
    simpa using key
  · rw [decide_eq_false h, Bool.false_and]
    simp only [h, if_false]
    exact Ev.now false

theorem implEach_ev (l : List Int) (hl : l.length ≤ 1048576) (n a b : Int) : Ev (fun k => impl_each.f k l n a b) (eachB l n a b) := by
  unfold impl_each.f eachB
  by_cases h : (l.length : Int) = n
  · rw [decide_eq_true h, Bool.true_and]
    simp only [if_pos h]
    have key := Ev_up (fun k i => impl_each.l0 k a b l (l.length : Int) (i : Int)) (fun i => (l.drop i).all (fun x => inB x a b)) l.length (by
        refine Ev.step (f := fun _ => some true) (fun k => ?_) (by simpa using Ev.now true)
        simp only [impl_each.l0]
        rw [if_neg (by omega)]) (by
        intro i hi ih
        refine Ev.step (f := fun k => if inB l[i] a b = true then impl_each.l0 k a b l (l.length : Int) ((i + 1 : Nat) : Int) else some false) (fun k => ?_) ?_
        · simp only [impl_each.l0]
          rw [if_pos (by omega), if_pos (by omega), if_pos (by omega), implIn, rd_lt l i hi, w64 (by omega) (by omega)]
          rfl
        · rw [mem_range_get l _ i hi]
          cases hb : inB l[i] a b with
          | true => simpa using ih
          | false => simpa using Ev.now false) 0 (Nat.zero_le _)
    simpa using key
  · rw [decide_eq_false h, Bool.false_and]
    simp only [h, if_false]
    exact Ev.now false

def rowB (n : Int) (r : S52) : Bool := eachB r.f0 n (-5) 5 && (inB r.f1 (-500) 500 && inB r.f2 1 5)
def okB (n : Int) (g t : List Int) (rows : List S52) : Bool := inB n 1 6 && (eachB g n (-500) 500 && (eachB t n 1 5 && (decide (rows.length ≤ 20) && rows.all (rowB n))))
def Small (g t : List Int) (rows : List S52) : Prop := g.length ≤ 1048576 ∧ t.length ≤ 1048576 ∧ rows.length ≤ 1048576 ∧ ∀ r ∈ rows, r.f0.length ≤ 1048576

theorem rdT52 (l : List S52) (i : Nat) (h : i < l.length) : rd_T52 l (i : Int) = l[i] := getD_lt l _ i h

theorem specOk_rows (n : Int) (g t : List Int) (rows : List S52) (hs : Small g t rows) : Ev (fun k => spec_ProblemOk.l0 k 0 n g t rows) (rows.all (rowB n)) := by
  have key := Ev_up (fun k i => spec_ProblemOk.l0 k (i : Int) n g t rows) (fun i => (rows.drop i).all (rowB n)) rows.length (by
      refine Ev.step (f := fun _ => some true) (fun k => ?_) (by simpa using Ev.now true)
      simp only [spec_ProblemOk.l0]
      rw [if_neg (by omega)]) (by
      intro i hi ih
      have hh := hs.2.2.2 _ (List.getElem_mem hi)
      have hb := hs.2.2.1
      refine Ev.step (f := fun k => (spec_l15All.f k rows[i].f0 n (-5) 5).bind fun t117 => if t117 = true then (if inB rows[i].f1 (-500) 500 = true then (if inB rows[i].f2 1 5 = true then spec_ProblemOk.l0 k ((i + 1 : Nat) : Int) n g t rows else some false) else some false) else some false) (fun k => ?_) ?_
      · simp only [spec_ProblemOk.l0]
        rw [if_pos (by omega), if_pos (by omega), rdT52 rows i hi, w64 (by omega) (by omega)]
        simp only [specIn, Option.bind_some]
        rfl
      · refine Ev_bind _ (specAll_ev rows[i].f0 hh n (-5) 5) ?_
        have er : rowB n rows[i] = (eachB rows[i].f0 n (-5) 5 && (inB rows[i].f1 (-500) 500 && inB rows[i].f2 1 5)) := rfl
        rw [mem_range_get rows _ i hi, er]
        cases h1 : eachB rows[i].f0 n (-5) 5
        · simpa using Ev.now false
        cases h2 : inB rows[i].f1 (-500) 500
        · simpa using Ev.now false
        cases h3 : inB rows[i].f2 1 5
        · simpa using Ev.now false
        simpa using ih) 0 (Nat.zero_le _)
  simpa using key

theorem specOk_ev (n : Int) (g t : List Int) (rows : List S52) (hs : Small g t rows) : Ev (fun k => spec_ProblemOk.f k n g t rows) (okB n g t rows) := by
  unfold spec_ProblemOk.f okB
  simp only [specIn, Option.bind_some]
  have hj : ∀ b : Bool, Ev (fun k => spec_ProblemOk.j0 k b n g t rows) (!b && rows.all (rowB n)) := by
    intro b
    refine Ev.step (f := fun k => if b = true then some false else spec_ProblemOk.l0 k 0 n g t rows) (fun k => by simp only [spec_ProblemOk.j0]) ?_
    cases b
    · simpa using specOk_rows n g t rows hs
    · simpa using Ev.now false
  cases h1 : inB n 1 6
  · simpa using hj true
  simp only [if_true, Bool.true_and]
  refine Ev_bind _ (specAll_ev g hs.1 n (-500) 500) ?_
  cases h2 : eachB g n (-500) 500
  · simpa using hj true
  simp only [if_true, Bool.true_and]
  refine Ev_bind _ (specAll_ev t hs.2.1 n 1 5) ?_
  cases h3 : eachB t n 1 5
  · simpa using hj true
  have := hj (decide ((rows.length : Int) > 20))
  have e : (!decide ((rows.length : Int) > 20)) = decide (rows.length ≤ 20) := by
    by_cases h : rows.length ≤ 20
    · rw [decide_eq_false (by omega), decide_eq_true h]; rfl
    · rw [decide_eq_true (by omega), decide_eq_false h]; rfl
  rw [e] at this
  simpa using this

theorem implOk_rows (n : Int) (g t : List Int) (rows : List S52) (hs : Small g t rows) : Ev (fun k => impl_ProblemOk.l0 k rows (rows.length : Int) 0 n g t rows) (rows.all (rowB n)) := by
  have key := Ev_up (fun k i => impl_ProblemOk.l0 k rows (rows.length : Int) (i : Int) n g t rows) (fun i => (rows.drop i).all (rowB n)) rows.length (by
      refine Ev.step (f := fun _ => some true) (fun k => ?_) (by simpa using Ev.now true)
      simp only [impl_ProblemOk.l0]
      rw [if_neg (by omega)]) (by
      intro i hi ih
      have hh := hs.2.2.2 _ (List.getElem_mem hi)
      have hb := hs.2.2.1
      refine Ev.step (f := fun k => (impl_each.f k rows[i].f0 n (-5) 5).bind fun t117 => if t117 = true then (if inB rows[i].f1 (-500) 500 = true then (if inB rows[i].f2 1 5 = true then impl_ProblemOk.l0 k rows (rows.length : Int) ((i + 1 : Nat) : Int) n g t rows else some false) else some false) else some false) (fun k => ?_) ?_
      · simp only [impl_ProblemOk.l0]
        rw [if_pos (by omega), if_pos (by omega), if_pos (by omega), rdT52 rows i hi, w64 (by omega) (by omega)]
        simp only [implIn, Option.bind_some]
        rfl
      · refine Ev_bind _ (implEach_ev rows[i].f0 hh n (-5) 5) ?_
        have er : rowB n rows[i] = (eachB rows[i].f0 n (-5) 5 && (inB rows[i].f1 (-500) 500 && inB rows[i].f2 1 5)) := rfl
        rw [mem_range_get rows _ i hi, er]
        cases h1 : eachB rows[i].f0 n (-5) 5
        · simpa using Ev.now false
        cases h2 : inB rows[i].f1 (-500) 500
        · simpa using Ev.now false
        cases h3 : inB rows[i].f2 1 5
        · simpa using Ev.now false
        simpa using ih) 0 (Nat.zero_le _)
  simpa using key

theorem implOk_ev (n : Int) (g t : List Int) (rows : List S52) (hs : Small g t rows) : Ev (fun k => impl_ProblemOk.f k n g t rows) (okB n g t rows) := by
  unfold impl_ProblemOk.f okB
  simp only [implIn, Option.bind_some]
  have hj : ∀ b : Bool, Ev (fun k => impl_ProblemOk.j0 k b n g t rows) (!b && rows.all (rowB n)) := by
    intro b
    refine Ev.step (f := fun k => if b = true then some false else impl_ProblemOk.l0 k rows (rows.length : Int) 0 n g t rows) (fun k => by simp only [impl_ProblemOk.j0]) ?_
    cases b
    · simpa using implOk_rows n g t rows hs
    · simpa using Ev.now false
  cases h1 : inB n 1 6
  · simpa using hj true
  simp only [if_true, Bool.true_and]
  refine Ev_bind _ (implEach_ev g hs.1 n (-500) 500) ?_
  cases h2 : eachB g n (-500) 500
  · simpa using hj true
  simp only [if_true, Bool.true_and]
  refine Ev_bind _ (implEach_ev t hs.2.1 n 1 5) ?_
  cases h3 : eachB t n 1 5
  · simpa using hj true
  have := hj (decide ((rows.length : Int) > 20))
  have e : (!decide ((rows.length : Int) > 20)) = decide (rows.length ≤ 20) := by
    by_cases h : rows.length ≤ 20
    · rw [decide_eq_false (by omega), decide_eq_true h]; rfl
    · rw [decide_eq_true (by omega), decide_eq_false h]; rfl
  rw [e] at this
  simpa using this

def missW (x : List Int) (n : Nat) (r : S52) : Int := accW (wrap64 (-r.f1)) (fun i => wrap64 (rd r.f0 (i : Int) * rd x (i : Int))) n
def startW (x g t : List Int) (n : Nat) : Int := accW 0 (fun i => wrap64 (wrap64 (rd t (i : Int) * wrap64 (rd x (i : Int) - rd g (i : Int))) * wrap64 (rd x (i : Int) - rd g (i : Int)))) n
def costW (x g t : List Int) (rows : List S52) (n : Nat) : Int :=
  accW (startW x g t n) (fun k => wrap64 (wrap64 ((rd_T52 rows (k : Int)).f2 * missW x n (rd_T52 rows (k : Int))) * missW x n (rd_T52 rows (k : Int)))) rows.length

structure Fits (n : Nat) (x g t : List Int) (rows : List S52) : Prop where
  small : n ≤ 1048576
  lx : x.length = n
  lg : g.length = n
  lt : t.length = n
  lr : rows.length ≤ 1048576
  row : ∀ q, q ∈ rows → (S52.f0 q).length = n

theorem specMiss_ev (n : Nat) (x g t : List Int) (rows : List S52) (hf : Fits n x g t rows) (s : Int) (k0 : Nat) (hk : k0 < rows.length) (v : Int)
    (hnext : Ev (fun k => spec_l15Cost.l1 k x (wrap64 (s + wrap64 (wrap64 (rows[k0].f2 * missW x n rows[k0]) * missW x n rows[k0]))) ((k0 + 1 : Nat) : Int) (n : Int) g t rows) v) :
    Ev (fun k => spec_l15Cost.l2 k x s (k0 : Int) (wrap64 (-rows[k0].f1)) 0 (n : Int) g t rows) v := by
  have hh := hf.row _ (List.getElem_mem hk)
  have hx := hf.lx
  have hn := hf.small
  have hr := hf.lr
  have key := Ev_up (fun k i => spec_l15Cost.l2 k x s (k0 : Int) (accW (wrap64 (-rows[k0].f1)) (fun i => wrap64 (rd rows[k0].f0 (i : Int) * rd x (i : Int))) i) (i : Int) (n : Int) g t rows) (fun _ => v) n (by
      refine Ev.step (fun k => ?_) hnext
      simp only [spec_l15Cost.l2]
      rw [if_neg (by omega), if_pos (by omega), if_pos (by omega), rdT52 rows k0 hk, w64 (n := (k0 : Int) + 1) (by omega) (by omega)]
      rfl) (by
      intro i hi ih
      refine Ev.step (fun k => ?_) ih
      simp only [spec_l15Cost.l2]
      rw [if_pos (by omega), if_pos (by omega), if_pos (by omega), rdT52 rows k0 hk, if_pos (by omega), if_pos (by omega), if_pos (by omega), w64 (n := (i : Int) + 1) (by omega) (by omega)]
      rfl) 0 (Nat.zero_le _)
  exact key

theorem specCost_ev (n : Nat) (x g t : List Int) (rows : List S52) (hf : Fits n x g t rows) : Ev (fun k => spec_l15Cost.f k (n : Int) g t rows x) (costW x g t rows n) := by
  have hx := hf.lx
  have hg := hf.lg
  have ht := hf.lt
  have hn := hf.small
  have hr := hf.lr
  unfold spec_l15Cost.f
  have h1 : Ev (fun k => spec_l15Cost.l1 k x (startW x g t n) 0 (n : Int) g t rows) (costW x g t rows n) := by
    have key := Ev_up (fun k i => spec_l15Cost.l1 k x (accW (startW x g t n) (fun k => wrap64 (wrap64 ((rd_T52 rows (k : Int)).f2 * missW x n (rd_T52 rows (k : Int))) * missW x n (rd_T52 rows (k : Int)))) i) (i : Int) (n : Int) g t rows) (fun _ => costW x g t rows n) rows.length (by
        refine Ev.step (f := fun _ => some (costW x g t rows n)) (fun k => ?_) (Ev.now _)
        simp only [spec_l15Cost.l1]
        rw [if_neg (by omega)]
        rfl) (by
        intro i hi ih
        refine Ev.step (fun k => ?_) (specMiss_ev n x g t rows hf _ i hi _ (by
          simp only [accW, rdT52 rows i hi] at ih
          exact ih))
        simp only [spec_l15Cost.l1]
        rw [if_pos (by omega), if_pos (by omega), rdT52 rows i hi]) 0 (Nat.zero_le _)
    exact key
  have key := Ev_up (fun k i => spec_l15Cost.l0 k x (startW x g t i) (i : Int) (n : Int) g t rows) (fun _ => costW x g t rows n) n (by
      refine Ev.step (fun k => ?_) h1
      simp only [spec_l15Cost.l0]
      rw [if_neg (by omega)]) (by
      intro i hi ih
      refine Ev.step (fun k => ?_) ih
      simp only [spec_l15Cost.l0]
      rw [if_pos (by omega), if_pos (by omega), if_pos (by omega), if_pos (by omega), if_pos (by omega), w64 (n := (i : Int) + 1) (by omega) (by omega)]
      rfl) 0 (Nat.zero_le _)
  exact key

theorem implMiss_ev (n : Nat) (x g t : List Int) (rows : List S52) (hf : Fits n x g t rows) (s : Int) (k0 : Nat) (hk : k0 < rows.length) (v : Int)
    (hnext : Ev (fun k => impl_cost.l1 k x (wrap64 (s + wrap64 (wrap64 (rows[k0].f2 * missW x n rows[k0]) * missW x n rows[k0]))) rows (rows.length : Int) ((k0 + 1 : Nat) : Int)) v) :
    Ev (fun k => impl_cost.l2 k x s (wrap64 (-rows[k0].f1)) rows (rows.length : Int) (k0 : Int) rows[k0].f0 (rows[k0].f0.length : Int) 0 rows[k0].f0 rows[k0].f1 rows[k0].f2) v := by
  have hh := hf.row _ (List.getElem_mem hk)
  have hx := hf.lx
  have hn := hf.small
  have hr := hf.lr
  have key := Ev_up (fun k i => impl_cost.l2 k x s (accW (wrap64 (-rows[k0].f1)) (fun i => wrap64 (rd rows[k0].f0 (i : Int) * rd x (i : Int))) i) rows (rows.length : Int) (k0 : Int) rows[k0].f0 (rows[k0].f0.length : Int) (i : Int) rows[k0].f0 rows[k0].f1 rows[k0].f2) (fun _ => v) n (by
      refine Ev.step (fun k => ?_) hnext
      simp only [impl_cost.l2]
      rw [if_neg (by omega), w64 (n := (k0 : Int) + 1) (by omega) (by omega)]
      rfl) (by
      intro i hi ih
      refine Ev.step (fun k => ?_) ih
      simp only [impl_cost.l2]
      rw [if_pos (by omega), if_pos (by omega), if_pos (by omega), if_pos (by omega), w64 (n := (i : Int) + 1) (by omega) (by omega)]
      rfl) 0 (Nat.zero_le _)
  exact key

theorem implCost_ev (n : Nat) (x g t : List Int) (rows : List S52) (hf : Fits n x g t rows) (m : Int) : Ev (fun k => impl_cost.f k m g t rows x) (costW x g t rows n) := by
  have hx := hf.lx
  have hg := hf.lg
  have ht := hf.lt
  have hn := hf.small
  have hr := hf.lr
  unfold impl_cost.f
  have h1 : Ev (fun k => impl_cost.l1 k x (startW x g t n) rows (rows.length : Int) 0) (costW x g t rows n) := by
    have key := Ev_up (fun k i => impl_cost.l1 k x (accW (startW x g t n) (fun k => wrap64 (wrap64 ((rd_T52 rows (k : Int)).f2 * missW x n (rd_T52 rows (k : Int))) * missW x n (rd_T52 rows (k : Int)))) i) rows (rows.length : Int) (i : Int)) (fun _ => costW x g t rows n) rows.length (by
        refine Ev.step (f := fun _ => some (costW x g t rows n)) (fun k => ?_) (Ev.now _)
        simp only [impl_cost.l1]
        rw [if_neg (by omega)]
        rfl) (by
        intro i hi ih
        refine Ev.step (fun k => ?_) (implMiss_ev n x g t rows hf _ i hi _ (by
          simp only [accW, rdT52 rows i hi] at ih
          exact ih))
        simp only [impl_cost.l1]
        rw [if_pos (by omega), if_pos (by omega), if_pos (by omega), rdT52 rows i hi]) 0 (Nat.zero_le _)
    exact key
  have key := Ev_up (fun k i => impl_cost.l0 k x (startW x g t i) g (g.length : Int) (i : Int) m g t rows) (fun _ => costW x g t rows n) n (by
      refine Ev.step (fun k => ?_) h1
      simp only [impl_cost.l0]
      rw [if_neg (by omega)]) (by
      intro i hi ih
      refine Ev.step (fun k => ?_) ih
      simp only [impl_cost.l0]
      rw [if_pos (by omega), if_pos (by omega), if_pos (by omega), if_pos (by omega), if_pos (by omega), w64 (n := (i : Int) + 1) (by omega) (by omega)]
      rfl) 0 (Nat.zero_le _)
  exact key

theorem fits_of (n : Int) (g t : List Int) (rows : List S52) (x : List Int) (a b : Int) (h : okB n g t rows = true) (hx : eachB x n a b = true) : Fits n.toNat x g t rows ∧ (n.toNat : Int) = n := by
  simp only [okB, eachB, rowB, inB, Bool.and_eq_true, decide_eq_true_eq, List.all_eq_true] at h hx
  obtain ⟨⟨h1, h2⟩, ⟨h3, _⟩, ⟨h4, _⟩, h5, h6⟩ := h
  obtain ⟨h7, _⟩ := hx
  exact ⟨⟨by omega, by omega, by omega, by omega, by omega, fun r hr => by have := (h6 r hr).1.1; omega⟩, by omega⟩

def CostB (n : Int) (g t : List Int) (rows : List S52) (x : List Int) : Int := if (okB n g t rows && eachB x n (-200000) 200000) = true then costW x g t rows n.toNat else -1

theorem specCostTop_ev (n : Int) (g t : List Int) (rows : List S52) (x : List Int) (hs : Small g t rows) (hx : x.length ≤ 1048576) : Ev (fun k => spec_Cost.f k n g t rows x) (CostB n g t rows x) := by
  unfold spec_Cost.f CostB
  refine Ev_bind _ (specOk_ev n g t rows hs) ?_
  cases h1 : okB n g t rows
  · simpa using Ev.now (-1)
  simp only [if_true, Bool.true_and]
  refine Ev_bind _ (specAll_ev x hx n (-200000) 200000) ?_
  cases h2 : eachB x n (-200000) 200000
  · simpa using Ev.now (-1)
  simp only [if_true]
  obtain ⟨hf, hn⟩ := fits_of n g t rows x _ _ h1 h2
  have := specCost_ev n.toNat x g t rows hf
  rw [hn] at this
  exact Ev_bind _ this (Ev.now _)

theorem implCostTop_ev (n : Int) (g t : List Int) (rows : List S52) (x : List Int) (hs : Small g t rows) (hx : x.length ≤ 1048576) : Ev (fun k => impl_Cost.f k n g t rows x) (CostB n g t rows x) := by
  unfold impl_Cost.f CostB
  refine Ev_bind _ (implOk_ev n g t rows hs) ?_
  cases h1 : okB n g t rows
  · simpa using Ev.now (-1)
  simp only [if_true, Bool.true_and, impl_point.f]
  refine Ev_bind (eachB x n (-200000) 200000) (Ev_bind _ (implEach_ev x hx n (-200000) 200000) (Ev.now _)) ?_
  cases h2 : eachB x n (-200000) 200000
  · simpa using Ev.now (-1)
  simp only [if_true]
  obtain ⟨hf, hn⟩ := fits_of n g t rows x _ _ h1 h2
  exact Ev_bind _ (implCost_ev n.toNat x g t rows hf n) (Ev.now _)
end Go.Proofs.Ytcjhbmjimjbphaa.QFnDescends
