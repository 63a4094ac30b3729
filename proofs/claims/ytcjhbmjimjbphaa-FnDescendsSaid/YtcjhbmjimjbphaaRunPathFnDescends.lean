/- The moves of a descent as a way: each lowers the cost; when fewer are told than may be, no unknown has a better place; with the rows in the other order they are the same. Conditions: the problem is right. -/
import Derived.Test.YtcjhbmjimjbphaaDescLib4FnDescends
set_option linter.unusedVariables false
set_option linter.unusedSimpArgs false
namespace Go.Proofs.Ytcjhbmjimjbphaa.QFnDescends
open Go.RowKit Go.Proofs.YtcjhbmjimjbphaaW.PrintWords Go.Proofs.Ytcjhbmjimjbphaa.Opn Go.Proofs.Ytcjhbmjimjbphaa.Pl

def Path (n : Nat) (g t : List Int) (rows : List S52) : List Int → List S50 → Prop
  | _, [] => True
  | x, m :: ms => ∃ (i : Nat) (u : Int), i < n ∧ m = (⟨(i : Int), u, costZ (x.set i (rd x (i : Int) + u)) g t rows n⟩ : S50) ∧
      costZ (x.set i (rd x (i : Int) + u)) g t rows n < costZ x g t rows n ∧ OnWay n (x.set i (rd x (i : Int) + u)) g t rows ∧ Path n g t rows (x.set i (rd x (i : Int) + u)) ms
def endP : List Int → List S50 → List Int
  | x, [] => x
  | x, m :: ms => endP (x.set m.f0.toNat (rd x m.f0 + m.f1)) ms

theorem run_path {n most : Nat} {g t : List Int} {rows : List S52} (hr : Right n g t rows) {x : List Int} {out : List S50} {on : Bool} {i : Nat} {r : List S50} (h : Run n most g t rows x out on i r) :
    OnWay n x g t rows → (on = false → ∀ j : Nat, j < i → Best (aZ t rows j) (bZ x g t rows n j) 0) →
    ∃ ms, r = out ++ ms ∧ Path n g t rows x ms ∧ OnWay n (endP x ms) g t rows ∧ (r.length < most → ∀ j : Nat, j < n → Best (aZ t rows j) (bZ (endP x ms) g t rows n j) 0) := by
  induction h with
  | done x out => intro ho hb; exact ⟨[], by simp, trivial, ho, fun _ => hb rfl⟩
  | again x out r _ ih => intro ho _; exact ih ho (fun _ j hj => absurd hj (by omega))
  | full x out on i hi hl => intro ho _; exact ⟨[], by simp, trivial, ho, fun h => by omega⟩
  | skip x out r on i hi hl hb _ ih =>
    intro ho h0
    exact ih ho (fun hon j hj => by
      by_cases e : j = i
      · subst e; exact hb
      · exact h0 hon j (by omega))
  | move x out r on i u hi hl hu hb _ ih =>
    intro ho _
    obtain ⟨ho', hlt⟩ := onway_move hr ho i hi hb hu
    obtain ⟨ms, e, hp, hoe, hend⟩ := ih ho' (fun hf => by cases hf)
    refine ⟨(⟨(i : Int), u, costZ (x.set i (rd x (i : Int) + u)) g t rows n⟩ : S50) :: ms, by rw [e]; simp, ⟨i, u, hi, rfl, hlt, ho', hp⟩, ?_, ?_⟩
    · simpa [endP] using hoe
    · simpa [endP] using hend

theorem sumZ_list (f : S52 → Int) : ∀ rows : List S52, sumZ (fun k => f (rd_T52 rows (k : Int))) rows.length = (rows.map f).sum := by
  intro rows
  have key : ∀ m, m ≤ rows.length → sumZ (fun k => f (rd_T52 rows (k : Int))) m = ((rows.take m).map f).sum := by
    intro m
    induction m with
    | zero => intro _; rfl
    | succ m ih =>
      intro hm
      have e : rows.take (m + 1) = rows.take m ++ [rows[m]] := List.take_succ_eq_append_getElem (by omega)
      show sumZ _ m + f (rd_T52 rows (m : Int)) = _
      rw [ih (by omega), e, rdT52 rows m (by omega), List.map_append, List.sum_append]
      simp
  have := key rows.length (Nat.le_refl _)
  rw [List.take_length] at this
  exact this
theorem sumZ_rev (f : S52 → Int) (rows : List S52) : sumZ (fun k => f (rd_T52 rows.reverse (k : Int))) rows.reverse.length = sumZ (fun k => f (rd_T52 rows (k : Int))) rows.length := by
  rw [sumZ_list, sumZ_list, List.map_reverse, List.sum_reverse]
theorem aZ_rev (t : List Int) (rows : List S52) (i : Nat) : aZ t rows.reverse i = aZ t rows i := by
  unfold aZ
  rw [sumZ_rev (fun q => q.f2 * rd q.f0 (i : Int) * rd q.f0 (i : Int)) rows]
theorem bZ_rev (x g t : List Int) (rows : List S52) (n i : Nat) : bZ x g t rows.reverse n i = bZ x g t rows n i := by
  unfold bZ
  rw [sumZ_rev (fun q => q.f2 * missZ x n q * rd q.f0 (i : Int)) rows]
theorem costZ_rev (x g t : List Int) (rows : List S52) (n : Nat) : costZ x g t rows.reverse n = costZ x g t rows n := by
  unfold costZ rowsZ
  rw [sumZ_rev (fun q => q.f2 * missZ x n q * missZ x n q) rows]
theorem run_rev {n most : Nat} {g t : List Int} {rows : List S52} {x : List Int} {out : List S50} {on : Bool} {i : Nat} {r : List S50} (h : Run n most g t rows x out on i r) : Run n most g t rows.reverse x out on i r := by
  induction h with
  | done x out => exact .done x out
  | again x out r _ ih => exact .again x out r ih
  | full x out on i hi hl => exact .full x out on i hi hl
  | skip x out r on i hi hl hb _ ih => exact .skip x out r on i hi hl (by rw [aZ_rev, bZ_rev]; exact hb) ih
  | move x out r on i u hi hl hu hb _ ih =>
    refine .move x out r on i u hi hl hu (by rw [aZ_rev, bZ_rev]; exact hb) ?_
    rw [costZ_rev]
    exact ih
theorem okB_rev (n : Int) (g t : List Int) (rows : List S52) : okB n g t rows.reverse = okB n g t rows := by
  unfold okB
  rw [List.length_reverse, List.all_reverse]

theorem best_one {a b : Int} (h : Best a b 0) : 0 ≤ a * 1 * 1 + 2 * b * 1 ∧ 0 ≤ a * -1 * -1 + 2 * b * -1 := by
  have := h.1 rfl
  have e1 : a * 1 * 1 + 2 * b * 1 = a + 2 * b := by grind
  have e2 : a * -1 * -1 + 2 * b * -1 = a - 2 * b := by grind
  omega
end Go.Proofs.Ytcjhbmjimjbphaa.QFnDescends
