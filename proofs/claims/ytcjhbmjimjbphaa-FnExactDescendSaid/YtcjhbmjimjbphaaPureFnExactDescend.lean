/- FnExactDescend, plainly: both ways tell the same moves; copies, marks and comparisons answer as they should. No condition. -/
import Derived.Test.YtcjhbmjimjbphaaDescLib4FnExactDescend
import Derived.Test.YtcjhbmjimjbphaaProblemLibFnExactDescend
import Derived.Test.YtcjhbmjimjbphaaMarksPFnExactDescend
import Derived.Test.YtcjhbmjimjbphaaStatFnExactDescend
set_option linter.unusedVariables false
set_option linter.unusedSimpArgs false
namespace Go.Proofs.Ytcjhbmjimjbphaa.QFnExactDescend
open Go.RowKit Go.Proofs.YtcjhbmjimjbphaaW.PrintWords Go.Proofs.Ytcjhbmjimjbphaa.Opn Go.Proofs.Ytcjhbmjimjbphaa.Pl

theorem rdT50 (l : List S50) (i : Nat) (h : i < l.length) : rd_T50 l (i : Int) = l[i] := getD_lt l _ i h
theorem eqMoves_ev (l : List S50) (hl : l.length ≤ 1048576) : Ev (fun k => laws_eqMoveS.f k l l) true := by
  unfold laws_eqMoveS.f
  simp only [if_true]
  exact Ev_up (fun k i => laws_eqMoveS.l0 k l l (i : Int)) (fun _ => true) l.length (by
      refine Ev.step (f := fun _ => some true) (fun k => ?_) (Ev.now _)
      simp only [laws_eqMoveS.l0]
      rw [if_neg (by omega)]) (by
      intro i hi ih
      refine Ev.step (fun k => ?_) ih
      simp only [laws_eqMoveS.l0, laws_eqMove.f, if_true, Option.bind_some]
      rw [if_pos (by omega), if_pos (by omega), if_pos (by omega), w64 (n := (i : Int) + 1) (by omega) (by omega)]
      rfl) 0 (Nat.zero_le _)
theorem rdM_set (l : List S50) (i q : Nat) (v : S50) (hq : q < l.length) : rd_T50 (l.set i v) (q : Int) = if i = q then v else rd_T50 l (q : Int) := by
  rw [rdT50 _ q (by simpa using hq), rdT50 l q hq, List.getElem_set]
def moveOk (t : S50) (b : Int) : Prop := t.f0 = b ∧ t.f1 = b + 1 ∧ t.f2 = b + 2
theorem markMs_ev (n : Nat) (a : Int) (ha : 0 ≤ a) (hb : a + 3 * n ≤ 9223372036854775800) : ∀ (d i : Nat) (x : List S50), i + d = n → x.length = n → (∀ q : Nat, q < i → moveOk (rd_T50 x (q : Int)) (a + 3 * q)) →
    ∃ y, Ev (fun k => laws_markMoveS.l0 k x (a + 3 * (i : Int)) (i : Int)) (a + 3 * (n : Int), y) ∧ y.length = n ∧ ∀ q : Nat, q < n → moveOk (rd_T50 y (q : Int)) (a + 3 * q) := by
  intro d
  induction d with
  | zero =>
    intro i x hi hx hq
    obtain rfl : i = n := by omega
    refine ⟨x, Ev.step (f := fun _ => some (a + 3 * (i : Int), x)) (fun k => ?_) (Ev.now _), hx, hq⟩
    simp only [laws_markMoveS.l0]
    rw [if_neg (by omega)]
  | succ d ih =>
    intro i x hi hx hq
    have e1 : rd_T50 (x.set i ⟨a + 3 * i, (rd_T50 x (i : Int)).f1, (rd_T50 x (i : Int)).f2⟩) (i : Int) = ⟨a + 3 * i, (rd_T50 x (i : Int)).f1, (rd_T50 x (i : Int)).f2⟩ := by rw [rdM_set x i i _ (by omega), if_pos rfl]
    have e2 : rd_T50 ((x.set i ⟨a + 3 * i, (rd_T50 x (i : Int)).f1, (rd_T50 x (i : Int)).f2⟩).set i ⟨a + 3 * i, a + 3 * i + 1, (rd_T50 x (i : Int)).f2⟩) (i : Int) = ⟨a + 3 * i, a + 3 * i + 1, (rd_T50 x (i : Int)).f2⟩ := by rw [rdM_set _ i i _ (by simp; omega), if_pos rfl]
    obtain ⟨y, hy, h1, h2⟩ := ih (i + 1) (((x.set i ⟨a + 3 * i, (rd_T50 x (i : Int)).f1, (rd_T50 x (i : Int)).f2⟩).set i ⟨a + 3 * i, a + 3 * i + 1, (rd_T50 x (i : Int)).f2⟩).set i ⟨a + 3 * i, a + 3 * i + 1, a + 3 * i + 1 + 1⟩) (by omega) (by simpa using hx) (fun q hq' => by
      rw [rdM_set _ i q _ (by simp; omega)]
      by_cases e : i = q
      · rw [if_pos e, ← e]; exact ⟨rfl, rfl, by show a + 3 * (i : Int) + 1 + 1 = a + 3 * (i : Int) + 2; omega⟩
      · rw [if_neg e, rdM_set _ i q _ (by simp; omega), if_neg e, rdM_set x i q _ (by omega), if_neg e]; exact hq q (by omega))
    refine ⟨y, Ev.step (fun k => ?_) hy, h1, h2⟩
    simp only [laws_markMoveS.l0, Option.bind_some, Int.toNat_natCast]
    rw [if_pos (by omega), if_pos (by omega), w64 (n := a + 3 * (i : Int) + 1) (by omega) (by omega), w64 (n := a + 3 * (i : Int) + 1 + 1) (by omega) (by omega), w64 (n := a + 3 * (i : Int) + 1 + 1 + 1) (by omega) (by omega), w64 (n := (i : Int) + 1) (by omega) (by omega)]
    simp only [e1, e2]
    rw [show a + 3 * (i : Int) + 1 + 1 + 1 = a + 3 * ((i + 1 : Nat) : Int) by omega]
    rfl
theorem heldMs_ev (y : List S50) (a : Int) (ha : 0 ≤ a) (hb : a + 3 * y.length ≤ 9223372036854775800) (h : ∀ q : Nat, q < y.length → moveOk (rd_T50 y (q : Int)) (a + 3 * q)) : Ev (fun k => laws_heldMoveS.f k y a) (a + 3 * (y.length : Int)) := by
  unfold laws_heldMoveS.f
  have key := Ev_up (fun k i => laws_heldMoveS.l0 k y (a + 3 * (i : Int)) (i : Int)) (fun _ => a + 3 * (y.length : Int)) y.length (by
      refine Ev.step (f := fun _ => some (a + 3 * (y.length : Int))) (fun k => ?_) (Ev.now _)
      simp only [laws_heldMoveS.l0]
      rw [if_neg (by omega)]) (by
      intro i hi ih
      obtain ⟨g0, g1, g2⟩ := h i hi
      refine Ev.step (fun k => ?_) ih
      simp only [laws_heldMoveS.l0]
      rw [if_pos (by omega), if_pos (by omega), if_pos g0, w64 (n := a + 3 * (i : Int) + 1) (by omega) (by omega), if_pos g1, w64 (n := a + 3 * (i : Int) + 1 + 1) (by omega) (by omega), if_pos (by omega), w64 (n := a + 3 * (i : Int) + 1 + 1 + 1) (by omega) (by omega), w64 (n := (i : Int) + 1) (by omega) (by omega), show a + 3 * (i : Int) + 1 + 1 + 1 = a + 3 * ((i + 1 : Nat) : Int) by omega]
      rfl) 0 (Nat.zero_le _)
  simpa using key
theorem markI_ev (n : Nat) (a : Int) (ha : 0 ≤ a) (hb : a + n ≤ 9223372036854775806) : ∀ (d i : Nat) (x : List Int), i + d = n → x.length = n →
    ∃ y, Ev (fun k => laws_markInt64S.l0 k x (a + (i : Int)) (i : Int)) (a + (n : Int), y) ∧ y.length = n := by
  intro d
  induction d with
  | zero =>
    intro i x hi hx
    obtain rfl : i = n := by omega
    refine ⟨x, Ev.step (f := fun _ => some (a + (i : Int), x)) (fun k => ?_) (Ev.now _), hx⟩
    simp only [laws_markInt64S.l0]
    rw [if_neg (by omega)]
  | succ d ih =>
    intro i x hi hx
    obtain ⟨y, hy, h1⟩ := ih (i + 1) (x.set i (a + i)) (by omega) (by simpa using hx)
    refine ⟨y, Ev.step (fun k => ?_) hy, h1⟩
    simp only [laws_markInt64S.l0]
    rw [if_pos (by omega), if_pos (by omega), w64 (n := a + (i : Int) + 1) (by omega) (by omega), w64 (n := (i : Int) + 1) (by omega) (by omega), Int.toNat_natCast, show a + (i : Int) + 1 = a + ((i + 1 : Nat) : Int) by omega]
    rfl
theorem markInt_ev (l : List Int) (a : Int) (ha : 0 ≤ a) (hb : a + l.length ≤ 9223372036854775806) : ∃ y, Ev (fun k => laws_markInt64S.f k l a) (a + (l.length : Int), y) ∧ y.length = l.length := by
  obtain ⟨y, h0, h1⟩ := markI_ev l.length a ha hb l.length 0 l (by omega) rfl
  refine ⟨y, ?_, h1⟩
  show Ev (fun k => laws_markInt64S.l0 k l a 0) _
  simpa using h0
theorem rdR_set (l : List S52) (i q : Nat) (v : S52) (hq : q < l.length) : rd_T52 (l.set i v) (q : Int) = if i = q then v else rd_T52 l (q : Int) := by
  rw [rdT52 _ q (by simpa using hq), rdT52 l q hq, List.getElem_set]
theorem markRs_ev (L : Nat) (hL : L ≤ 1048576) : ∀ (d i : Nat) (x : List S52) (a : Int), i + d = L → x.length = L → (∀ q : Nat, q < L → (rd_T52 x (q : Int)).f0.length ≤ 1048576) → 0 ≤ a → a ≤ 4000000000000000000 - (d : Int) * 1048578 →
    ∃ n y, Ev (fun k => laws_markRowS.l0 k x a (i : Int)) (n, y) ∧ a ≤ n ∧ n ≤ a + (d : Int) * 1048578 := by
  intro d
  induction d with
  | zero =>
    intro i x a hi hx hf h0 h1
    refine ⟨a, x, Ev.step (f := fun _ => some (a, x)) (fun k => ?_) (Ev.now _), by omega, by omega⟩
    simp only [laws_markRowS.l0]
    rw [if_neg (by omega)]
  | succ d ih =>
    intro i x a hi hx hf h0 h1
    have hfi := hf i (by omega)
    obtain ⟨y0, e0, l0⟩ := markInt_ev (rd_T52 x (i : Int)).f0 a h0 (by omega)
    obtain ⟨n, y, hy, b0, b1⟩ := ih (i + 1) (x.set i ⟨y0, a + (rd_T52 x (i : Int)).f0.length, a + (rd_T52 x (i : Int)).f0.length + 1⟩) (a + (rd_T52 x (i : Int)).f0.length + 1 + 1) (by omega) (by simpa using hx) (fun q hq => by
      rw [rdR_set x i q _ (by omega)]
      by_cases e : i = q
      · rw [if_pos e]; show y0.length ≤ 1048576; omega
      · rw [if_neg e]; exact hf q hq) (by omega) (by omega)
    refine ⟨n, y, Ev.step (f := fun k => (laws_markInt64S.f k (rd_T52 x (i : Int)).f0 a).bind fun b => laws_markRowS.l0 k (x.set i ⟨b.2, b.1, wrap64 (b.1 + 1)⟩) (wrap64 (wrap64 (b.1 + 1) + 1)) ((i + 1 : Nat) : Int)) (fun k => ?_) ?_, by omega, by omega⟩
    · simp only [laws_markRowS.l0]
      rw [if_pos (by omega), if_pos (by omega), w64 (n := (i : Int) + 1) (by omega) (by omega), Int.toNat_natCast]
      rfl
    · refine Ev_bind _ e0 ?_
      simp only [w64 (n := a + ((rd_T52 x (i : Int)).f0.length : Int) + 1) (by omega) (by omega), w64 (n := a + ((rd_T52 x (i : Int)).f0.length : Int) + 1 + 1) (by omega) (by omega)]
      exact hy
theorem markProblem_ev (n : Int) (g t : List Int) (rows : List S52) (hg : g.length ≤ 1048576) (ht : t.length ≤ 1048576) (hl : rows.length ≤ 1048576) (hh : ∀ x ∈ rows, x.f0.length ≤ 1048576) :
    ∃ m y1 y2 y3, Ev (fun k => laws_markProblem.f k n g t rows 1) (m, y1, y2, y3) ∧ 0 ≤ m ∧ m ≤ 2000000000000 := by
  obtain ⟨y1, e1, _⟩ := markInt_ev g 1 (by omega) (by omega)
  obtain ⟨y2, e2, _⟩ := markInt_ev t (1 + (g.length : Int)) (by omega) (by omega)
  have hm : (rows.length : Int) * 1048578 ≤ 1048576 * 1048578 := Int.mul_le_mul_of_nonneg_right (by omega) (by omega)
  obtain ⟨m, y3, e3, b0, b1⟩ := markRs_ev rows.length hl rows.length 0 rows (1 + (g.length : Int) + (t.length : Int)) (by omega) rfl (fun q hq => by rw [rdT52 rows q hq]; exact hh _ (List.getElem_mem hq)) (by omega) (by omega)
  refine ⟨m, y1, y2, y3, ?_, by omega, by omega⟩
  unfold laws_markProblem.f
  exact Ev_bind _ e1 (Ev_bind _ e2 (Ev_bind _ (show Ev (fun k => laws_markRowS.f k rows _) _ from e3) (Ev.now _)))

theorem Pure.FnExactDescend : FnExactDescend_Pure := by
  intro n g t rows x most _ w1 w2 w3 w4 _
  refine Ev.rounds (g := fun k => laws_FnExactDescend.f k n g t rows x most) ?_
  unfold laws_FnExactDescend.f
  by_cases cx : (x.length : Int) > 1048576
  · simp only [if_pos cx]; exact Ev.now _
  simp only [if_neg cx]
  obtain ⟨r, hr, hc⟩ := szProblem_ev n g t rows w1 w2 w3
  refine Ev_bind _ hr ?_
  by_cases c : r < 0
  · simp only [if_pos c]; exact Ev.now _
  simp only [if_neg c]
  obtain ⟨_, hg, ht, hl, hh⟩ := hc.resolve_left c
  have hx : x.length ≤ 1048576 := by omega
  have e0 := toProblem_ev n g t rows hg ht hl hh
  have ex := toInts_ev x hx
  have hl2 : (rows.map toI).length ≤ 1048576 := by simpa using hl
  have hh2 := toI_small rows hh
  obtain ⟨q, eS, eI, hq⟩ := descend_both n g t (rows.map toI) x most ⟨hg, ht, hl2, hh2⟩ hx
  obtain ⟨ms, ok⟩ := q
  simp only at hq
  have eq := eqMoves_ev ms (by omega)
  refine Ev_bind _ e0 (Ev_bind _ ex (Ev_bind _ eS (Ev_bind _ e0 (Ev_bind _ ex (Ev_bind _ eI (Ev_bind _ eq ?_))))))
  simp only [if_true, bne_self_eq_false]
  refine Ev.step (fun k => by simp only [laws_FnExactDescend.j0]; rw [if_neg (by simp)]) ?_
  refine Ev_bind _ e0 (Ev_bind _ (eqProblem_ev n g t (rows.map toI) hg ht hl2 hh2) ?_)
  simp only [if_true]
  refine Ev_bind _ ex (Ev_bind _ (eqInts_ev x hx) ?_)
  simp only [if_true]
  obtain ⟨m, y1, y2, y3, em, m0, m1⟩ := markProblem_ev n g t (rows.map toI) hg ht hl2 hh2
  obtain ⟨y4, e4, _⟩ := markInt_ev x m m0 (by omega)
  refine Ev_bind _ em (Ev_bind _ e4 ?_)
  simp only [if_neg (show ¬ m + (x.length : Int) < 0 by omega)]
  refine Ev_bind _ eq ?_
  simp only [if_true, bne_self_eq_false]
  refine Ev.step (fun k => by simp only [laws_FnExactDescend.j1]; rw [if_neg (by simp)]) ?_
  obtain ⟨y, ey, p0, p1⟩ := markMs_ev ms.length 1 (by omega) (by omega) ms.length 0 ms (by omega) rfl (fun q hq => by omega)
  have eh := heldMs_ev y 1 (by omega) (by omega) (fun q hq => p1 q (by omega))
  rw [p0] at eh
  refine Ev_bind _ (show Ev (fun k => laws_markMoveS.f k ms 1) _ by simpa [laws_markMoveS.f] using ey) (Ev_bind _ eh ?_)
  simp only [if_neg (show ¬ 1 + 3 * (ms.length : Int) < 0 by omega), if_true]
  refine Ev_bind _ e0 (Ev_bind _ ex (Ev_bind _ eI (Ev_bind _ eq ?_)))
  simp only [if_true, bne_self_eq_false]
  refine Ev.step (fun k => by simp only [laws_FnExactDescend.j2]; rw [if_neg (by simp)]) ?_
  refine Ev_bind _ eh ?_
  simp only [if_neg (show ¬ 1 + 3 * (ms.length : Int) < 0 by omega), if_true]
  exact Ev.now _
end Go.Proofs.Ytcjhbmjimjbphaa.QFnExactDescend
