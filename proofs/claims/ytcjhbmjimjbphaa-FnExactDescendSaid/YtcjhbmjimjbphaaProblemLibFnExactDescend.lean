/- How the law's own helpers treat a problem's arguments: sizes, copies, comparisons. Plain functions on lists; a size that is not negative bounds all lengths. -/
import Derived.Test.YtcjhbmjimjbphaaLib
import Derived.Test.YtcjhbmjimjbphaaStatFnExactDescend
set_option linter.unusedVariables false
set_option linter.unusedSimpArgs false
namespace Go.Proofs.Ytcjhbmjimjbphaa.QFnExactDescend
open Go.RowKit Go.Proofs.YtcjhbmjimjbphaaW.PrintWords Go.Proofs.Ytcjhbmjimjbphaa.Opn Go.Proofs.Ytcjhbmjimjbphaa.Pl

theorem szInt (l : List Int) (hl : l.length ≤ 9223372036854775807) (a : Int) (h0 : 0 ≤ a) (h1 : a ≤ 1048576) : ∃ r, laws_szInt64S.f l a = some r ∧ (r < 0 ∨ (0 ≤ r ∧ (l.length : Int) ≤ a ∧ r ≤ a)) := by
  unfold laws_szInt64S.f
  rw [w64 (n := a - (l.length : Int)) (by omega) (by omega)]
  by_cases h : a - (l.length : Int) < 0
  · rw [if_pos h]; exact ⟨-1, rfl, .inl (by omega)⟩
  · rw [if_neg h]; exact ⟨_, rfl, .inr ⟨by omega, by omega, by omega⟩⟩
theorem szRow1 (h : List Int) (hl : h.length ≤ 9223372036854775807) (y w a : Int) (h0 : 0 ≤ a) (h1 : a ≤ 1048576) : ∃ r, laws_szRow.f h y w a = some r ∧ (r < 0 ∨ (0 ≤ r ∧ (h.length : Int) ≤ a ∧ r ≤ a)) := by
  obtain ⟨r, hr, hc⟩ := szInt h hl a h0 h1
  unfold laws_szRow.f
  rw [hr]
  simp only [Option.bind_some]
  by_cases hn : r < 0
  · rw [if_pos hn]; exact ⟨-1, rfl, .inl (by omega)⟩
  · rw [if_neg hn]; exact ⟨r, rfl, hc⟩
theorem rdT72 (l : List S72) (i : Nat) (h : i < l.length) : rd_T72 l (i : Int) = l[i] := getD_lt l _ i h

theorem szRows (rows : List S72) (hw : WfL wfT72 rows) (a : Int) (h0 : 0 ≤ a) (h1 : a ≤ 1048576) :
    ∃ r, Ev (fun k => laws_szRowS.f k rows a) r ∧ (r < 0 ∨ (0 ≤ r ∧ (rows.length : Int) ≤ a ∧ r ≤ a ∧ ∀ x ∈ rows, (x.f0.length : Int) ≤ a)) := by
  unfold laws_szRowS.f
  have hl := hw.1
  rw [w64 (n := a - (rows.length : Int)) (by omega) (by omega)]
  by_cases h : a - (rows.length : Int) < 0
  · simp only [if_pos h]; exact ⟨-1, Ev.now _, .inl (by omega)⟩
  · simp only [if_neg h]
    have key : ∀ d i, i + d = rows.length → ∀ acc : Int, 0 ≤ acc → acc ≤ a → ∃ r, Ev (fun k => laws_szRowS.l0 k rows acc (i : Int)) r ∧ (r < 0 ∨ (0 ≤ r ∧ r ≤ acc ∧ ∀ x ∈ rows.drop i, (x.f0.length : Int) ≤ acc)) := by
      intro d
      induction d with
      | zero =>
        intro i hi acc ha hb
        refine ⟨acc, Ev.step (f := fun _ => some acc) (fun k => ?_) (Ev.now _), .inr ⟨ha, by omega, fun x hx => ?_⟩⟩
        · simp only [laws_szRowS.l0]
          rw [if_neg (by omega)]
        · rw [List.drop_of_length_le (by omega)] at hx
          cases hx
      | succ d ih =>
        intro i hi acc ha hb
        have hi' : i < rows.length := by omega
        have hwi := wfL_get hw i hi'
        obtain ⟨r, hr, hc⟩ := szRow1 rows[i].f0 hwi.1.1 rows[i].f1 rows[i].f2 acc ha (by omega)
        by_cases hn : r < 0
        · refine ⟨-1, Ev.step (f := fun _ => some (-1)) (fun k => ?_) (Ev.now _), .inl (by omega)⟩
          simp only [laws_szRowS.l0]
          rw [if_pos (by omega), if_pos (by omega), rdT72 rows i hi', hr]
          simp only [Option.bind_some]
          rw [if_pos hn]
        · rcases hc with hc | ⟨hc0, hc1, hc2⟩
          · omega
          obtain ⟨r', hr', hc'⟩ := ih (i + 1) (by omega) r hc0 (by omega)
          refine ⟨r', Ev.step (fun k => ?_) hr', ?_⟩
          · simp only [laws_szRowS.l0]
            rw [if_pos (by omega), if_pos (by omega), rdT72 rows i hi', hr]
            simp only [Option.bind_some]
            rw [if_neg hn, w64 (n := (i : Int) + 1) (by omega) (by omega)]
            rfl
          · rcases hc' with hc' | ⟨g0, g1, g2⟩
            · exact .inl hc'
            · refine .inr ⟨g0, by omega, fun x hx => ?_⟩
              rw [List.drop_eq_getElem_cons hi'] at hx
              rcases List.mem_cons.1 hx with rfl | hx
              · exact hc1
              · have := g2 x hx
                omega
    obtain ⟨r, hr, hc⟩ := key rows.length 0 (by omega) (a - (rows.length : Int)) (by omega) (by omega)
    refine ⟨r, hr, ?_⟩
    rcases hc with hc | ⟨g0, g1, g2⟩
    · exact .inl hc
    · refine .inr ⟨g0, by omega, by omega, fun x hx => ?_⟩
      have := g2 x (by simpa using hx)
      omega

theorem szProblem_ev (n : Int) (g t : List Int) (rows : List S72) (hg : WfL (WfI .i64) g) (ht : WfL (WfI .i64) t) (hw : WfL wfT72 rows) :
    ∃ r, Ev (fun k => laws_szProblem.f k n g t rows 1048576) r ∧ (r < 0 ∨ (0 ≤ r ∧ g.length ≤ 1048576 ∧ t.length ≤ 1048576 ∧ rows.length ≤ 1048576 ∧ ∀ x ∈ rows, x.f0.length ≤ 1048576)) := by
  unfold laws_szProblem.f
  obtain ⟨r1, e1, c1⟩ := szInt g hg.1 1048576 (by omega) (by omega)
  simp only [e1, Option.bind_some]
  by_cases h1 : r1 < 0
  · simp only [if_pos h1]; exact ⟨-1, Ev.now _, .inl (by omega)⟩
  simp only [if_neg h1]
  rcases c1 with c1 | ⟨c10, c11, c12⟩
  · omega
  obtain ⟨r2, e2, c2⟩ := szInt t ht.1 r1 (by omega) (by omega)
  simp only [e2, Option.bind_some]
  by_cases h2 : r2 < 0
  · simp only [if_pos h2]; exact ⟨-1, Ev.now _, .inl (by omega)⟩
  simp only [if_neg h2]
  rcases c2 with c2 | ⟨c20, c21, c22⟩
  · omega
  obtain ⟨r3, e3, c3⟩ := szRows rows hw r2 (by omega) (by omega)
  by_cases h3 : r3 < 0
  · refine ⟨-1, Ev_bind r3 e3 ?_, .inl (by omega)⟩
    simp only [if_pos h3]
    exact Ev.now _
  · rcases c3 with c3 | ⟨c30, c31, c32, c33⟩
    · omega
    refine ⟨r3, Ev_bind r3 e3 ?_, .inr ⟨c30, by omega, by omega, by omega, fun x hx => by have := c33 x hx; omega⟩⟩
    simp only [if_neg h3]
    exact Ev.now _

theorem toInts_ev (l : List Int) (hl : l.length ≤ 1048576) : Ev (fun k => laws_toInt64S.f k l) l := by
  unfold laws_toInt64S.f
  simp only [if_pos (show 0 ≤ (l.length : Int) by omega), Int.toNat_natCast, if_pos (show l.length ≤ 35184372088832 by omega)]
  have key := Ev_up (fun k i => laws_toInt64S.l0 k l (l.take i ++ (List.replicate l.length (0 : Int)).drop i) (i : Int)) (fun _ => l) l.length (by
      refine Ev.step (f := fun _ => some l) (fun k => ?_) (Ev.now _)
      simp only [laws_toInt64S.l0]
      rw [if_neg (by omega)]
      simp) (by
      intro i hi ih
      refine Ev.step (fun k => ?_) ih
      simp only [laws_toInt64S.l0]
      rw [if_pos (by omega), if_pos (by omega), if_pos (by simp; omega), rd_lt l i hi, w64 (n := (i : Int) + 1) (by omega) (by omega), Int.toNat_natCast, set_take_drop _ l i hi (by simp)]
      rfl) 0 (Nat.zero_le _)
  simpa using key

def toI (x : S72) : S52 := ⟨x.f0, x.f1, x.f2⟩
theorem toRows_ev (rows : List S72) (hl : rows.length ≤ 1048576) (hh : ∀ x ∈ rows, x.f0.length ≤ 1048576) : Ev (fun k => laws_toRowS.f k rows) (rows.map toI) := by
  unfold laws_toRowS.f
  simp only [if_pos (show 0 ≤ (rows.length : Int) by omega), Int.toNat_natCast, if_pos (show rows.length ≤ 7036874417766 by omega)]
  have key := Ev_up (fun k i => laws_toRowS.l0 k rows ((rows.map toI).take i ++ (List.replicate rows.length z52).drop i) (i : Int)) (fun _ => rows.map toI) rows.length (by
      refine Ev.step (f := fun _ => some (rows.map toI)) (fun k => ?_) (Ev.now _)
      simp only [laws_toRowS.l0]
      rw [if_neg (by omega), List.take_of_length_le (by simp), List.drop_of_length_le (by simp), List.append_nil]) (by
      intro i hi ih
      have hx := hh _ (List.getElem_mem hi)
      have hm : (rows.map toI)[i]'(by simpa using hi) = toI rows[i] := by simp
      refine Ev.step (f := fun k => (laws_toRow.f k rows[i].f0 rows[i].f1 rows[i].f2).bind fun bt => laws_toRowS.l0 k rows (((rows.map toI).take i ++ (List.replicate rows.length z52).drop i).set i (⟨bt.1, bt.2.1, bt.2.2⟩ : S52)) ((i + 1 : Nat) : Int)) (fun k => ?_) ?_
      · simp only [laws_toRowS.l0]
        have hlen : ((List.map toI rows).take i ++ (List.replicate rows.length z52).drop i).length = rows.length := by simp; omega
        rw [if_pos (by omega), if_pos (by omega), rdT72 rows i hi]
        simp only [hlen, if_pos (show (i : Int) < (rows.length : Int) by omega), w64 (n := (i : Int) + 1) (by omega) (by omega), Int.toNat_natCast]
        rfl
      · unfold laws_toRow.f
        refine Ev_bind (rows[i].f0, rows[i].f1, rows[i].f2) (Ev_bind _ (toInts_ev rows[i].f0 hx) (Ev.now _)) ?_
        have e := set_take_drop (List.replicate rows.length z52) (rows.map toI) i (by simpa using hi) (by simp)
        rw [hm] at e
        have e' : (((rows.map toI).take i ++ (List.replicate rows.length z52).drop i).set i (⟨rows[i].f0, rows[i].f1, rows[i].f2⟩ : S52)) = (rows.map toI).take (i + 1) ++ (List.replicate rows.length z52).drop (i + 1) := e
        simp only [e']
        exact ih) 0 (Nat.zero_le _)
  simpa using key

theorem toProblem_ev (n : Int) (g t : List Int) (rows : List S72) (hg : g.length ≤ 1048576) (ht : t.length ≤ 1048576) (hl : rows.length ≤ 1048576) (hh : ∀ x ∈ rows, x.f0.length ≤ 1048576) :
    Ev (fun k => laws_toProblem.f k n g t rows) (n, g, t, rows.map toI) := by
  unfold laws_toProblem.f
  exact Ev_bind _ (toInts_ev g hg) (Ev_bind _ (toInts_ev t ht) (Ev_bind _ (toRows_ev rows hl hh) (Ev.now _)))

theorem eqInts_ev (l : List Int) (hl : l.length ≤ 1048576) : Ev (fun k => laws_eqInt64S.f k l l) true := by
  unfold laws_eqInt64S.f
  simp only [if_true]
  have key := Ev_up (fun k i => laws_eqInt64S.l0 k l l (i : Int)) (fun _ => true) l.length (by
      refine Ev.step (f := fun _ => some true) (fun k => ?_) (Ev.now _)
      simp only [laws_eqInt64S.l0]
      rw [if_neg (by omega)]) (by
      intro i hi ih
      refine Ev.step (fun k => ?_) ih
      simp only [laws_eqInt64S.l0]
      rw [if_pos (by omega), if_pos (by omega), if_pos (by omega), if_pos True.intro, w64 (n := (i : Int) + 1) (by omega) (by omega)]
      rfl) 0 (Nat.zero_le _)
  exact key

theorem eqRows_ev (rows : List S52) (hl : rows.length ≤ 1048576) (hh : ∀ x ∈ rows, x.f0.length ≤ 1048576) : Ev (fun k => laws_eqRowS.f k rows rows) true := by
  unfold laws_eqRowS.f
  simp only [if_true]
  have key := Ev_up (fun k i => laws_eqRowS.l0 k rows rows (i : Int)) (fun _ => true) rows.length (by
      refine Ev.step (f := fun _ => some true) (fun k => ?_) (Ev.now _)
      simp only [laws_eqRowS.l0]
      rw [if_neg (by omega)]) (by
      intro i hi ih
      refine Ev.step (f := fun k => (laws_eqRow.f k rows[i].f0 rows[i].f1 rows[i].f2 rows[i].f0 rows[i].f1 rows[i].f2).bind fun t => if t = true then laws_eqRowS.l0 k rows rows ((i + 1 : Nat) : Int) else some false) (fun k => ?_) ?_
      · simp only [laws_eqRowS.l0]
        have e : rd_T52 rows (i : Int) = rows[i] := getD_lt rows _ i hi
        rw [if_pos (by omega), if_pos (by omega), if_pos (by omega), e, w64 (n := (i : Int) + 1) (by omega) (by omega)]
        rfl
      · refine Ev_bind true ?_ (by simpa using ih)
        unfold laws_eqRow.f
        refine Ev_bind true (eqInts_ev _ (hh _ (List.getElem_mem hi))) ?_
        simpa using Ev.now true) 0 (Nat.zero_le _)
  exact key

theorem eqProblem_ev (n : Int) (g t : List Int) (rows : List S52) (hg : g.length ≤ 1048576) (ht : t.length ≤ 1048576) (hl : rows.length ≤ 1048576) (hh : ∀ x ∈ rows, x.f0.length ≤ 1048576) :
    Ev (fun k => laws_eqProblem.f k n g t rows n g t rows) true := by
  unfold laws_eqProblem.f
  simp only [if_true]
  refine Ev_bind true (eqInts_ev g hg) ?_
  simp only [if_true]
  refine Ev_bind true (eqInts_ev t ht) ?_
  simp only [if_true]
  refine Ev_bind true (eqRows_ev rows hl hh) ?_
  simpa using Ev.now true
theorem toI_small (rows : List S72) (hh : ∀ x ∈ rows, x.f0.length ≤ 1048576) : ∀ x ∈ rows.map toI, x.f0.length ≤ 1048576 := by
  intro x hx
  obtain ⟨y, hy, rfl⟩ := List.mem_map.1 hx
  exact hh y hy
end Go.Proofs.Ytcjhbmjimjbphaa.QFnExactDescend
