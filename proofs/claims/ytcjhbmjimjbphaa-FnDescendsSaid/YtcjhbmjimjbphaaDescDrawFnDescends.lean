/- The drawn problem: it is told at last, and its lists are short. Conditions: the bytes are bytes, no more than a million. -/
import Derived.Test.YtcjhbmjimjbphaaRdFnDescends
import Derived.Test.YtcjhbmjimjbphaaDescLib4FnDescends
set_option linter.unusedVariables false
set_option linter.unusedSimpArgs false
namespace Go.Proofs.Ytcjhbmjimjbphaa.QFnDescends
open Go.RowKit Go.Proofs.YtcjhbmjimjbphaaW.PrintWords Go.Proofs.Ytcjhbmjimjbphaa.Opn Go.Proofs.Ytcjhbmjimjbphaa.Pl

/-- A drawn problem's lists. -/
structure Drawn (n : Int) (g t : List Int) (rows : List S52) : Prop where
  n1 : 1 ≤ n
  n4 : n ≤ 4
  lg : (g.length : Int) = n
  lt : (t.length : Int) = n
  r1 : 1 ≤ rows.length
  r8 : rows.length ≤ 8
  lh : ∀ q ∈ rows, ((S52.f0 q).length : Int) = n
def PD (b : List Int) (n : Int) (r : Int × List Int × List Int × List S52 × Int) : Prop := ∃ g t rows p', r = (n, g, t, rows, p') ∧ Drawn n g t rows ∧ RdOk b p'

theorem prob2 {b : List Int} (n : Int) (hn : 1 ≤ n) (hn4 : n ≤ 4) (x5 x6 : Int) (g t : List Int) (rows : List S52) (hr : rows.length ≤ 8) (y w : Int)
    (next : ∀ (h : List Int) (p' : Int), (h.length : Int) = n → RdOk b p' → ∃ r, Ev (fun k => spec_l1Rd_problem.l1 k x5 (wrap64 (x6 + 1)) b p' n g t (rows ++ [(⟨h, y, w⟩ : S52)])) r ∧ PD b n r) :
    ∀ (d i : Nat) (p : Int) (h : List Int), (i : Int) + d = n → h.length = i → RdOk b p → ∃ r, Ev (fun k => spec_l1Rd_problem.l2 k x5 x6 (i : Int) b p n g t rows h y w) r ∧ PD b n r := by
  intro d
  induction d with
  | zero =>
    intro i p h hi hl hb
    obtain ⟨r, e, hp⟩ := next h p (by omega) hb
    refine ⟨r, Ev.step (fun k => ?_) e, hp⟩
    simp only [spec_l1Rd_problem.l2]
    rw [if_neg (by omega), if_pos (by omega)]
  | succ d ih =>
    intro i p h hi hl hb
    obtain ⟨v, p', e, v0, v1, hb'⟩ := rdBelow hb 7 (by omega)
    obtain ⟨r, er, hp⟩ := ih (i + 1) p' (h ++ [wrap64 (v - 3)]) (by omega) (by simp [hl]) hb'
    refine ⟨r, Ev.step (fun k => ?_) er, hp⟩
    simp only [spec_l1Rd_problem.l2]
    rw [if_pos (by omega), e]
    simp only [Option.bind_some]
    rw [if_pos (by omega), w64 (n := (i : Int) + 1) (by omega) (by omega)]
    rfl
theorem prob1 {b : List Int} (n : Int) (hn : 1 ≤ n) (hn4 : n ≤ 4) (m : Nat) (hm1 : 1 ≤ m) (hm : m ≤ 8) (g t : List Int) (hg : (g.length : Int) = n) (ht : (t.length : Int) = n) :
    ∀ (d i : Nat) (p : Int) (rows : List S52), i + d = m → rows.length = i → (∀ q ∈ rows, ((S52.f0 q).length : Int) = n) → RdOk b p → ∃ r, Ev (fun k => spec_l1Rd_problem.l1 k (m : Int) (i : Int) b p n g t rows) r ∧ PD b n r := by
  intro d
  induction d with
  | zero =>
    intro i p rows hi hl hlh hb
    refine ⟨(n, g, t, rows, p), Ev.step (f := fun _ => some (n, g, t, rows, p)) (fun k => ?_) (Ev.now _), g, t, rows, p, rfl, ⟨hn, hn4, hg, ht, by omega, by omega, hlh⟩, hb⟩
    simp only [spec_l1Rd_problem.l1]
    rw [if_neg (by omega)]
  | succ d ih =>
    intro i p rows hi hl hlh hb
    obtain ⟨v, p1, e1, _, _, hb1⟩ := rdBelow hb 400 (by omega)
    obtain ⟨u, p2, e2, _, _, hb2⟩ := rdBelow hb1 5 (by omega)
    obtain ⟨r, er, hp⟩ := prob2 n hn hn4 (m : Int) (i : Int) g t rows (by omega) (wrap64 (v - 200)) (wrap64 (1 + u)) (fun h p' hh hb' => by
      rw [w64 (n := (i : Int) + 1) (by omega) (by omega)]
      exact ih (i + 1) p' (rows ++ [(⟨h, wrap64 (v - 200), wrap64 (1 + u)⟩ : S52)]) (by omega) (by simp [hl]) (fun q hq => by
        rcases List.mem_append.1 hq with h1 | h1
        · exact hlh q h1
        · rw [List.mem_singleton.1 h1]; exact hh) hb') n.toNat 0 p2 [] (by omega) rfl hb2
    refine ⟨r, Ev.step (fun k => ?_) er, hp⟩
    simp only [spec_l1Rd_problem.l1]
    rw [if_pos (by omega), e1]
    simp only [Option.bind_some]
    rw [e2]
    rfl
theorem prob0 {b : List Int} (n : Int) (hn : 1 ≤ n) (hn4 : n ≤ 4) : ∀ (d i : Nat) (p : Int) (g t : List Int), (i : Int) + d = n → g.length = i → t.length = i → RdOk b p → ∃ r, Ev (fun k => spec_l1Rd_problem.l0 k (i : Int) b p n g t) r ∧ PD b n r := by
  intro d
  induction d with
  | zero =>
    intro i p g t hi hg ht hb
    obtain ⟨v, p1, e1, v1, v8, hb1⟩ := rdSize hb 8 8 (by omega) (by omega) (by omega)
    obtain ⟨m, hm⟩ : ∃ m : Nat, v = (m : Int) := ⟨v.toNat, by omega⟩
    subst hm
    obtain ⟨r, er, hp⟩ := prob1 n hn hn4 m (by omega) (by omega) g t (by omega) (by omega) m 0 p1 [] (by omega) rfl (by simp) hb1
    refine ⟨r, Ev.step (fun k => ?_) er, hp⟩
    simp only [spec_l1Rd_problem.l0]
    rw [if_neg (by omega), e1]
    rfl
  | succ d ih =>
    intro i p g t hi hg ht hb
    obtain ⟨v, p1, e1, _, _, hb1⟩ := rdBelow hb 200 (by omega)
    obtain ⟨u, p2, e2, _, _, hb2⟩ := rdBelow hb1 4 (by omega)
    obtain ⟨r, er, hp⟩ := ih (i + 1) p2 (g ++ [wrap64 (v - 100)]) (t ++ [wrap64 (1 + u)]) (by omega) (by simp [hg]) (by simp [ht]) hb2
    refine ⟨r, Ev.step (fun k => ?_) er, hp⟩
    simp only [spec_l1Rd_problem.l0]
    rw [if_pos (by omega), e1]
    simp only [Option.bind_some]
    rw [if_pos (by omega), e2]
    simp only [Option.bind_some]
    rw [if_pos (by omega), w64 (n := (i : Int) + 1) (by omega) (by omega)]
    rfl
theorem problem_ev {b : List Int} {p : Int} (h : RdOk b p) : ∃ n r, Ev (fun k => spec_l1Rd_problem.f k b p) r ∧ PD b n r := by
  obtain ⟨v, p1, e1, v0, v1, hb1⟩ := rdBelow h 4 (by omega)
  obtain ⟨r, er, hp⟩ := prob0 (1 + v) (by omega) (by omega) (1 + v).toNat 0 p1 [] [] (by omega) rfl rfl hb1
  refine ⟨1 + v, r, ?_, hp⟩
  unfold spec_l1Rd_problem.f
  rw [e1]
  simp only [Option.bind_some]
  rw [w64 (n := 1 + v) (by omega) (by omega)]
  exact er

def QD (b : List Int) (r : Int × List Int × List Int × List S52 × List Int × Int) : Prop := ∃ n g t rows x p', r = (n, g, t, rows, x, p') ∧ Small g t rows ∧ x.length ≤ 1048576 ∧ RdOk b p'

theorem more_ev {b : List Int} {p : Int} (hb : RdOk b p) (n : Int) (g t x : List Int) (hg : g.length ≤ 1048576) (ht : t.length ≤ 1048576) (hx : x.length ≤ 1048576) (M : Int) (hM : M ≤ 30) :
    ∀ (d : Nat) (rows : List S52), (rows.length : Int) + d = M → 1 ≤ rows.length → (∀ q ∈ rows, (S52.f0 q).length ≤ 1048576) → ∃ r, Ev (fun k => spec_l15Draw.l1 k x M b p n g t rows) r ∧ QD b r := by
  intro d
  induction d with
  | zero =>
    intro rows hl h1 hh
    refine ⟨(n, g, t, rows, x, p), Ev.step (f := fun _ => some (n, g, t, rows, x, p)) (fun k => ?_) (Ev.now _), n, g, t, rows, x, p, rfl, ⟨hg, ht, by omega, hh⟩, hx, hb⟩
    simp only [spec_l15Draw.l1]
    rw [if_neg (by omega)]
  | succ d ih =>
    intro rows hl h1 hh
    obtain ⟨r, er, hp⟩ := ih (rows ++ [(⟨(rd_T52 rows 0).f0, (rd_T52 rows 0).f1, (rd_T52 rows 0).f2⟩ : S52)]) (by simp; omega) (by simp) (fun q hq => by
      rcases List.mem_append.1 hq with h2 | h2
      · exact hh q h2
      · rw [List.mem_singleton.1 h2]
        show (rd_T52 rows 0).f0.length ≤ 1048576
        have := rdT52 rows 0 (by omega)
        rw [show rd_T52 rows 0 = rows[0] from this]
        exact hh _ (List.getElem_mem _))
    refine ⟨r, Ev.step (fun k => ?_) er, hp⟩
    simp only [spec_l15Draw.l1]
    rw [if_pos (by omega), if_pos (by omega), if_pos (by omega)]

theorem pick3 (a b c : Int) (u : Int) (h0 : 0 ≤ u) (h1 : u < 3) {α : Type} (f : Int → Option α) : ((some ([a, b, c] : List Int)).bind fun y => (if 0 ≤ u then (if u < (y.length : Int) then f (rd y u) else none) else none)) = f (rd [a, b, c] u) := by
  simp only [Option.bind_some, List.length_cons, List.length_nil]
  rw [if_pos h0, if_pos (by omega)]

theorem draw0 {b : List Int} (n : Int) (g t : List Int) (rows : List S52) (hd : Drawn n g t rows) : ∀ (d i : Nat) (p : Int) (x : List Int), (i : Int) + d = n → x.length = i → RdOk b p → ∃ r, Ev (fun k => spec_l15Draw.l0 k x (i : Int) b p n g t rows) r ∧ QD b r := by
  obtain ⟨hn1, hn4, hlg, hlt, hr1, hr8, hlh⟩ := hd
  have hh : ∀ q ∈ rows, (S52.f0 q).length ≤ 1048576 := fun q hq => by have := hlh q hq; omega
  have e0 : rd_T52 rows 0 = rows[0] := rdT52 rows 0 (by omega)
  have h0 : ((rd_T52 rows 0).f0.length : Int) = n := by rw [e0]; exact hlh _ (List.getElem_mem _)
  have hset : ∀ v : S52, (S52.f0 v).length ≤ 1048576 → ∀ q ∈ rows.set (0 : Int).toNat v, (S52.f0 q).length ≤ 1048576 := fun v hv q hq => by
    rcases List.mem_or_eq_of_mem_set hq with h2 | h2
    · exact hh q h2
    · rw [h2]; exact hv
  intro d
  induction d with
  | zero =>
    intro i p x hi hl hb
    obtain ⟨v, p1, e1, v0, v1, hb1⟩ := rdBelow hb 30 (by omega)
    have fin : ∀ (n' : Int) (g' t' : List Int) (rows' : List S52) (x' : List Int) (p' : Int), g'.length ≤ 1048576 → t'.length ≤ 1048576 → rows'.length ≤ 1048576 → (∀ q ∈ rows', (S52.f0 q).length ≤ 1048576) → x'.length ≤ 1048576 → RdOk b p' →
        (∀ k, spec_l15Draw.l0 (k + 1) x (i : Int) b p n g t rows = some (n', g', t', rows', x', p')) → ∃ r, Ev (fun k => spec_l15Draw.l0 k x (i : Int) b p n g t rows) r ∧ QD b r :=
      fun n' g' t' rows' x' p' a1 a2 a3 a4 a5 a6 a7 => ⟨(n', g', t', rows', x', p'), Ev.step (f := fun _ => some (n', g', t', rows', x', p')) a7 (Ev.now _), n', g', t', rows', x', p', rfl, ⟨a1, a2, a3, a4⟩, a5, a6⟩
    have ln : ¬ (i : Int) < n := by omega
    by_cases c0 : v = 0
    · obtain ⟨u, p2, e2, u0, u1, hb2⟩ := rdBelow hb1 3 (by omega)
      refine fin (rd [0, 7, wrap64 (n + 1)] u) g t rows x p2 (by omega) (by omega) (by omega) hh (by omega) hb2 (fun k => ?_)
      simp only [spec_l15Draw.l0]
      rw [if_neg ln, e1]
      simp only [Option.bind_some]
      rw [if_pos c0, e2]
      simp only [Option.bind_some, List.length_cons, List.length_nil]
      rw [if_pos u0, if_pos (by omega)]
    by_cases c1 : v = 1
    · obtain ⟨u, p2, e2, u0, u1, hb2⟩ := rdBelow hb1 3 (by omega)
      refine fin n g (t.set (0 : Int).toNat (rd [0, 5, 6] u)) rows x p2 (by omega) (by rw [List.length_set]; omega) (by omega) hh (by omega) hb2 (fun k => ?_)
      simp only [spec_l15Draw.l0]
      rw [if_neg ln, e1]
      simp only [Option.bind_some]
      rw [if_neg c0, if_pos c1, e2]
      simp only [Option.bind_some, List.length_cons, List.length_nil]
      rw [if_pos u0, if_pos (by omega), if_pos (by omega)]
    by_cases c2 : v = 2
    · obtain ⟨u, p2, e2, u0, u1, hb2⟩ := rdBelow hb1 3 (by omega)
      refine fin n (g.set (0 : Int).toNat (rd [500, 501, -501] u)) t rows x p2 (by rw [List.length_set]; omega) (by omega) (by omega) hh (by omega) hb2 (fun k => ?_)
      simp only [spec_l15Draw.l0]
      rw [if_neg ln, e1]
      simp only [Option.bind_some]
      rw [if_neg c0, if_neg c1, if_pos c2, e2]
      simp only [Option.bind_some, List.length_cons, List.length_nil]
      rw [if_pos u0, if_pos (by omega), if_pos (by omega)]
    by_cases c3 : v = 3
    · obtain ⟨u, p2, e2, u0, u1, hb2⟩ := rdBelow hb1 3 (by omega)
      refine fin n g t (rows.set (0 : Int).toNat (⟨(rd_T52 rows 0).f0, (rd_T52 rows 0).f1, rd [0, 5, 6] u⟩ : S52)) x p2 (by omega) (by omega) (by rw [List.length_set]; omega) (hset _ (by show (rd_T52 rows 0).f0.length ≤ 1048576; omega)) (by omega) hb2 (fun k => ?_)
      simp only [spec_l15Draw.l0]
      rw [if_neg ln, e1]
      simp only [Option.bind_some]
      rw [if_neg c0, if_neg c1, if_neg c2, if_pos c3, e2]
      simp only [Option.bind_some, List.length_cons, List.length_nil]
      rw [if_pos u0, if_pos (by omega), if_pos (by omega)]
    by_cases c4 : v = 4
    · obtain ⟨u, p2, e2, u0, u1, hb2⟩ := rdBelow hb1 3 (by omega)
      refine fin n g t (rows.set (0 : Int).toNat (⟨((rd_T52 rows 0).f0.set (0 : Int).toNat (rd [5, 6, -6] u)), (rd_T52 rows 0).f1, (rd_T52 rows 0).f2⟩ : S52)) x p2 (by omega) (by omega) (by rw [List.length_set]; omega) (hset _ (by show ((rd_T52 rows 0).f0.set (0 : Int).toNat (rd [5, 6, -6] u)).length ≤ 1048576; rw [List.length_set]; omega)) (by omega) hb2 (fun k => ?_)
      simp only [spec_l15Draw.l0]
      rw [if_neg ln, e1]
      simp only [Option.bind_some]
      rw [if_neg c0, if_neg c1, if_neg c2, if_neg c3, if_pos c4, if_pos (by omega), e2]
      simp only [Option.bind_some, List.length_cons, List.length_nil]
      rw [if_pos u0, if_pos (by omega), if_pos (by omega)]
    by_cases c5 : v = 5
    · obtain ⟨u, p2, e2, u0, u1, hb2⟩ := rdBelow hb1 5 (by omega)
      refine fin n g t rows (x.set (0 : Int).toNat (rd [500, 501, 200000, 200001, -500] u)) p2 (by omega) (by omega) (by omega) hh (by rw [List.length_set]; omega) hb2 (fun k => ?_)
      simp only [spec_l15Draw.l0]
      rw [if_neg ln, e1]
      simp only [Option.bind_some]
      rw [if_neg c0, if_neg c1, if_neg c2, if_neg c3, if_neg c4, if_pos c5, e2]
      simp only [Option.bind_some, List.length_cons, List.length_nil]
      rw [if_pos u0, if_pos (by omega), if_pos (by omega)]
    by_cases c6 : v = 6
    · refine fin n g t rows (x ++ [0]) p1 (by omega) (by omega) (by omega) hh (by simp; omega) hb1 (fun k => ?_)
      simp only [spec_l15Draw.l0]
      rw [if_neg ln, e1]
      simp only [Option.bind_some]
      rw [if_neg c0, if_neg c1, if_neg c2, if_neg c3, if_neg c4, if_neg c5, if_pos c6, if_pos (by omega)]
    by_cases c7 : v = 7
    · obtain ⟨u, p2, e2, u0, u1, hb2⟩ := rdBelow hb1 2 (by omega)
      obtain ⟨r, er, hp⟩ := more_ev hb2 n g t x (by omega) (by omega) (by omega) (20 + u) (by omega) (20 + u - (rows.length : Int)).toNat rows (by omega) (by omega) hh
      refine ⟨r, Ev.step (fun k => ?_) er, hp⟩
      simp only [spec_l15Draw.l0]
      rw [if_neg ln, e1]
      simp only [Option.bind_some]
      rw [if_neg c0, if_neg c1, if_neg c2, if_neg c3, if_neg c4, if_neg c5, if_neg c6, if_pos c7, e2]
      simp only [Option.bind_some]
      rw [w64 (n := 20 + u) (by omega) (by omega)]
    · refine fin n g t rows x p1 (by omega) (by omega) (by omega) hh (by omega) hb1 (fun k => ?_)
      simp only [spec_l15Draw.l0]
      rw [if_neg ln, e1]
      simp only [Option.bind_some]
      rw [if_neg c0, if_neg c1, if_neg c2, if_neg c3, if_neg c4, if_neg c5, if_neg c6, if_neg c7]
  | succ d ih =>
    intro i p x hi hl hb
    obtain ⟨v, p1, e1, _, _, hb1⟩ := rdBelow hb 600 (by omega)
    obtain ⟨r, er, hp⟩ := ih (i + 1) p1 (x ++ [wrap64 (v - 300)]) (by omega) (by simp [hl]) hb1
    refine ⟨r, Ev.step (fun k => ?_) er, hp⟩
    simp only [spec_l15Draw.l0]
    rw [if_pos (by omega), e1]
    simp only [Option.bind_some]
    rw [if_pos (by omega), w64 (n := (i : Int) + 1) (by omega) (by omega)]
    rfl
theorem l15_ev {b : List Int} {p : Int} (h : RdOk b p) : ∃ r, Ev (fun k => spec_l15Draw.f k b p) r ∧ QD b r := by
  obtain ⟨n, r, e, g, t, rows, p1, rfl, hd, hb⟩ := problem_ev h
  obtain ⟨r, er, hq⟩ := draw0 n g t rows hd n.toNat 0 p1 [] (by have := hd.n1; omega) rfl hb
  exact ⟨r, Ev_bind _ e er, hq⟩
theorem desc_ev (b : List Int) (h : RdOk b 0) : ∃ n g t rows x most, Ev (fun k => spec_DrawDescend.f k b) (n, g, t, rows, x, most) ∧ Small g t rows ∧ x.length ≤ 1048576 := by
  obtain ⟨r, er, n, g, t, rows, x, p1, rfl, hs, hx, hb⟩ := l15_ev h
  obtain ⟨v, p2, e2, _, _, hb2⟩ := rdBelow hb 12 (by omega)
  obtain ⟨o, p3, e3, hb3⟩ := rdOnce hb2 2 (by omega)
  have tail : ∀ q : Int, ∃ most, Ev (fun k => spec_DrawDescend.j0 k x q b p3 n g t rows) (n, g, t, rows, x, most) := fun q => by
    obtain ⟨o2, p4, e4, hb4⟩ := rdOnce hb3 20 (by omega)
    cases o2 with
    | false =>
      refine ⟨q, Ev.step (f := fun _ => some (n, g, t, rows, x, q)) (fun k => ?_) (Ev.now _)⟩
      simp only [spec_DrawDescend.j0]
      rw [e4]
      rfl
    | true =>
      obtain ⟨u, p5, e5, u0, u1, hb5⟩ := rdBelow hb4 3 (by omega)
      refine ⟨rd [-1, 501, 0] u, Ev.step (f := fun _ => some (n, g, t, rows, x, rd [-1, 501, 0] u)) (fun k => ?_) (Ev.now _)⟩
      simp only [spec_DrawDescend.j0]
      rw [e4]
      simp only [Option.bind_some]
      rw [if_pos True.intro, e5]
      simp only [Option.bind_some, List.length_cons, List.length_nil]
      rw [if_pos u0, if_pos (by omega)]
  obtain ⟨most, et⟩ := tail (if o = true then 500 else v)
  refine ⟨n, g, t, rows, x, most, ?_, hs, hx⟩
  unfold spec_DrawDescend.f spec_l1Open.f
  simp only [Option.bind_some]
  refine Ev_bind _ er ?_
  dsimp only
  rw [e2]
  simp only [Option.bind_some]
  rw [e3]
  simp only [Option.bind_some]
  cases o with
  | false => simpa using et
  | true => simpa using et
end Go.Proofs.Ytcjhbmjimjbphaa.QFnDescends
