/- Drawn suites and runs, plainly: whatever bytes they are drawn from, a suite is good, a run is good; a run that is spoilt is small. -/
import Derived.Test.YtjoghfehmhapbaaRunSpecsDFnSuiteOnce
import Derived.Test.YtjoghfehmhapbaaRdFnSuiteOnce
set_option linter.unusedVariables false
set_option linter.unusedSimpArgs false
namespace Go.Proofs.Ytjoghfehmhapbaa.QFnSuiteOnce
open Go.RowKit Go.Proofs.YtjoghfehmhapbaaW.PrintWords Go.Proofs.YtjoghfehmhapbaaW.PrintMore Go.Proofs.Ytjoghfehmhapbaa.Opn Go.Proofs.Ytjoghfehmhapbaa.Pl

theorem rd_snoc (a : List Int) (v : Int) (q : Nat) (h : q < a.length + 1) : rd (a ++ [v]) (q : Int) = if q < a.length then rd a (q : Int) else v := by
  rw [rd_lt _ q (by simpa using h)]
  by_cases c : q < a.length
  · rw [if_pos c, rd_lt a q c, List.getElem_append_left c]
  · rw [if_neg c, List.getElem_append_right (by omega)]
    simp
theorem rdT_snoc (a : List S39) (v : S39) (q : Nat) (h : q < a.length + 1) : rd_T39 (a ++ [v]) (q : Int) = if q < a.length then rd_T39 a (q : Int) else v := by
  rw [rdT39 _ q (by simpa using h)]
  by_cases c : q < a.length
  · rw [if_pos c, rdT39 a q c, List.getElem_append_left c]
  · rw [if_neg c, List.getElem_append_right (by omega)]
    simp
def aft (a : List Int) (j : Nat) : Prop := a.length ≤ j ∧ ∀ q : Nat, q < a.length → (1 ≤ rd a (q : Int) ∧ rd a (q : Int) < (j : Int)) ∧ (0 < q → rd a ((q - 1 : Nat) : Int) < rd a (q : Int))
theorem aft_nil : aft [] 1 := ⟨by simp, fun q h => by simp at h⟩
theorem aft_stay {a : List Int} {j : Nat} (h : aft a j) : aft a (j + 1) := ⟨by have := h.1; omega, fun q hq => ⟨⟨(h.2 q hq).1.1, by have := (h.2 q hq).1.2; omega⟩, (h.2 q hq).2⟩⟩
theorem aft_snoc {a : List Int} {j : Nat} (h : aft a j) (hj : 1 ≤ j) : aft (a ++ [(j : Int)]) (j + 1) := by
  refine ⟨by have := h.1; simp; omega, fun q hq => ?_⟩
  have hq : q < a.length + 1 := by simpa using hq
  rw [rd_snoc a _ q hq]
  by_cases c : q < a.length
  · rw [if_pos c]
    refine ⟨⟨(h.2 q c).1.1, by have := (h.2 q c).1.2; omega⟩, fun h0 => ?_⟩
    rw [rd_snoc a _ (q - 1) (by omega), if_pos (by omega)]
    exact (h.2 q c).2 h0
  · rw [if_neg c]
    refine ⟨by omega, fun h0 => ?_⟩
    rw [rd_snoc a _ (q - 1) (by omega), if_pos (by omega)]
    exact (h.2 (q - 1) (by omega)).1.2
def gts (l : List S39) (g : Int) : Prop := ∀ q : Nat, q < l.length → attrOk g (rd_T39 l (q : Int)) ∧ okFrom (q : Int) (rd_T39 l (q : Int)).f0 0
theorem gts_snoc {l : List S39} {g : Int} (h : gts l g) (t : S39) (ht : attrOk g t) (ha : aft t.f0 (l.length + 1)) : gts (l ++ [t]) g := by
  intro q hq
  have hq : q < l.length + 1 := by simpa using hq
  rw [rdT_snoc l t q hq]
  by_cases c : q < l.length
  · rw [if_pos c]; exact h q c
  · rw [if_neg c]
    refine ⟨ht, fun x _ hx => ⟨⟨(ha.2 x hx).1.1, by have := (ha.2 x hx).1.2; omega⟩, (ha.2 x hx).2⟩⟩
theorem suiteT_ev (b : List Int) (g : Int) (hg : 1 ≤ g ∧ g ≤ 3) (n : Nat) (hn : n ≤ 14) (lim : List Int) : ∀ (d i : Nat) (p : Int) (l : List S39), i + d = n → RdOk b p → l.length = i → gts l g →
    ∃ l0 p', Ev (fun k => spec_l1Rd_suite.l1 k g (n : Int) (i : Int) b p l lim) (l0, lim, p') ∧ l0.length = n ∧ gts l0 g ∧ RdOk b p' := by
  intro d
  induction d with
  | zero =>
    intro i p l hi hp hl hgt
    refine ⟨l, p, Ev.step (f := fun _ => some (l, lim, p)) (fun k => ?_) (Ev.now _), by omega, hgt, hp⟩
    simp only [spec_l1Rd_suite.l1]
    rw [if_neg (by omega)]
  | succ d ih =>
    intro i p l hi hp hl hgt
    obtain ⟨v1, p1, e1, a1, b1, r1⟩ := rdBelow hp g hg.1
    obtain ⟨v2, p2, e2, a2, b2, r2⟩ := rdBelow r1 3 (by omega)
    have inner : ∀ (e j : Nat) (p : Int) (a : List Int), j + e = i + 1 → 1 ≤ j → RdOk b p → aft a j →
        ∃ l0 p', Ev (fun k => spec_l1Rd_suite.l2 k g (n : Int) (i : Int) (j : Int) b p l lim a (1 + v1) 0 (1 + v2)) (l0, lim, p') ∧ l0.length = n ∧ gts l0 g ∧ RdOk b p' := by
      intro e
      induction e with
      | zero =>
        intro j p a hj hj1 hp ha
        obtain ⟨o, p3, e3, r3⟩ := rdOnce hp 2 (by omega)
        have ew : wrap64 ((i : Int) + 1) = ((i + 1 : Nat) : Int) := by rw [w64 (by omega) (by omega)]; rfl
        cases o with
        | true =>
          obtain ⟨v, p4, e4, a4, b4, r4⟩ := rdBelow r3 50 (by omega)
          obtain ⟨l0, p', ev, h1, h2, h3⟩ := ih (i + 1) p4 (l ++ [⟨a, 1 + v1, 1 + v, 1 + v2⟩]) (by omega) r4 (by simp; omega) (gts_snoc hgt _ ⟨by show 1 ≤ 1 + v1 ∧ 1 + v1 ≤ g; omega, by show 0 ≤ 1 + v ∧ 1 + v ≤ _; omega, by show 1 ≤ 1 + v2 ∧ 1 + v2 ≤ 5; omega⟩ (by rw [hl, show i + 1 = j by omega]; exact ha))
          refine ⟨l0, p', Ev.step (fun k => ?_) ev, h1, h2, h3⟩
          simp only [spec_l1Rd_suite.l2]
          rw [if_neg (by omega), e3, Option.bind_some]
          simp only [if_true, e4, Option.bind_some]
          rw [if_pos (by omega), ew, w64 (n := 1 + v) (by omega) (by omega)]
        | false =>
          obtain ⟨l0, p', ev, h1, h2, h3⟩ := ih (i + 1) p3 (l ++ [⟨a, 1 + v1, 0, 1 + v2⟩]) (by omega) r3 (by simp; omega) (gts_snoc hgt _ ⟨by show 1 ≤ 1 + v1 ∧ 1 + v1 ≤ g; omega, by show (0 : Int) ≤ 0 ∧ (0 : Int) ≤ _; omega, by show 1 ≤ 1 + v2 ∧ 1 + v2 ≤ 5; omega⟩ (by rw [hl, show i + 1 = j by omega]; exact ha))
          refine ⟨l0, p', Ev.step (fun k => ?_) ev, h1, h2, h3⟩
          simp only [spec_l1Rd_suite.l2]
          rw [if_neg (by omega), e3, Option.bind_some]
          simp only [Bool.false_eq_true, if_false]
          rw [if_pos (by omega), ew]
      | succ e ihe =>
        intro j p a hj hj1 hp ha
        obtain ⟨o, p3, e3, r3⟩ := rdOnce hp 3 (by omega)
        have ew : wrap64 ((j : Int) + 1) = ((j + 1 : Nat) : Int) := by rw [w64 (by omega) (by omega)]; rfl
        cases o with
        | true =>
          obtain ⟨l0, p', ev, h⟩ := ihe (j + 1) p3 (a ++ [(j : Int)]) (by omega) (by omega) r3 (aft_snoc ha hj1)
          refine ⟨l0, p', Ev.step (fun k => ?_) ev, h⟩
          have hal := ha.1
          simp only [spec_l1Rd_suite.l2]
          rw [if_pos (by omega), e3, Option.bind_some]
          simp only [if_true]
          rw [if_pos (by omega), ew]
        | false =>
          obtain ⟨l0, p', ev, h⟩ := ihe (j + 1) p3 a (by omega) (by omega) r3 (aft_stay ha)
          refine ⟨l0, p', Ev.step (fun k => ?_) ev, h⟩
          simp only [spec_l1Rd_suite.l2]
          rw [if_pos (by omega), e3, Option.bind_some]
          simp only [Bool.false_eq_true, if_false]
          rw [ew]
    obtain ⟨l0, p', ev, h⟩ := inner i 1 p2 [] (by omega) (by omega) r2 aft_nil
    refine ⟨l0, p', Ev.step (fun k => ?_) ev, h⟩
    simp only [spec_l1Rd_suite.l1]
    rw [if_pos (by omega), e1, Option.bind_some]
    simp only [e2, Option.bind_some]
    rw [w64 (n := 1 + v1) (by omega) (by omega), w64 (n := 1 + v2) (by omega) (by omega)]
    rfl
theorem suite_ev (b : List Int) (p : Int) (hp : RdOk b p) : ∃ l0 l1 p', Ev (fun k => spec_l1Rd_suite.f k b p) (l0, l1, p') ∧ suiteOk l0 l1 ∧ RdOk b p' := by
  obtain ⟨v, p0, e0, a0, b0, r0⟩ := rdBelow hp 3 (by omega)
  obtain ⟨g, hg⟩ : ∃ g : Nat, 1 + v = (g : Int) := ⟨(1 + v).toNat, by omega⟩
  have key : ∀ (d i : Nat) (p : Int) (lim : List Int), i + d = g → RdOk b p → lim.length = i → intsFrom lim 1 60 0 → ∃ l0 l1 p', Ev (fun k => spec_l1Rd_suite.l0 k (g : Int) (i : Int) b p lim) (l0, l1, p') ∧ suiteOk l0 l1 ∧ RdOk b p' := by
    intro d
    induction d with
    | zero =>
      intro i p lim hi hp hl hli
      obtain ⟨n, p1, e1, a1, b1, r1⟩ := rdSize hp 5 14 (by omega) (by omega) (by omega)
      obtain ⟨m, hm⟩ : ∃ m : Nat, n = (m : Int) := ⟨n.toNat, by omega⟩
      subst hm
      obtain ⟨l0, p', ev, h1, h2, h3⟩ := suiteT_ev b (g : Int) ⟨by omega, by omega⟩ m (by omega) lim m 0 p1 [] (by omega) r1 rfl (fun q hq => by simp at hq)
      refine ⟨l0, lim, p', Ev.step (fun k => ?_) ev, ⟨⟨by omega, by omega⟩, ⟨by omega, by omega⟩, hli, fun q _ hq => ?_⟩, h3⟩
      · simp only [spec_l1Rd_suite.l0]
        rw [if_neg (by omega), e1, Option.bind_some]
        rfl
      · have := h2 q hq
        rw [show (lim.length : Int) = (g : Int) by omega]
        exact this
    | succ d ih =>
      intro i p lim hi hp hl hli
      obtain ⟨x, p1, e1, a1, b1, r1⟩ := rdBelow hp 3 (by omega)
      obtain ⟨l0, l1, p', ev, h⟩ := ih (i + 1) p1 (lim ++ [1 + x]) (by omega) r1 (by simp; omega) (fun q _ hq => by
        have hq : q < lim.length + 1 := by simpa using hq
        rw [rd_snoc lim _ q hq]
        by_cases c : q < lim.length
        · rw [if_pos c]; exact hli q (Nat.zero_le _) c
        · rw [if_neg c]; omega)
      refine ⟨l0, l1, p', Ev.step (fun k => ?_) ev, h⟩
      simp only [spec_l1Rd_suite.l0]
      rw [if_pos (by omega), e1, Option.bind_some]
      simp only [if_pos (show lim.length < 17592186044416 by omega)]
      rw [w64 (n := (i : Int) + 1) (by omega) (by omega), w64 (n := 1 + x) (by omega) (by omega)]
      rfl
  obtain ⟨l0, l1, p', ev, h⟩ := key g 0 p0 [] (by omega) r0 rfl (fun q _ hq => by simp at hq)
  refine ⟨l0, l1, p', ?_, h⟩
  unfold spec_l1Rd_suite.f
  rw [e0]
  simp only [Option.bind_some]
  rw [w64 (n := 1 + v) (by omega) (by omega), hg]
  exact ev

/-! ### a run behind drawn events -/
theorem rep_good {l0 : List S39} {l1 : List Int} {n : Int} {l3 : List S43} (h : runP l0 l1 n l3) (a : Int) (ok : Bool) : ∃ y3 o, repRun l0 l1 n l3 a ok = (l0, l1, n, y3, o) ∧ runP l0 l1 n y3 := by
  unfold repRun
  rw [if_pos (dec_true h)]
  by_cases c : (1 ≤ a ∧ a ≤ (l3.length : Int)) ∧ (rd_T43 l3 (a - 1)).f0 = 1
  · rw [if_pos c]
    obtain ⟨i, hi⟩ : ∃ i : Nat, a - 1 = (i : Int) := ⟨(a - 1).toNat, by omega⟩
    refine ⟨_, _, rfl, ?_⟩
    have c2 := c.2
    rw [hi] at c2 ⊢
    rw [Int.toNat_natCast]
    refine runP_report h i (by omega) c2 _ ?_
    unfold repHow
    rw [hi]
    by_cases c3 : ok = true
    · rw [if_pos c3]; exact .inl rfl
    · rw [if_neg c3]
      by_cases c4 : (rd_T43 l3 (i : Int)).f1 = (rd_T39 l0 (i : Int)).f3
      · rw [if_pos c4]; exact .inr (.inl ⟨rfl, c4⟩)
      · rw [if_neg c4]; exact .inr (.inr ⟨rfl, c4⟩)
  · rw [if_neg c]; exact ⟨_, _, rfl, h⟩
theorem rdOk_start {c : List Int} (hl : c.length ≤ 1048576) (hb : ∀ x ∈ c, (Lit.int .u8 x).wf = true) : RdOk c 0 := by
  refine ⟨hl, fun i hi => ?_, by omega, by omega⟩
  have := wfU8_range (hb _ (List.getElem_mem hi))
  rw [rd_lt c i hi]
  exact this
end Go.Proofs.Ytjoghfehmhapbaa.QFnSuiteOnce
