/- FnSuiteOnce, plainly: under any events each task begins only behind what it comes behind and never twice at once, no group runs too many; behind good reports alone all are done at last but what is stuck. No condition. -/
import Derived.Test.YtjoghfehmhapbaaOnceLibFnSuiteOnce
import Derived.Test.YtjoghfehmhapbaaStatFnSuiteOnce
set_option linter.unusedVariables false
set_option linter.unusedSimpArgs false
namespace Go.Proofs.Ytjoghfehmhapbaa.QFnSuiteOnce
open Go.RowKit Go.Proofs.YtjoghfehmhapbaaW.PrintWords Go.Proofs.YtjoghfehmhapbaaW.PrintMore Go.Proofs.Ytjoghfehmhapbaa.Opn Go.Proofs.Ytjoghfehmhapbaa.Pl

/-! ### the drawn suite -/
theorem fits_set {l0 : List S39} {l1 : List Int} (h : Fits l0 l1) (v : S39) (hv : v.f0.length ≤ 1048576) : Fits (l0.set 0 v) l1 := by
  refine ⟨by rw [List.length_set]; exact h.n0, fun q hq => ?_, h.n2⟩
  have hq' : q < l0.length := by simpa using hq
  rw [rdT39 _ q hq, List.getElem_set]
  split
  · exact hv
  · have := h.n1 q hq'
    rw [rdT39 _ q hq'] at this
    exact this
theorem drawMore_ev (b : List Int) (p : Int) (l1 : List Int) (X : Nat) (hX : X ≤ 61) : ∀ (d : Nat) (l : List S39), l.length + d = X ∨ (d = 0 ∧ X ≤ l.length) → Fits l l1 → ∃ l', Ev (fun k => spec_l24DrawSuite.l0 k (X : Int) b p l l1) (l', l1, p) ∧ Fits l' l1 := by
  intro d
  induction d with
  | zero =>
    intro l hl hf
    refine ⟨l, Ev.step (f := fun _ => some (l, l1, p)) (fun k => ?_) (Ev.now _), hf⟩
    simp only [spec_l24DrawSuite.l0]
    rw [if_neg (by omega)]
  | succ d ih =>
    intro l hl hf
    have hl' : l.length + (d + 1) = X := by rcases hl with h | h <;> omega
    have hf' : Fits (l ++ [⟨[], 1, 0, 1⟩]) l1 := by
      refine ⟨by simp; omega, fun q hq => ?_, hf.n2⟩
      have hq2 : q < l.length + 1 := by simpa using hq
      rw [rdT_snoc l _ q hq2]
      by_cases c : q < l.length
      · rw [if_pos c]; exact hf.n1 q c
      · rw [if_neg c]; simp
    obtain ⟨l', e, h⟩ := ih (l ++ [⟨[], 1, 0, 1⟩]) (.inl (by simp; omega)) hf'
    refine ⟨l', Ev.step (fun k => ?_) e, h⟩
    simp only [spec_l24DrawSuite.l0]
    rw [if_pos (by omega), if_pos (by omega)]
theorem drawSuite_ev (b : List Int) (p : Int) (hp : RdOk b p) : ∃ l0 l1 p', Ev (fun k => spec_l24DrawSuite.f k b p) (l0, l1, p') ∧ Fits l0 l1 := by
  obtain ⟨l0, l1, p1, e1, hs, r1⟩ := suite_ev b p hp
  obtain ⟨v, p2, e2, a2, b2, r2⟩ := rdBelow r1 24 (by omega)
  have hf := suite_fits hs
  have hz := hs.1
  have hz1 := hs.2.1
  have hl0 : (0 : Int) < (l0.length : Int) := by omega
  have h00 := hf.n1 0 (by omega)
  simp only [Int.natCast_zero] at h00
  have fin : ∀ (R : List S39 × List Int × Int), Fits R.1 R.2.1 → Ev (fun k => (spec_l24DrawSuite.f k b p)) R → ∃ l0 l1 p', Ev (fun k => spec_l24DrawSuite.f k b p) (l0, l1, p') ∧ Fits l0 l1 := fun R h e => ⟨R.1, R.2.1, R.2.2, e, h⟩
  unfold spec_l24DrawSuite.f at fin ⊢
  by_cases c0 : v = 0
  · obtain ⟨u, p3, e3, a3, b3, _⟩ := rdBelow r2 3 (by omega)
    refine fin (l0, l1.set 0 (rd [0, 60, 61] u), p3) ⟨hf.n0, hf.n1, by simp only [List.length_set]; exact hf.n2⟩ (Ev_bind _ e1 ?_)
    simp only [e2, Option.bind_some, if_pos c0, e3]
    rw [if_pos a3, if_pos (show u < (([0, 60, 61] : List Int).length : Int) by simpa using b3), if_pos (by omega)]
    exact Ev.now _
  by_cases c1 : v = 1
  · obtain ⟨u, p3, e3, a3, b3, _⟩ := rdBelow r2 2 (by omega)
    refine fin (l0.set 0 ⟨(rd_T39 l0 0).f0, rd [0, 7] u, (rd_T39 l0 0).f2, (rd_T39 l0 0).f3⟩, l1, p3) (fits_set hf _ h00) (Ev_bind _ e1 ?_)
    simp only [e2, Option.bind_some, if_neg c0, if_pos c1, e3]
    rw [if_pos a3, if_pos (show u < (([0, 7] : List Int).length : Int) by simpa using b3), if_pos hl0]
    exact Ev.now _
  by_cases c2 : v = 2
  · refine fin (l0.set 0 ⟨[1], (rd_T39 l0 0).f1, (rd_T39 l0 0).f2, (rd_T39 l0 0).f3⟩, l1, p2) (fits_set hf _ (by simp)) (Ev_bind _ e1 ?_)
    simp only [e2, Option.bind_some, if_neg c0, if_neg c1, if_pos c2]
    rw [if_pos hl0]
    exact Ev.now _
  by_cases c3 : v = 3
  · obtain ⟨u, p3, e3, a3, b3, _⟩ := rdBelow r2 3 (by omega)
    refine fin (l0.set 0 ⟨(rd_T39 l0 0).f0, (rd_T39 l0 0).f1, (rd_T39 l0 0).f2, rd [0, 5, 6] u⟩, l1, p3) (fits_set hf _ h00) (Ev_bind _ e1 ?_)
    simp only [e2, Option.bind_some, if_neg c0, if_neg c1, if_neg c2, if_pos c3, e3]
    rw [if_pos a3, if_pos (show u < (([0, 5, 6] : List Int).length : Int) by simpa using b3), if_pos hl0]
    exact Ev.now _
  by_cases c4 : v = 4
  · obtain ⟨u, p3, e3, a3, b3, _⟩ := rdBelow r2 3 (by omega)
    refine fin (l0.set 0 ⟨(rd_T39 l0 0).f0, (rd_T39 l0 0).f1, rd [(-1), 1000000000000, 1000000000001] u, (rd_T39 l0 0).f3⟩, l1, p3) (fits_set hf _ h00) (Ev_bind _ e1 ?_)
    simp only [e2, Option.bind_some, if_neg c0, if_neg c1, if_neg c2, if_neg c3, if_pos c4, e3]
    rw [if_pos a3, if_pos (show u < (([(-1), 1000000000000, 1000000000001] : List Int).length : Int) by simpa using b3), if_pos hl0]
    exact Ev.now _
  by_cases c5 : v = 5
  · obtain ⟨u, p3, e3, a3, b3, _⟩ := rdBelow r2 2 (by omega)
    obtain ⟨X, hX⟩ : ∃ X : Nat, 60 + u = (X : Int) := ⟨(60 + u).toNat, by omega⟩
    obtain ⟨l', ev, h'⟩ := drawMore_ev b p3 l1 X (by omega) (X - l0.length) l0 (by omega) hf
    refine fin (l', l1, p3) h' (Ev_bind _ e1 ?_)
    simp only [e2, Option.bind_some, if_neg c0, if_neg c1, if_neg c2, if_neg c3, if_neg c4, if_pos c5, e3]
    rw [w64 (n := 60 + u) (by omega) (by omega), hX]
    exact ev
  by_cases c6 : v = 6
  · refine fin ([], l1, p2) ⟨by simp, fun q hq => by simp at hq, hf.n2⟩ (Ev_bind _ e1 ?_)
    simp only [e2, Option.bind_some, if_neg c0, if_neg c1, if_neg c2, if_neg c3, if_neg c4, if_neg c5, if_pos c6]
    rw [if_pos (by omega)]
    exact Ev.now _
  · refine fin (l0, l1, p2) hf (Ev_bind _ e1 ?_)
    simp only [e2, Option.bind_some, if_neg c0, if_neg c1, if_neg c2, if_neg c3, if_neg c4, if_neg c5, if_neg c6]
    exact Ev.now _

theorem rd_set (l : List Int) (i q : Nat) (v : Int) (hi : i < l.length) : rd (l.set i v) (q : Int) = if q = i then v else rd l (q : Int) := by
  unfold rd
  rw [Int.toNat_natCast, List.getD_eq_getElem?_getD, List.getD_eq_getElem?_getD]
  by_cases c : q = i
  · subst c; rw [if_pos rfl, List.getElem?_set_self hi]; rfl
  · rw [if_neg c, List.getElem?_set_ne (fun x => c x.symm)]
/-! ### what the law keeps of a run -/
structure OInv (l0 : List S39) (l1 : List Int) (dn : List Int) (rn : List Bool) (x : List S43) : Prop where
  p : runP l0 l1 0 x
  ld : dn.length = l0.length
  lr : rn.length = l0.length
  r : ∀ q : Nat, q < l0.length → (rdOf false rn (q : Int) = true ↔ (rd_T43 x (q : Int)).f0 = 1)
  d : ∀ q : Nat, q < l0.length → rd dn (q : Int) = if (rd_T43 x (q : Int)).f0 = 2 then 1 else 0
/-- The end: what is stuck was never done. -/
theorem l7_ev (l0 : List S39) (l1 : List Int) (N : Int) (dn st : List Int) (x : List S43) (hst : st.length ≤ 1048576) (t : Int) (R : Bool) : ∀ (d j : Nat) (b : Bool), j + d = st.length →
    Ev (fun k => laws_FnSuiteOnce.l7 k N dn st t (b || dec_ (inFrom st j t)) (st.length : Int) l0 l1 0 x) R → Ev (fun k => laws_FnSuiteOnce.l7 k N dn st t b (j : Int) l0 l1 0 x) R := by
  intro d
  induction d with
  | zero =>
    intro j b hj h
    rw [dec_false (p := inFrom st j t) (by rintro ⟨m, h1, h2, _⟩; omega), Bool.or_false] at h
    rw [show j = st.length by omega]; exact h
  | succ d ih =>
    intro j b hj h
    have ew : wrap64 ((j : Int) + 1) = ((j + 1 : Nat) : Int) := by rw [w64 (by omega) (by omega)]; rfl
    cases b with
    | true =>
      rw [Bool.true_or] at h
      refine Ev.step (fun k => ?_) (ih (j + 1) true (by omega) (by rw [Bool.true_or]; exact h))
      simp only [laws_FnSuiteOnce.l7, ew]
      rw [if_pos (by omega)]
      simp only [if_true]
    | false =>
      rw [Bool.false_or] at h
      have e : ((rd st (j : Int) == t) || dec_ (inFrom st (j + 1) t)) = dec_ (inFrom st j t) := by
        by_cases c : rd st (j : Int) = t
        · rw [show (rd st (j : Int) == t) = true from beq_iff_eq.mpr c, Bool.true_or, dec_true (p := inFrom st j t) ⟨j, Nat.le_refl _, by omega, c⟩]
        · rw [show (rd st (j : Int) == t) = false from beq_eq_false_iff_ne.mpr c, Bool.false_or]
          refine dec_iff ⟨fun ⟨m, h1, h2, h3⟩ => ⟨m, by omega, h2, h3⟩, fun ⟨m, h1, h2, h3⟩ => ⟨m, ?_, h2, h3⟩⟩
          by_cases c2 : m = j
          · subst c2; exact absurd h3 c
          · omega
      refine Ev.step (fun k => ?_) (ih (j + 1) (rd st (j : Int) == t) (by omega) (by rw [e]; exact h))
      simp only [laws_FnSuiteOnce.l7, ew]
      rw [if_pos (by omega)]
      simp only [Bool.false_eq_true, if_false]
      rw [if_pos (by omega)]
theorem l6_ev {l0 : List S39} {l1 : List Int} {dn : List Int} {rn : List Bool} {x : List S43} (h : OInv l0 l1 dn rn x) (hq : Quiet l0 l1 x) : ∀ (d i : Nat), i + d = l0.length → Ev (fun k => laws_FnSuiteOnce.l6 k (l0.length : Int) dn (stuckL l0 x x.length) ((i : Int) + 1) l0 l1 0 x) true := by
  have hl := h.p.2.2.1
  have hn := h.p.1.1
  have hsl := stuck_len l0 x x.length
  have hld := h.ld
  intro d
  induction d with
  | zero =>
    intro i hi
    refine Ev.step (f := fun _ => some true) (fun k => ?_) (Ev.now _)
    simp only [laws_FnSuiteOnce.l6]
    rw [if_neg (by omega)]
  | succ d ih =>
    intro i hi
    have hix : i < x.length := by omega
    have hs := stuck_iff h.p hq (i + 1) i (Nat.lt_succ_self _) hix
    have hm := stuck_stage l0 x x.length i hix
    have hd := h.d i (by omega)
    have key := ih (i + 1) (by omega)
    refine Ev.step (f := fun k => laws_FnSuiteOnce.l7 k (l0.length : Int) dn (stuckL l0 x x.length) ((i : Int) + 1) false 0 l0 l1 0 x) (fun k => by simp only [laws_FnSuiteOnce.l6]; rw [if_pos (by omega)]) ?_
    refine l7_ev l0 l1 _ dn _ x (by omega) _ true (stuckL l0 x x.length).length 0 false (by omega) ?_
    rw [Bool.false_or, dec_iff (inFrom_mem (stuckL l0 x x.length) ((i : Int) + 1)), dec_iff (hm.trans hs)]
    refine Ev.step (fun k => ?_) key
    have ew : wrap64 ((i : Int) + 1 - 1) = (i : Int) := by rw [w64 (by omega) (by omega)]; omega
    have ew2 : wrap64 ((i : Int) + 1 + 1) = ((i + 1 : Nat) : Int) + 1 := by rw [w64 (by omega) (by omega)]; omega
    simp only [laws_FnSuiteOnce.l7, ew, ew2]
    rw [if_neg (by omega), if_pos (by omega), if_pos (by omega), hd]
    by_cases c : (rd_T43 x (i : Int)).f0 = 2
    · rw [dec_false (p := (rd_T43 x (i : Int)).f0 ≠ 2) (fun z => z c), if_pos c, c]
      simp only [show ((false : Bool) != ((1 : Int) == 0)) = false from rfl, Bool.false_eq_true, if_false, if_neg (show ¬ (1 : Int) > 1 by omega)]
      rw [if_pos (by omega)]
      simp only [show ((false : Bool) == ((2 : Int) == 2)) = false from rfl, Bool.false_eq_true, if_false]
    · rw [dec_true (p := (rd_T43 x (i : Int)).f0 ≠ 2) c, if_neg c]
      simp only [show ((true : Bool) != ((0 : Int) == 0)) = false from rfl, Bool.false_eq_true, if_false, if_neg (show ¬ (0 : Int) > 1 by omega)]
      rw [if_pos (by omega)]
      have e : ((true : Bool) == ((rd_T43 x (i : Int)).f0 == 2)) = false := by rw [show ((rd_T43 x (i : Int)).f0 == 2) = false from beq_eq_false_iff_ne.mpr c]; rfl
      simp only [e, Bool.false_eq_true, if_false]
theorem last_ev {l0 : List S39} {l1 : List Int} {dn : List Int} {rn : List Bool} {x : List S43} (more : List Int) (h : OInv l0 l1 dn rn x) (hq : Quiet l0 l1 x) (T : Int) : Ev (fun k => laws_FnSuiteOnce.l0 k more (l0.length : Int) dn rn T T l0 l1 l0 l1 0 x) true := by
  have hl := h.p.2.2.1
  have eI := implStuck_ev l0 l1 0 x (runP_fits h.p)
  unfold stuckRun at eI
  rw [dec_true h.p, if_pos rfl] at eI
  refine Ev.step (f := fun k => (impl_Stuck.f k l0 l1 0 x).bind fun t => if (x.length : Int) = (l0.length : Int) then laws_FnSuiteOnce.l6 k (l0.length : Int) dn t 1 l0 l1 0 x else some false) (fun k => by simp only [laws_FnSuiteOnce.l0]; rw [if_neg (by omega)]) (Ev_bind _ eI ?_)
  simp only [if_pos (show (x.length : Int) = (l0.length : Int) by omega)]
  exact l6_ev h hq l0.length 0 (by omega)

/-! ### one round: a report of one that runs -/
/-- What a round may leave: fewer open tasks, or nothing moves any more. -/
def Goes (l0 : List S39) (l1 : List Int) (x y : List S43) : Prop := (wC y y.length + 1 ≤ wC x x.length ∧ ¬ Quiet l0 l1 x) ∨ Quiet l0 l1 y
theorem j10_ev {l0 : List S39} {l1 : List Int} {dn : List Int} {rn : List Bool} {y : List S43} (more : List Int) (T kk : Int) (h : OInv l0 l1 dn rn y) (at_ : Nat) (ha : at_ < l0.length) (h1 : (rd_T43 y (at_ : Int)).f0 = 1) (good : Bool)
    (next : ∀ dn' rn' y', OInv l0 l1 dn' rn' y' → (good = true → wC y' y'.length + 1 = wC y y.length) → Ev (fun k => laws_FnSuiteOnce.l0 k more (l0.length : Int) dn' rn' T (wrap64 (kk + 1)) l0 l1 l0 l1 0 y') true) :
    Ev (fun k => laws_FnSuiteOnce.j10 k more (l0.length : Int) dn rn T kk (at_ : Int) good l0 l1 l0 l1 0 y) true := by
  have hl := h.p.2.2.1
  have hn := h.p.1.1
  have hld := h.ld
  have hlr := h.lr
  have hay : at_ < y.length := by omega
  obtain ⟨e1, r1⟩ := rep_at h.p at_ hay h1 good
  have eI := implRep_ev l0 l1 0 y ((at_ : Int) + 1) good (runP_fits h.p)
  rw [e1] at eI
  have ew : wrap64 ((at_ : Int) + 1) = (at_ : Int) + 1 := w64 (by omega) (by omega)
  have hd := h.d at_ ha
  rw [h1, if_neg (by decide)] at hd
  have hg2 : good = true → repHow l0 y ((at_ : Int) + 1) good = 2 := fun e => by subst e; unfold repHow; exact if_pos rfl
  have hb2 : good = false → repHow l0 y ((at_ : Int) + 1) good = 3 ∨ repHow l0 y ((at_ : Int) + 1) good = 0 := fun e => by
    subst e
    unfold repHow
    rw [if_neg (by decide)]
    by_cases c : (rd_T43 y ((at_ : Int) + 1 - 1)).f1 = (rd_T39 l0 ((at_ : Int) + 1 - 1)).f3
    · rw [if_pos c]; exact .inl rfl
    · rw [if_neg c]; exact .inr rfl
  generalize repHow l0 y ((at_ : Int) + 1) good = how at eI r1 hb2 hg2
  generalize hy' : y.set at_ ⟨how, (rd_T43 y (at_ : Int)).f1⟩ = y' at eI r1
  have hrd : ∀ q : Nat, q < l0.length → (rd_T43 y' (q : Int)).f0 = if at_ = q then how else (rd_T43 y (q : Int)).f0 := by
    intro q hq
    rw [← hy', rdJ_set y at_ q _ (by omega)]
    by_cases c : at_ = q
    · rw [if_pos c, if_pos c]
    · rw [if_neg c, if_neg c]
  have hr' : ∀ q : Nat, q < l0.length → (rdOf false (rn.set at_ false) (q : Int) = true ↔ (rd_T43 y' (q : Int)).f0 = 1) := by
    intro q hq
    rw [rdOf_set rn at_ q false (by omega), hrd q hq]
    by_cases c : q = at_
    · rw [if_pos c, if_pos c.symm]
      constructor
      · intro z; cases z
      · intro z
        cases good with
        | true => have := hg2 rfl; omega
        | false => have := hb2 rfl; omega
    · rw [if_neg c, if_neg (fun z => c z.symm)]; exact h.r q hq
  have hlen : y'.length = y.length := by rw [← hy', List.length_set]
  refine Ev.step (f := fun k => (impl_Report.f k l0 l1 0 y ((at_ : Int) + 1) good).bind fun bt => if bt.2.2.2.2 = true then (if 0 ≤ (at_ : Int) then (if (at_ : Int) < (rn.length : Int) then ((some (rn.set (at_ : Int).toNat false : List Bool)).bind fun y5 => if good = true then (if (at_ : Int) < (dn.length : Int) then laws_FnSuiteOnce.l0 k more (l0.length : Int) (dn.set (at_ : Int).toNat (wrap64 (rd dn (at_ : Int) + 1))) y5 T (wrap64 (kk + 1)) l0 l1 bt.1 bt.2.1 bt.2.2.1 bt.2.2.2.1 else none) else laws_FnSuiteOnce.l0 k more (l0.length : Int) dn y5 T (wrap64 (kk + 1)) l0 l1 bt.1 bt.2.1 bt.2.2.1 bt.2.2.2.1) else none) else none) else some false) (fun k => by simp only [laws_FnSuiteOnce.j10, ew]) (Ev_bind _ eI ?_)
  simp only [if_true, if_pos (show (0 : Int) ≤ (at_ : Int) by omega), if_pos (show (at_ : Int) < (rn.length : Int) by omega), Int.toNat_natCast, Option.bind_some]
  cases good with
  | true =>
    have h2 := hg2 rfl
    simp only [if_true, if_pos (show (at_ : Int) < (dn.length : Int) by omega), hd]
    refine next _ _ _ ⟨r1, by rw [List.length_set]; exact h.ld, by rw [List.length_set]; exact h.lr, hr', fun q hq => ?_⟩ (fun _ => ?_)
    · rw [hrd q hq]
      rw [rd_set dn at_ q (wrap64 (0 + 1)) (by omega)]
      by_cases c : at_ = q
      · rw [if_pos c.symm, if_pos c, if_pos h2]; exact w64 (n := 0 + 1) (by omega) (by omega)
      · rw [if_neg (fun z => c z.symm), if_neg c]; exact h.d q hq
    · have := wC_upd y at_ ⟨how, (rd_T43 y (at_ : Int)).f1⟩ hay h1 (by simp only; omega) y.length (Nat.le_refl _)
      rw [hy', if_pos hay] at this
      rw [hlen]; exact this
  | false =>
    simp only [Bool.false_eq_true, if_false]
    refine next _ _ _ ⟨r1, h.ld, by rw [List.length_set]; exact h.lr, hr', fun q hq => ?_⟩ (fun z => by cases z)
    rw [hrd q hq]
    by_cases c : at_ = q
    · have w := hb2 rfl
      rw [if_pos c, ← c, hd, if_neg (by omega)]
    · rw [if_neg c]; exact h.d q hq
theorem l5_ev {l0 : List S39} {l1 : List Int} {dn : List Int} {rn : List Bool} {y : List S43} (more : List Int) (T kk x15 : Int) (h : OInv l0 l1 dn rn y) (hx : 0 ≤ x15 ∧ x15 ≤ 255)
    (next : ∀ dn' rn' y', OInv l0 l1 dn' rn' y' → (((kk ≥ 60 → wC y' y'.length + 1 = wC y y.length) ∧ ∃ q : Nat, q < y.length ∧ (rd_T43 y (q : Int)).f0 = 1) ∨ (y' = y ∧ (x15 = 0 → ∀ q : Nat, q < l0.length → (rd_T43 y (q : Int)).f0 ≠ 1))) → Ev (fun k => laws_FnSuiteOnce.l0 k more (l0.length : Int) dn' rn' T (wrap64 (kk + 1)) l0 l1 l0 l1 0 y') true) :
    ∀ (d i : Nat), i + d = l0.length → (x15 = 0 → ∀ q : Nat, q < i → (rd_T43 y (q : Int)).f0 ≠ 1) → Ev (fun k => laws_FnSuiteOnce.l5 k more (l0.length : Int) dn rn T kk x15 (i : Int) l0 l1 l0 l1 0 y) true := by
  have hl := h.p.2.2.1
  have hn := h.p.1.1
  have hlr := h.lr
  intro d
  induction d with
  | zero =>
    intro i hi hno
    have hi' : i = l0.length := by omega
    subst hi'
    refine Ev.step (fun k => by simp only [laws_FnSuiteOnce.l5]; rw [if_neg (by omega)]) (next dn rn y h (.inr ⟨rfl, hno⟩))
  | succ d ih =>
    intro i hi hno
    have e1 : wrap64 ((i : Int) + wrap64 x15) = (i : Int) + x15 := by rw [w64 (n := x15) (by omega) (by omega), w64 (by omega) (by omega)]
    have hb := tmod_bd (v := (i : Int) + x15) (n := (l0.length : Int)) (by omega) (by omega)
    obtain ⟨a, hae⟩ : ∃ a : Nat, Int.tmod ((i : Int) + x15) (l0.length : Int) = (a : Int) := ⟨(Int.tmod ((i : Int) + x15) (l0.length : Int)).toNat, by rw [Int.toNat_of_nonneg hb.1]⟩
    rw [hae] at hb
    have ha : a < l0.length := by have := hb.2; omega
    have ew : wrap64 ((i : Int) + 1) = ((i + 1 : Nat) : Int) := by rw [w64 (by omega) (by omega)]; rfl
    have hz : x15 = 0 → a = i := fun e => by
      rw [e, Int.add_zero, Int.tmod_eq_of_lt (by omega) (by omega)] at hae
      omega
    clear hb
    by_cases c : rdOf false rn (a : Int) = true
    · have h1 := (h.r a ha).mp c
      have go : ∀ good : Bool, (kk ≥ 60 → good = true) → Ev (fun k => laws_FnSuiteOnce.j10 k more (l0.length : Int) dn rn T kk (a : Int) good l0 l1 l0 l1 0 y) true := fun good hg =>
        j10_ev more T kk h a ha h1 good (fun dn' rn' y' hO hw => next dn' rn' y' hO (.inl ⟨fun z => hw (hg z), a, by omega, h1⟩))
      by_cases c2 : kk ≥ 60
      · refine Ev.step (fun k => ?_) (go true (fun _ => rfl))
        simp only [laws_FnSuiteOnce.l5, e1, hae]
        rw [if_pos (by omega), if_neg (by omega), if_pos (by omega), if_pos (by omega), if_pos c, if_pos c2]
      · refine Ev.step (fun k => ?_) (go ((Int.tmod x15 3) != 0) (fun z => absurd z c2))
        simp only [laws_FnSuiteOnce.l5, e1, hae]
        rw [if_pos (by omega), if_neg (by omega), if_pos (by omega), if_pos (by omega), if_pos c, if_neg c2]
    · refine Ev.step (fun k => ?_) (ih (i + 1) (by omega) (fun e q hq => ?_))
      · simp only [laws_FnSuiteOnce.l5, e1, hae, ew]
        rw [if_pos (by omega), if_neg (by omega), if_pos (by omega), if_pos (by omega), if_neg c]
      · by_cases c3 : q = i
        · have := hz e
          subst c3
          subst this
          exact fun z => c ((h.r a ha).mpr z)
        · exact hno e q (by omega)

/-! ### one round: the groups -/
theorem l4_ev {l0 : List S39} {l1 : List Int} {dn : List Int} {rn : List Bool} {y : List S43} (more : List Int) (T kk x15 : Int) (h : OInv l0 l1 dn rn y) (g : Nat) (hg : g < l1.length)
    (cont : Ev (fun k => laws_FnSuiteOnce.l3 k more (l0.length : Int) dn rn T kk x15 ((g + 1 : Nat) : Int) l0 l1 l0 l1 0 y) true) :
    ∀ (d i : Nat), i + d = l0.length → Ev (fun k => laws_FnSuiteOnce.l4 k more (l0.length : Int) dn rn T kk x15 (g : Int) (cntG l0 y ((g : Int) + 1) i) (i : Int) l0 l1 l0 l1 0 y) true := by
  have hl := h.p.2.2.1
  have hn := h.p.1.1
  have hn1 := h.p.1.2.1
  have hlr := h.lr
  have eg : wrap64 ((g : Int) + 1) = (g : Int) + 1 := w64 (by omega) (by omega)
  intro d
  induction d with
  | zero =>
    intro i hi
    have hi' : i = y.length := by omega
    subst hi'
    have hm := h.p.2.2.2.2 g (Nat.zero_le _) hg
    refine Ev.step (fun k => ?_) cont
    simp only [laws_FnSuiteOnce.l4, eg]
    rw [if_neg (by omega), if_pos (by omega), if_pos (by omega), if_neg (by omega)]
    rfl
  | succ d ih =>
    intro i hi
    have hb := cntG_bd l0 y ((g : Int) + 1) i
    have ew : wrap64 ((i : Int) + 1) = ((i + 1 : Nat) : Int) := by rw [w64 (by omega) (by omega)]; rfl
    have ec : wrap64 (cntG l0 y ((g : Int) + 1) i + 1) = cntG l0 y ((g : Int) + 1) i + 1 := w64 (by omega) (by omega)
    have key := ih (i + 1) (by omega)
    simp only [cntG] at key
    by_cases c : rdOf false rn (i : Int) = true
    · have h1 := (h.r i (by omega)).mp c
      by_cases c2 : (rd_T39 l0 (i : Int)).f1 = (g : Int) + 1
      · rw [if_pos ⟨h1, c2⟩] at key
        refine Ev.step (fun k => ?_) key
        simp only [laws_FnSuiteOnce.l4, ew, ec, eg]
        rw [if_pos (by omega), if_pos (by omega), if_pos (by omega), if_pos c, if_pos (by omega), if_pos c2]
      · rw [if_neg (fun z => c2 z.2), Int.add_zero] at key
        refine Ev.step (fun k => ?_) key
        simp only [laws_FnSuiteOnce.l4, ew, ec, eg]
        rw [if_pos (by omega), if_pos (by omega), if_pos (by omega), if_pos c, if_pos (by omega), if_neg c2]
    · rw [if_neg (fun z => c ((h.r i (by omega)).mpr z.1)), Int.add_zero] at key
      refine Ev.step (fun k => ?_) key
      simp only [laws_FnSuiteOnce.l4, ew]
      rw [if_pos (by omega), if_pos (by omega), if_pos (by omega), if_neg c]
theorem l3_ev {l0 : List S39} {l1 : List Int} {dn : List Int} {rn : List Bool} {y : List S43} (more : List Int) (T kk x15 : Int) (h : OInv l0 l1 dn rn y)
    (cont : Ev (fun k => laws_FnSuiteOnce.l5 k more (l0.length : Int) dn rn T kk x15 0 l0 l1 l0 l1 0 y) true) :
    ∀ (d g : Nat), g + d = l1.length → Ev (fun k => laws_FnSuiteOnce.l3 k more (l0.length : Int) dn rn T kk x15 (g : Int) l0 l1 l0 l1 0 y) true := by
  intro d
  induction d with
  | zero =>
    intro g hg
    refine Ev.step (fun k => ?_) cont
    simp only [laws_FnSuiteOnce.l3]
    rw [if_neg (by omega)]
  | succ d ih =>
    intro g hg
    refine Ev.step (fun k => ?_) (l4_ev more T kk x15 h g (by omega) (ih (g + 1) (by omega)) l0.length 0 (by omega))
    simp only [laws_FnSuiteOnce.l3]
    rw [if_pos (by omega)]
    rfl

/-! ### one round: what begins -/
theorem l2_ev {l0 : List S39} {l1 : List Int} (more : List Int) (N T kk x15 x18 : Int) (dn : List Int) (rn : List Bool) (y : List S43) (bg a : List Int) (t : Nat) (ha : a.length ≤ 1048576) (ht : t < rn.length) (htb : t ≤ 1048576)
    (hf : ∀ z : Nat, z < a.length → ∃ p : Nat, wrap64 (rd a (z : Int) - 1) = (p : Int) ∧ p < dn.length ∧ rd dn (p : Int) ≠ 0)
    (cont : Ev (fun k => laws_FnSuiteOnce.l1 k more N dn (rn.set t true) T kk x15 bg (wrap64 (x18 + 1)) l0 l1 l0 l1 0 y) true) :
    ∀ (d j : Nat), j + d = a.length → Ev (fun k => laws_FnSuiteOnce.l2 k more N dn rn T kk x15 bg x18 ((t : Int) + 1) a (j : Int) l0 l1 l0 l1 0 y) true := by
  have et : wrap64 ((t : Int) + 1 - 1) = (t : Int) := by rw [w64 (by omega) (by omega)]; omega
  intro d
  induction d with
  | zero =>
    intro j hj
    refine Ev.step (fun k => ?_) cont
    simp only [laws_FnSuiteOnce.l2, et, Int.toNat_natCast]
    rw [if_neg (by omega), if_pos (by omega), if_pos (by omega)]
  | succ d ih =>
    intro j hj
    have ew : wrap64 ((j : Int) + 1) = ((j + 1 : Nat) : Int) := by rw [w64 (by omega) (by omega)]; rfl
    obtain ⟨p, hp, hpd, hne⟩ := hf j (by omega)
    refine Ev.step (fun k => ?_) (ih (j + 1) (by omega))
    simp only [laws_FnSuiteOnce.l2, hp, ew]
    rw [if_pos (by omega), if_pos (by omega), if_pos (by omega), if_pos (by omega), if_neg hne]
set_option maxHeartbeats 4000000 in
theorem l1_ev {l0 : List S39} {l1 : List Int} {dn : List Int} {x : List S43} (more : List Int) (T kk x15 : Int) (y : List S43) (hp : runP l0 l1 0 x) (hd : ∀ q : Nat, q < l0.length → rd dn (q : Int) = if (rd_T43 x (q : Int)).f0 = 2 then 1 else 0) (hld : dn.length = l0.length) (new : List Int) (hnd : new.Nodup) (hnl : new.length ≤ 1048576)
    (hnew : ∀ a ∈ new, ∃ q : Nat, q < x.length ∧ a = (q : Int) + 1 ∧ (rd_T43 x (q : Int)).f0 = 0 ∧ freeFrom x (rd_T39 l0 (q : Int)).f0 0)
    (cont : ∀ rn : List Bool, rn.length = l0.length → (∀ q : Nat, q < l0.length → (rdOf false rn (q : Int) = true ↔ ((rd_T43 x (q : Int)).f0 = 1 ∨ (q : Int) + 1 ∈ new))) → Ev (fun k => laws_FnSuiteOnce.l3 k more (l0.length : Int) dn rn T kk x15 0 l0 l1 l0 l1 0 y) true) :
    ∀ (d i : Nat) (rn : List Bool), i + d = new.length → rn.length = l0.length → (∀ q : Nat, q < l0.length → (rdOf false rn (q : Int) = true ↔ ((rd_T43 x (q : Int)).f0 = 1 ∨ (q : Int) + 1 ∈ new.take i))) → Ev (fun k => laws_FnSuiteOnce.l1 k more (l0.length : Int) dn rn T kk x15 new (i : Int) l0 l1 l0 l1 0 y) true := by
  have hl := hp.2.2.1
  have hn := hp.1.1
  intro d
  induction d with
  | zero =>
    intro i rn hi hlr hr
    have hi' : i = new.length := by omega
    subst hi'
    rw [List.take_length] at hr
    refine Ev.step (fun k => ?_) (cont rn hlr hr)
    simp only [laws_FnSuiteOnce.l1]
    rw [if_neg (by omega)]
  | succ d ih =>
    intro i rn hi hlr hr
    have hil : i < new.length := by omega
    obtain ⟨t, ht, hte, h0, hfr⟩ := hnew new[i] (List.getElem_mem hil)
    have hrd : rd new (i : Int) = (t : Int) + 1 := by rw [rd_lt new i hil]; exact hte
    have htl : t < l0.length := by omega
    have htk : new.take (i + 1) = new.take i ++ [(t : Int) + 1] := by rw [← hte]; exact (List.take_append_getElem hil).symm
    have hno : ((t : Int) + 1) ∉ new.take i := by
      have hs : (new.take (i + 1)).Nodup := hnd.sublist (List.take_sublist _ _)
      rw [htk, List.nodup_append] at hs
      intro hm
      exact hs.2.2 _ hm _ (List.mem_singleton.mpr rfl) rfl
    have o1 : (i : Int) < (new.length : Int) := by omega
    have o2 : (0 : Int) ≤ (i : Int) := by omega
    have o3 : ¬ ((t : Int) + 1 < 1) := by omega
    have o4 : ¬ ((t : Int) + 1 > (l0.length : Int)) := by omega
    have o5 : (0 : Int) ≤ (t : Int) := by omega
    have o6 : (t : Int) < (rn.length : Int) := by omega
    have o7 : (t : Int) < (dn.length : Int) := by omega
    have o8 : (t : Int) < (l0.length : Int) := by omega
    have et : wrap64 ((t : Int) + 1 - 1) = (t : Int) := by rw [w64 (by omega) (by omega)]; omega
    have ew : wrap64 ((i : Int) + 1) = ((i + 1 : Nat) : Int) := by rw [w64 (by omega) (by omega)]; rfl
    have hrt : ¬ rdOf false rn (t : Int) = true := fun z => by
      rcases (hr t htl).mp z with w | w
      · omega
      · exact hno w
    have hdt : rd dn (t : Int) = 0 := by rw [hd t htl, if_neg (by omega)]
    have ha := (runP_fits hp).s.n1 t htl
    have key := ih (i + 1) (rn.set t true) (by omega) (by rw [List.length_set]; exact hlr) (fun q hq => by
      rw [rdOf_set rn t q true (by omega), htk]
      by_cases c : q = t
      · subst c
        rw [if_pos rfl]
        exact ⟨fun _ => .inr (List.mem_append.mpr (.inr (List.mem_singleton.mpr rfl))), fun _ => rfl⟩
      · rw [if_neg c, hr q hq, List.mem_append, List.mem_singleton]
        constructor
        · rintro (w | w)
          · exact .inl w
          · exact .inr (.inl w)
        · rintro (w | w | w)
          · exact .inl w
          · exact .inr w
          · exact absurd (show q = t by omega) c)
    rw [← ew] at key
    have e2 := l2_ev more (l0.length : Int) T kk x15 (i : Int) dn rn y new (rd_T39 l0 (t : Int)).f0 t ha (by omega) (by omega) (fun z hz => by
      obtain ⟨p, hp1, hp2⟩ := after_at hp.1 hl t ht z hz
      have := hfr z (Nat.zero_le _) hz
      rw [hp1] at this
      exact ⟨p, by rw [w64 (by omega) (by omega)]; exact hp1, by omega, by rw [hd p (by omega), if_pos this]; decide⟩) key (rd_T39 l0 (t : Int)).f0.length 0 (by omega)
    refine Ev.step (f := fun k => laws_FnSuiteOnce.j5 k more (l0.length : Int) dn rn T kk x15 new (i : Int) ((t : Int) + 1) false l0 l1 l0 l1 0 y) (fun k => ?_) ?_
    · simp only [laws_FnSuiteOnce.l1, hrd, et]
      rw [if_pos o1, if_pos o2, if_neg o3, if_neg o4, if_pos o5, if_pos o6, if_neg hrt, if_pos o7, hdt, show decide ((0 : Int) > 0) = false from by decide]
    · refine Ev.step (fun k => ?_) e2
      simp only [laws_FnSuiteOnce.j5, et]
      rw [if_neg (by decide), if_pos o5, if_pos o8]
      rfl

/-! ### one round -/
theorem j3_ev {l0 : List S39} {l1 : List Int} {dn : List Int} {rn : List Bool} {x : List S43} (more : List Int) (T kk x15 : Int) (h : OInv l0 l1 dn rn x) (hx : 0 ≤ x15 ∧ x15 ≤ 255)
    (next : ∀ dn' rn' y', OInv l0 l1 dn' rn' y' → (kk ≥ 60 → x15 = 0 → Goes l0 l1 x y') → Ev (fun k => laws_FnSuiteOnce.l0 k more (l0.length : Int) dn' rn' T (wrap64 (kk + 1)) l0 l1 l0 l1 0 y') true) :
    Ev (fun k => laws_FnSuiteOnce.j3 k more (l0.length : Int) dn rn T kk x15 l0 l1 l0 l1 0 x) true := by
  have hl := h.p.2.2.1
  have hn := h.p.1.1
  by_cases c : x15 ≥ 240
  · have eC := implCrash_ev l0 l1 0 x (runP_fits h.p)
    unfold crashRun at eC
    rw [if_pos (dec_true h.p)] at eC
    refine Ev.step (f := fun k => (impl_CrashRun.f k l0 l1 0 x).bind fun bt => if 0 ≤ (l0.length : Int) then (if ((l0.length : Int) : Int).toNat ≤ 281474976710656 then laws_FnSuiteOnce.l0 k more (l0.length : Int) dn (List.replicate ((l0.length : Int) : Int).toNat false) T (wrap64 (kk + 1)) l0 l1 bt.1 bt.2.1 bt.2.2.1 bt.2.2.2 else none) else none) (fun k => by simp only [laws_FnSuiteOnce.j3]; rw [if_pos c]) (Ev_bind _ eC ?_)
    simp only [if_pos (show (0 : Int) ≤ (l0.length : Int) by omega), Int.toNat_natCast, if_pos (show l0.length ≤ 281474976710656 by omega)]
    refine next _ _ _ ⟨runP_crash h.p, h.ld, List.length_replicate, fun q hq => ?_, fun q hq => ?_⟩ (fun _ e => by omega)
    · rw [rd_crash x q (by omega)]
      constructor
      · intro z
        unfold rdOf at z
        rw [Int.toNat_natCast, List.getD_eq_getElem?_getD, List.getElem?_replicate] at z
        split at z <;> simp at z
      · intro z; exact absurd z (crash_ne _)
    · rw [rd_crash x q (by omega), h.d q hq]
      by_cases c2 : (rd_T43 x (q : Int)).f0 = 2
      · rw [if_pos c2, if_pos ((crash2 _).mpr c2)]
      · rw [if_neg c2, if_neg (fun z => c2 ((crash2 _).mp z))]
  · have eS := implStart_ev l0 l1 0 x (runP_fits h.p)
    unfold startRun at eS
    rw [if_pos (dec_true h.p)] at eS
    obtain ⟨r1, r2, new, e1, e2, e3, e4⟩ := startL_inv (l0 := l0) (l1 := l1) x.length 0 x [] (by omega) h.p
    have hnone := startL_none l0 l1 x.length 0 x []
    have hquiet := startL_quiet l0 l1 x.length 0 x []
    have hlen := (startL_len l0 l1 x.length 0 x []).2
    generalize startL l0 l1 x.length 0 x [] = P at eS r1 r2 e1 e2 hnone hquiet hlen
    obtain ⟨y, b⟩ := P
    simp only [List.nil_append] at e1 r1 r2 e2 hlen
    subst e1
    refine Ev.step (f := fun k => (impl_StartTasks.f k l0 l1 0 x).bind fun bt => laws_FnSuiteOnce.l1 k more (l0.length : Int) dn rn T kk x15 bt.2.2.2.2 0 l0 l1 bt.1 bt.2.1 bt.2.2.1 bt.2.2.2.1) (fun k => by simp only [laws_FnSuiteOnce.j3]; rw [if_neg c]) (Ev_bind _ eS ?_)
    refine l1_ev more T kk x15 y h.p h.d h.ld b e4 (by simp at hlen; omega) (fun a ha => by obtain ⟨q, _, q2⟩ := e3 a ha; exact ⟨q, q2⟩) (fun rn' hlr' hr' => ?_) b.length 0 rn (by omega) h.lr (fun q hq => by rw [h.r q hq]; simp)
    have hmem : ∀ q : Nat, q < x.length → ((q : Int) + 1) ∈ b → (rd_T43 x (q : Int)).f0 = 0 := fun q hq hm => by
      obtain ⟨p, _, _, p3, p4, _⟩ := e3 _ hm
      rw [show q = p by omega]; exact p4
    have hO : OInv l0 l1 dn rn' y := by
      refine ⟨r1, h.ld, hlr', fun q hq => ?_, fun q hq => ?_⟩
      · rw [hr' q hq, e2 q (by omega)]
        by_cases c2 : ((q : Int) + 1) ∈ b
        · rw [if_pos c2]; exact ⟨fun _ => rfl, fun _ => .inr c2⟩
        · rw [if_neg c2]; exact ⟨fun z => z.resolve_right c2, .inl⟩
      · rw [h.d q hq, e2 q (by omega)]
        by_cases c2 : ((q : Int) + 1) ∈ b
        · rw [if_pos c2, if_neg (by have := hmem q (by omega) c2; omega), if_neg (by decide)]
        · rw [if_neg c2]
    refine l3_ev more T kk x15 hO (l5_ev more T kk x15 hO hx (fun dn' rn' y' hO' halt => next dn' rn' y' hO' (fun hk hz => ?_)) l0.length 0 (by omega) (fun _ q hq => by omega)) l1.length 0 (by omega)
    have hwx : wC y y.length = wC x x.length := by
      rw [r2]
      refine wC_congr y x x.length (fun q hq => ?_)
      rw [e2 q hq]
      by_cases c2 : ((q : Int) + 1) ∈ b
      · rw [if_pos c2]; exact ⟨fun _ => .inl (hmem q hq c2), fun _ => .inr rfl⟩
      · rw [if_neg c2]
    rcases halt with ⟨hw, q, hq, hq1⟩ | ⟨rfl, hno⟩
    · refine .inl ⟨by rw [← hwx]; have := hw hk; omega, fun hQ => ?_⟩
      have := hquiet (fun p p1 p2 => hQ.2 p (by omega))
      injection this with e5 e6
      subst e5
      exact hQ.1 q hq hq1
    · have hno' := hno hz
      have hb : b = [] := by
        cases b with
        | nil => rfl
        | cons a b' =>
          obtain ⟨p, _, p2, p3, _⟩ := e3 a (List.mem_cons_self)
          have := e2 p p2
          rw [if_pos (by rw [← p3]; exact List.mem_cons_self)] at this
          exact absurd this (hno' p (by omega))
      obtain ⟨e5, e6⟩ := hnone (by rw [hb])
      injection e5 with e7 e8
      subst e7
      exact .inr ⟨fun q hq => hno' q (by omega), fun q hq => e6 q (Nat.zero_le _) (by omega)⟩

/-! ### all rounds -/
theorem good_ev {l0 : List S39} {l1 : List Int} (more : List Int) : ∀ (d : Nat) (dn : List Int) (rn : List Bool) (x : List S43), OInv l0 l1 dn rn x → d ≤ 4 * l0.length → (wC x x.length ≤ d ∨ Quiet l0 l1 x) →
    Ev (fun k => laws_FnSuiteOnce.l0 k more (l0.length : Int) dn rn (60 + 4 * (l0.length : Int)) (60 + 4 * (l0.length : Int) - (d : Int)) l0 l1 l0 l1 0 x) true := by
  intro d
  induction d with
  | zero =>
    intro dn rn x h hd hw
    have hq : Quiet l0 l1 x := by
      rcases hw with hw | hw
      · have none : ∀ q : Nat, q < x.length → ¬ ((rd_T43 x (q : Int)).f0 = 0 ∨ (rd_T43 x (q : Int)).f0 = 1) := by
          have key : ∀ n : Nat, wC x n = 0 → ∀ q : Nat, q < n → ¬ ((rd_T43 x (q : Int)).f0 = 0 ∨ (rd_T43 x (q : Int)).f0 = 1) := by
            intro n
            induction n with
            | zero => intro _ q hq; omega
            | succ n ih =>
              intro hz q hq hc
              simp only [wC] at hz
              by_cases c : q = n
              · subst c; rw [if_pos hc] at hz; omega
              · exact ih (by omega) q (by omega) hc
          exact key x.length (by omega)
        exact ⟨fun q hq z => none q hq (.inr z), fun q hq z => none q hq (.inl z.1)⟩
      · exact hw
    simp only [Int.natCast_zero, Int.sub_zero]
    exact last_ev more h hq _
  | succ d ih =>
    intro dn rn x h hd hw
    have hn := h.p.1.1
    have e3 := j3_ev more (60 + 4 * (l0.length : Int)) (60 + 4 * (l0.length : Int) - ((d + 1 : Nat) : Int)) 0 h ⟨by omega, by omega⟩ (fun dn' rn' y' hO hg => by
      have hg := hg (by omega) rfl
      have ew : wrap64 (60 + 4 * (l0.length : Int) - ((d + 1 : Nat) : Int) + 1) = 60 + 4 * (l0.length : Int) - (d : Int) := by rw [w64 (by omega) (by omega)]; omega
      rw [ew]
      refine ih dn' rn' y' hO (by omega) ?_
      rcases hg with ⟨g1, g2⟩ | g
      · rcases hw with hw | hw
        · exact .inl (by omega)
        · exact absurd hw g2
      · exact .inr g)
    refine Ev.step (f := fun k => laws_FnSuiteOnce.j2 k more (l0.length : Int) dn rn (60 + 4 * (l0.length : Int)) (60 + 4 * (l0.length : Int) - ((d + 1 : Nat) : Int)) 0 false l0 l1 l0 l1 0 x) (fun k => ?_) ?_
    · simp only [laws_FnSuiteOnce.l0]
      rw [if_pos (by omega), decide_eq_false (by omega)]
      split <;> rfl
    · refine Ev.step (fun k => ?_) e3
      simp only [laws_FnSuiteOnce.j2, Bool.false_eq_true, if_false]
      rw [if_neg (by omega)]
theorem first_ev {l0 : List S39} {l1 : List Int} (more : List Int) (hm : ∀ q : Nat, q < more.length → 0 ≤ rd more (q : Int) ∧ rd more (q : Int) ≤ 255) : ∀ (d i : Nat) (dn : List Int) (rn : List Bool) (x : List S43), i + d = 60 → OInv l0 l1 dn rn x →
    Ev (fun k => laws_FnSuiteOnce.l0 k more (l0.length : Int) dn rn (60 + 4 * (l0.length : Int)) (i : Int) l0 l1 l0 l1 0 x) true := by
  intro d
  induction d with
  | zero =>
    intro i dn rn x hi h
    have hn := h.p.1.1
    have hl := h.p.2.2.1
    have := good_ev more (4 * l0.length) dn rn x h (Nat.le_refl _) (.inl (by have := wC_le x x.length; omega))
    rw [show 60 + 4 * (l0.length : Int) - ((4 * l0.length : Nat) : Int) = (i : Int) by omega] at this
    exact this
  | succ d ih =>
    intro i dn rn x hi h
    have hn := h.p.1.1
    have hl := h.p.2.2.1
    by_cases c : (i : Int) < (more.length : Int)
    · have hb := hm i (by omega)
      have e3 := j3_ev more (60 + 4 * (l0.length : Int)) (i : Int) (rd more (i : Int)) h hb (fun dn' rn' y' hO _ => by
        have ew : wrap64 ((i : Int) + 1) = ((i + 1 : Nat) : Int) := by rw [w64 (by omega) (by omega)]; rfl
        rw [ew]
        exact ih (i + 1) dn' rn' y' (by omega) hO)
      refine Ev.step (f := fun k => laws_FnSuiteOnce.j2 k more (l0.length : Int) dn rn (60 + 4 * (l0.length : Int)) (i : Int) 0 true l0 l1 l0 l1 0 x) (fun k => ?_) ?_
      · simp only [laws_FnSuiteOnce.l0]
        rw [if_pos (by omega), if_pos c, decide_eq_true (by omega)]
      · refine Ev.step (fun k => ?_) e3
        simp only [laws_FnSuiteOnce.j2, if_true]
        rw [if_pos (by omega), if_pos c]
    · have e3 := j3_ev more (60 + 4 * (l0.length : Int)) 60 0 h ⟨by omega, by omega⟩ (fun dn' rn' y' hO _ => by
        have := good_ev more (4 * l0.length - 1) dn' rn' y' hO (by omega) (.inl (by have := wC_le y' y'.length; have := hO.p.2.2.1; omega))
        rw [show 60 + 4 * (l0.length : Int) - ((4 * l0.length - 1 : Nat) : Int) = wrap64 (60 + 1) by rw [w64 (by omega) (by omega)]; omega] at this
        exact this)
      refine Ev.step (f := fun k => laws_FnSuiteOnce.j2 k more (l0.length : Int) dn rn (60 + 4 * (l0.length : Int)) (i : Int) 0 false l0 l1 l0 l1 0 x) (fun k => ?_) ?_
      · simp only [laws_FnSuiteOnce.l0]
        rw [if_pos (by omega), if_neg c]
      · refine Ev.step (fun k => ?_) e3
        simp only [laws_FnSuiteOnce.j2, Bool.false_eq_true, if_false]
        rw [if_pos (by omega)]

theorem Pure.FnSuiteOnce : FnSuiteOnce_Pure := by
  intro c m w0 w1
  refine Ev.rounds (g := fun k => laws_FnSuiteOnce.f k c m) ?_
  have big : Ev (fun k => laws_FnSuiteOnce.j0 k c m true) true := Ev.step (f := fun _ => some true) (fun k => by simp only [laws_FnSuiteOnce.j0, if_true]) (Ev.now _)
  unfold laws_FnSuiteOnce.f laws_big.f
  simp only [Option.bind_some]
  by_cases b1 : (c.length : Int) > 1048576
  · simp only [decide_eq_true b1, if_true]; exact big
  simp only [decide_eq_false b1, Bool.false_eq_true, if_false]
  by_cases b2 : (m.length : Int) > 1048576
  · simp only [decide_eq_true b2]; exact big
  simp only [decide_eq_false b2]
  obtain ⟨l0, l1, p', ed, hf⟩ := drawSuite_ev c 0 (rdOk_start (by omega) (fun x hx => w0.2 x hx))
  have eD : Ev (fun k => spec_DrawNewRun.f k c) (l0, l1) := by
    unfold spec_DrawNewRun.f spec_l1Open.f
    simp only [Option.bind_some]
    exact Ev_bind _ ed (Ev.now _)
  have eS := specNew_ev l0 l1 hf
  have eI := implNew_ev l0 l1 hf
  by_cases hs : suiteOk l0 l1
  · have hn := hs.1
    have hnew := (specNewP_ev l0 l1 hf hs).2
    unfold newRun at eS eI
    rw [if_pos (dec_true hs)] at eS eI
    refine Ev.step (fun k => by simp only [laws_FnSuiteOnce.j0, Bool.false_eq_true, if_false]; rfl) ?_
    refine Ev_bind _ eD (Ev_bind _ eS (Ev_bind _ eI ?_))
    simp only [bne_self_eq_false, Bool.false_eq_true, if_false, if_true, if_pos (show (0 : Int) ≤ (l0.length : Int) by omega), Int.toNat_natCast, if_pos (show l0.length ≤ 35184372088832 by omega), if_pos (show l0.length ≤ 281474976710656 by omega)]
    rw [w64 (n := 4 * (l0.length : Int)) (by omega) (by omega), w64 (n := 60 + 4 * (l0.length : Int)) (by omega) (by omega)]
    refine first_ev m (fun q hq => ?_) 60 0 _ _ _ (by omega) ⟨hnew, List.length_replicate, List.length_replicate, fun q hq => ?_, fun q hq => ?_⟩
    · rw [rd_lt m q hq]; exact wfU8_range (w1.2 _ (List.getElem_mem hq))
    · rw [rdT43 _ q (by rw [List.length_replicate]; exact hq), List.getElem_replicate]
      unfold rdOf
      rw [Int.toNat_natCast, List.getD_eq_getElem?_getD, List.getElem?_replicate, if_pos hq]
      exact ⟨fun z => (by cases z), fun z => (by cases z)⟩
    · rw [rdT43 _ q (by rw [List.length_replicate]; exact hq), List.getElem_replicate, rd_lt _ q (by rw [List.length_replicate]; exact hq), List.getElem_replicate]
      rfl
  · unfold newRun at eS eI
    rw [if_neg (fun z => by rw [dec_false hs] at z; cases z)] at eS eI
    refine Ev.step (fun k => by simp only [laws_FnSuiteOnce.j0, Bool.false_eq_true, if_false]; rfl) ?_
    refine Ev_bind _ eD (Ev_bind _ eS (Ev_bind _ eI ?_))
    simp only [bne_self_eq_false, Bool.false_eq_true, if_false]
    exact Ev.now _
end Go.Proofs.Ytjoghfehmhapbaa.QFnSuiteOnce
