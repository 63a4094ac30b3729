/- Suites, plainly: how big one is, its copy, what a good one is (both ways of asking), that copies are alike. -/
import Derived.Test.YtjoghfehmhapbaaSumLib
import Derived.Test.YtjoghfehmhapbaaQFnExactStuckx14
import Derived.Test.YtjoghfehmhapbaaQFnExactStuckx12
import Derived.Test.YtjoghfehmhapbaaMarksFnExactStuck
set_option linter.unusedVariables false
set_option linter.unusedSimpArgs false
namespace Go.Proofs.Ytjoghfehmhapbaa.QFnExactStuck
open Go.RowKit Go.Proofs.YtjoghfehmhapbaaW.PrintWords Go.Proofs.Ytjoghfehmhapbaa.Opn Go.Proofs.Ytjoghfehmhapbaa.Pl

noncomputable def dec_ (p : Prop) : Bool := @decide p (Classical.propDecidable p)
theorem dec_iff {p q : Prop} (h : p ↔ q) : dec_ p = dec_ q := by rw [propext h]
theorem dec_true {p : Prop} (h : p) : dec_ p = true := by unfold dec_; exact @decide_eq_true p (Classical.propDecidable p) h
theorem dec_false {p : Prop} (h : ¬ p) : dec_ p = false := by unfold dec_; exact @decide_eq_false p (Classical.propDecidable p) h
theorem rdT39 (l : List S39) (i : Nat) (h : i < l.length) : rd_T39 l (i : Int) = l[i] := getD_lt l z39 i h
theorem rdT110 (l : List S110) (i : Nat) (h : i < l.length) : rd_T110 l (i : Int) = l[i] := getD_lt l z110 i h
theorem rdT43 (l : List S43) (i : Nat) (h : i < l.length) : rd_T43 l (i : Int) = l[i] := getD_lt l z43 i h

/-! ### size -/
theorem szI (l : List Int) (a : Int) (h0 : 0 ≤ a) (ha : a ≤ 1048576) (hl : l.length ≤ 9223372036854775807) : ∃ r, laws_szInt64S.f l a = some r ∧ (r < 0 ∨ (0 ≤ r ∧ r ≤ a ∧ (l.length : Int) ≤ a)) := by
  have e : wrap64 (a - (l.length : Int)) = a - l.length := w64 (by omega) (by omega)
  unfold laws_szInt64S.f
  rw [e]
  by_cases c : a - (l.length : Int) < 0
  · rw [if_pos c]; exact ⟨_, rfl, .inl (by omega)⟩
  · rw [if_neg c]; exact ⟨_, rfl, .inr ⟨by omega, by omega, by omega⟩⟩
theorem szTs (l : List S110) (hl : l.length ≤ 9223372036854775807) (hn : ∀ i (h : i < l.length), l[i].f0.length ≤ 9223372036854775807) : ∀ (d i : Nat) (a : Int), i + d = l.length → 0 ≤ a → a ≤ 1048576 →
    ∃ r, Ev (fun k => laws_szTaskS.l0 k l a (i : Int)) r ∧ (r < 0 ∨ (0 ≤ r ∧ r ≤ a ∧ ∀ q : Nat, i ≤ q → q < l.length → (rd_T110 l (q : Int)).f0.length ≤ 1048576)) := by
  intro d
  induction d with
  | zero =>
    intro i a hi h0 ha
    refine ⟨a, Ev.step (f := fun _ => some a) (fun k => ?_) (Ev.now _), .inr ⟨h0, by omega, fun q h1 h2 => by omega⟩⟩
    simp only [laws_szTaskS.l0]
    rw [if_neg (by omega)]
  | succ d ih =>
    intro i a hi h0 ha
    have hil : i < l.length := by omega
    obtain ⟨r, hr, hc⟩ := szI (rd_T110 l (i : Int)).f0 a h0 ha (by rw [rdT110 l i hil]; exact hn i hil)
    have e1 : (laws_szTask.f (rd_T110 l (i : Int)).f0 (rd_T110 l (i : Int)).f1 (rd_T110 l (i : Int)).f2 (rd_T110 l (i : Int)).f3 a) = (if r < 0 then some (-1) else some r) := by
      unfold laws_szTask.f; rw [hr, Option.bind_some]
    rcases hc with hc | ⟨c0, c1, c2⟩
    · refine ⟨-1, Ev.step (f := fun _ => some (-1)) (fun k => ?_) (Ev.now _), .inl (by omega)⟩
      simp only [laws_szTaskS.l0]
      rw [if_pos (by omega), if_pos (by omega), e1, if_pos hc, Option.bind_some, if_pos (by omega)]
    · obtain ⟨s, hs, hq⟩ := ih (i + 1) r (by omega) c0 (by omega)
      refine ⟨s, Ev.step (fun k => ?_) hs, ?_⟩
      · simp only [laws_szTaskS.l0]
        rw [if_pos (by omega), if_pos (by omega), e1, if_neg (by omega), Option.bind_some, if_neg (by omega), w64 (n := (i : Int) + 1) (by omega) (by omega)]
        rfl
      · rcases hq with hq | ⟨q0, q1, q2⟩
        · exact .inl hq
        · refine .inr ⟨q0, by omega, fun q h1 h2 => ?_⟩
          by_cases e : q = i
          · subst e; omega
          · exact q2 q (by omega) h2
structure Small (l0 : List S110) (l1 : List Int) : Prop where
  n0 : l0.length ≤ 1048576
  n1 : ∀ q : Nat, q < l0.length → (rd_T110 l0 (q : Int)).f0.length ≤ 1048576
  n2 : l1.length ≤ 1048576
theorem szSuite_ev2 (l0 : List S110) (l1 : List Int) (h0 : l0.length ≤ 9223372036854775807) (hn : ∀ i (h : i < l0.length), l0[i].f0.length ≤ 9223372036854775807) (h1 : l1.length ≤ 9223372036854775807) : ∃ r, Ev (fun k => laws_szSuite.f k l0 l1 1048576) r ∧ (r < 0 ∨ (Small l0 l1 ∧ 0 ≤ r ∧ r ≤ 1048576)) := by
  unfold laws_szSuite.f laws_szTaskS.f
  have e : wrap64 (1048576 - (l0.length : Int)) = 1048576 - l0.length := w64 (by omega) (by omega)
  rw [e]
  by_cases c : (1048576 : Int) - (l0.length : Int) < 0
  · simp only [if_pos c, Option.bind_some]
    exact ⟨_, Ev.now _, .inl (by omega)⟩
  simp only [if_neg c]
  obtain ⟨r, hr, hc⟩ := szTs l0 h0 hn l0.length 0 (1048576 - (l0.length : Int)) (by omega) (by omega) (by omega)
  rcases hc with hc | ⟨c0, c1, c2⟩
  · refine ⟨-1, Ev_bind r hr ?_, .inl (by omega)⟩
    simp only [if_pos hc]
    exact Ev.now _
  obtain ⟨s, hs, hd⟩ := szI l1 r c0 (by omega) h1
  rcases hd with hd | ⟨d0, d1, d2⟩
  · refine ⟨-1, Ev_bind r hr ?_, .inl (by omega)⟩
    simp only [if_neg (show ¬ r < 0 by omega), hs, Option.bind_some, if_pos hd]
    exact Ev.now _
  · refine ⟨s, Ev_bind r hr ?_, .inr ⟨⟨by omega, fun q hq => c2 q (Nat.zero_le _) hq, by omega⟩, by omega, by omega⟩⟩
    simp only [if_neg (show ¬ r < 0 by omega), hs, Option.bind_some, if_neg (show ¬ s < 0 by omega)]
    exact Ev.now _
theorem szSuite_ev (l0 : List S110) (l1 : List Int) (h0 : l0.length ≤ 9223372036854775807) (hn : ∀ i (h : i < l0.length), l0[i].f0.length ≤ 9223372036854775807) (h1 : l1.length ≤ 9223372036854775807) : ∃ r, Ev (fun k => laws_szSuite.f k l0 l1 1048576) r ∧ (r < 0 ∨ Small l0 l1) := by
  obtain ⟨r, h, c⟩ := szSuite_ev2 l0 l1 h0 hn h1
  exact ⟨r, h, c.imp id And.left⟩

/-! ### the copy -/
theorem toI_ev (l : List Int) (hl : l.length ≤ 1048576) : Ev (fun k => laws_toInt64S.f k l) l := by
  unfold laws_toInt64S.f
  simp only [if_pos (show (0 : Int) ≤ (l.length : Int) by omega), Int.toNat_natCast, if_pos (show l.length ≤ 35184372088832 by omega)]
  have key := Ev_up (fun k i => laws_toInt64S.l0 k l (l.take i ++ (List.replicate l.length (0 : Int)).drop i) (i : Int)) (fun _ => l) l.length (by
      refine Ev.step (f := fun _ => some l) (fun k => ?_) (Ev.now _)
      simp only [laws_toInt64S.l0]
      rw [if_neg (by omega)]
      simp) (by
      intro i hi ih
      refine Ev.step (fun k => ?_) ih
      simp only [laws_toInt64S.l0]
      rw [if_pos (by omega), if_pos (by omega), if_pos (by simp; omega), w64 (n := (i : Int) + 1) (by omega) (by omega), Int.toNat_natCast, rd_lt l i hi, set_take_drop (List.replicate l.length 0) l i hi (by simp)]
      rfl) 0 (Nat.zero_le _)
  simpa using key
def toT (x : S110) : S39 := ⟨x.f0, x.f1, x.f2, x.f3⟩
theorem toTs_ev (l : List S110) (hl : l.length ≤ 1048576) (hn : ∀ q : Nat, q < l.length → (rd_T110 l (q : Int)).f0.length ≤ 1048576) : Ev (fun k => laws_toTaskS.f k l) (l.map toT) := by
  unfold laws_toTaskS.f
  simp only [if_pos (show (0 : Int) ≤ (l.length : Int) by omega), Int.toNat_natCast, if_pos (show l.length ≤ 5864062014805 by omega)]
  have key := Ev_up (fun k i => laws_toTaskS.l0 k l ((l.map toT).take i ++ (List.replicate l.length z39).drop i) (i : Int)) (fun _ => l.map toT) l.length (by
      refine Ev.step (f := fun _ => some (l.map toT)) (fun k => ?_) (Ev.now _)
      simp only [laws_toTaskS.l0]
      rw [if_neg (by omega)]
      simp
      exact List.take_of_length_le (by simp)) (by
      intro i hi ih
      refine Ev.step (f := fun k => (laws_toInt64S.f k (rd_T110 l (i : Int)).f0).bind fun t => laws_toTaskS.l0 k l (((l.map toT).take i ++ (List.replicate l.length z39).drop i).set i ⟨t, (rd_T110 l (i : Int)).f1, (rd_T110 l (i : Int)).f2, (rd_T110 l (i : Int)).f3⟩) ((i + 1 : Nat) : Int)) (fun k => ?_) ?_
      · simp only [laws_toTaskS.l0, laws_toTask.f]
        rw [if_pos (by omega), if_pos (by omega)]
        cases laws_toInt64S.f k (rd_T110 l (i : Int)).f0 with
        | none => rfl
        | some t =>
          simp only [Option.bind_some]
          rw [if_pos (by simp; omega), w64 (n := (i : Int) + 1) (by omega) (by omega), Int.toNat_natCast]
          rfl
      · refine Ev_bind _ (toI_ev _ (hn i hi)) ?_
        have e := set_take_drop (List.replicate l.length z39) (l.map toT) i (by simpa using hi) (by simp)
        rw [show (⟨(rd_T110 l (i : Int)).f0, (rd_T110 l (i : Int)).f1, (rd_T110 l (i : Int)).f2, (rd_T110 l (i : Int)).f3⟩ : S39) = (l.map toT)[i]'(by simpa using hi) by rw [rdT110 l i hi, List.getElem_map]; rfl, e]
        exact ih) 0 (Nat.zero_le _)
  simpa using key
theorem toSuite_ev {l0 : List S110} {l1 : List Int} (h : Small l0 l1) : Ev (fun k => laws_toSuite.f k l0 l1) (l0.map toT, l1) := by
  unfold laws_toSuite.f
  exact Ev_bind _ (toTs_ev l0 h.n0 h.n1) (Ev_bind _ (toI_ev l1 h.n2) (Ev.now _))
/-- A suite of numbers that fit. -/
structure Fits (l0 : List S39) (l1 : List Int) : Prop where
  n0 : l0.length ≤ 1048576
  n1 : ∀ q : Nat, q < l0.length → (rd_T39 l0 (q : Int)).f0.length ≤ 1048576
  n2 : l1.length ≤ 1048576
theorem Small.fits {l0 : List S110} {l1 : List Int} (h : Small l0 l1) : Fits (l0.map toT) l1 := by
  refine ⟨by simpa using h.n0, fun q hq => ?_, h.n2⟩
  have hq' : q < l0.length := by simpa using hq
  have := h.n1 q hq'
  rw [rdT110 l0 q hq'] at this
  rw [rdT39 _ q hq, List.getElem_map]
  exact this

/-! ### alike -/
theorem eqI_ev (l : List Int) (hl : l.length ≤ 1048576) : Ev (fun k => laws_eqInt64S.f k l l) true := by
  unfold laws_eqInt64S.f
  simp only [if_true]
  exact Ev_up (fun k i => laws_eqInt64S.l0 k l l (i : Int)) (fun _ => true) l.length (by
      refine Ev.step (f := fun _ => some true) (fun k => ?_) (Ev.now _)
      simp only [laws_eqInt64S.l0]
      rw [if_neg (by omega)]) (by
      intro i hi ih
      refine Ev.step (fun k => ?_) ih
      simp only [laws_eqInt64S.l0]
      rw [if_pos (by omega), if_pos (by omega), if_pos (by omega), if_pos True.intro, w64 (n := (i : Int) + 1) (by omega) (by omega)]
      rfl) 0 (Nat.zero_le _)
theorem eqTs_ev (l : List S39) (hl : l.length ≤ 1048576) (hn : ∀ q : Nat, q < l.length → (rd_T39 l (q : Int)).f0.length ≤ 1048576) : Ev (fun k => laws_eqTaskS.f k l l) true := by
  unfold laws_eqTaskS.f
  simp only [if_true]
  exact Ev_up (fun k i => laws_eqTaskS.l0 k l l (i : Int)) (fun _ => true) l.length (by
      refine Ev.step (f := fun _ => some true) (fun k => ?_) (Ev.now _)
      simp only [laws_eqTaskS.l0]
      rw [if_neg (by omega)]) (by
      intro i hi ih
      refine Ev.step (f := fun k => (laws_eqInt64S.f k (rd_T39 l (i : Int)).f0 (rd_T39 l (i : Int)).f0).bind fun t => if t = true then laws_eqTaskS.l0 k l l ((i + 1 : Nat) : Int) else some false) (fun k => ?_) ?_
      · simp only [laws_eqTaskS.l0, laws_eqTask.f]
        rw [if_pos (by omega), if_pos (by omega), if_pos (by omega), w64 (n := (i : Int) + 1) (by omega) (by omega)]
        cases laws_eqInt64S.f k (rd_T39 l (i : Int)).f0 (rd_T39 l (i : Int)).f0 with
        | none => rfl
        | some t => cases t <;> simp
      · refine Ev_bind _ (eqI_ev _ (hn i hi)) ?_
        simp only [if_true]
        exact ih) 0 (Nat.zero_le _)
theorem eqSuite_ev {l0 : List S39} {l1 : List Int} (h : Fits l0 l1) : Ev (fun k => laws_eqSuite.f k l0 l1 l0 l1) true := by
  unfold laws_eqSuite.f
  refine Ev_bind _ (eqTs_ev l0 h.n0 h.n1) ?_
  simp only [if_true]
  refine Ev_bind _ (eqI_ev l1 h.n2) ?_
  simp only [if_true]
  exact Ev.now _
theorem eqJs_ev (l : List S43) (hl : l.length ≤ 1048576) : Ev (fun k => laws_eqJobS.f k l l) true := by
  unfold laws_eqJobS.f
  simp only [if_true]
  exact Ev_up (fun k i => laws_eqJobS.l0 k l l (i : Int)) (fun _ => true) l.length (by
      refine Ev.step (f := fun _ => some true) (fun k => ?_) (Ev.now _)
      simp only [laws_eqJobS.l0]
      rw [if_neg (by omega)]) (by
      intro i hi ih
      refine Ev.step (fun k => ?_) ih
      simp only [laws_eqJobS.l0, laws_eqJob.f, if_true, Option.bind_some]
      rw [if_pos (by omega), if_pos (by omega), if_pos (by omega), w64 (n := (i : Int) + 1) (by omega) (by omega)]
      rfl) 0 (Nat.zero_le _)
theorem eqRun_ev {l0 : List S39} {l1 : List Int} (h : Fits l0 l1) (n : Int) (l3 : List S43) (h3 : l3.length ≤ 1048576) : Ev (fun k => laws_eqRun.f k l0 l1 n l3 l0 l1 n l3) true := by
  unfold laws_eqRun.f
  refine Ev_bind _ (eqSuite_ev h) ?_
  simp only [if_true]
  refine Ev_bind _ (eqJs_ev l3 h3) ?_
  simp only [if_true]
  exact Ev.now _

/-! ### marks -/
theorem rd_set (l : List Int) (i q : Nat) (v : Int) (hq : q < l.length) : rd (l.set i v) (q : Int) = if i = q then v else rd l (q : Int) := by
  rw [rd_lt _ q (by simpa using hq), rd_lt l q hq, List.getElem_set]
theorem markI_ev (n : Nat) (a : Int) (ha : 0 ≤ a) (hb : a + n ≤ 9223372036854775806) : ∀ (d i : Nat) (x : List Int), i + d = n → x.length = n → (∀ q : Nat, q < i → rd x (q : Int) = a + q) →
    ∃ y, Ev (fun k => laws_markInt64S.l0 k x (a + (i : Int)) (i : Int)) (a + (n : Int), y) ∧ y.length = n ∧ ∀ q : Nat, q < n → rd y (q : Int) = a + q := by
  intro d
  induction d with
  | zero =>
    intro i x hi hx hq
    obtain rfl : i = n := by omega
    refine ⟨x, Ev.step (f := fun _ => some (a + (i : Int), x)) (fun k => ?_) (Ev.now _), hx, hq⟩
    simp only [laws_markInt64S.l0]
    rw [if_neg (by omega)]
  | succ d ih =>
    intro i x hi hx hq
    obtain ⟨y, hy, h1, h2⟩ := ih (i + 1) (x.set i (a + i)) (by omega) (by simpa using hx) (fun q hq' => by
      rw [rd_set x i q _ (by omega)]
      by_cases e : i = q
      · rw [if_pos e, e]
      · rw [if_neg e]; exact hq q (by omega))
    refine ⟨y, Ev.step (fun k => ?_) hy, h1, h2⟩
    simp only [laws_markInt64S.l0]
    rw [if_pos (by omega), if_pos (by omega), w64 (n := a + (i : Int) + 1) (by omega) (by omega), w64 (n := (i : Int) + 1) (by omega) (by omega), Int.toNat_natCast, show a + (i : Int) + 1 = a + ((i + 1 : Nat) : Int) by omega]
    rfl
def heldI (l : List Int) (a : Int) : Prop := ∀ q : Nat, q < l.length → rd l (q : Int) = a + q
theorem markInt_ev (l : List Int) (a : Int) (ha : 0 ≤ a) (hb : a + l.length ≤ 9223372036854775806) : ∃ y, Ev (fun k => laws_markInt64S.f k l a) (a + (l.length : Int), y) ∧ y.length = l.length ∧ heldI y a := by
  obtain ⟨y, h0, h1, h2⟩ := markI_ev l.length a ha hb l.length 0 l (by omega) rfl (fun q hq => by omega)
  refine ⟨y, ?_, h1, fun q hq => h2 q (by omega)⟩
  show Ev (fun k => laws_markInt64S.l0 k l a 0) _
  simpa using h0
theorem heldInt_ev (l : List Int) (a : Int) (ha : 0 ≤ a) (hb : a + l.length ≤ 9223372036854775806) (h : heldI l a) : Ev (fun k => laws_heldInt64S.f k l a) (a + (l.length : Int)) := by
  unfold laws_heldInt64S.f
  have key := Ev_up (fun k i => laws_heldInt64S.l0 k l (a + (i : Int)) (i : Int)) (fun _ => a + (l.length : Int)) l.length (by
      refine Ev.step (f := fun _ => some (a + (l.length : Int))) (fun k => ?_) (Ev.now _)
      simp only [laws_heldInt64S.l0]
      rw [if_neg (by omega)]) (by
      intro i hi ih
      refine Ev.step (fun k => ?_) ih
      simp only [laws_heldInt64S.l0]
      rw [if_pos (by omega), if_pos (by omega), if_pos (h i hi), w64 (n := a + (i : Int) + 1) (by omega) (by omega), w64 (n := (i : Int) + 1) (by omega) (by omega), show a + (i : Int) + 1 = a + ((i + 1 : Nat) : Int) by omega]
      rfl) 0 (Nat.zero_le _)
  simpa using key
/-- Element q of a marked row starts at a + sumZ .. -/
def heldT (l : List S39) (a : Int) (q : Nat) : Int := a + sumZ (fun j => (((rd_T39 l (j : Int)).f0.length : Int) + 3)) q
def tOk (t : S39) (b : Int) : Prop := heldI t.f0 b ∧ t.f1 = b + t.f0.length ∧ t.f2 = b + t.f0.length + 1 ∧ t.f3 = b + t.f0.length + 2
theorem rdT_set (l : List S39) (i q : Nat) (v : S39) (hq : q < l.length) : rd_T39 (l.set i v) (q : Int) = if i = q then v else rd_T39 l (q : Int) := by
  rw [rdT39 _ q (by simpa using hq), rdT39 l q hq, List.getElem_set]
theorem markTs_ev (l : List S39) (a : Int) (ha : 0 ≤ a) (ha2 : a ≤ 4611686018427387904) (hl : l.length ≤ 1048576) (hn : ∀ q : Nat, q < l.length → (rd_T39 l (q : Int)).f0.length ≤ 1048576) : ∀ (d i : Nat) (x : List S39), i + d = l.length → x.length = l.length →
    (∀ q : Nat, q < l.length → (rd_T39 x (q : Int)).f0.length = (rd_T39 l (q : Int)).f0.length) → (∀ q : Nat, q < i → tOk (rd_T39 x (q : Int)) (heldT l a q)) →
    ∃ y, Ev (fun k => laws_markTaskS.l0 k x (heldT l a i) (i : Int)) (heldT l a l.length, y) ∧ y.length = l.length ∧ (∀ q : Nat, q < l.length → (rd_T39 y (q : Int)).f0.length = (rd_T39 l (q : Int)).f0.length) ∧ ∀ q : Nat, q < l.length → tOk (rd_T39 y (q : Int)) (heldT l a q) := by
  intro d
  induction d with
  | zero =>
    intro i x hi hx hf hq
    obtain rfl : i = l.length := by omega
    refine ⟨x, Ev.step (f := fun _ => some (heldT l a l.length, x)) (fun k => ?_) (Ev.now _), hx, hf, hq⟩
    simp only [laws_markTaskS.l0]
    rw [if_neg (by omega)]
  | succ d ih =>
    intro i x hi hx hf hq
    have hil : i < l.length := by omega
    have hbd := sumZ_bd (f := fun j => (((rd_T39 l (j : Int)).f0.length : Int) + 3)) 1048579 i (fun j hj => by have := hn j (by omega); omega)
    have hnn := sumZ_nn (f := fun j => (((rd_T39 l (j : Int)).f0.length : Int) + 3)) i (fun j hj => by omega)
    have hb : 0 ≤ heldT l a i ∧ heldT l a i ≤ 4611686018427387904 + 1099515822080 := by
      unfold heldT
      have : (i : Int) * 1048579 ≤ 1048576 * 1048579 := Int.mul_le_mul_of_nonneg_right (by omega) (by omega)
      omega
    have hni := hn i hil
    obtain ⟨y0, e0, l0, q0⟩ := markInt_ev (rd_T39 x (i : Int)).f0 (heldT l a i) hb.1 (by rw [hf i hil]; omega)
    have hlen : y0.length = (rd_T39 l (i : Int)).f0.length := by rw [l0, hf i hil]
    have hs : heldT l a (i + 1) = heldT l a i + (y0.length : Int) + 3 := by
      unfold heldT
      simp only [sumZ]
      rw [hlen]; omega
    rw [← l0] at e0
    obtain ⟨y, hy, h1, h2, h3⟩ := ih (i + 1) (x.set i ⟨y0, heldT l a i + y0.length, heldT l a i + y0.length + 1, heldT l a i + y0.length + 2⟩) (by omega) (by simpa using hx) (fun q hq' => by
      rw [rdT_set x i q _ (by omega)]
      by_cases e : i = q
      · rw [if_pos e, ← e]; exact hlen
      · rw [if_neg e]; exact hf q hq') (fun q hq' => by
      rw [rdT_set x i q _ (by omega)]
      by_cases e : i = q
      · rw [if_pos e, ← e]; exact ⟨q0, rfl, rfl, rfl⟩
      · rw [if_neg e]; exact hq q (by omega))
    refine ⟨y, Ev.step (f := fun k => (laws_markInt64S.f k (rd_T39 x (i : Int)).f0 (heldT l a i)).bind fun b => laws_markTaskS.l0 k (x.set i ⟨b.2, b.1, wrap64 (b.1 + 1), wrap64 (wrap64 (b.1 + 1) + 1)⟩) (wrap64 (wrap64 (wrap64 (b.1 + 1) + 1) + 1)) ((i + 1 : Nat) : Int)) (fun k => ?_) ?_, h1, h2, h3⟩
    · simp only [laws_markTaskS.l0]
      rw [if_pos (by omega), if_pos (by omega), w64 (n := (i : Int) + 1) (by omega) (by omega), Int.toNat_natCast]
      rfl
    · refine Ev_bind _ e0 ?_
      have hy0 : (y0.length : Int) ≤ 1048576 := by omega
      simp only [w64 (n := heldT l a i + (y0.length : Int) + 1) (by omega) (by omega), w64 (n := heldT l a i + (y0.length : Int) + 1 + 1) (by omega) (by omega), w64 (n := heldT l a i + (y0.length : Int) + 1 + 1 + 1) (by omega) (by omega)]
      rw [show heldT l a i + (y0.length : Int) + 1 + 1 + 1 = heldT l a (i + 1) by omega, show heldT l a i + (y0.length : Int) + 1 + 1 = heldT l a i + (y0.length : Int) + 2 by omega]
      exact hy
end Go.Proofs.Ytjoghfehmhapbaa.QFnExactStuck
