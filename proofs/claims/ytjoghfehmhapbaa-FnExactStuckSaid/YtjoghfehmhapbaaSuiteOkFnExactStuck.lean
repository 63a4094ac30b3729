/- Marks that are held; a good suite, asked both ways; a suite's copy; a new run. Plain. -/
import Derived.Test.YtjoghfehmhapbaaSuiteLibFnExactStuck
set_option linter.unusedVariables false
set_option linter.unusedSimpArgs false
namespace Go.Proofs.Ytjoghfehmhapbaa.QFnExactStuck
open Go.RowKit Go.Proofs.YtjoghfehmhapbaaW.PrintWords Go.Proofs.Ytjoghfehmhapbaa.Opn Go.Proofs.Ytjoghfehmhapbaa.Pl

theorem heldT_bd (l : List S39) (a : Int) (ha : 0 ≤ a) (hl : l.length ≤ 1048576) (hn : ∀ q : Nat, q < l.length → (rd_T39 l (q : Int)).f0.length ≤ 1048576) (i : Nat) (hi : i ≤ l.length) : a ≤ heldT l a i ∧ heldT l a i ≤ a + 1099515822080 := by
  have hbd := sumZ_bd (f := fun j => (((rd_T39 l (j : Int)).f0.length : Int) + 3)) 1048579 i (fun j hj => by have := hn j (by omega); omega)
  have hnn := sumZ_nn (f := fun j => (((rd_T39 l (j : Int)).f0.length : Int) + 3)) i (fun j hj => by omega)
  unfold heldT
  have : (i : Int) * 1048579 ≤ 1048576 * 1048579 := Int.mul_le_mul_of_nonneg_right (by omega) (by omega)
  omega
theorem heldTs_ev (l y : List S39) (a : Int) (ha : 0 ≤ a) (ha2 : a ≤ 4611686018427387904) (hl : l.length ≤ 1048576) (hn : ∀ q : Nat, q < l.length → (rd_T39 l (q : Int)).f0.length ≤ 1048576) (hy : y.length = l.length) (hf : ∀ q : Nat, q < l.length → (rd_T39 y (q : Int)).f0.length = (rd_T39 l (q : Int)).f0.length) (ht : ∀ q : Nat, q < l.length → tOk (rd_T39 y (q : Int)) (heldT l a q)) : Ev (fun k => laws_heldTaskS.f k y a) (heldT l a l.length) := by
  unfold laws_heldTaskS.f
  have key := Ev_up (fun k i => laws_heldTaskS.l0 k y (heldT l a i) (i : Int)) (fun _ => heldT l a l.length) l.length (by
      refine Ev.step (f := fun _ => some (heldT l a l.length)) (fun k => ?_) (Ev.now _)
      simp only [laws_heldTaskS.l0]
      rw [if_neg (by omega)]) (by
      intro i hi ih
      have hb := heldT_bd l a ha hl hn i (by omega)
      have hni := hn i hi
      have hfi := hf i hi
      obtain ⟨t0, t1, t2, t3⟩ := ht i hi
      have hs : heldT l a (i + 1) = heldT l a i + ((rd_T39 y (i : Int)).f0.length : Int) + 3 := by
        unfold heldT
        simp only [sumZ]
        rw [hfi]; omega
      have e0 := heldInt_ev (rd_T39 y (i : Int)).f0 (heldT l a i) (by omega) (by omega) t0
      refine Ev.step (f := fun k => (laws_heldInt64S.f k (rd_T39 y (i : Int)).f0 (heldT l a i)).bind fun t => (if t < 0 then (some (-1)) else (if (rd_T39 y (i : Int)).f1 = t then (if (rd_T39 y (i : Int)).f2 = (wrap64 (t + 1)) then (if (rd_T39 y (i : Int)).f3 = (wrap64 ((wrap64 (t + 1)) + 1)) then (laws_heldTaskS.l0 k y (wrap64 ((wrap64 ((wrap64 (t + 1)) + 1)) + 1)) ((i + 1 : Nat) : Int)) else (some (-1))) else (some (-1))) else (some (-1))))) (fun k => ?_) ?_
      · simp only [laws_heldTaskS.l0]
        rw [if_pos (by omega), if_pos (by omega), w64 (n := (i : Int) + 1) (by omega) (by omega)]
        rfl
      · refine Ev_bind _ e0 ?_
        simp only [w64 (n := heldT l a i + ((rd_T39 y (i : Int)).f0.length : Int) + 1) (by omega) (by omega), w64 (n := heldT l a i + ((rd_T39 y (i : Int)).f0.length : Int) + 1 + 1) (by omega) (by omega), w64 (n := heldT l a i + ((rd_T39 y (i : Int)).f0.length : Int) + 1 + 1 + 1) (by omega) (by omega)]
        simp only [if_neg (show ¬ heldT l a i + ((rd_T39 y (i : Int)).f0.length : Int) < 0 by omega), if_pos t1, if_pos t2, if_pos (show (rd_T39 y (i : Int)).f3 = heldT l a i + ((rd_T39 y (i : Int)).f0.length : Int) + 1 + 1 by omega)]
        rw [show heldT l a i + ((rd_T39 y (i : Int)).f0.length : Int) + 1 + 1 + 1 = heldT l a (i + 1) by omega]
        exact ih) 0 (Nat.zero_le _)
  have h0 : heldT l a 0 = a := by simp [heldT, sumZ]
  rw [h0] at key
  exact key
theorem rdJ_set (l : List S43) (i q : Nat) (v : S43) (hq : q < l.length) : rd_T43 (l.set i v) (q : Int) = if i = q then v else rd_T43 l (q : Int) := by
  rw [rdT43 _ q (by simpa using hq), rdT43 l q hq, List.getElem_set]
theorem markJs_ev (n : Nat) (a : Int) (ha : 0 ≤ a) (hb : a + 2 * n ≤ 9223372036854775800) : ∀ (d i : Nat) (x : List S43), i + d = n → x.length = n → (∀ q : Nat, q < i → (rd_T43 x (q : Int)).f0 = a + 2 * q ∧ (rd_T43 x (q : Int)).f1 = a + 2 * q + 1) →
    ∃ y, Ev (fun k => laws_markJobS.l0 k x (a + 2 * (i : Int)) (i : Int)) (a + 2 * (n : Int), y) ∧ y.length = n ∧ ∀ q : Nat, q < n → (rd_T43 y (q : Int)).f0 = a + 2 * q ∧ (rd_T43 y (q : Int)).f1 = a + 2 * q + 1 := by
  intro d
  induction d with
  | zero =>
    intro i x hi hx hq
    obtain rfl : i = n := by omega
    refine ⟨x, Ev.step (f := fun _ => some (a + 2 * (i : Int), x)) (fun k => ?_) (Ev.now _), hx, hq⟩
    simp only [laws_markJobS.l0]
    rw [if_neg (by omega)]
  | succ d ih =>
    intro i x hi hx hq
    obtain ⟨y, hy, h1, h2⟩ := ih (i + 1) ((x.set i ⟨a + 2 * i, (rd_T43 x (i : Int)).f1⟩).set i ⟨a + 2 * i, a + 2 * i + 1⟩) (by omega) (by simpa using hx) (fun q hq' => by
      rw [rdJ_set _ i q _ (by simp; omega)]
      by_cases e : i = q
      · rw [if_pos e, ← e]; exact ⟨rfl, rfl⟩
      · rw [if_neg e, rdJ_set x i q _ (by omega), if_neg e]; exact hq q (by omega))
    refine ⟨y, Ev.step (fun k => ?_) hy, h1, h2⟩
    simp only [laws_markJobS.l0, Option.bind_some]
    rw [if_pos (by omega), if_pos (by omega), Int.toNat_natCast, rdJ_set x i i _ (by omega), if_pos rfl, w64 (n := a + 2 * (i : Int) + 1) (by omega) (by omega), w64 (n := a + 2 * (i : Int) + 1 + 1) (by omega) (by omega), w64 (n := (i : Int) + 1) (by omega) (by omega), show a + 2 * (i : Int) + 1 + 1 = a + 2 * ((i + 1 : Nat) : Int) by omega]
    rfl
theorem heldJs_ev (y : List S43) (a : Int) (ha : 0 ≤ a) (hb : a + 2 * y.length ≤ 9223372036854775800) (h : ∀ q : Nat, q < y.length → (rd_T43 y (q : Int)).f0 = a + 2 * q ∧ (rd_T43 y (q : Int)).f1 = a + 2 * q + 1) : Ev (fun k => laws_heldJobS.f k y a) (a + 2 * (y.length : Int)) := by
  unfold laws_heldJobS.f
  have key := Ev_up (fun k i => laws_heldJobS.l0 k y (a + 2 * (i : Int)) (i : Int)) (fun _ => a + 2 * (y.length : Int)) y.length (by
      refine Ev.step (f := fun _ => some (a + 2 * (y.length : Int))) (fun k => ?_) (Ev.now _)
      simp only [laws_heldJobS.l0]
      rw [if_neg (by omega)]) (by
      intro i hi ih
      refine Ev.step (fun k => ?_) ih
      simp only [laws_heldJobS.l0]
      rw [if_pos (by omega), if_pos (by omega), if_pos (h i hi).1, w64 (n := a + 2 * (i : Int) + 1) (by omega) (by omega), if_pos (h i hi).2, w64 (n := a + 2 * (i : Int) + 1 + 1) (by omega) (by omega), w64 (n := (i : Int) + 1) (by omega) (by omega), show a + 2 * (i : Int) + 1 + 1 = a + 2 * ((i + 1 : Nat) : Int) by omega]
      rfl) 0 (Nat.zero_le _)
  simpa using key
/-- A suite marked from a on: so many numbers, and they are held. -/
theorem markSuite_ev {l0 : List S39} {l1 : List Int} (h : Fits l0 l1) (a : Int) (ha : 0 ≤ a) (ha2 : a ≤ 4000000000000000000) : ∃ n y0 y1, Ev (fun k => laws_markSuite.f k l0 l1 a) (n, y0, y1) ∧ (a ≤ n ∧ n ≤ a + 1099516870656) ∧ Ev (fun k => laws_heldSuite.f k y0 y1 a) n := by
  obtain ⟨y0, e0, p0, p1, p2⟩ := markTs_ev l0 a ha (by omega) h.n0 h.n1 l0.length 0 l0 (by omega) rfl (fun q _ => rfl) (fun q hq => by omega)
  have hz : heldT l0 a 0 = a := by simp [heldT, sumZ]
  rw [hz] at e0
  have hb := heldT_bd l0 a ha h.n0 h.n1 l0.length (Nat.le_refl _)
  have hn2 := h.n2
  obtain ⟨y1, e1, q0, q1⟩ := markInt_ev l1 (heldT l0 a l0.length) (by omega) (by omega)
  have r0 := heldTs_ev l0 y0 a ha (by omega) h.n0 h.n1 p0 p1 p2
  have r1 := heldInt_ev y1 (heldT l0 a l0.length) (by omega) (by omega) q1
  refine ⟨heldT l0 a l0.length + (l1.length : Int), y0, y1, ?_, ⟨by omega, by omega⟩, ?_⟩
  · unfold laws_markSuite.f
    exact Ev_bind _ (show Ev (fun k => laws_markTaskS.f k l0 a) _ from e0) (Ev_bind _ e1 (Ev.now _))
  · unfold laws_heldSuite.f
    refine Ev_bind _ r0 ?_
    simp only [if_neg (show ¬ heldT l0 a l0.length < 0 by omega)]
    refine Ev_bind _ r1 ?_
    rw [q0]
    simp only [if_neg (show ¬ heldT l0 a l0.length + (l1.length : Int) < 0 by omega)]
    exact Ev.now _
/-! ### a good suite -/
def intsFrom (l : List Int) (a b : Int) (i : Nat) : Prop := ∀ q : Nat, i ≤ q → q < l.length → a ≤ rd l (q : Int) ∧ rd l (q : Int) ≤ b
def okFrom (i : Int) (l : List Int) (j : Nat) : Prop := ∀ q : Nat, j ≤ q → q < l.length → (1 ≤ rd l (q : Int) ∧ rd l (q : Int) ≤ i) ∧ (0 < q → rd l ((q - 1 : Nat) : Int) < rd l (q : Int))
def attrOk (n : Int) (t : S39) : Prop := (1 ≤ t.f1 ∧ t.f1 ≤ n) ∧ (0 ≤ t.f2 ∧ t.f2 ≤ 1000000000000) ∧ (1 ≤ t.f3 ∧ t.f3 ≤ 5)
def tasksFrom (l : List S39) (n : Int) (i : Nat) : Prop := ∀ q : Nat, i ≤ q → q < l.length → attrOk n (rd_T39 l (q : Int)) ∧ okFrom (q : Int) (rd_T39 l (q : Int)).f0 0
def suiteOk (l0 : List S39) (l1 : List Int) : Prop := (1 ≤ l0.length ∧ l0.length ≤ 60) ∧ (1 ≤ l1.length ∧ l1.length ≤ 6) ∧ intsFrom l1 1 60 0 ∧ tasksFrom l0 (l1.length : Int) 0
theorem specIn (a b c : Int) : spec_l2In.f a b c = some (decide (b ≤ a ∧ a ≤ c)) := by
  unfold spec_l2In.f
  by_cases h : a ≥ b
  · rw [if_pos h]; congr 1; exact decide_eq_decide.2 ⟨fun x => ⟨h, x⟩, fun x => x.2⟩
  · rw [if_neg h]; congr 1; exact (decide_eq_false (fun x => h x.1)).symm
theorem implIn (a b c : Int) : impl_in.f a b c = some (decide (b ≤ a ∧ a ≤ c)) := by
  unfold impl_in.f
  by_cases h : a ≥ b
  · rw [if_pos h]; congr 1; exact decide_eq_decide.2 ⟨fun x => ⟨h, x⟩, fun x => x.2⟩
  · rw [if_neg h]; congr 1; exact (decide_eq_false (fun x => h x.1)).symm
theorem ints_end (l : List Int) (a b : Int) : dec_ (intsFrom l a b l.length) = true := dec_true (fun q h1 h2 => by omega)
theorem ints_step (l : List Int) (a b : Int) (i : Nat) (hi : i < l.length) (h : a ≤ rd l (i : Int) ∧ rd l (i : Int) ≤ b) : dec_ (intsFrom l a b (i + 1)) = dec_ (intsFrom l a b i) := dec_iff ⟨fun x q h1 h2 => by
  by_cases e : q = i
  · rw [e]; exact h
  · exact x q (by omega) h2, fun x q h1 h2 => x q (by omega) h2⟩
theorem specAll_ev (l : List Int) (a b : Int) (hl : l.length ≤ 1048576) : Ev (fun k => spec_l15All.f k l (l.length : Int) a b) (dec_ (intsFrom l a b 0)) := by
  unfold spec_l15All.f
  simp only [if_true]
  exact Ev_up (fun k i => spec_l15All.l0 k l a b (i : Int)) (fun i => dec_ (intsFrom l a b i)) l.length (by
      rw [ints_end]
      refine Ev.step (f := fun _ => some true) (fun k => ?_) (Ev.now _)
      simp only [spec_l15All.l0]
      rw [if_neg (by omega)]) (by
      intro i hi ih
      by_cases c : a ≤ rd l (i : Int) ∧ rd l (i : Int) ≤ b
      · rw [← ints_step l a b i hi c]
        refine Ev.step (fun k => ?_) ih
        simp only [spec_l15All.l0, specIn]
        rw [if_pos (by omega), if_pos (by omega), decide_eq_true c, Option.bind_some, if_pos rfl, w64 (n := (i : Int) + 1) (by omega) (by omega)]
        rfl
      · rw [dec_false (fun x => c (x i (Nat.le_refl _) hi))]
        refine Ev.step (f := fun _ => some false) (fun k => ?_) (Ev.now _)
        simp only [spec_l15All.l0, specIn]
        rw [if_pos (by omega), if_pos (by omega), decide_eq_false c]
        rfl) 0 (Nat.zero_le _)
theorem implEach_ev (l : List Int) (a b : Int) (hl : l.length ≤ 1048576) : Ev (fun k => impl_each.f k l (l.length : Int) a b) (dec_ (intsFrom l a b 0)) := by
  unfold impl_each.f
  simp only [if_true]
  exact Ev_up (fun k i => impl_each.l0 k a b l (l.length : Int) (i : Int)) (fun i => dec_ (intsFrom l a b i)) l.length (by
      rw [ints_end]
      refine Ev.step (f := fun _ => some true) (fun k => ?_) (Ev.now _)
      simp only [impl_each.l0]
      rw [if_neg (by omega)]) (by
      intro i hi ih
      by_cases c : a ≤ rd l (i : Int) ∧ rd l (i : Int) ≤ b
      · rw [← ints_step l a b i hi c]
        refine Ev.step (fun k => ?_) ih
        simp only [impl_each.l0, implIn]
        rw [if_pos (by omega), if_pos (by omega), if_pos (by omega), decide_eq_true c, Option.bind_some, if_pos rfl, w64 (n := (i : Int) + 1) (by omega) (by omega)]
        rfl
      · rw [dec_false (fun x => c (x i (Nat.le_refl _) hi))]
        refine Ev.step (f := fun _ => some false) (fun k => ?_) (Ev.now _)
        simp only [impl_each.l0, implIn]
        rw [if_pos (by omega), if_pos (by omega), if_pos (by omega), decide_eq_false c]
        rfl) 0 (Nat.zero_le _)
theorem ok_len {i : Int} {l : List Int} (h : okFrom i l 0) (hi : 0 ≤ i) : (l.length : Int) ≤ i := by
  have key : ∀ q : Nat, q < l.length → (q : Int) + 1 ≤ rd l (q : Int) := by
    intro q
    induction q with
    | zero => intro hq; have := (h 0 (Nat.le_refl _) hq).1.1; simpa using this
    | succ q ih =>
      intro hq
      have h1 := ih (by omega)
      have h2 := (h (q + 1) (by omega) hq).2 (by omega)
      rw [show q + 1 - 1 = q by omega] at h2
      omega
  by_cases e : l.length = 0
  · omega
  · have h1 := key (l.length - 1) (by omega)
    have h2 := (h (l.length - 1) (by omega) (by omega)).1.2
    omega
theorem ok_step {i : Int} {l : List Int} {j : Nat} {R : Prop} (hj : j < l.length) (h : (1 ≤ rd l (j : Int) ∧ rd l (j : Int) ≤ i) ∧ (0 < j → rd l ((j - 1 : Nat) : Int) < rd l (j : Int))) : dec_ (okFrom i l (j + 1) ∧ R) = dec_ (okFrom i l j ∧ R) := dec_iff ⟨fun x => ⟨fun q h1 h2 => by
  by_cases e : q = j
  · rw [e]; exact h
  · exact x.1 q (by omega) h2, x.2⟩, fun x => ⟨fun q h1 h2 => x.1 q (by omega) h2, x.2⟩⟩
theorem ok_end (i : Int) (l : List Int) (R : Prop) : dec_ (okFrom i l l.length ∧ R) = dec_ R := dec_iff ⟨fun x => x.2, fun x => ⟨fun q h1 h2 => by omega, x⟩⟩
theorem tasks_step (l : List S39) (n : Int) (i : Nat) (hi : i < l.length) : dec_ (tasksFrom l n i) = dec_ (okFrom (i : Int) (rd_T39 l (i : Int)).f0 0 ∧ attrOk n (rd_T39 l (i : Int)) ∧ tasksFrom l n (i + 1)) := dec_iff ⟨fun x => ⟨(x i (Nat.le_refl _) hi).2, (x i (Nat.le_refl _) hi).1, fun q h1 h2 => x q (by omega) h2⟩, fun x q h1 h2 => by
  by_cases e : q = i
  · rw [e]; exact ⟨x.2.1, x.1⟩
  · exact x.2.2 q (by omega) h2⟩
end Go.Proofs.Ytjoghfehmhapbaa.QFnExactStuck
