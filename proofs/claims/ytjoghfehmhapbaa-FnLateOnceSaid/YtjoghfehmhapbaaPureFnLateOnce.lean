/- FnLateOnce, plainly: a time cut in two tells each late task once, and the same ones. No condition. -/
import Derived.Test.YtjoghfehmhapbaaRunDrawDFnLateOnce
import Derived.Test.YtjoghfehmhapbaaStatFnLateOnce
set_option linter.unusedVariables false
set_option linter.unusedSimpArgs false
namespace Go.Proofs.Ytjoghfehmhapbaa.QFnLateOnce
open Go.RowKit Go.Proofs.YtjoghfehmhapbaaW.PrintWords Go.Proofs.YtjoghfehmhapbaaW.PrintMore Go.Proofs.Ytjoghfehmhapbaa.Opn Go.Proofs.Ytjoghfehmhapbaa.Pl

theorem implLate_ev (l0 : List S39) (l1 : List Int) (n m : Int) (l3 : List S43) (h : FitsR l0 l1 l3) (hl : l3.length = l0.length) : Ev (fun k => impl_TickRun.l0 k [] l0 (l0.length : Int) 0 l0 l1 n l3 l0 l1 m l3) (l0, l1, m, l3, lateL l0 l3 n m l3.length) := by
  have hn3 := h.n3
  rw [hl]
  have key := Ev_up (fun k i => impl_TickRun.l0 k (lateL l0 l3 n m i) l0 (l0.length : Int) (i : Int) l0 l1 n l3 l0 l1 m l3) (fun _ => (l0, l1, m, l3, lateL l0 l3 n m l0.length)) l0.length (by
      refine Ev.step (f := fun _ => some (l0, l1, m, l3, lateL l0 l3 n m l0.length)) (fun k => ?_) (Ev.now _)
      simp only [impl_TickRun.l0]
      rw [if_neg (by omega)]) (by
      intro i hi ih
      have hll := late_len l0 l3 n m i
      have ew : wrap64 ((i : Int) + 1) = (i : Int) + 1 := w64 (by omega) (by omega)
      refine Ev.step (fun k => ?_) ih
      simp only [impl_TickRun.l0, ew, lateL]
      rw [if_pos (by omega), if_pos (by omega), if_pos (by omega)]
      by_cases c1 : (rd_T39 l0 (i : Int)).f2 > 0
      · rw [if_pos c1, if_pos (by omega)]
        by_cases c2 : (rd_T43 l3 (i : Int)).f0 = 2
        · rw [if_pos c2, dec_false (p := isLate l0 l3 n m i) (fun x => x.2.1 c2), if_neg (by decide), List.append_nil]; rfl
        · rw [if_neg c2]
          by_cases c3 : (rd_T39 l0 (i : Int)).f2 ≥ n
          · rw [if_pos c3]
            by_cases c4 : (rd_T39 l0 (i : Int)).f2 < m
            · rw [if_pos c4, dec_true (p := isLate l0 l3 n m i) ⟨c1, c2, c3, c4⟩, if_pos rfl, if_pos (by omega)]; rfl
            · rw [if_neg c4, dec_false (p := isLate l0 l3 n m i) (fun x => c4 x.2.2.2), if_neg (by decide), List.append_nil]; rfl
          · rw [if_neg c3, dec_false (p := isLate l0 l3 n m i) (fun x => c3 x.2.2.1), if_neg (by decide), List.append_nil]; rfl
      · rw [if_neg c1, dec_false (p := isLate l0 l3 n m i) (fun x => c1 x.1), if_neg (by decide), List.append_nil]; rfl) 0 (Nat.zero_le _)
  simpa [lateL] using key
theorem implTick_ev (l0 : List S39) (l1 : List Int) (n : Int) (l3 : List S43) (a : Int) (h : FitsR l0 l1 l3) : Ev (fun k => impl_TickRun.f k l0 l1 n l3 a) (tickRun l0 l1 n l3 a) := by
  have bad : Ev (fun k => impl_TickRun.j0 k a true l0 l1 n l3) ([], [], 0, [], []) := Ev.step (f := fun _ => some ([], [], 0, [], [])) (fun k => by simp only [impl_TickRun.j0, if_true]) (Ev.now _)
  unfold impl_TickRun.f tickRun
  refine Ev_bind _ (implOkR_ev l0 l1 n l3 h) ?_
  by_cases c : runP l0 l1 n l3
  · rw [dec_true c]
    simp only [if_true, true_and]
    by_cases c2 : a < 0
    · rw [if_neg (show ¬ 0 ≤ a by omega), decide_eq_true c2]
      exact bad
    · rw [if_pos (show 0 ≤ a by omega), decide_eq_false c2]
      have hn := c.2.1
      have e : wrap64 (n + mn a (wrap64 (1000000000000 - n))) = tickN n a := by
        have e1 : wrap64 (1000000000000 - n) = 1000000000000 - n := w64 (by omega) (by omega)
        rw [e1]
        have e2 : wrap64 (n + mn a (1000000000000 - n)) = n + mn a (1000000000000 - n) := w64 (by unfold mn; split <;> omega) (by unfold mn; split <;> omega)
        rw [e2]
        unfold mn tickN
        split <;> split <;> omega
      refine Ev.step (f := fun k => (impl_copyRun.f k l0 l1 n l3).bind fun bt => impl_TickRun.l0 k [] l0 (l0.length : Int) 0 l0 l1 n l3 bt.1 bt.2.1 (wrap64 (bt.2.2.1 + mn a (wrap64 (1000000000000 - bt.2.2.1)))) bt.2.2.2) (fun k => by simp only [impl_TickRun.j0, Bool.false_eq_true, if_false]) ?_
      refine Ev_bind _ (implCopyR_ev l0 l1 n l3 h) ?_
      simp only [e]
      exact implLate_ev l0 l1 n _ l3 h c.2.2.1
  · rw [dec_false c]
    simp only [Bool.false_eq_true, if_false, false_and]
    exact bad

/-! ### what is drawn -/
theorem word_ev (b : List Int) (p : Int) (hp : RdOk b p) : ∃ v p', Ev (fun k => spec_l1Rd_word.f k b p) (v, p') ∧ RdOk b p' := by
  have key : ∀ (d i : Nat) (x p : Int), i + d = 8 → RdOk b p → ∃ v p', Ev (fun k => spec_l1Rd_word.l0 k x (i : Int) b p) (v, p') ∧ RdOk b p' := by
    intro d
    induction d with
    | zero =>
      intro i x p hi hp
      refine ⟨x, p, Ev.step (f := fun _ => some (x, p)) (fun k => ?_) (Ev.now _), hp⟩
      simp only [spec_l1Rd_word.l0]
      rw [if_neg (by omega)]
    | succ d ih =>
      intro i x p hi hp
      obtain ⟨y, p1, e1, _, _, r1⟩ := rdNext hp
      obtain ⟨v, p', ev, h⟩ := ih (i + 1) (Go.bits .or .u64 (IntKind.u64.wrap (x * 256)) (IntKind.u64.wrap y)) p1 (by omega) r1
      refine ⟨v, p', Ev.step (fun k => ?_) ev, h⟩
      simp only [spec_l1Rd_word.l0]
      rw [if_pos (by omega), e1, Option.bind_some, w64 (n := (i : Int) + 1) (by omega) (by omega)]
      rfl
  exact key 8 0 0 p (by omega) hp
theorem u64_nn (x : Int) : 0 ≤ IntKind.u64.wrap x := by
  have h : IntKind.u64.wrap x = x % 18446744073709551616 := rfl
  rw [h]
  exact Int.emod_nonneg _ (by decide)
theorem number_ev (b : List Int) (p : Int) (hp : RdOk b p) : ∃ v p', Ev (fun k => spec_l1Rd_number.f k b p) (v, p') := by
  obtain ⟨x, p1, e1, a1, b1, r1⟩ := rdBelow hp 5 (by omega)
  unfold spec_l1Rd_number.f
  by_cases c0 : x = 0
  · obtain ⟨y, p2, e2, _, _, r2⟩ := rdBelow r1 300 (by omega)
    refine ⟨wrap64 (y - 4), p2, ?_⟩
    · simp only [e1, Option.bind_some, if_pos c0, e2]
      exact Ev.now _
  by_cases c1 : x = 1
  · obtain ⟨y, p2, e2, a2, b2, r2⟩ := rdBelow r1 12 (by omega)
    refine ⟨rd [0, 1, (-1), 127, 128, 2147483648, 1000000000000000, 1000000000000001, (-1000000000000000), 9007199254740993, 9223372036854775807, (-9223372036854775808)] y, p2, ?_⟩
    · simp only [e1, Option.bind_some, if_neg c0, if_pos c1, e2, if_pos a2]
      rw [if_pos (show y < (([0, 1, (-1), 127, 128, 2147483648, 1000000000000000, 1000000000000001, (-1000000000000000), 9007199254740993, 9223372036854775807, (-9223372036854775808)] : List Int).length : Int) by simp; omega)]
      exact Ev.now _
  by_cases c2 : x = 2
  · obtain ⟨v, p2, e2, r2⟩ := word_ev b p1 r1
    obtain ⟨y, p3, e3, _, _, r3⟩ := rdBelow r2 60 (by omega)
    refine ⟨wrap64 (shr .u64 v (IntKind.u64.wrap (wrap64 (1 + y)))), p3, ?_⟩
    · simp only [e1, Option.bind_some, if_neg c0, if_neg c1, if_pos c2]
      refine Ev_bind _ e2 ?_
      simp only [e3, Option.bind_some, if_pos (u64_nn _)]
      exact Ev.now _
  · obtain ⟨y, p2, e2, _, _, r2⟩ := rdBelow r1 20 (by omega)
    refine ⟨y, p2, ?_⟩
    · simp only [e1, Option.bind_some, if_neg c0, if_neg c1, if_neg c2, e2]
      exact Ev.now _
theorem drawTick_ev (c : List Int) (hc : RdOk c 0) : ∃ l0 l1 n l3 t, Ev (fun k => spec_DrawTickRun.f k c) (l0, l1, n, l3, t) ∧ FitsR l0 l1 l3 := by
  obtain ⟨l0, l1, n, l3, p1, e1, hf, r1⟩ := draw_ev c 0 hc
  obtain ⟨o, p2, e2, r2⟩ := rdOnce r1 9 (by omega)
  unfold spec_DrawTickRun.f spec_l1Open.f
  cases o with
  | true =>
    obtain ⟨v, p3, e3⟩ := number_ev c p2 r2
    refine ⟨l0, l1, n, l3, v, ?_, hf⟩
    simp only [Option.bind_some]
    refine Ev_bind _ e1 ?_
    simp only [e2, Option.bind_some, if_true]
    exact Ev_bind _ e3 (Ev.now _)
  | false =>
    obtain ⟨v, p3, e3, _, _, _⟩ := rdBelow r2 60 (by omega)
    refine ⟨l0, l1, n, l3, v, ?_, hf⟩
    simp only [Option.bind_some]
    refine Ev_bind _ e1 ?_
    simp only [e2, Option.bind_some, Bool.false_eq_true, if_false, e3]
    exact Ev.now _

/-! ### each late task once -/
theorem late_split (l0 : List S39) (l3 : List S43) {n a m : Int} (h1 : n ≤ a) (h2 : a ≤ m) (i : Nat) : (dec_ (isLate l0 l3 n m i) = true ↔ (dec_ (isLate l0 l3 n a i) = true ∨ dec_ (isLate l0 l3 a m i) = true)) ∧ ¬ (dec_ (isLate l0 l3 n a i) = true ∧ dec_ (isLate l0 l3 a m i) = true) := by
  have d : ∀ p : Prop, dec_ p = true ↔ p := fun p => by
    by_cases c : p
    · exact ⟨fun _ => c, fun _ => dec_true c⟩
    · exact ⟨fun x => absurd x (by rw [dec_false c]; decide), fun x => absurd x c⟩
  simp only [d]
  unfold isLate
  constructor
  · constructor
    · rintro ⟨x1, x2, x3, x4⟩
      by_cases c : (rd_T39 l0 (i : Int)).f2 < a
      · exact .inl ⟨x1, x2, x3, c⟩
      · exact .inr ⟨x1, x2, by omega, x4⟩
    · rintro (⟨x1, x2, x3, x4⟩ | ⟨x1, x2, x3, x4⟩)
      · exact ⟨x1, x2, x3, by omega⟩
      · exact ⟨x1, x2, by omega, x4⟩
  · rintro ⟨⟨_, _, _, x⟩, ⟨_, _, y, _⟩⟩
    omega
theorem late_count (l0 : List S39) (l3 : List S43) (n m : Int) (q : Nat) : ∀ i : Nat, (lateL l0 l3 n m i).count ((q : Int) + 1) = if q < i ∧ dec_ (isLate l0 l3 n m q) = true then 1 else 0 := by
  intro i
  induction i with
  | zero => simp [lateL]
  | succ i ih =>
    simp only [lateL, List.count_append, ih]
    by_cases c : dec_ (isLate l0 l3 n m i) = true
    · rw [if_pos c]
      by_cases e : i = q
      · subst e
        rw [if_neg (fun x => absurd x.1 (Nat.lt_irrefl _)), if_pos ⟨Nat.lt_succ_self _, c⟩]
        simp
      · have h0 : ([(i : Int) + 1] : List Int).count ((q : Int) + 1) = 0 := by
          rw [List.count_eq_zero]
          simp
          omega
        rw [h0, Nat.add_zero]
        by_cases c2 : q < i
        · simp only [c2, show q < i + 1 by omega, true_and]
        · rw [if_neg (fun x => c2 x.1), if_neg (fun x => by have := x.1; omega)]
    · rw [if_neg c, List.count_nil, Nat.add_zero]
      by_cases c2 : q < i
      · simp only [c2, show q < i + 1 by omega, true_and]
      · rw [if_neg (fun x => c2 x.1)]
        by_cases e : q = i
        · subst e; rw [if_neg (fun x => c x.2)]
        · rw [if_neg (fun x => by have := x.1; omega)]
theorem late_mem (l0 : List S39) (l3 : List S43) (n m : Int) : ∀ (i : Nat) (x : Int), x ∈ lateL l0 l3 n m i → ∃ q : Nat, q < i ∧ x = (q : Int) + 1 ∧ dec_ (isLate l0 l3 n m q) = true := by
  intro i
  induction i with
  | zero => intro x h; simp [lateL] at h
  | succ i ih =>
    intro x h
    simp only [lateL, List.mem_append] at h
    rcases h with h | h
    · obtain ⟨q, h1, h2⟩ := ih x h
      exact ⟨q, by omega, h2⟩
    · by_cases c : dec_ (isLate l0 l3 n m i) = true
      · rw [if_pos c] at h
        exact ⟨i, by omega, by simpa using h, c⟩
      · rw [if_neg c] at h
        simp at h
theorem late_length (l0 : List S39) (l3 : List S43) {n a m : Int} (h1 : n ≤ a) (h2 : a ≤ m) : ∀ i : Nat, (lateL l0 l3 n a i).length + (lateL l0 l3 a m i).length = (lateL l0 l3 n m i).length := by
  intro i
  induction i with
  | zero => rfl
  | succ i ih =>
    obtain ⟨s1, s2⟩ := late_split l0 l3 h1 h2 i
    simp only [lateL, List.length_append]
    by_cases c1 : dec_ (isLate l0 l3 n a i) = true
    · have c2 : ¬ dec_ (isLate l0 l3 a m i) = true := fun x => s2 ⟨c1, x⟩
      rw [if_pos c1, if_neg c2, if_pos (s1.mpr (.inl c1))]
      simp only [List.length_cons, List.length_nil]
      omega
    · by_cases c2 : dec_ (isLate l0 l3 a m i) = true
      · rw [if_neg c1, if_pos c2, if_pos (s1.mpr (.inr c2))]
        simp only [List.length_cons, List.length_nil]
        omega
      · rw [if_neg c1, if_neg c2, if_neg (fun x => (s1.mp x).elim c1 c2)]
        simp only [List.length_nil]
        omega
theorem late_once (l0 : List S39) (l3 : List S43) {n a m : Int} (h1 : n ≤ a) (h2 : a ≤ m) (i : Nat) (x : Int) (hx : x ∈ lateL l0 l3 n m i) : (lateL l0 l3 n a i).count x + (lateL l0 l3 a m i).count x = 1 := by
  obtain ⟨q, hq, rfl, hd⟩ := late_mem l0 l3 n m i x hx
  obtain ⟨s1, s2⟩ := late_split l0 l3 h1 h2 q
  rw [late_count, late_count]
  by_cases c1 : dec_ (isLate l0 l3 n a q) = true
  · rw [if_pos ⟨hq, c1⟩, if_neg (fun y => s2 ⟨c1, y.2⟩)]
  · rw [if_neg (fun y => c1 y.2), if_pos ⟨hq, (s1.mp hd).resolve_left c1⟩]
theorem count_take (l : List Int) (v : Int) (q : Nat) (hq : q < l.length) : (l.take (q + 1)).count v = (l.take q).count v + (if rd l (q : Int) = v then 1 else 0) := by
  rw [List.take_succ_eq_append_getElem hq, List.count_append, rd_lt l q hq]
  by_cases c : l[q] = v
  · rw [if_pos c, c]; simp
  · rw [if_neg c, List.count_eq_zero.mpr (fun h => c (List.mem_singleton.mp h).symm)]
theorem count2_ev (al fi se : List Int) (hf : fi.length ≤ 1048576) (hs : se.length ≤ 1048576) (i : Nat) (hi : i < al.length) (c : Nat) (hc : c ≤ 1048576) {r : Bool} (h : Ev (fun k => if ((c + se.count (rd al (i : Int)) : Nat) : Int) = 1 then laws_FnLateOnce.l0 k al fi se (wrap64 ((i : Int) + 1)) else some false) r) :
    Ev (fun k => laws_FnLateOnce.l2 k al fi se (i : Int) (c : Int) 0) r := by
  have key := Ev_up (fun k q => laws_FnLateOnce.l2 k al fi se (i : Int) ((c + (se.take q).count (rd al (i : Int)) : Nat) : Int) (q : Int)) (fun _ => r) se.length (by
      rw [List.take_length]
      refine Ev.step (fun k => ?_) h
      simp only [laws_FnLateOnce.l2]
      rw [if_neg (by omega)]) (by
      intro q hq ih
      have hb : (se.take q).count (rd al (i : Int)) ≤ q := Nat.le_trans List.count_le_length (by rw [List.length_take]; omega)
      refine Ev.step (fun k => ?_) ih
      simp only [laws_FnLateOnce.l2]
      rw [if_pos (by omega), if_pos (by omega), if_pos (by omega), if_pos (by omega), count_take se _ q hq, w64 (n := (q : Int) + 1) (by omega) (by omega)]
      by_cases e : rd se (q : Int) = rd al (i : Int)
      · rw [if_pos e, if_pos e, w64 (by omega) (by omega)]; rfl
      · rw [if_neg e, if_neg e]; rfl) 0 (Nat.zero_le _)
  simpa using key
theorem count1_ev (al fi se : List Int) (hf : fi.length ≤ 1048576) (hs : se.length ≤ 1048576) (i : Nat) (hi : i < al.length) {r : Bool} (h : Ev (fun k => laws_FnLateOnce.l2 k al fi se (i : Int) ((fi.count (rd al (i : Int)) : Nat) : Int) 0) r) :
    Ev (fun k => laws_FnLateOnce.l1 k al fi se (i : Int) 0 0) r := by
  have key := Ev_up (fun k q => laws_FnLateOnce.l1 k al fi se (i : Int) (((fi.take q).count (rd al (i : Int)) : Nat) : Int) (q : Int)) (fun _ => r) fi.length (by
      rw [List.take_length]
      refine Ev.step (fun k => ?_) h
      simp only [laws_FnLateOnce.l1]
      rw [if_neg (by omega)]) (by
      intro q hq ih
      have hb : (fi.take q).count (rd al (i : Int)) ≤ q := Nat.le_trans List.count_le_length (by rw [List.length_take]; omega)
      refine Ev.step (fun k => ?_) ih
      simp only [laws_FnLateOnce.l1]
      rw [if_pos (by omega), if_pos (by omega), if_pos (by omega), if_pos (by omega), count_take fi _ q hq, w64 (n := (q : Int) + 1) (by omega) (by omega)]
      by_cases e : rd fi (q : Int) = rd al (i : Int)
      · rw [if_pos e, if_pos e, w64 (by omega) (by omega)]; rfl
      · rw [if_neg e, if_neg e]; rfl) 0 (Nat.zero_le _)
  simpa using key
theorem once_ev (al fi se : List Int) (ha : al.length ≤ 1048576) (hf : fi.length ≤ 1048576) (hs : se.length ≤ 1048576) (h : ∀ x ∈ al, fi.count x + se.count x = 1) : Ev (fun k => laws_FnLateOnce.l0 k al fi se 0) true := by
  exact Ev_up (fun k i => laws_FnLateOnce.l0 k al fi se (i : Int)) (fun _ => true) al.length (by
      refine Ev.step (f := fun _ => some true) (fun k => ?_) (Ev.now _)
      simp only [laws_FnLateOnce.l0]
      rw [if_neg (by omega)]) (by
      intro i hi ih
      have hx := h (rd al (i : Int)) (by rw [rd_lt al i hi]; exact List.getElem_mem hi)
      refine Ev.step (f := fun k => laws_FnLateOnce.l1 k al fi se (i : Int) 0 0) (fun k => ?_) (count1_ev al fi se hf hs i hi (count2_ev al fi se hf hs i hi _ (by omega) ?_))
      · simp only [laws_FnLateOnce.l0]
        rw [if_pos (by omega)]
      · rw [hx, w64 (n := (i : Int) + 1) (by omega) (by omega)]
        simp only [if_pos (show ((1 : Nat) : Int) = 1 from rfl)]
        exact ih) 0 (Nat.zero_le _)
theorem sameI_ev (l : List Int) (hl : l.length ≤ 1048576) : Ev (fun k => laws_sameInts.f k l l) true := by
  unfold laws_sameInts.f
  simp only [if_true]
  exact Ev_up (fun k i => laws_sameInts.l0 k l l (i : Int)) (fun _ => true) l.length (by
      refine Ev.step (f := fun _ => some true) (fun k => ?_) (Ev.now _)
      simp only [laws_sameInts.l0]
      rw [if_neg (by omega)]) (by
      intro i hi ih
      refine Ev.step (fun k => ?_) ih
      simp only [laws_sameInts.l0]
      rw [if_pos (by omega), if_pos (by omega), if_pos (by omega), if_pos True.intro, w64 (n := (i : Int) + 1) (by omega) (by omega)]
      rfl) 0 (Nat.zero_le _)
theorem sameJ_ev (l : List S43) (hl : l.length ≤ 1048576) : Ev (fun k => laws_sameJobs.f k l l) true := by
  unfold laws_sameJobs.f
  simp only [if_true]
  exact Ev_up (fun k i => laws_sameJobs.l0 k l l (i : Int)) (fun _ => true) l.length (by
      refine Ev.step (f := fun _ => some true) (fun k => ?_) (Ev.now _)
      simp only [laws_sameJobs.l0]
      rw [if_neg (by omega)]) (by
      intro i hi ih
      refine Ev.step (fun k => ?_) ih
      simp only [laws_sameJobs.l0]
      rw [if_pos (by omega), if_pos (by omega), if_pos (by omega), if_neg (by simp), w64 (n := (i : Int) + 1) (by omega) (by omega)]
      rfl) 0 (Nat.zero_le _)

theorem Pure.FnLateOnce : FnLateOnce_Pure := by
  intro c m w0 w1
  refine Ev.rounds (g := fun k => laws_FnLateOnce.f k c m) ?_
  have big : Ev (fun k => laws_FnLateOnce.j0 k c m true) true := Ev.step (f := fun _ => some true) (fun k => by simp only [laws_FnLateOnce.j0, if_true]) (Ev.now _)
  unfold laws_FnLateOnce.f laws_big.f
  simp only [Option.bind_some]
  by_cases b1 : (c.length : Int) > 1048576
  · simp only [decide_eq_true b1, if_true]; exact big
  simp only [decide_eq_false b1, Bool.false_eq_true, if_false]
  by_cases b2 : (m.length : Int) > 1048576
  · simp only [decide_eq_true b2]; exact big
  simp only [decide_eq_false b2]
  obtain ⟨l0, l1, n, l3, t, ed, hf⟩ := drawTick_ev c (rdOk_start (by omega) (fun x hx => w0.2 x hx))
  have eS := specTick_ev l0 l1 n l3 t hf
  have eI := implTick_ev l0 l1 n l3 t hf
  have hn3 := hf.n3
  by_cases good : runP l0 l1 n l3 ∧ 0 ≤ t
  · obtain ⟨hr, ht⟩ := good
    have hT : tickRun l0 l1 n l3 t = (l0, l1, tickN n t, l3, lateL l0 l3 n (tickN n t) l3.length) := by unfold tickRun; rw [if_pos ⟨dec_true hr, ht⟩]
    rw [hT] at eS eI
    have hll := late_len l0 l3 n (tickN n t) l3.length
    refine Ev.step (fun k => by simp only [laws_FnLateOnce.j0, Bool.false_eq_true, if_false]; rfl) ?_
    refine Ev_bind _ ed (Ev_bind _ eS (Ev_bind _ eI ?_))
    simp only [if_true]
    refine Ev_bind _ (sameI_ev _ (by omega)) ?_
    simp only [if_true]
    refine Ev_bind _ (sameJ_ev _ hn3) ?_
    simp only [Bool.not_true]
    have hl3 : ¬ (l3.length : Int) = 0 := by have := hr.1.1.1; have := hr.2.2.1; omega
    refine Ev.step (fun k => by simp only [laws_FnLateOnce.j1, Bool.false_eq_true, if_false, if_neg hl3]; rfl) ?_
    by_cases hb : t > 1000000000000
    · rw [decide_eq_true hb]
      exact Ev.step (f := fun _ => some true) (fun k => by simp only [laws_FnLateOnce.j2, if_true]) (Ev.now _)
    rw [decide_eq_false hb]
    have q0 := Int.emod_nonneg (m.length : Int) (show t + 1 ≠ 0 by omega)
    have q1 := Int.emod_lt_of_pos (m.length : Int) (show 0 < t + 1 by omega)
    obtain ⟨a, ha⟩ : ∃ a, (m.length : Int) % (t + 1) = a := ⟨_, rfl⟩
    rw [ha] at q0 q1
    have hn := hr.2.1
    have hN : 0 ≤ tickN n a ∧ tickN n a ≤ 1000000000000 := by unfold tickN; split <;> omega
    have hNN : tickN (tickN n a) (t - a) = tickN n t := by unfold tickN; split <;> split <;> split <;> omega
    have o1 : n ≤ tickN n a := by unfold tickN; split <;> omega
    have o2 : tickN n a ≤ tickN n t := by unfold tickN; split <;> split <;> omega
    have hta : 0 ≤ t - a := by omega
    have ht1 : ¬ t + 1 = 0 := by omega
    have ew : wrap64 (t + 1) = t + 1 := w64 (by omega) (by omega)
    have ew2 : wrap64 (t - a) = t - a := w64 (by clear ew; omega) (by clear ew; omega)
    have e1 := implTick_ev l0 l1 n l3 a hf
    have h1 : tickRun l0 l1 n l3 a = (l0, l1, tickN n a, l3, lateL l0 l3 n (tickN n a) l3.length) := by unfold tickRun; rw [if_pos ⟨dec_true hr, q0⟩]
    rw [h1] at e1
    have e2 := implTick_ev l0 l1 (tickN n a) l3 (t - a) hf
    have h2 : tickRun l0 l1 (tickN n a) l3 (t - a) = (l0, l1, tickN n t, l3, lateL l0 l3 (tickN n a) (tickN n t) l3.length) := by unfold tickRun; rw [if_pos ⟨dec_true (runP_now hr hN), hta⟩, hNN]
    rw [h2] at e2
    have hlen := late_length l0 l3 o1 o2 l3.length
    refine Ev.step (fun k => by simp only [laws_FnLateOnce.j2, Bool.false_eq_true, if_false, ew, if_neg ht1, ha, ew2]; rfl) ?_
    refine Ev_bind _ e1 (Ev_bind _ e2 ?_)
    simp only [if_true]
    have ew3 : wrap64 (((lateL l0 l3 n (tickN n a) l3.length).length : Int) + ((lateL l0 l3 (tickN n a) (tickN n t) l3.length).length : Int)) = ((lateL l0 l3 n (tickN n t) l3.length).length : Int) := by
      have u1 := late_len l0 l3 n (tickN n a) l3.length
      have u2 := late_len l0 l3 (tickN n a) (tickN n t) l3.length
      clear ew ew2 e1 e2 h1 h2 hT eS eI hNN ed
      rw [w64 (by omega) (by omega)]
      omega
    rw [ew3]
    simp only [bne_self_eq_false]
    refine Ev.step (fun k => by simp only [laws_FnLateOnce.j3, Bool.false_eq_true, if_false]; rfl) ?_
    exact once_ev _ _ _ (Nat.le_trans (late_len _ _ _ _ _) hn3) (Nat.le_trans (late_len _ _ _ _ _) hn3) (Nat.le_trans (late_len _ _ _ _ _) hn3) (fun x hx => late_once l0 l3 o1 o2 l3.length x hx)
  · have hT : tickRun l0 l1 n l3 t = ([], [], 0, [], []) := by
      unfold tickRun
      refine if_neg (fun x => good ⟨?_, x.2⟩)
      by_cases c : runP l0 l1 n l3
      · exact c
      · exact absurd x.1 (by rw [dec_false c]; decide)
    rw [hT] at eS eI
    refine Ev.step (fun k => by simp only [laws_FnLateOnce.j0, Bool.false_eq_true, if_false]; rfl) ?_
    refine Ev_bind _ ed (Ev_bind _ eS (Ev_bind _ eI ?_))
    simp only [if_true]
    refine Ev_bind _ (sameI_ev _ (by simp)) ?_
    simp only [if_true]
    refine Ev_bind _ (sameJ_ev _ (by simp)) ?_
    simp only [Bool.not_true]
    refine Ev.step (fun k => by simp only [laws_FnLateOnce.j1, Bool.false_eq_true, if_false, List.length_nil, if_pos (show ((0 : Nat) : Int) = 0 from rfl)]; rfl) ?_
    exact Ev.step (f := fun _ => some true) (fun k => by simp only [laws_FnLateOnce.j2, if_true]) (Ev.now _)
end Go.Proofs.Ytjoghfehmhapbaa.QFnLateOnce
