/- FnRingKept, plainly: steps keep all mass and all tracer; any number of workers tells the same; so many steps and then more are all of them at once. No condition but that the bytes are bytes. -/
import Derived.Test.YtjmpgngndnheaaaRingDrawFnRingKept
import Derived.Test.YtjmpgngndnheaaaQFnRingKeptx10
set_option linter.unusedVariables false
set_option linter.unusedSimpArgs false
namespace Go.Proofs.Ytjmpgngndnheaaa.QFnRingKept
open Go.RowKit Go.Proofs.YtjmpgngndnheaaaW.PrintWords Go.Proofs.Ytjmpgngndnheaaa.Opn Go.Proofs.Ytjmpgngndnheaaa.Pl Go.Proofs.Ytjmpgngndnheaaa.Ring

noncomputable def adv (M T W : List Int) (a : Int) : List Int × List Int × Bool := if windsB M T W = true ∧ inB a 1 8 = true then ((STEP W (M, T)).1, (STEP W (M, T)).2, true) else ([], [], false)
theorem implAdvectL_ev (M T W : List Int) (a : Int) (h1 : M.length ≤ 1048576) (h2 : T.length ≤ 1048576) (h3 : W.length ≤ 1048576) : Ev (fun k => impl_Advect.f k M T W a) (adv M T W a) := by
  unfold impl_Advect.f adv
  refine Ev_bind _ (implWinds_ev M T W h1 h2 h3) ?_
  by_cases hb : windsB M T W = true
  · obtain ⟨r, v⟩ := windsB_true hb
    simp only [if_pos hb, implIn, Option.bind_some]
    by_cases ha : inB a 1 8 = true
    · simp only [if_pos ha, hb, ha, and_self, if_true]
      exact Ev_bind _ (implAdvect_ev r v) (Ev.now _)
    · simp only [Bool.not_eq_true] at ha; simp only [ha, Bool.false_eq_true, and_false, if_false]
      exact Ev.now _
  · simp only [Bool.not_eq_true] at hb; simp only [hb, Bool.false_eq_true, false_and, if_false]
    exact Ev.now _
theorem adv_len (M T W : List Int) (a : Int) : (adv M T W a).1.length ≤ 1048576 ∧ (adv M T W a).2.1.length ≤ 1048576 := by
  unfold adv
  by_cases h : windsB M T W = true ∧ inB a 1 8 = true
  · rw [if_pos h]
    obtain ⟨r, v⟩ := windsB_true h.1
    obtain ⟨q, _⟩ := STEP_ok (x := (M, T)) r v
    have := q.2.1
    have := q.2.2.1
    dsimp only
    omega
  · rw [if_neg h]; simp

noncomputable def runR (M T W : List Int) (a : Int) : List Int × List Int × Bool := if windsB M T W = true ∧ inB a 0 200 = true then ((RUN W a.toNat (M, T)).1, (RUN W a.toNat (M, T)).2, true) else ([], [], false)
theorem specRunL_ev {W : List Int} : ∀ (d : Nat) (i : Nat) (x : List Int × List Int), i + d ≤ 1000 → RV x.1 x.2 → WV W x.1.length → Ev (fun k => spec_RunRing.l0 k W ((i + d : Nat) : Int) (i : Int) x.1 x.2) ((RUN W d x).1, (RUN W d x).2, true) := by
  intro d
  induction d with
  | zero =>
    intro i x hi r v
    refine Ev.step (f := fun _ => some (x.1, x.2, true)) (fun k => ?_) (Ev.now _)
    simp only [spec_RunRing.l0]
    rw [if_neg (by omega)]
  | succ d ih =>
    intro i x hi r v
    obtain ⟨q, ql, _⟩ := STEP_ok r v
    refine Ev.step (f := fun k => (spec_l17Step.f k x.1 x.2 W).bind fun bt => spec_RunRing.l0 k W ((i + 1 + d : Nat) : Int) ((i + 1 : Nat) : Int) bt.1 bt.2) (fun k => ?_) ?_
    · simp only [spec_RunRing.l0]
      rw [if_pos (by omega), w64 (by omega) (by omega), show i + (d + 1) = i + 1 + d by omega]
      rfl
    · exact Ev_bind _ (specStep_ev r v) (ih (i + 1) (STEP W x) (by omega) q (by rw [ql]; exact v))
theorem implRunL_ev {W : List Int} : ∀ (d : Nat) (x : List Int × List Int), d ≤ 1000 → RV x.1 x.2 → WV W x.1.length → Ev (fun k => impl_RunRing.l0 k W (d : Int) x.1 x.2) ((RUN W d x).1, (RUN W d x).2, true) := by
  intro d
  induction d with
  | zero =>
    intro x hi r v
    refine Ev.step (f := fun _ => some (x.1, x.2, true)) (fun k => ?_) (Ev.now _)
    simp only [impl_RunRing.l0]
    rw [if_neg (by omega)]
  | succ d ih =>
    intro x hi r v
    obtain ⟨q, ql, _⟩ := STEP_ok r v
    refine Ev.step (f := fun k => (impl_advect.f k x.1 x.2 W).bind fun bt => impl_RunRing.l0 k W (d : Int) bt.1 bt.2) (fun k => ?_) ?_
    · simp only [impl_RunRing.l0]
      rw [if_pos (by omega), w64 (by omega) (by omega), show ((d + 1 : Nat) : Int) - 1 = (d : Int) by omega]
    · exact Ev_bind _ (implAdvect_ev r v) (ih (STEP W x) (by omega) q (by rw [ql]; exact v))
theorem specRunRing_ev (M T W : List Int) (a : Int) (h1 : M.length ≤ 1048576) (h2 : T.length ≤ 1048576) (h3 : W.length ≤ 1048576) : Ev (fun k => spec_RunRing.f k M T W a) (runR M T W a) := by
  unfold spec_RunRing.f runR
  refine Ev_bind _ (specWinds_ev M T W h1 h2 h3) ?_
  by_cases hb : windsB M T W = true
  · obtain ⟨r, v⟩ := windsB_true hb
    simp only [if_pos hb, specIn, Option.bind_some]
    by_cases ha : inB a 0 200 = true
    · simp only [hb, ha, and_self, if_true]
      have hh := (inB_iff _ _ _).1 ha
      refine Ev.step (f := fun k => spec_RunRing.l0 k W a 0 M T) (fun k => ?_) ?_
      · simp only [spec_RunRing.j0]
        rw [if_neg (by simp)]
        have := r.2.1
        have := r.2.2.1
        simp only [Option.bind_some, List.nil_append, List.length_nil]
        rw [if_pos (by omega), if_pos (by omega)]
      · have key := specRunL_ev (W := W) a.toNat 0 (M, T) (by omega) r v
        rw [show ((0 + a.toNat : Nat) : Int) = a by omega] at key
        exact key
    · simp only [Bool.not_eq_true] at ha; simp only [ha, Bool.false_eq_true, and_false, if_false]
      exact Ev.step (f := fun _ => some ([], [], false)) (fun k => by simp [spec_RunRing.j0]) (Ev.now _)
  · simp only [Bool.not_eq_true] at hb; simp only [hb, Bool.false_eq_true, false_and, if_false]
    exact Ev.step (f := fun _ => some ([], [], false)) (fun k => by simp [spec_RunRing.j0]) (Ev.now _)
theorem implRunRing_ev (M T W : List Int) (a : Int) (h1 : M.length ≤ 1048576) (h2 : T.length ≤ 1048576) (h3 : W.length ≤ 1048576) : Ev (fun k => impl_RunRing.f k M T W a) (runR M T W a) := by
  unfold impl_RunRing.f runR
  refine Ev_bind _ (implWinds_ev M T W h1 h2 h3) ?_
  by_cases hb : windsB M T W = true
  · obtain ⟨r, v⟩ := windsB_true hb
    simp only [if_pos hb, implIn, Option.bind_some]
    by_cases ha : inB a 0 200 = true
    · simp only [hb, ha, and_self, if_true]
      have hh := (inB_iff _ _ _).1 ha
      refine Ev.step (f := fun k => impl_RunRing.l0 k W a M T) (fun k => ?_) ?_
      · simp only [impl_RunRing.j0]
        rw [if_neg (by simp)]
        have := r.2.1
        have := r.2.2.1
        unfold slices_Clone_int64_int64.f
        rw [if_pos (by omega), if_pos (by omega)]
        rfl
      · have key := implRunL_ev (W := W) a.toNat (M, T) (by omega) r v
        rw [show ((a.toNat : Nat) : Int) = a by omega] at key
        exact key
    · simp only [Bool.not_eq_true] at ha; simp only [ha, Bool.false_eq_true, and_false, if_false]
      exact Ev.step (f := fun _ => some ([], [], false)) (fun k => by simp [impl_RunRing.j0]) (Ev.now _)
  · simp only [Bool.not_eq_true] at hb; simp only [hb, Bool.false_eq_true, false_and, if_false]
    exact Ev.step (f := fun _ => some ([], [], false)) (fun k => by simp [impl_RunRing.j0]) (Ev.now _)
theorem runR_len (M T W : List Int) (a : Int) : (runR M T W a).1.length ≤ 1048576 ∧ (runR M T W a).2.1.length ≤ 1048576 := by
  unfold runR
  by_cases h : windsB M T W = true ∧ inB a 0 200 = true
  · rw [if_pos h]
    obtain ⟨r, v⟩ := windsB_true h.1
    obtain ⟨q, _⟩ := RUN_ok a.toNat (M, T) r v
    have := q.2.1
    have := q.2.2.1
    dsimp only
    omega
  · rw [if_neg h]; simp

theorem same_ev (l : List Int) (hl : l.length ≤ 1048576) : Ev (fun k => laws_sameInts.f k l l) true := by
  unfold laws_sameInts.f
  simp only [if_true]
  have key := Ev_up (fun k i => laws_sameInts.l0 k l l (i : Int)) (fun _ => true) l.length (by
      refine Ev.step (f := fun _ => some true) (fun k => ?_) (Ev.now _)
      simp only [laws_sameInts.l0]
      rw [if_neg (by omega)]) (by
      intro i hi ih
      refine Ev.step (fun k => ?_) ih
      simp only [laws_sameInts.l0]
      rw [if_pos (by omega), if_pos (by omega), if_pos (by omega), if_pos True.intro, w64 (n := (i : Int) + 1) (by omega) (by omega)]
      rfl) 0 (Nat.zero_le _)
  exact key
theorem sameRing_ev (M T : List Int) (h1 : M.length ≤ 1048576) (h2 : T.length ≤ 1048576) : Ev (fun k => laws_sameRing.f k M T M T) true := by
  unfold laws_sameRing.f
  refine Ev_bind _ (same_ev M h1) ?_
  simp only [if_true]
  exact Ev_bind _ (same_ev T h2) (Ev.now _)
/-- All cells small, none below 0. -/
def Sm (l : List Int) : Prop := l.length ≤ 200 ∧ ∀ i, i < l.length → 0 ≤ l.getD i 0 ∧ l.getD i 0 ≤ 1000000000
theorem Sm.take {l : List Int} (h : Sm l) : ∀ i, i ≤ l.length → 0 ≤ (l.take i).sum ∧ (l.take i).sum ≤ (i : Int) * 1000000000 := by
  intro i
  induction i with
  | zero => intro _; simp
  | succ i ih =>
    intro hi
    have a := ih (by omega)
    have b := h.2 i (by omega)
    rw [take_sum l i (by omega)]
    omega
theorem sum_ev (l : List Int) (h : Sm l) : Ev (fun k => laws_sum.f k l) l.sum := by
  unfold laws_sum.f
  have hl := h.1
  have key := Ev_up (fun k i => laws_sum.l0 k l ((l.take i).sum) (i : Int)) (fun _ => l.sum) l.length (by
      refine Ev.step (f := fun _ => some l.sum) (fun k => ?_) (Ev.now _)
      simp only [laws_sum.l0]
      rw [if_neg (by omega), List.take_length]) (by
      intro i hi ih
      refine Ev.step (fun k => ?_) ih
      have a := h.take i (by omega)
      have b := h.2 i hi
      simp only [laws_sum.l0]
      rw [if_pos (by omega), if_pos (by omega), rd_nat, w64 (n := (l.take i).sum + l.getD i 0) (by omega) (by omega), w64 (n := (i : Int) + 1) (by omega) (by omega), take_sum l i hi]
      rfl) 0 (Nat.zero_le _)
  simpa using key
theorem moment_ev (M T : List Int) (r : RV M T) (hM : Sm M) (hT : Sm T) : Ev (fun k => impl_Moment.f k M T) (M.sum, T.sum) := by
  unfold impl_Moment.f
  have hn := r.2.1
  have hl := r.2.2.1
  have hr : ringB M T = true := dec_true r
  refine Ev_bind _ (implRingOk_ev M T (by omega) (by omega)) ?_
  simp only [hr, if_true]
  have key := Ev_up (fun k i => impl_Moment.l0 k ((M.take i).sum) ((T.take i).sum) (M.length : Int) (i : Int) M T) (fun _ => (M.sum, T.sum)) M.length (by
      refine Ev.step (f := fun _ => some (M.sum, T.sum)) (fun k => ?_) (Ev.now _)
      simp only [impl_Moment.l0]
      rw [if_neg (by omega), List.take_length, ← hl, List.take_length]) (by
      intro i hi ih
      refine Ev.step (fun k => ?_) ih
      have a := hM.take i (by omega)
      have b := hM.2 i hi
      have c := hT.take i (by omega)
      have d := hT.2 i (by omega)
      simp only [impl_Moment.l0]
      rw [if_pos (by omega), if_pos (by omega), if_pos (by omega), if_pos (by omega), rd_nat, rd_nat, w64 (n := (M.take i).sum + M.getD i 0) (by omega) (by omega), w64 (n := (T.take i).sum + T.getD i 0) (by omega) (by omega), w64 (n := (i : Int) + 1) (by omega) (by omega), take_sum M i hi, take_sum T i (by omega)]
      rfl) 0 (Nat.zero_le _)
  simpa using key
theorem RV.sm {M T : List Int} (r : RV M T) : Sm M ∧ Sm T := by
  obtain ⟨h1, h2, h3, h4, h5⟩ := r
  have a : ∀ i, i < M.length → 0 ≤ M.getD i 0 ∧ M.getD i 0 ≤ 1000000000 := fun i hi => by
    have := h4 i hi
    have := le_sum M (fun k hk => by have := h4 k hk; omega) i hi
    omega
  exact ⟨⟨h2, a⟩, ⟨by omega, fun i hi => by have := h4 i (by omega); have := a i (by omega); omega⟩⟩
theorem runR_yes {M T W : List Int} {a : Int} (r : RV M T) (v : WV W M.length) (h0 : 0 ≤ a) (h1 : a ≤ 200) : runR M T W a = ((RUN W a.toNat (M, T)).1, (RUN W a.toNat (M, T)).2, true) := by
  unfold runR
  rw [if_pos ⟨windsB_mk r v, (inB_iff _ _ _).2 ⟨h0, h1⟩⟩]
theorem adv_yes {M T W : List Int} {a : Int} (r : RV M T) (v : WV W M.length) (h0 : 1 ≤ a) (h1 : a ≤ 8) : adv M T W a = ((STEP W (M, T)).1, (STEP W (M, T)).2, true) := by
  unfold adv
  rw [if_pos ⟨windsB_mk r v, (inB_iff _ _ _).2 ⟨h0, h1⟩⟩]

theorem FnRingKept : laws_FnRingKept.Pure := by
  intro l0 l1 q0 q1 q2 q3 q4 q5
  refine Ev.rounds (g := fun k => laws_FnRingKept.f k l0 l1) ?_
  unfold laws_FnRingKept.f laws_big.f
  simp only [Option.bind_some]
  have fin : Ev (fun k => laws_FnRingKept.j0 k l0 l1 true) true := Ev.step (f := fun _ => some true) (fun k => by simp only [laws_FnRingKept.j0, if_true]) (Ev.now _)
  by_cases g1 : (l0.length : Int) > 1048576
  · simp only [decide_eq_true g1, if_true]; exact fin
  simp only [decide_eq_false g1, Bool.false_eq_true, if_false]
  by_cases g2 : (l1.length : Int) > 1048576
  · simp only [decide_eq_true g2]; exact fin
  simp only [decide_eq_false g2]
  have hb : RdOk l0 0 := ⟨by omega, fun i hi => by
    rw [rd_lt l0 i hi]
    exact wfU8_range (q2 _ (List.getElem_mem hi)), by omega, by omega⟩
  obtain ⟨x, ex, n1, n2, n3⟩ := drawAdvect_ev l0 hb
  obtain ⟨M, T, W, u⟩ := x
  dsimp only at n1 n2 n3
  have hA0 : 0 ≤ (l1.length : Int) % 15 ∧ (l1.length : Int) % 15 ≤ 14 := by omega
  have hB0 : Int.tmod (wrap64 ((l1.length : Int) / 15)) 15 = (l1.length : Int) / 15 % 15 := by
    rw [w64 (by omega) (by omega), Int.tmod_eq_emod_of_nonneg (by omega)]
  have hB1 : 0 ≤ (l1.length : Int) / 15 % 15 ∧ (l1.length : Int) / 15 % 15 ≤ 14 := by omega
  generalize hA : (l1.length : Int) % 15 = a at hA0
  have eS := specRunRing_ev M T W a (by omega) (by omega) (by omega)
  have eI := implRunRing_ev M T W a (by omega) (by omega) (by omega)
  have hlen := runR_len M T W a
  refine Ev.step (f := fun k => (spec_DrawAdvect.f k l0).bind fun bt => ((spec_RunRing.f k bt.1 bt.2.1 bt.2.2.1 a).bind fun bs => ((impl_RunRing.f k bt.1 bt.2.1 bt.2.2.1 a).bind fun bi => (if (bi.2.2 != bs.2.2) = true then (laws_FnRingKept.j1 k bt.2.2.1 a ((l1.length : Int) / 15 % 15) bs.2.2 true bt.1 bt.2.1 bi.1 bi.2.1) else ((laws_sameRing.f k bi.1 bi.2.1 bs.1 bs.2.1).bind fun t => (laws_FnRingKept.j1 k bt.2.2.1 a ((l1.length : Int) / 15 % 15) bs.2.2 (!t) bt.1 bt.2.1 bi.1 bi.2.1)))))) (fun k => ?_) ?_
  · simp only [laws_FnRingKept.j0, Bool.false_eq_true, if_false, hB0, hA]
  generalize (l1.length : Int) / 15 % 15 = b at hB1
  refine Ev_bind _ ex (Ev_bind _ eS (Ev_bind _ eI ?_))
  simp only [bne_self_eq_false, Bool.false_eq_true, if_false]
  refine Ev_bind _ (sameRing_ev _ _ hlen.1 hlen.2) ?_
  simp only [Bool.not_true]
  by_cases hw : windsB M T W = true
  rotate_left
  · have e : runR M T W a = ([], [], false) := by unfold runR; rw [if_neg (fun c => hw c.1)]
    simp only [e]
    exact Ev.step (f := fun _ => some true) (fun k => by simp [laws_FnRingKept.j1]) (Ev.now _)
  obtain ⟨r, v⟩ := windsB_true hw
  have e := runR_yes (a := a) r v hA0.1 (by omega)
  simp only [e]
  obtain ⟨rx, lx, sx, tx⟩ := RUN_ok (W := W) a.toNat (M, T) r v
  have vx : WV W (RUN W a.toNat (M, T)).1.length := by rw [lx]; exact v
  have hab : wrap64 (a + b) = a + b := w64 (by omega) (by omega)
  have ez := runR_yes (a := a + b) r v (by omega) (by omega)
  have ey := runR_yes (a := b) rx vx hB1.1 (by omega)
  rw [RUN_add, show a.toNat + b.toNat = (a + b).toNat by omega] at ey
  obtain ⟨rz, lz, sz, tz⟩ := RUN_ok (W := W) (a + b).toNat (M, T) r v
  have iy := implRunRing_ev (RUN W a.toNat (M, T)).1 (RUN W a.toNat (M, T)).2 W b (by rw [lx]; dsimp only; omega) (by rw [rx.2.2.1, lx]; dsimp only; omega) (by omega)
  have iz := implRunRing_ev M T W (a + b) (by omega) (by omega) (by omega)
  rw [ey] at iy
  rw [ez] at iz
  generalize (RUN W a.toNat (M, T)) = X at iy
  generalize (RUN W (a + b).toNat (M, T)) = Z at iy iz rz lz sz tz
  obtain ⟨Z1, Z2⟩ := Z
  dsimp only at iy iz rz lz sz tz
  have hz1 : Z1.length ≤ 1048576 := by have := rz.2.1; omega
  have hz2 : Z2.length ≤ 1048576 := by have := rz.2.1; have := rz.2.2.1; omega
  have hzr : ringB Z1 Z2 = true := dec_true rz
  refine Ev.step (f := fun k => (impl_RunRing.f k X.1 X.2 W b).bind fun by_ => ((impl_RunRing.f k M T W (a + b)).bind fun bz => ((impl_Moment.f k bz.1 bz.2.1).bind fun bm => (if by_.2.2 = true then (if bz.2.2 = true then ((laws_sameRing.f k by_.1 by_.2.1 bz.1 bz.2.1).bind fun t => (if t = true then ((impl_RingOk.f k bz.1 bz.2.1).bind fun t => (if t = true then ((laws_sum.f k M).bind fun t => (if bm.1 = t then ((laws_sum.f k T).bind fun t => (if bm.2 = t then ((laws_sum.f k bz.1).bind fun t => (if t = bm.1 then ((laws_sum.f k bz.2.1).bind fun t => (laws_FnRingKept.j2 k W (t != bm.2) M T)) else (laws_FnRingKept.j2 k W true M T))) else (laws_FnRingKept.j2 k W true M T))) else (laws_FnRingKept.j2 k W true M T))) else (laws_FnRingKept.j2 k W true M T))) else (laws_FnRingKept.j2 k W true M T))) else (laws_FnRingKept.j2 k W true M T)) else (laws_FnRingKept.j2 k W true M T))))) (fun k => ?_) ?_
  · simp only [laws_FnRingKept.j1, Bool.false_eq_true, if_false, if_true, hab]
  refine Ev_bind _ iy (Ev_bind _ iz (Ev_bind _ (moment_ev Z1 Z2 rz (RV.sm rz).1 (RV.sm rz).2) ?_))
  simp only [if_true]
  refine Ev_bind _ (sameRing_ev Z1 Z2 hz1 hz2) ?_
  simp only [if_true]
  refine Ev_bind _ (implRingOk_ev Z1 Z2 hz1 hz2) ?_
  simp only [hzr, if_true]
  refine Ev_bind _ (sum_ev M (RV.sm r).1) ?_
  simp only [sz, if_true]
  refine Ev_bind _ (sum_ev T (RV.sm r).2) ?_
  simp only [tz, if_true]
  refine Ev_bind _ (sum_ev Z1 (RV.sm rz).1) ?_
  simp only [sz, if_true]
  refine Ev_bind _ (sum_ev Z2 (RV.sm rz).2) ?_
  simp only [tz, bne_self_eq_false]
  -- the workers
  obtain ⟨rs, ls, _, _⟩ := STEP_ok (W := W) (x := (M, T)) r v
  have e1 := runR_yes (a := 1) r v (by omega) (by omega)
  have er : RUN W (1 : Int).toNat (M, T) = STEP W (M, T) := rfl
  rw [er] at e1
  have i1 := implRunRing_ev M T W 1 (by omega) (by omega) (by omega)
  rw [e1] at i1
  have ia : ∀ c : Int, 1 ≤ c → c ≤ 8 → Ev (fun k => impl_Advect.f k M T W c) ((STEP W (M, T)).1, (STEP W (M, T)).2, true) := fun c h1 h2 => by
    rw [← adv_yes (a := c) r v h1 h2]
    exact implAdvectL_ev M T W c (by omega) (by omega) (by omega)
  generalize STEP W (M, T) = Y at rs ls i1 ia
  obtain ⟨Y1, Y2⟩ := Y
  dsimp only at rs ls i1 ia
  have hy1 : Y1.length ≤ 1048576 := by have := rs.2.1; omega
  have hy2 : Y2.length ≤ 1048576 := by have := rs.2.1; have := rs.2.2.1; omega
  refine Ev.step (f := fun k => (impl_Advect.f k M T W 1).bind fun bt => (laws_FnRingKept.l0 k W bt.2.2 2 M T bt.1 bt.2.1)) (fun k => by simp only [laws_FnRingKept.j2, Bool.false_eq_true, if_false]) ?_
  refine Ev_bind _ (ia 1 (by omega) (by omega)) ?_
  have key : ∀ d : Nat, ∀ c : Int, 2 ≤ c → c + (d : Int) = 9 → Ev (fun k => laws_FnRingKept.l0 k W true c M T Y1 Y2) true := by
    intro d
    induction d with
    | zero =>
      intro c h2 h9
      refine Ev.step (f := fun k => (impl_RunRing.f k M T W 1).bind fun bt => (if bt.2.2 = true then ((laws_sameRing.f k bt.1 bt.2.1 Y1 Y2).bind fun t => (some t)) else (some false))) (fun k => ?_) ?_
      · simp only [laws_FnRingKept.l0]
        rw [if_neg (by omega)]
      refine Ev_bind _ i1 ?_
      simp only [if_true]
      exact Ev_bind _ (sameRing_ev Y1 Y2 hy1 hy2) (Ev.now _)
    | succ d ih =>
      intro c h2 h9
      refine Ev.step (f := fun k => (impl_Advect.f k M T W c).bind fun bt => (if bt.2.2 = true then ((laws_sameRing.f k Y1 Y2 bt.1 bt.2.1).bind fun t => (if t = true then (laws_FnRingKept.l0 k W true (c + 1) M T Y1 Y2) else (some false))) else (some false))) (fun k => ?_) ?_
      · simp only [laws_FnRingKept.l0, if_true]
        rw [if_pos (by omega), w64 (n := c + 1) (by omega) (by omega)]
      refine Ev_bind _ (ia c (by omega) (by omega)) ?_
      simp only [if_true]
      refine Ev_bind _ (sameRing_ev Y1 Y2 hy1 hy2) ?_
      simp only [if_true]
      exact ih (c + 1) (by omega) (by omega)
  exact key 7 2 (by omega) (by omega)
end Go.Proofs.Ytjmpgngndnheaaa.QFnRingKept
