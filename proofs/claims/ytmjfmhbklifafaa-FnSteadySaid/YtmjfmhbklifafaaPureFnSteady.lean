/- FnSteady, plainly: the program and the reference tell the same levels; a level that has risen has its limit reached, and stays for hold numbers. No condition. -/
import Derived.Test.YtmjfmhbklifafaaSeriesDrawSt
import Derived.Test.YtmjfmhbklifafaaSteadyLib
import Derived.Test.YtmjfmhbklifafaaQFnSteadyx6
set_option linter.unusedVariables false
set_option linter.unusedSimpArgs false
namespace Go.Proofs.Ytmjfmhbklifafaa.QFnSteady
open Go.RowKit Go.Proofs.YtmjfmhbklifafaaW.PrintWords Go.Proofs.Ytmjfmhbklifafaa.Opn Go.Proofs.Ytmjfmhbklifafaa.Pl Go.Proofs.Ytmjfmhbklifafaa.Lev

/-- Some answer of a kind. -/
def Tells {α : Type} (g : Nat → Option α) (P : α → Prop) : Prop := ∃ r, Ev g r ∧ P r
theorem Tells.now {α : Type} {P : α → Prop} (r : α) (h : P r) : Tells (fun _ => some r) P := ⟨r, Ev.now r, h⟩
theorem Tells.step {α : Type} {g f : Nat → Option α} {P : α → Prop} (h : ∀ k, g (k + 1) = f k) (t : Tells f P) : Tells g P := by
  obtain ⟨r, hr, hp⟩ := t
  exact ⟨r, Ev.step h hr, hp⟩
theorem Tells.bind {α β : Type} {g : Nat → Option α} {f : Nat → α → Option β} {P : α → Prop} {Q : β → Prop} (t : Tells g P) (h : ∀ r, P r → Tells (fun k => f k r) Q) : Tells (fun k => (g k).bind (f k)) Q := by
  obtain ⟨r, hr, hp⟩ := t
  obtain ⟨s, hs, hq⟩ := h r hp
  exact ⟨s, Ev_bind r hr hs, hq⟩
theorem Tells.mono {α : Type} {g : Nat → Option α} {P Q : α → Prop} (t : Tells g P) (h : ∀ r, P r → Q r) : Tells g Q := by
  obtain ⟨r, hr, hp⟩ := t
  exact ⟨r, hr, h r hp⟩

/-- what is drawn: lists of no great length -/
def Drawn4 (r : List Int × List Int × List Int × Int) : Prop := r.1.length ≤ 1048576 ∧ r.2.1.length ≤ 1048576 ∧ r.2.2.1.length ≤ 1048576

theorem drawOff_ev {b : List Int} (s on : List Int) (hs : s.length ≤ 1048576) (h1 : 1 ≤ on.length) (h5 : on.length ≤ 5) : ∀ (d i : Nat) (off : List Int) (p : Int), i + d = on.length → off.length = i → RdOk b p → Tells (fun k => spec_DrawLevels.l1 k s on off (i : Int) b p) Drawn4 := by
  intro d
  induction d with
  | succ d ih =>
    intro i off p hi ho hp
    obtain ⟨v, q, e, v0, v1, hq⟩ := rdBelow hp 14 (by omega)
    refine Tells.step (fun k => ?_) (ih (i + 1) (off ++ [wrap64 (rd on (i : Int) - v)]) q (by omega) (by simp; omega) hq)
    simp only [spec_DrawLevels.l1]
    rw [if_pos (by omega), if_pos (by omega), e]
    simp only [Option.bind_some]
    rw [if_pos (by omega), w64 (n := (i : Int) + 1) (by omega) (by omega)]
    rfl
  | zero =>
    intro i off p hi ho hp
    obtain ⟨v, q, e, v0, v1, hq⟩ := rdBelow hp 4 (by omega)
    obtain ⟨u, q2, e2, u0, u1, hq2⟩ := rdBelow hq 24 (by omega)
    by_cases c0 : u = 0
    · refine Tells.step (f := fun _ => some (s, on, off.set (0 : Int).toNat (wrap64 (rd on 0 + 1)), wrap64 (1 + v))) (fun k => ?_) (Tells.now _ ⟨hs, by show on.length ≤ 1048576; omega, by show (off.set _ _).length ≤ 1048576; rw [List.length_set]; omega⟩)
      simp only [spec_DrawLevels.l1]
      rw [if_neg (by omega), e]
      simp only [Option.bind_some, e2]
      rw [if_pos c0, if_pos (by omega), if_pos (by omega)]
    by_cases c1 : u = 1
    · refine Tells.step (f := fun _ => some (s, on ++ [rd on (wrap64 ((on.length : Int) - 1))], off ++ [0], wrap64 (1 + v))) (fun k => ?_) (Tells.now _ ⟨hs, by show (on ++ [_]).length ≤ 1048576; rw [List.length_append]; simp only [List.length_cons, List.length_nil]; omega, by show (off ++ [0]).length ≤ 1048576; rw [List.length_append]; simp only [List.length_cons, List.length_nil]; omega⟩)
      have w : wrap64 ((on.length : Int) - 1) = (on.length : Int) - 1 := w64 (by omega) (by omega)
      simp only [spec_DrawLevels.l1]
      rw [if_neg (by omega), e]
      simp only [Option.bind_some, e2]
      rw [w, if_neg c0, if_pos c1, if_pos (by omega), if_pos (by omega), if_pos (by omega), if_pos (by omega)]
    by_cases c2 : u = 2
    · obtain ⟨t, q3, e3, t0, t1, hq3⟩ := rdBelow hq2 3 (by omega)
      refine Tells.step (f := fun _ => some (s, on, off, rd [0, 100, 101] t)) (fun k => ?_) (Tells.now _ ⟨hs, by show on.length ≤ 1048576; omega, by show off.length ≤ 1048576; omega⟩)
      simp only [spec_DrawLevels.l1]
      rw [if_neg (by omega), e]
      simp only [Option.bind_some, e2]
      rw [if_neg c0, if_neg c1, if_pos c2, e3]
      simp only [Option.bind_some]
      rw [if_pos (by omega), if_pos (by simp; omega)]
    by_cases c3 : u = 3
    · obtain ⟨l, q3, e3, hl, _⟩ := draw19_ev hq2
      refine Tells.step (f := fun k => (spec_l19Draw.f k b q2).bind fun bt => some (bt.1, on, off, wrap64 (1 + v))) (fun k => ?_) ⟨_, Ev_bind _ e3 (Ev.now _), by show l.length ≤ 1048576; omega, by show on.length ≤ 1048576; omega, by show off.length ≤ 1048576; omega⟩
      simp only [spec_DrawLevels.l1]
      rw [if_neg (by omega), e]
      simp only [Option.bind_some, e2]
      rw [if_neg c0, if_neg c1, if_neg c2, if_pos c3]
    by_cases c4 : u = 4
    · refine Tells.step (f := fun _ => some (s, on.take (0 : Int).toNat, off.take (0 : Int).toNat, wrap64 (1 + v))) (fun k => ?_) (Tells.now _ ⟨hs, by show (on.take _).length ≤ 1048576; rw [List.length_take]; omega, by show (off.take _).length ≤ 1048576; rw [List.length_take]; omega⟩)
      simp only [spec_DrawLevels.l1]
      rw [if_neg (by omega), e]
      simp only [Option.bind_some, e2]
      rw [if_neg c0, if_neg c1, if_neg c2, if_neg c3, if_pos c4, if_pos (by omega), if_pos (by omega)]
    · refine Tells.step (f := fun _ => some (s, on, off, wrap64 (1 + v))) (fun k => ?_) (Tells.now _ ⟨hs, by show on.length ≤ 1048576; omega, by show off.length ≤ 1048576; omega⟩)
      simp only [spec_DrawLevels.l1]
      rw [if_neg (by omega), e]
      simp only [Option.bind_some, e2]
      rw [if_neg c0, if_neg c1, if_neg c2, if_neg c3, if_neg c4]

theorem drawLevels_ev {b : List Int} (h : RdOk b 0) : Tells (fun k => spec_DrawLevels.f k b) Drawn4 := by
  obtain ⟨n, p, e, n0, n1, hp⟩ := rdSize h 3 40 (by omega) (by omega) (by omega)
  unfold spec_DrawLevels.f
  refine Tells.bind (P := fun r => r = (b, 0)) ⟨_, Ev_const (show spec_l1Open.f b = some (b, 0) from rfl), rfl⟩ (fun r hr => ?_)
  subst hr
  refine Tells.bind (P := fun r => r = (n, p)) ⟨_, Ev_const e, rfl⟩ (fun r hr => ?_)
  subst hr
  have key : ∀ (d i : Nat) (s : List Int) (p : Int), (i : Int) + (d : Int) = n → s.length = i → RdOk b p → Tells (fun k => spec_DrawLevels.l0 k s n (i : Int) b p) Drawn4 := by
    intro d
    induction d with
    | succ d ih =>
      intro i s p hi hl hp
      obtain ⟨v, q, e, v0, v1, hq⟩ := rdBelow hp 50 (by omega)
      refine Tells.step (fun k => ?_) (ih (i + 1) (s ++ [v]) q (by omega) (by simp; omega) hq)
      simp only [spec_DrawLevels.l0]
      rw [if_pos (by omega), e]
      simp only [Option.bind_some]
      rw [if_pos (by omega), w64 (n := (i : Int) + 1) (by omega) (by omega)]
      rfl
    | zero =>
      intro i s p hi hl hp
      obtain ⟨v, q, e, v0, v1, hq⟩ := rdBelow hp 4 (by omega)
      have hlen : (([10, 20, 30, 40] : List Int).take (1 + v).toNat).length = (1 + v).toNat := by rw [List.length_take]; simp only [List.length_cons, List.length_nil]; omega
      refine Tells.step (fun k => ?_) (drawOff_ev (b := b) s (([10, 20, 30, 40] : List Int).take (1 + v).toNat) (by omega) (by omega) (by omega) _ 0 [] q (Nat.zero_add _) rfl hq)
      simp only [spec_DrawLevels.l0]
      rw [if_neg (by omega)]
      simp only [Option.bind_some, e]
      rw [w64 (n := 1 + v) (by omega) (by omega), if_pos (by omega), if_pos (by simp only [List.length_cons, List.length_nil]; omega)]
      rfl
  exact key n.toNat 0 [] p (by omega) rfl hp

section
variable {xs on off : List Int} {hold : Int}
theorem law_stay (hx : xs.length ≤ 500) (hh : hold ≤ 100) (hl : LimOk on off on.length hold) (hn : on.length ≤ 5) (i : Nat) (hi : i < xs.length) (h0 : (lv on off on.length hold xs (i + 1)).2 = 0)
    (hnext : Ev (fun k => laws_FnSteady.l0 k xs on hold (lvs on off on.length hold xs xs.length) ((i + 1 : Nat) : Int)) true) :
    ∀ (e d : Nat), i + d + e = xs.length → Ev (fun k => laws_FnSteady.l1 k xs on hold (lvs on off on.length hold xs xs.length) (i : Int) ((i + d : Nat) : Int)) true := by
  have hlen := lvs_len on off on.length hold xs xs.length
  have w1 : wrap64 ((i : Int) + 1) = ((i + 1 : Nat) : Int) := w64 (by omega) (by omega)
  have stop : ∀ d : Nat, Ev (fun k => laws_FnSteady.j4 k xs on hold (lvs on off on.length hold xs xs.length) (i : Int) ((i + d : Nat) : Int) false) true := by
    intro d
    refine Ev.step (fun k => ?_) hnext
    simp only [laws_FnSteady.j4]
    rw [if_neg (by simp), w1]
  intro e
  induction e with
  | zero =>
    intro d hd
    refine Ev.step (fun k => ?_) (stop d)
    simp only [laws_FnSteady.l1]
    rw [if_neg (by omega)]
  | succ e ih =>
    intro d hd
    have w2 : wrap64 (((i + d : Nat) : Int) - (i : Int)) = (d : Int) := by rw [show ((i + d : Nat) : Int) - (i : Int) = (d : Int) by omega]; exact w64 (by omega) (by omega)
    by_cases c : (d : Int) < hold
    · have hs := (lv_stay hl xs i h0 d c).1
      refine Ev.step (f := fun k => laws_FnSteady.j4 k xs on hold (lvs on off on.length hold xs xs.length) (i : Int) ((i + d : Nat) : Int) true) (fun k => ?_) ?_
      · simp only [laws_FnSteady.l1]
        rw [if_pos (by omega), w2, decide_eq_true c]
      · refine Ev.step (fun k => ?_) (ih (d + 1) (by omega))
        simp only [laws_FnSteady.j4]
        rw [if_pos True.intro, if_pos (by omega), if_pos (by omega), if_pos (by omega), if_pos (by omega), lvs_rd _ _ _ _ _ _ (i + d) (by omega), lvs_rd _ _ _ _ _ _ i (by omega), if_neg (by rw [show i + d + 1 = i + 1 + d by omega]; omega), w64 (n := ((i + d : Nat) : Int) + 1) (by omega) (by omega)]
        rfl
    · refine Ev.step (fun k => ?_) (stop d)
      simp only [laws_FnSteady.l1]
      rw [if_pos (by omega), w2, decide_eq_false c]

theorem law_loop (hx : xs.length ≤ 500) (hh : hold ≤ 100) (hl : LimOk on off on.length hold) (hn : on.length ≤ 5) :
    Ev (fun k => laws_FnSteady.l0 k xs on hold (lvs on off on.length hold xs xs.length) 0) true := by
  have hlen := lvs_len on off on.length hold xs xs.length
  have key := Ev_up (fun k i => laws_FnSteady.l0 k xs on hold (lvs on off on.length hold xs xs.length) (i : Int)) (fun _ => true) xs.length (by
      refine Ev.step (f := fun _ => some true) (fun k => ?_) (Ev.now _)
      simp only [laws_FnSteady.l0]
      rw [if_neg (by omega)]) (by
      intro i hi ih
      have hb := lv_bd hl xs (i + 1)
      have hr := lvs_rd on off on.length hold xs xs.length i (by omega)
      have w1 : wrap64 ((i : Int) + 1) = ((i + 1 : Nat) : Int) := w64 (by omega) (by omega)
      have w2 : wrap64 ((i : Int) - 1) = (i : Int) - 1 := w64 (by omega) (by omega)
      have w3 : wrap64 (((lv on off on.length hold xs (i + 1)).1 : Int) - 1) = ((lv on off on.length hold xs (i + 1)).1 : Int) - 1 := w64 (by omega) (by omega)
      refine Ev.step (f := fun k => laws_FnSteady.j1 k xs on hold (lvs on off on.length hold xs xs.length) (i : Int) false) (fun k => ?_) ?_
      · simp only [laws_FnSteady.l0]
        rw [if_pos (by omega), if_pos (by omega), hr, if_neg (by omega), decide_eq_false (by omega)]
      refine Ev.step (f := fun k => laws_FnSteady.j2 k xs on hold (lvs on off on.length hold xs xs.length) (i : Int) ((lv on off on.length hold xs i).1 : Int)) (fun k => ?_) ?_
      · simp only [laws_FnSteady.j1]
        rw [if_neg (by simp)]
        cases i with
        | zero => rw [if_neg (by omega)]; rfl
        | succ j =>
          rw [if_pos (by omega), w2, show ((j + 1 : Nat) : Int) - 1 = (j : Int) by omega, if_pos (by omega), if_pos (by omega), lvs_rd _ _ _ _ _ _ j (by omega)]
      by_cases c : (lv on off on.length hold xs i).1 < (lv on off on.length hold xs (i + 1)).1
      · obtain ⟨g1, g2⟩ := lv_rise hl xs i c
        have st := law_stay hx hh hl hn i hi g2 ih (xs.length - i) 0 (by omega)
        refine Ev.step (fun k => ?_) st
        simp only [laws_FnSteady.j2]
        rw [if_pos (by omega), if_pos (by omega), hr, if_neg (by omega), w3, if_pos (by omega), if_pos (by omega), if_pos (by omega), if_neg (by omega)]
        rfl
      · refine Ev.step (fun k => ?_) ih
        simp only [laws_FnSteady.j2]
        rw [if_pos (by omega), if_pos (by omega), hr, if_pos (by omega), w1]) 0 (Nat.zero_le _)
  exact key
end
end Go.Proofs.Ytmjfmhbklifafaa.QFnSteady
namespace Go.Proofs.Ytmjfmhbklifafaa.Pure
open Go.RowKit Go.Proofs.YtmjfmhbklifafaaW.PrintWords Go.Proofs.YtmjfmhbklifafaaW.PrintLast Go.Proofs.Ytmjfmhbklifafaa.Opn Go.Proofs.Ytmjfmhbklifafaa.Pl Go.Proofs.Ytmjfmhbklifafaa.QFnSteady Go.Proofs.Ytmjfmhbklifafaa.Lev

theorem FnSteady : laws_FnSteady.Pure := by
  intro b hl hs hb
  refine Ev.rounds (r := true) ?_
  unfold laws_FnSteady.f laws_big.f
  simp only [Option.bind_some]
  by_cases hbig : (b.length : Int) > 1048576
  · simp only [decide_eq_true hbig, if_true]
    exact Ev.now _
  simp only [decide_eq_false hbig, Bool.false_eq_true, if_false]
  obtain ⟨⟨xs, on, off, hold⟩, es, d1, d2, d3⟩ := drawLevels_ev (rdOpen b (by omega) hb)
  refine Ev_bind _ es ?_
  refine Ev_bind _ (specLevels_ev xs on off hold d1 d2 d3) (Ev_bind _ (implLevels_ev xs on off hold d1 d2 d3) ?_)
  rw [bne_self_eq_false]
  simp only [Bool.false_eq_true, if_false]
  unfold levR
  cases h : levB xs on off hold with
  | false =>
    simp only [Bool.false_eq_true, if_false, List.length_nil]
    exact Ev.now _
  | true =>
    unfold levB at h
    simp only [Bool.and_eq_true] at h
    obtain ⟨_, q2, q3, _, q5, q6⟩ := limB_ok h.2
    simp only [if_true, lvs_len]
    exact law_loop (okS_len h.1).2 q5 q6 q2
end Go.Proofs.Ytmjfmhbklifafaa.Pure
