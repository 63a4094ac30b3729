/- Drawn rings and winds: some lists of numbers, told without a fault, whatever the bytes; none is long. Plain; the bytes are bytes. -/
import Derived.Test.YtjmpgngndnheaaaRdLibFnRingKept
import Derived.Test.YtjmpgngndnheaaaRingLibFnRingKept
import Derived.Test.YtjmpgngndnheaaaQFnRingKeptx9
set_option linter.unusedVariables false
set_option linter.unusedSimpArgs false
namespace Go.Proofs.Ytjmpgngndnheaaa.QFnRingKept
open Go.RowKit Go.Proofs.YtjmpgngndnheaaaW.PrintWords Go.Proofs.Ytjmpgngndnheaaa.Opn Go.Proofs.Ytjmpgngndnheaaa.Pl Go.Proofs.Ytjmpgngndnheaaa.Ring

/-- Some answer of a kind. -/
def Tells {α : Type} (g : Nat → Option α) (P : α → Prop) : Prop := ∃ r, Ev g r ∧ P r
theorem Tells.now {α : Type} {P : α → Prop} (r : α) (h : P r) : Tells (fun _ => some r) P := ⟨r, Ev.now r, h⟩
theorem Tells.step {α : Type} {g f : Nat → Option α} {P : α → Prop} (h : ∀ k, g (k + 1) = f k) (t : Tells f P) : Tells g P := by
  obtain ⟨r, hr, hp⟩ := t
  exact ⟨r, Ev.step h hr, hp⟩
theorem Tells.bind {α β : Type} {g : Nat → Option α} {f : Nat → α → Option β} {P : α → Prop} {Q : β → Prop} (t : Tells g P) (h : ∀ r, P r → Tells (fun k => f k r) Q) : Tells (fun k => (g k).bind (f k)) Q := by
  obtain ⟨r, hr, hp⟩ := t
  obtain ⟨s, hs, hq⟩ := h r hp
  exact ⟨s, Ev_bind r hr hs, hq⟩
theorem Tells.mono {α : Type} {g : Nat → Option α} {P Q : α → Prop} (t : Tells g P) (h : ∀ r, P r → Q r) : Tells g Q := by
  obtain ⟨r, hr, hp⟩ := t
  exact ⟨r, hr, h r hp⟩

theorem of5 (v : Int) (h0 : 0 ≤ v) (h1 : v < 5) : 0 ≤ rd [0, 1, 2, 255, 256] v ∧ rd [0, 1, 2, 255, 256] v ≤ 5000 := by
  have : v = 0 ∨ v = 1 ∨ v = 2 ∨ v = 3 ∨ v = 4 := by omega
  rcases this with rfl | rfl | rfl | rfl | rfl <;> decide
theorem ring_ev {b : List Int} {p : Int} (h : RdOk b p) : Tells (fun k => spec_l1Rd_ring.f k b p) (fun r => 1 ≤ r.1.length ∧ r.1.length ≤ 24 ∧ r.2.1.length = r.1.length ∧ RdOk b r.2.2) := by
  unfold spec_l1Rd_ring.f
  obtain ⟨n, p1, e1, n0, n1, h1⟩ := rdSize h 4 24 (by omega) (by omega) (by omega)
  simp only [e1, Option.bind_some]
  have key : ∀ (d : Nat) (i : Nat) (x y : List Int) (p : Int), (i : Int) + (d : Int) = n → x.length = i → y.length = i → RdOk b p → Tells (fun k => spec_l1Rd_ring.l0 k n (i : Int) b p x y) (fun r => (r.1.length : Int) = n ∧ (r.2.1.length : Int) = n ∧ RdOk b r.2.2) := by
    intro d
    induction d with
    | zero =>
      intro i x y p hi hx hy hp
      refine Tells.step (f := fun _ => some (x, y, p)) (fun k => ?_) (Tells.now _ ⟨by dsimp only; omega, by dsimp only; omega, hp⟩)
      simp only [spec_l1Rd_ring.l0]
      rw [if_neg (by omega)]
    | succ d ih =>
      intro i x y p hi hx hy hp
      obtain ⟨m, q1, f1, m0, m1, g1⟩ := rdBelow hp 5000 (by omega)
      obtain ⟨v, q2, f2, g2⟩ := rdOnce g1 9 (by omega)
      cases v with
      | true =>
        obtain ⟨u, q3, f3, u0, u1, g3⟩ := rdBelow g2 5 (by omega)
        have hu := of5 u u0 u1
        by_cases hm : rd [0, 1, 2, 255, 256] u > 0
        · obtain ⟨t, q4, f4, _, _, g4⟩ := rdBelow g3 5000 (by omega)
          refine Tells.step (fun k => ?_) (ih (i + 1) (x ++ [rd [0, 1, 2, 255, 256] u]) (y ++ [Int.tmod t (wrap64 (rd [0, 1, 2, 255, 256] u + 1))]) q4 (by omega) (by simp; omega) (by simp; omega) g4)
          simp only [spec_l1Rd_ring.l0]
          rw [if_pos (by omega), f1]
          simp only [Option.bind_some, f2, if_true, f3]
          rw [if_pos u0, if_pos (by simp; omega), if_pos (by omega), if_pos hm, f4, Option.bind_some, if_neg (by rw [w64 (by omega) (by omega)]; omega), if_pos (by omega), w64 (n := (i : Int) + 1) (by omega) (by omega)]
          rfl
        · refine Tells.step (fun k => ?_) (ih (i + 1) (x ++ [rd [0, 1, 2, 255, 256] u]) (y ++ [rd [0, 1, 2, 255, 256] u]) q3 (by omega) (by simp; omega) (by simp; omega) g3)
          simp only [spec_l1Rd_ring.l0]
          rw [if_pos (by omega), f1]
          simp only [Option.bind_some, f2, if_true, f3]
          rw [if_pos u0, if_pos (by simp; omega), if_pos (by omega), if_neg hm, if_pos (by omega), w64 (n := (i : Int) + 1) (by omega) (by omega)]
          rfl
      | false =>
        by_cases hm : m > 0
        · obtain ⟨t, q4, f4, _, _, g4⟩ := rdBelow g2 5000 (by omega)
          refine Tells.step (fun k => ?_) (ih (i + 1) (x ++ [m]) (y ++ [Int.tmod t (wrap64 (m + 1))]) q4 (by omega) (by simp; omega) (by simp; omega) g4)
          simp only [spec_l1Rd_ring.l0]
          rw [if_pos (by omega), f1]
          simp only [Option.bind_some, f2, Bool.false_eq_true, if_false]
          rw [if_pos (by omega), if_pos hm, f4, Option.bind_some, if_neg (by rw [w64 (by omega) (by omega)]; omega), if_pos (by omega), w64 (n := (i : Int) + 1) (by omega) (by omega)]
          rfl
        · refine Tells.step (fun k => ?_) (ih (i + 1) (x ++ [m]) (y ++ [m]) q2 (by omega) (by simp; omega) (by simp; omega) g2)
          simp only [spec_l1Rd_ring.l0]
          rw [if_pos (by omega), f1]
          simp only [Option.bind_some, f2, Bool.false_eq_true, if_false]
          rw [if_pos (by omega), if_neg hm, if_pos (by omega), w64 (n := (i : Int) + 1) (by omega) (by omega)]
          rfl
  exact (key n.toNat 0 [] [] p1 (by omega) rfl rfl h1).mono (fun r hr => ⟨by omega, by omega, by omega, hr.2.2⟩)
theorem winds_ev {b : List Int} {p : Int} (h : RdOk b p) (n : Int) (hn0 : 0 ≤ n) (hn : n ≤ 1000) : Tells (fun k => spec_l1Rd_winds.f k b p n) (fun r => (r.1.length : Int) = n ∧ RdOk b r.2) := by
  unfold spec_l1Rd_winds.f
  have key : ∀ (d : Nat) (i : Nat) (x : List Int) (p : Int), (i : Int) + (d : Int) = n → x.length = i → RdOk b p → Tells (fun k => spec_l1Rd_winds.l0 k n x (i : Int) b p) (fun r => (r.1.length : Int) = n ∧ RdOk b r.2) := by
    intro d
    induction d with
    | zero =>
      intro i x p hi hx hp
      refine Tells.step (f := fun _ => some (x, p)) (fun k => ?_) (Tells.now _ ⟨by dsimp only; omega, hp⟩)
      simp only [spec_l1Rd_winds.l0]
      rw [if_neg (by omega)]
    | succ d ih =>
      intro i x p hi hx hp
      obtain ⟨v, q1, f1, _, _, g1⟩ := rdBelow hp 257 (by omega)
      obtain ⟨u, q2, f2, u0, u1, g2⟩ := rdBelow g1 4 (by omega)
      refine Tells.step (fun k => ?_) (ih (i + 1) (x ++ [rd [wrap64 (v - 128), 128, (-128), 0] u]) q2 (by omega) (by simp; omega) g2)
      simp only [spec_l1Rd_winds.l0]
      rw [if_pos (by omega), f1]
      simp only [Option.bind_some, f2]
      rw [if_pos u0, if_pos (by simp; omega), if_pos (by omega), w64 (n := (i : Int) + 1) (by omega) (by omega)]
      rfl
  exact key n.toNat 0 [] p (by omega) rfl h
theorem draw17_ev {b : List Int} {p : Int} (h : RdOk b p) : Tells (fun k => spec_l17Draw.f k b p) (fun r => r.1.length ≤ 1001 ∧ r.2.1.length ≤ 1001 ∧ r.2.2.1.length ≤ 1001 ∧ RdOk b r.2.2.2) := by
  unfold spec_l17Draw.f
  refine (ring_ev h).bind (fun x hx => ?_)
  obtain ⟨M, T, p1⟩ := x
  obtain ⟨a1, a2, a3, h1⟩ := hx
  dsimp only at a1 a2 a3 h1 ⊢
  refine (winds_ev h1 (M.length : Int) (by omega) (by omega)).bind (fun x hx => ?_)
  obtain ⟨W, p2⟩ := x
  obtain ⟨b1, h2⟩ := hx
  dsimp only at b1 h2 ⊢
  obtain ⟨w, p3, e3, w0, w1, h3⟩ := rdBelow h2 24 (by omega)
  simp only [e3, Option.bind_some]
  by_cases c0 : w = 0
  · obtain ⟨v, p4, e4, v0, v1, h4⟩ := rdBelow h3 3 (by omega)
    simp only [if_pos c0, e4, Option.bind_some, if_pos (show (0 : Int) ≤ v from v0), if_pos (show v < (([129, (-129), 128] : List Int).length : Int) by simp; omega), if_pos (show (0 : Int) < (W.length : Int) by omega)]
    exact Tells.now _ ⟨by dsimp only; omega, by dsimp only; omega, by dsimp only; rw [List.length_set]; omega, h4⟩
  simp only [if_neg c0]
  by_cases c1 : w = 1
  · simp only [if_pos c1, if_pos (show W.length < 17592186044416 by omega)]
    exact Tells.now _ ⟨by dsimp only; omega, by dsimp only; omega, by simp; omega, h3⟩
  simp only [if_neg c1]
  by_cases c2 : w = 2
  · simp only [if_pos c2, if_pos (show (0 : Int) < (M.length : Int) by omega), if_pos (show (0 : Int) < (T.length : Int) by omega)]
    exact Tells.now _ ⟨by dsimp only; omega, by dsimp only; rw [List.length_set]; omega, by dsimp only; omega, h3⟩
  simp only [if_neg c2]
  by_cases c3 : w = 3
  · obtain ⟨v, p4, e4, v0, v1, h4⟩ := rdBelow h3 3 (by omega)
    simp only [if_pos c3, e4, Option.bind_some, if_pos (show (0 : Int) ≤ v from v0), if_pos (show v < (([(-1), 1000000000, 1000000001] : List Int).length : Int) by simp; omega), if_pos (show (0 : Int) < (M.length : Int) by omega)]
    exact Tells.now _ ⟨by dsimp only; rw [List.length_set]; omega, by dsimp only; omega, by dsimp only; omega, h4⟩
  simp only [if_neg c3]
  by_cases c4 : w = 4
  · simp only [if_pos c4]
    exact Tells.now _ ⟨by simp, by simp, by dsimp only; omega, h3⟩
  simp only [if_neg c4]
  by_cases c6 : w = 6
  · simp only [if_pos c6]
    refine (winds_ev h3 2 (by omega) (by omega)).bind (fun x hx => ?_)
    exact Tells.now _ ⟨by simp, by simp, by dsimp only; omega, hx.2⟩
  simp only [if_neg c6]
  by_cases c5 : w = 5
  · obtain ⟨v, p4, e4, v0, v1, h4⟩ := rdBelow h3 2 (by omega)
    have ew : wrap64 (200 + v) = 200 + v := w64 (by omega) (by omega)
    simp only [if_pos c5, e4, Option.bind_some, ew, if_pos (show (0 : Int) ≤ 200 + v by omega), if_pos (show (200 + v).toNat ≤ 35184372088832 by omega)]
    refine (winds_ev h4 (200 + v) (by omega) (by omega)).bind (fun x hx => ?_)
    exact Tells.now _ ⟨by simp; omega, by simp; omega, by dsimp only; omega, hx.2⟩
  simp only [if_neg c5]
  exact Tells.now _ ⟨by dsimp only; omega, by dsimp only; omega, by dsimp only; omega, h3⟩
theorem drawAdvect_ev (l : List Int) (h : RdOk l 0) : Tells (fun k => spec_DrawAdvect.f k l) (fun r => r.1.length ≤ 1001 ∧ r.2.1.length ≤ 1001 ∧ r.2.2.1.length ≤ 1001) := by
  have e : (fun k => spec_DrawAdvect.f k l) = (fun k => (spec_l17Draw.f k l 0).bind fun bt379 => ((spec_l1Rd_below.f l bt379.2.2.2 9).bind fun bt390 => (some (bt379.1, bt379.2.1, bt379.2.2.1, wrap64 (1 + bt390.1))))) := funext fun k => Option.bind_some (l, (0 : Int)) (fun bt376 => ((spec_l17Draw.f k bt376.1 bt376.2).bind fun bt379 => ((spec_l1Rd_below.f bt376.1 bt379.2.2.2 9).bind fun bt390 => (some (bt379.1, bt379.2.1, bt379.2.2.1, wrap64 (1 + bt390.1))))))
  rw [e]
  refine (draw17_ev h).bind (fun x hx => ?_)
  obtain ⟨v, p4, e4, v0, v1, h4⟩ := rdBelow hx.2.2.2 9 (by omega)
  rw [e4]
  exact ⟨_, ⟨0, fun k _ => rfl⟩, hx.1, hx.2.1, hx.2.2.1⟩
end Go.Proofs.Ytjmpgngndnheaaa.QFnRingKept
