/- Rows and blocks beside a variable in memory that is written. -/
import Derived.Test.YtjoghfehmhapbaaSq
set_option linter.unusedVariables false
set_option linter.unusedSimpArgs false
namespace Go.Proofs.Ytjoghfehmhapbaa.Bx
open Go.RowKit Go.Proofs.YtjoghfehmhapbaaW.PrintWords Go.Proofs.YtjoghfehmhapbaaW.PrintLast Go.Proofs.YtjoghfehmhapbaaW.PrintMore

theorem R_box {α : Type} {d : Kd α} {e base g t : Nat} {ok : Nat → Prop} {W w1 : World} {u : Value} {xs : List α} {cells : Array Value} (h : d.R e W base ok u xs) (hb : W.heap[g]? = some (.cells cells t (0, 0))) (ht : ∀ q, q ∈ e :: d.E → q ≠ t) (hg : W.grownBy w1 (some g)) : d.R e w1 base ok u xs :=
  Kd.R_over' (v := .slice (some ⟨g, 0, none⟩) 0 0) h (fun k hk => by cases hk; exact ⟨cells, hb⟩) ht hg
theorem S_box {α : Type} {d : Kd α} {e base g t : Nat} {ok : Nat → Prop} {W w1 : World} {u : Value} {xs : List α} {cells : Array Value} (h : Kd.S d e W base ok u xs) (hb : W.heap[g]? = some (.cells cells t (0, 0))) (ht : ∀ q, q ∈ e :: d.E → q ≠ t) (hg : W.grownBy w1 (some g)) : Kd.S d e w1 base ok u xs :=
  Kd.S_over' (v := .slice (some ⟨g, 0, none⟩) 0 0) h (fun k hk => by cases hk; exact ⟨cells, hb⟩) ht hg
theorem B_box {g g' : Nat} {W w1 : World} {o : Obj} (h : W.heap[g']? = some o) (hne : g' ≠ g) (hg : W.grownBy w1 (some g)) : w1.heap[g']? = some o := blk_grown h hg (fun e => hne (Option.some.inj e))
theorem grown_set (w : World) (b i : Nat) (v : Value) : w.grownBy (w.setCell ⟨b, i, none⟩ v) (some b) := ⟨rfl, rfl, rfl, by simp [World.setCell], fun k _ hk => Below.heap_setCell _ _ _ _ (fun e => hk (by simp [e]))⟩
theorem grown_two {a b c : World} {row : Option Nat} (h : a.grownBy b row) (k : b.grownBy c row) : a.grownBy c row := h.trans k
theorem grown_4 {w wT : World} {g : Nat} {a b c d : Value} (hw : wT = ((((w.setCell ⟨g, 0, none⟩ a).setCell ⟨g, 1, none⟩ b).setCell ⟨g, 2, none⟩ c).setCell ⟨g, 3, none⟩ d)) : w.grownBy wT (some g) := by
  rw [hw]
  exact grown_two (grown_two (grown_two (grown_set w g 0 a) (grown_set _ g 1 b)) (grown_set _ g 2 c)) (grown_set _ g 3 d)
theorem put_4 {w wT : World} {g t : Nat} {p q r s a b c d : Value} (h : w.heap[g]? = some (.cells #[p, q, r, s] t (0, 0))) (hw : wT = ((((w.setCell ⟨g, 0, none⟩ a).setCell ⟨g, 1, none⟩ b).setCell ⟨g, 2, none⟩ c).setCell ⟨g, 3, none⟩ d)) : wT.heap[g]? = some (.cells #[a, b, c, d] t (0, 0)) := by
  rw [hw]
  exact blk_put (cs := #[a, b, c, s]) (blk_put (cs := #[a, b, r, s]) (blk_put (cs := #[a, q, r, s]) (blk_put (cs := #[p, q, r, s]) h 0 _ rfl) 1 _ rfl) 2 _ rfl) 3 _ rfl
theorem L_box {w W w1 : World} {g : Nat} (h : Below w.heap.size w W) (hg : W.grownBy w1 (some g)) (hl : w.heap.size ≤ g) : Below w.heap.size w w1 := h.grown hg h.size (fun k e => by cases e; exact hl)
end Go.Proofs.Ytjoghfehmhapbaa.Bx
