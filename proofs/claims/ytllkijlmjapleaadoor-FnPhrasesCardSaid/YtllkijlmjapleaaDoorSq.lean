/- Short words for the printed walks: facts of rows and blocks carried over a quiet stretch of a run. -/
import Derived.Test.YtllkijlmjapleaaDoorWWords
import Derived.Test.YtllkijlmjapleaaDoorWKept
import Derived.Test.YtllkijlmjapleaaDoorWMore
import Derived.Test.YtllkijlmjapleaaDoorWTab
import Derived.Test.YtllkijlmjapleaaDoorWApart

set_option linter.unusedVariables false
set_option linter.unusedSimpArgs false
namespace Go.Proofs.YtllkijlmjapleaaDoor.Sq
open Go Go.RowKit Go.Proofs.YtllkijlmjapleaaDoorW.PrintWords Go.Proofs.YtllkijlmjapleaaDoorW.PrintMore

theorem ifS_ {c : Prop} [Decidable c] {α : Type} {x : Option α} {r : α} (h : (if c then x else none) = some r) : c ∧ x = some r := by
  by_cases hc : c
  · rw [if_pos hc] at h; exact ⟨hc, h⟩
  · rw [if_neg hc] at h; cases h

/-- From one state to another the old blocks stay. -/
class Th (W W1 : World) : Prop where
  out : Below W.heap.size W W1

instance Th.same (W : World) : Th W W := ⟨Below.refl _ _⟩
instance Th.alloc (W W1 : World) (o : Obj) [h : Th W W1] : Th W (W1.alloc o) := ⟨below_alloc h.out o⟩
instance Th.drew (W W1 : World) [h : Th W W1] : Th W W1.drew := ⟨below_drew h.out⟩
instance Th.drewN (W W1 : World) (n : Nat) [h : Th W W1] : Th W (W1.drewN n) := ⟨pw_below_drewN h.out n⟩

/-- From one state to another there are no fewer blocks. -/
class Sz (W W1 : World) : Prop where
  out : W.heap.size ≤ W1.heap.size

instance Sz.same (W : World) : Sz W W := ⟨Nat.le_refl _⟩
instance Sz.alloc (W W1 : World) (o : Obj) [h : Sz W W1] : Sz W (W1.alloc o) := ⟨Nat.le_trans h.out (below_alloc (Below.refl _ _) o).size⟩
instance Sz.drew (W W1 : World) [h : Sz W W1] : Sz W W1.drew := ⟨h.out⟩
instance Sz.drewN (W W1 : World) (n : Nat) [h : Sz W W1] : Sz W (W1.drewN n) := ⟨h.out⟩
instance Sz.set (W W1 : World) (a : Addr) (v : Value) [h : Sz W W1] : Sz W (W1.setCell a v) := ⟨Nat.le_trans h.out (by rw [World.size_setCell]; exact Nat.le_refl _)⟩

/-- From one state to another at most the block g of the old ones is written. -/
class Fa (g : outParam Nat) (W W1 : World) : Prop where
  out : (W1.os = W.os ∧ W1.tape = W.tape ∧ W1.output = W.output ∧ W.heap.size ≤ W1.heap.size) ∧ ∀ k, k < W.heap.size → k ≠ g → W1.heap[k]? = W.heap[k]?

theorem fa_then {g : Nat} {W W1 W2 : World} (h : Fa g W W1) (hb : Below W1.heap.size W1 W2) : Fa g W W2 :=
  ⟨⟨hb.os.trans h.out.1.1, hb.tape.trans h.out.1.2.1, hb.output.trans h.out.1.2.2.1, Nat.le_trans h.out.1.2.2.2 hb.size⟩,
   fun k hk hn => (hb.block k (Nat.lt_of_lt_of_le hk h.out.1.2.2.2)).trans (h.out.2 k hk hn)⟩
theorem fa_below {g B : Nat} {w W W1 : World} (h : Fa g W W1) (hb : Below B w W) (hB : B ≤ g) (hs : B ≤ W.heap.size) : Below B w W1 :=
  hb.trans ⟨h.out.1.1, h.out.1.2.1, h.out.1.2.2.1, h.out.1.2.2.2, fun k hk => h.out.2 k (by omega) (by omega)⟩

instance Fa.set0 (W W1 : World) (g j : Nat) (q) (v : Value) [h : Th W W1] : Fa g W (W1.setCell ⟨g, j, q⟩ v) :=
  ⟨⟨h.out.os, h.out.tape, h.out.output, Nat.le_trans h.out.size (by rw [World.size_setCell]; exact Nat.le_refl _)⟩,
   fun k hk hn => (Below.heap_setCell _ _ _ _ hn).trans (h.out.block k hk)⟩
instance Fa.set (W W1 : World) (g j : Nat) (q) (v : Value) [h : Fa g W W1] : Fa g W (W1.setCell ⟨g, j, q⟩ v) :=
  ⟨⟨h.out.1.1, h.out.1.2.1, h.out.1.2.2.1, Nat.le_trans h.out.1.2.2.2 (by rw [World.size_setCell]; exact Nat.le_refl _)⟩,
   fun k hk hn => (Below.heap_setCell _ _ _ _ hn).trans (h.out.2 k hk hn)⟩
instance Fa.alloc (W W1 : World) (g : Nat) (o : Obj) [h : Fa g W W1] : Fa g W (W1.alloc o) := fa_then h (below_alloc (Below.refl _ _) o)
instance Fa.drew (W W1 : World) (g : Nat) [h : Fa g W W1] : Fa g W W1.drew := fa_then h (below_drew (Below.refl _ _))
instance Fa.drewN (W W1 : World) (g n : Nat) [h : Fa g W W1] : Fa g W (W1.drewN n) := fa_then h (pw_below_drewN (Below.refl _ _) n)

section
variable {α β : Type} {d : Kd α} {d' : Kd β} {e e' : Nat} {W0 W W1 w : World} {base base' : Nat} {ok ok' : Nat → Prop} {v u : Value} {xs : List α} {ys : List β}

theorem rT_ [t : Th W0 W] (h : Aside0 (d.R e W0 base ok v xs)) : d.R e W base ok v xs := Kd.R_below h.out t.out
theorem rM_ [Th W0 W] (h : Aside0 (d.R e W0 base ok v xs)) (f : ∀ k, ok k → ok' k := by intro k hk; revert hk; simp only [and_imp]; intros; and_intros <;> assumption) : d.R e W base ok' v xs := Kd.R_mono (rT_ h) f
theorem rK_ {W2 : World} {S : Nat → Prop} [Th W0 W] (h : Aside0 (d.R e W0 base ok v xs)) (hk : Kept W W2 S)
    (f : ∀ k, S k → ok k → False := by intro k hs hk; revert hk; simp only [and_imp]; intros; exact absurd hs (by assumption))
    (g : ∀ k, ok k → ok' k := by intro k hk; revert hk; simp only [and_imp]; intros; and_intros <;> assumption) : d.R e W2 base ok' v xs :=
  Kd.R_mono (Kd.R_keptB (rT_ h) hk (fun k hk hs => f k hs hk)) (fun k hk => g k hk.1)
theorem bT_ {g : Nat} {o : Obj} [t : Th W0 W] (h : Aside0 (W0.heap[g]? = some o)) : W.heap[g]? = some o := blk_below h.out t.out
theorem rE_ [Th W0 W] (h : Aside0 (d.R e W0 base ok u xs)) (ho : d'.R e' W1 W.heap.size ok' v ys) (hb : Below W.heap.size W W1) :
    Aside0 (d.R e W1 base (fun k => ok k ∧ some k ≠ v.ownBlock) u xs) := ⟨Kd.R_elder' (rT_ h) (Kd.R_base ho) hb⟩
theorem rB_ [Th W0 W] (h : Aside0 (d.R e W0 base ok v xs)) (hb : Below W.heap.size W W1) : Aside0 (d.R e W1 base ok v xs) := ⟨Kd.R_below (rT_ h) hb⟩
theorem bB_ {g : Nat} {o : Obj} [Th W0 W] (h : Aside0 (W0.heap[g]? = some o)) (hb : Below W.heap.size W W1) : Aside0 (W1.heap[g]? = some o) := ⟨blk_below (bT_ h) hb⟩
theorem bW_ {w : World} [t : Th W0 W] (h : Aside0 (Below w.heap.size w W0)) : Below w.heap.size w W := below_step h.out t.out
theorem bS_ {w : World} [Th W0 W] (h : Aside0 (Below w.heap.size w W0)) (hb : Below W.heap.size W W1) : Aside0 (Below w.heap.size w W1) := ⟨below_step (bW_ h) hb⟩
theorem nL_ {g g' : Nat} {o : Obj} [Th W0 W] (h : Aside0 (W0.heap[g]? = some o)) (hg : g' = W.heap.size) : Aside0 (g ≠ g') := ⟨by rw [hg]; exact Nat.ne_of_lt (blk_lt (bT_ h))⟩
theorem nG_ {g g' : Nat} {o : Obj} [Th W0 W] (h : Aside0 (W0.heap[g]? = some o)) (hg : g' = W.heap.size) : Aside0 (g' ≠ g) := ⟨by rw [hg]; exact Nat.ne_of_gt (blk_lt (bT_ h))⟩
theorem gE_ {w : World} {g' : Nat} [Th W0 W] (h : Aside0 (Below w.heap.size w W0)) (hg : g' = W.heap.size) : Aside0 (w.heap.size ≤ g') := ⟨by rw [hg]; exact below_size (bW_ h)⟩
theorem rLt_ [s : Sz W0 W] (h : Aside0 (d.R e W0 base ok u xs)) : ∀ k, u.ownBlock = some k → k < W.heap.size := fun k hk => Nat.lt_of_lt_of_le (Kd.R_lt h.out k hk) s.out
theorem bLt_ {g : Nat} {o : Obj} [s : Sz W0 W] (h : Aside0 (W0.heap[g]? = some o)) : g < W.heap.size := Nat.lt_of_lt_of_le (blk_lt h.out) s.out
theorem rN_ [Sz W0 W] (h : d'.R e' W1 W.heap.size ok' v ys) (hu : Aside0 (d.R e W0 base ok u xs)) : d'.R e' W1 W.heap.size (fun k => ok' k ∧ some k ≠ u.ownBlock) v ys := Kd.R_new' h (rLt_ hu)
theorem rL_ {w : World} [Th W0 W] (h : d.R e W1 W.heap.size ok v xs) (hB : Aside0 (Below w.heap.size w W0)) : Aside0 (d.R e W1 w.heap.size ok v xs) := ⟨Kd.R_lower h (below_size (bW_ hB))⟩
theorem cB_ {w : World} {A : Option Addr} {n : Nat} [Th W0 W] (h : Aside0 (d.C w A n xs)) (hB : Aside0 (Below w.heap.size w W0)) : d.C W A n xs := Kd.C_below h.out (bW_ hB)

theorem rD_ {A : Option Addr} {n c : Nat} [Th W0 W] (h : Aside0 (d.R e W0 base ok (.slice A n c) xs)) : d.C W A xs.length xs := (Kd.R_reads' (rT_ h : d.R e W base ok (.slice A n c) xs)).2.2
theorem rF_ {g t : Nat} {cells : Array Value} [f : Fa g W0 W] (h : Aside0 (d.R e W0 base ok v xs)) (bk : Aside0 (W0.heap[g]? = some (.cells cells t (0, 0)))) (ht : ∀ q, q ∈ e :: d.E → q ≠ t := by decide) : d.R e W base ok v xs :=
  Kd.R_mono (Kd.R_step (Kd.R_types h.out bk.out ht) (fun k hk hlt => f.out.2 k hlt hk.2)) (fun _ hk => hk.1)
theorem rDF_ {g t : Nat} {cells : Array Value} {A : Option Addr} {n c : Nat} [f : Fa g W0 W] (h : Aside0 (d.R e W0 base ok (.slice A n c) xs)) (bk : Aside0 (W0.heap[g]? = some (.cells cells t (0, 0)))) (ht : ∀ q, q ∈ e :: d.E → q ≠ t := by decide) : d.C W A xs.length xs :=
  (Kd.R_reads' (rF_ h bk ht : d.R e W base ok (.slice A n c) xs)).2.2
theorem bF_ {g g' : Nat} {o : Obj} [f : Fa g W0 W] (h : Aside0 (W0.heap[g']? = some o)) (hn : Aside0 (g' ≠ g)) : W.heap[g']? = some o := (f.out.2 g' (blk_lt h.out) hn.out).trans h.out
theorem rBF_ {g t : Nat} {cells : Array Value} [Fa g W0 W] (h : Aside0 (d.R e W0 base ok v xs)) (bk : Aside0 (W0.heap[g]? = some (.cells cells t (0, 0)))) (hb : Below W.heap.size W W1) (ht : ∀ q, q ∈ e :: d.E → q ≠ t := by decide) : Aside0 (d.R e W1 base ok v xs) := ⟨Kd.R_below (rF_ h bk ht) hb⟩
theorem rEF_ {g t : Nat} {cells : Array Value} [Fa g W0 W] (h : Aside0 (d.R e W0 base ok u xs)) (bk : Aside0 (W0.heap[g]? = some (.cells cells t (0, 0)))) (ho : d'.R e' W1 W.heap.size ok' v ys) (hb : Below W.heap.size W W1) (ht : ∀ q, q ∈ e :: d.E → q ≠ t := by decide) :
    Aside0 (d.R e W1 base (fun k => ok k ∧ some k ≠ v.ownBlock) u xs) := ⟨Kd.R_elder' (rF_ h bk ht) (Kd.R_base ho) hb⟩
theorem bBF_ {g g' : Nat} {o : Obj} [Fa g W0 W] (h : Aside0 (W0.heap[g']? = some o)) (hn : Aside0 (g' ≠ g)) (hb : Below W.heap.size W W1) : Aside0 (W1.heap[g']? = some o) := ⟨blk_below (bF_ h hn) hb⟩
theorem bSF_ {g : Nat} {w : World} [f : Fa g W0 W] (h : Aside0 (Below w.heap.size w W0)) (hg : Aside0 (w.heap.size ≤ g)) (hb : Below W.heap.size W W1) : Aside0 (Below w.heap.size w W1) := ⟨below_step (fa_below f h.out hg.out h.out.size) hb⟩
theorem bWF_ {g : Nat} {w : World} [f : Fa g W0 W] (h : Aside0 (Below w.heap.size w W0)) (hg : Aside0 (w.heap.size ≤ g)) : Below w.heap.size w W := fa_below f h.out hg.out h.out.size
theorem rLF_ {w : World} {g : Nat} [f : Fa g W0 W] (h : d.R e W1 W.heap.size ok v xs) (hB : Aside0 (Below w.heap.size w W0)) : Aside0 (d.R e W1 w.heap.size ok v xs) := ⟨Kd.R_lower h (Nat.le_trans hB.out.size f.out.1.2.2.2)⟩
theorem cBF_ {w : World} {A : Option Addr} {n g : Nat} [Fa g W0 W] (h : Aside0 (d.C w A n xs)) (hB : Aside0 (Below w.heap.size w W0)) (hg : Aside0 (w.heap.size ≤ g)) : d.C W A n xs := Kd.C_below h.out (bWF_ hB hg)
/-! The same of rows of rows. -/
theorem sT_ [t : Th W0 W] (h : Aside0 (Kd.S d e W0 base ok v xs)) : Kd.S d e W base ok v xs := Kd.S_below h.out t.out
theorem sB_ [Th W0 W] (h : Aside0 (Kd.S d e W0 base ok v xs)) (hb : Below W.heap.size W W1) : Aside0 (Kd.S d e W1 base ok v xs) := ⟨Kd.S_below (sT_ h) hb⟩
theorem sLt_ [s : Sz W0 W] (h : Aside0 (Kd.S d e W0 base ok u xs)) : ∀ k, u.ownBlock = some k → k < W.heap.size := fun k hk => Nat.lt_of_lt_of_le (Kd.S_lt h.out k hk) s.out
theorem sL_ {w : World} [Th W0 W] (h : Kd.S d e W1 W.heap.size ok v xs) (hB : Aside0 (Below w.heap.size w W0)) : Aside0 (Kd.S d e W1 w.heap.size ok v xs) := ⟨Kd.S_lower h (below_size (bW_ hB))⟩
theorem sLF_ {w : World} {g : Nat} [f : Fa g W0 W] (h : Kd.S d e W1 W.heap.size ok v xs) (hB : Aside0 (Below w.heap.size w W0)) : Aside0 (Kd.S d e W1 w.heap.size ok v xs) := ⟨Kd.S_lower h (Nat.le_trans hB.out.size f.out.1.2.2.2)⟩
theorem sD_ {A : Option Addr} {n c : Nat} [Th W0 W] (h : Aside0 (Kd.S d e W0 base ok (.slice A n c) xs)) : d.C W A xs.length xs := (Kd.S_reads' (sT_ h : Kd.S d e W base ok (.slice A n c) xs)).2.2
theorem sF_ {g t : Nat} {cells : Array Value} [f : Fa g W0 W] (h : Aside0 (Kd.S d e W0 base ok v xs)) (bk : Aside0 (W0.heap[g]? = some (.cells cells t (0, 0)))) (ht : ∀ q, q ∈ e :: d.E → q ≠ t := by decide) : Kd.S d e W base ok v xs :=
  Kd.S_mono (Kd.S_step (Kd.S_types h.out bk.out ht) (fun k hk hlt => f.out.2 k hlt hk.2)) (fun _ hk => hk.1)
theorem sDF_ {g t : Nat} {cells : Array Value} {A : Option Addr} {n c : Nat} [f : Fa g W0 W] (h : Aside0 (Kd.S d e W0 base ok (.slice A n c) xs)) (bk : Aside0 (W0.heap[g]? = some (.cells cells t (0, 0)))) (ht : ∀ q, q ∈ e :: d.E → q ≠ t := by decide) : d.C W A xs.length xs :=
  (Kd.S_reads' (sF_ h bk ht : Kd.S d e W base ok (.slice A n c) xs)).2.2
theorem sBF_ {g t : Nat} {cells : Array Value} [Fa g W0 W] (h : Aside0 (Kd.S d e W0 base ok v xs)) (bk : Aside0 (W0.heap[g]? = some (.cells cells t (0, 0)))) (hb : Below W.heap.size W W1) (ht : ∀ q, q ∈ e :: d.E → q ≠ t := by decide) : Aside0 (Kd.S d e W1 base ok v xs) := ⟨Kd.S_below (sF_ h bk ht) hb⟩
/-! Shorter still (press.py). -/
theorem ifT_ {α : Type} {x y r : α} (h : (if true = true then x else y) = r) : x = r := by rw [if_pos rfl] at h; exact h
theorem ifF_ {α : Type} {x y r : α} (h : (if false = true then x else y) = r) : y = r := by rw [if_neg (by decide)] at h; exact h
theorem rM2_ [Th W0 W] (h : Aside0 (d.R e W0 base ok v xs)) (f : ∀ k, ok k → ok' k := by intro k hk; revert hk; (try simp only [and_imp]); intros; and_intros <;> first | assumption | trivial | (simp [Value.ownBlock]; done)) : d.R e W base ok' v xs := Kd.R_mono (rT_ h) f
theorem sM2_ [Th W0 W] (h : Aside0 (Kd.S d e W0 base ok v xs)) (f : ∀ k, ok k → ok' k := by intro k hk; revert hk; (try simp only [and_imp]); intros; and_intros <;> first | assumption | trivial | (simp [Value.ownBlock]; done)) : Kd.S d e W base ok' v xs := Kd.S_mono (sT_ h) f
theorem rFM_ {g t : Nat} {cells : Array Value} [Fa g W0 W] (h : Aside0 (d.R e W0 base ok v xs)) (bk : Aside0 (W0.heap[g]? = some (.cells cells t (0, 0)))) (ht : ∀ q, q ∈ e :: d.E → q ≠ t := by decide) (f : ∀ k, ok k → ok' k := by intro k hk; revert hk; (try simp only [and_imp]); intros; and_intros <;> first | assumption | trivial | (simp [Value.ownBlock]; done)) : d.R e W base ok' v xs := Kd.R_mono (rF_ h bk ht) f
theorem sFM_ {g t : Nat} {cells : Array Value} [Fa g W0 W] (h : Aside0 (Kd.S d e W0 base ok v xs)) (bk : Aside0 (W0.heap[g]? = some (.cells cells t (0, 0)))) (ht : ∀ q, q ∈ e :: d.E → q ≠ t := by decide) (f : ∀ k, ok k → ok' k := by intro k hk; revert hk; (try simp only [and_imp]); intros; and_intros <;> first | assumption | trivial | (simp [Value.ownBlock]; done)) : Kd.S d e W base ok' v xs := Kd.S_mono (sF_ h bk ht) f
theorem rFN_ {g : Nat} [f : Fa g W0 W] (h : Aside0 (d.R e W0 base ok v xs)) (hn : ∀ k, ok k → k ≠ g := by intro k hk; revert hk; (try simp only [and_imp]); intros; assumption) (f' : ∀ k, ok k → ok' k := by intro k hk; revert hk; (try simp only [and_imp]); intros; and_intros <;> first | assumption | trivial | (simp [Value.ownBlock]; done)) : d.R e W base ok' v xs :=
  Kd.R_mono (Kd.R_step h.out (fun k hk hlt => f.out.2 k hlt (hn k hk))) f'
theorem rFN0_ {g : Nat} [f : Fa g W0 W] (h : Aside0 (d.R e W0 base ok v xs)) (hn : ∀ k, ok k → k ≠ g := by intro k hk; revert hk; (try simp only [and_imp]); intros; assumption) : d.R e W base ok v xs := Kd.R_step h.out (fun k hk hlt => f.out.2 k hlt (hn k hk))
theorem sFN0_ {g : Nat} [f : Fa g W0 W] (h : Aside0 (Kd.S d e W0 base ok v xs)) (hn : ∀ k, ok k → k ≠ g := by intro k hk; revert hk; (try simp only [and_imp]); intros; assumption) : Kd.S d e W base ok v xs := Kd.S_step h.out (fun k hk hlt => f.out.2 k hlt (hn k hk))
theorem sFN_ {g : Nat} [f : Fa g W0 W] (h : Aside0 (Kd.S d e W0 base ok v xs)) (hn : ∀ k, ok k → k ≠ g := by intro k hk; revert hk; (try simp only [and_imp]); intros; assumption) (f' : ∀ k, ok k → ok' k := by intro k hk; revert hk; (try simp only [and_imp]); intros; and_intros <;> first | assumption | trivial | (simp [Value.ownBlock]; done)) : Kd.S d e W base ok' v xs :=
  Kd.S_mono (Kd.S_step h.out (fun k hk hlt => f.out.2 k hlt (hn k hk))) f'
/-! The same of rows that may lie within others' blocks. -/
theorem qT_ [t : Th W0 W] (h : Aside0 (d.Q e W0 base ok v xs)) : d.Q e W base ok v xs := Kd.Q_below h.out t.out
theorem qB_ [Th W0 W] (h : Aside0 (d.Q e W0 base ok v xs)) (hb : Below W.heap.size W W1) : Aside0 (d.Q e W1 base ok v xs) := ⟨Kd.Q_below (qT_ h) hb⟩
theorem qLt_ [s : Sz W0 W] (h : Aside0 (d.Q e W0 base ok u xs)) : ∀ k, u.ownBlock = some k → k < W.heap.size := fun k hk => Nat.lt_of_lt_of_le (Kd.Q_lt h.out k hk) s.out
theorem qL_ {w : World} [Th W0 W] (h : d.Q e W1 W.heap.size ok v xs) (hB : Aside0 (Below w.heap.size w W0)) : Aside0 (d.Q e W1 w.heap.size ok v xs) := ⟨Kd.Q_lower h (below_size (bW_ hB))⟩
theorem qLF_ {w : World} {g : Nat} [f : Fa g W0 W] (h : d.Q e W1 W.heap.size ok v xs) (hB : Aside0 (Below w.heap.size w W0)) : Aside0 (d.Q e W1 w.heap.size ok v xs) := ⟨Kd.Q_lower h (Nat.le_trans hB.out.size f.out.1.2.2.2)⟩
theorem qD_ {A : Option Addr} {n c : Nat} [Th W0 W] (h : Aside0 (d.Q e W0 base ok (.slice A n c) xs)) : d.C W A xs.length xs := (Kd.Q_reads' (qT_ h : d.Q e W base ok (.slice A n c) xs)).2.2
theorem qF_ {g t : Nat} {cells : Array Value} [f : Fa g W0 W] (h : Aside0 (d.Q e W0 base ok v xs)) (bk : Aside0 (W0.heap[g]? = some (.cells cells t (0, 0)))) (ht : ∀ q, q ∈ e :: d.E → q ≠ t := by decide) : d.Q e W base ok v xs :=
  Kd.Q_mono (Kd.Q_step (Kd.Q_types h.out bk.out ht) (fun k hk hlt => f.out.2 k hlt hk.2)) (fun _ hk => hk.1)
theorem qDF_ {g t : Nat} {cells : Array Value} {A : Option Addr} {n c : Nat} [f : Fa g W0 W] (h : Aside0 (d.Q e W0 base ok (.slice A n c) xs)) (bk : Aside0 (W0.heap[g]? = some (.cells cells t (0, 0)))) (ht : ∀ q, q ∈ e :: d.E → q ≠ t := by decide) : d.C W A xs.length xs :=
  (Kd.Q_reads' (qF_ h bk ht : d.Q e W base ok (.slice A n c) xs)).2.2
theorem qBF_ {g t : Nat} {cells : Array Value} [Fa g W0 W] (h : Aside0 (d.Q e W0 base ok v xs)) (bk : Aside0 (W0.heap[g]? = some (.cells cells t (0, 0)))) (hb : Below W.heap.size W W1) (ht : ∀ q, q ∈ e :: d.E → q ≠ t := by decide) : Aside0 (d.Q e W1 base ok v xs) := ⟨Kd.Q_below (qF_ h bk ht) hb⟩
theorem qM2_ [Th W0 W] (h : Aside0 (d.Q e W0 base ok v xs)) (f : ∀ k, ok k → ok' k := by intro k hk; revert hk; (try simp only [and_imp]); intros; and_intros <;> first | assumption | trivial | (simp [Value.ownBlock]; done)) : d.Q e W base ok' v xs := Kd.Q_mono (qT_ h) f
theorem qFM_ {g t : Nat} {cells : Array Value} [Fa g W0 W] (h : Aside0 (d.Q e W0 base ok v xs)) (bk : Aside0 (W0.heap[g]? = some (.cells cells t (0, 0)))) (ht : ∀ q, q ∈ e :: d.E → q ≠ t := by decide) (f : ∀ k, ok k → ok' k := by intro k hk; revert hk; (try simp only [and_imp]); intros; and_intros <;> first | assumption | trivial | (simp [Value.ownBlock]; done)) : d.Q e W base ok' v xs := Kd.Q_mono (qF_ h bk ht) f
theorem qFN0_ {g : Nat} [f : Fa g W0 W] (h : Aside0 (d.Q e W0 base ok v xs)) (hn : ∀ k, ok k → k ≠ g := by intro k hk; revert hk; (try simp only [and_imp]); intros; assumption) : d.Q e W base ok v xs := Kd.Q_step h.out (fun k hk hlt => f.out.2 k hlt (hn k hk))
theorem qFN_ {g : Nat} [f : Fa g W0 W] (h : Aside0 (d.Q e W0 base ok v xs)) (hn : ∀ k, ok k → k ≠ g := by intro k hk; revert hk; (try simp only [and_imp]); intros; assumption) (f' : ∀ k, ok k → ok' k := by intro k hk; revert hk; (try simp only [and_imp]); intros; and_intros <;> first | assumption | trivial | (simp [Value.ownBlock]; done)) : d.Q e W base ok' v xs :=
  Kd.Q_mono (Kd.Q_step h.out (fun k hk hlt => f.out.2 k hlt (hn k hk))) f'
theorem dA_ {p : Prop} [Decidable p] (h : decide p = true := by first | (with_reducible assumption) | assumption) : p := of_decide_eq_true h
theorem hX_ {w : World} {a : Addr} {u : Value} (h : Aside0 (Below w.heap.size w W)) (hx : w.cell? a = some u) : W.cell? a = some u := (h.out.cell (World.block_lt_of_cell? w _ hx)).trans hx
theorem cFr_ {w : World} {a b : Addr} {u : Value} (hx : w.cell? a = some u) (p : Addr) (u' : Value) (hn : b.block ≠ p.block) (hb : a.block = b.block := by first | rfl | exact add_block _ _) : (w.setCell p u').cell? a = some u := (cell_far (by rw [hb]; exact hn) u').trans hx
/-- From one state to another the block g alone of its row is written: what its cells are then. -/
class Put (g : Nat) (W0 W : World) (f : outParam (Array Value → Array Value)) : Prop where
  out : ∀ {t : TypeId} {cs : Array Value}, W0.heap[g]? = some (.cells cs t (0, 0)) → W.heap[g]? = some (.cells (f cs) t (0, 0))
instance Put.same (g : Nat) (W : World) : Put g W W (fun cs => cs) := ⟨fun h => h⟩
instance Put.alloc (g : Nat) (W0 W : World) (o : Obj) (f : Array Value → Array Value) [h : Put g W0 W f] : Put g W0 (W.alloc o) f := ⟨fun x => blk_alloc (h.out x) o⟩
instance Put.drew (g : Nat) (W0 W : World) (f : Array Value → Array Value) [h : Put g W0 W f] : Put g W0 W.drew f := ⟨fun x => blk_drew (h.out x)⟩
instance Put.drewN (g n : Nat) (W0 W : World) (f : Array Value → Array Value) [h : Put g W0 W f] : Put g W0 (W.drewN n) f := ⟨fun x => blk_drewN (h.out x) n⟩
instance Put.set (g j : Nat) (W0 W : World) (v : Value) (f : Array Value → Array Value) [h : Put g W0 W f] : Put g W0 (W.setCell ⟨g, j, none⟩ v) (fun cs => (f cs).setIfInBounds j v) := ⟨fun x => blk_put (h.out x) j v rfl⟩
theorem bP_ {g t : Nat} {cs cs' : Array Value} {f : Array Value → Array Value} (h : Aside0 (W0.heap[g]? = some (.cells cs t (0, 0)))) [p : Put g W0 W f] (e : f cs = cs' := by rfl) : W.heap[g]? = some (.cells cs' t (0, 0)) := by rw [← e]; exact p.out h.out
theorem cz1_ {w : World} {g t : Nat} {a0 : Value} (h : Aside0 (w.heap[g]? = some (.cells #[a0] t (0, 0)))) : w.cell? ⟨g, 0, none⟩ = some a0 := (blk_cell h.out 0).trans rfl
theorem cf1_ {w : World} {g t : Nat} {a0 : Value} (h : Aside0 (w.heap[g]? = some (.cells #[a0] t (0, 0)))) : w.cell? ⟨g, 0, none⟩ = some a0 ∧ w.frozen? ⟨g, 0, none⟩ = false := ⟨(blk_cell h.out 0).trans rfl, blk_frozen h.out 0⟩
theorem cz2_ {w : World} {g t : Nat} {a0 a1 : Value} (h : Aside0 (w.heap[g]? = some (.cells #[a0, a1] t (0, 0)))) : w.cell? ⟨g, 0, none⟩ = some a0 ∧ w.cell? ⟨g, 1, none⟩ = some a1 := ⟨(blk_cell h.out 0).trans rfl, (blk_cell h.out 1).trans rfl⟩
theorem cf2_ {w : World} {g t : Nat} {a0 a1 : Value} (h : Aside0 (w.heap[g]? = some (.cells #[a0, a1] t (0, 0)))) : w.cell? ⟨g, 0, none⟩ = some a0 ∧ w.cell? ⟨g, 1, none⟩ = some a1 ∧ w.frozen? ⟨g, 0, none⟩ = false ∧ w.frozen? ⟨g, 1, none⟩ = false := ⟨(blk_cell h.out 0).trans rfl, (blk_cell h.out 1).trans rfl, blk_frozen h.out 0, blk_frozen h.out 1⟩
theorem cz3_ {w : World} {g t : Nat} {a0 a1 a2 : Value} (h : Aside0 (w.heap[g]? = some (.cells #[a0, a1, a2] t (0, 0)))) : w.cell? ⟨g, 0, none⟩ = some a0 ∧ w.cell? ⟨g, 1, none⟩ = some a1 ∧ w.cell? ⟨g, 2, none⟩ = some a2 := ⟨(blk_cell h.out 0).trans rfl, (blk_cell h.out 1).trans rfl, (blk_cell h.out 2).trans rfl⟩
theorem cf3_ {w : World} {g t : Nat} {a0 a1 a2 : Value} (h : Aside0 (w.heap[g]? = some (.cells #[a0, a1, a2] t (0, 0)))) : w.cell? ⟨g, 0, none⟩ = some a0 ∧ w.cell? ⟨g, 1, none⟩ = some a1 ∧ w.cell? ⟨g, 2, none⟩ = some a2 ∧ w.frozen? ⟨g, 0, none⟩ = false ∧ w.frozen? ⟨g, 1, none⟩ = false ∧ w.frozen? ⟨g, 2, none⟩ = false := ⟨(blk_cell h.out 0).trans rfl, (blk_cell h.out 1).trans rfl, (blk_cell h.out 2).trans rfl, blk_frozen h.out 0, blk_frozen h.out 1, blk_frozen h.out 2⟩
theorem cz4_ {w : World} {g t : Nat} {a0 a1 a2 a3 : Value} (h : Aside0 (w.heap[g]? = some (.cells #[a0, a1, a2, a3] t (0, 0)))) : w.cell? ⟨g, 0, none⟩ = some a0 ∧ w.cell? ⟨g, 1, none⟩ = some a1 ∧ w.cell? ⟨g, 2, none⟩ = some a2 ∧ w.cell? ⟨g, 3, none⟩ = some a3 := ⟨(blk_cell h.out 0).trans rfl, (blk_cell h.out 1).trans rfl, (blk_cell h.out 2).trans rfl, (blk_cell h.out 3).trans rfl⟩
theorem cf4_ {w : World} {g t : Nat} {a0 a1 a2 a3 : Value} (h : Aside0 (w.heap[g]? = some (.cells #[a0, a1, a2, a3] t (0, 0)))) : w.cell? ⟨g, 0, none⟩ = some a0 ∧ w.cell? ⟨g, 1, none⟩ = some a1 ∧ w.cell? ⟨g, 2, none⟩ = some a2 ∧ w.cell? ⟨g, 3, none⟩ = some a3 ∧ w.frozen? ⟨g, 0, none⟩ = false ∧ w.frozen? ⟨g, 1, none⟩ = false ∧ w.frozen? ⟨g, 2, none⟩ = false ∧ w.frozen? ⟨g, 3, none⟩ = false := ⟨(blk_cell h.out 0).trans rfl, (blk_cell h.out 1).trans rfl, (blk_cell h.out 2).trans rfl, (blk_cell h.out 3).trans rfl, blk_frozen h.out 0, blk_frozen h.out 1, blk_frozen h.out 2, blk_frozen h.out 3⟩
theorem cz5_ {w : World} {g t : Nat} {a0 a1 a2 a3 a4 : Value} (h : Aside0 (w.heap[g]? = some (.cells #[a0, a1, a2, a3, a4] t (0, 0)))) : w.cell? ⟨g, 0, none⟩ = some a0 ∧ w.cell? ⟨g, 1, none⟩ = some a1 ∧ w.cell? ⟨g, 2, none⟩ = some a2 ∧ w.cell? ⟨g, 3, none⟩ = some a3 ∧ w.cell? ⟨g, 4, none⟩ = some a4 := ⟨(blk_cell h.out 0).trans rfl, (blk_cell h.out 1).trans rfl, (blk_cell h.out 2).trans rfl, (blk_cell h.out 3).trans rfl, (blk_cell h.out 4).trans rfl⟩
theorem cf5_ {w : World} {g t : Nat} {a0 a1 a2 a3 a4 : Value} (h : Aside0 (w.heap[g]? = some (.cells #[a0, a1, a2, a3, a4] t (0, 0)))) : w.cell? ⟨g, 0, none⟩ = some a0 ∧ w.cell? ⟨g, 1, none⟩ = some a1 ∧ w.cell? ⟨g, 2, none⟩ = some a2 ∧ w.cell? ⟨g, 3, none⟩ = some a3 ∧ w.cell? ⟨g, 4, none⟩ = some a4 ∧ w.frozen? ⟨g, 0, none⟩ = false ∧ w.frozen? ⟨g, 1, none⟩ = false ∧ w.frozen? ⟨g, 2, none⟩ = false ∧ w.frozen? ⟨g, 3, none⟩ = false ∧ w.frozen? ⟨g, 4, none⟩ = false := ⟨(blk_cell h.out 0).trans rfl, (blk_cell h.out 1).trans rfl, (blk_cell h.out 2).trans rfl, (blk_cell h.out 3).trans rfl, (blk_cell h.out 4).trans rfl, blk_frozen h.out 0, blk_frozen h.out 1, blk_frozen h.out 2, blk_frozen h.out 3, blk_frozen h.out 4⟩
theorem cz6_ {w : World} {g t : Nat} {a0 a1 a2 a3 a4 a5 : Value} (h : Aside0 (w.heap[g]? = some (.cells #[a0, a1, a2, a3, a4, a5] t (0, 0)))) : w.cell? ⟨g, 0, none⟩ = some a0 ∧ w.cell? ⟨g, 1, none⟩ = some a1 ∧ w.cell? ⟨g, 2, none⟩ = some a2 ∧ w.cell? ⟨g, 3, none⟩ = some a3 ∧ w.cell? ⟨g, 4, none⟩ = some a4 ∧ w.cell? ⟨g, 5, none⟩ = some a5 := ⟨(blk_cell h.out 0).trans rfl, (blk_cell h.out 1).trans rfl, (blk_cell h.out 2).trans rfl, (blk_cell h.out 3).trans rfl, (blk_cell h.out 4).trans rfl, (blk_cell h.out 5).trans rfl⟩
theorem cf6_ {w : World} {g t : Nat} {a0 a1 a2 a3 a4 a5 : Value} (h : Aside0 (w.heap[g]? = some (.cells #[a0, a1, a2, a3, a4, a5] t (0, 0)))) : w.cell? ⟨g, 0, none⟩ = some a0 ∧ w.cell? ⟨g, 1, none⟩ = some a1 ∧ w.cell? ⟨g, 2, none⟩ = some a2 ∧ w.cell? ⟨g, 3, none⟩ = some a3 ∧ w.cell? ⟨g, 4, none⟩ = some a4 ∧ w.cell? ⟨g, 5, none⟩ = some a5 ∧ w.frozen? ⟨g, 0, none⟩ = false ∧ w.frozen? ⟨g, 1, none⟩ = false ∧ w.frozen? ⟨g, 2, none⟩ = false ∧ w.frozen? ⟨g, 3, none⟩ = false ∧ w.frozen? ⟨g, 4, none⟩ = false ∧ w.frozen? ⟨g, 5, none⟩ = false := ⟨(blk_cell h.out 0).trans rfl, (blk_cell h.out 1).trans rfl, (blk_cell h.out 2).trans rfl, (blk_cell h.out 3).trans rfl, (blk_cell h.out 4).trans rfl, (blk_cell h.out 5).trans rfl, blk_frozen h.out 0, blk_frozen h.out 1, blk_frozen h.out 2, blk_frozen h.out 3, blk_frozen h.out 4, blk_frozen h.out 5⟩
theorem cz7_ {w : World} {g t : Nat} {a0 a1 a2 a3 a4 a5 a6 : Value} (h : Aside0 (w.heap[g]? = some (.cells #[a0, a1, a2, a3, a4, a5, a6] t (0, 0)))) : w.cell? ⟨g, 0, none⟩ = some a0 ∧ w.cell? ⟨g, 1, none⟩ = some a1 ∧ w.cell? ⟨g, 2, none⟩ = some a2 ∧ w.cell? ⟨g, 3, none⟩ = some a3 ∧ w.cell? ⟨g, 4, none⟩ = some a4 ∧ w.cell? ⟨g, 5, none⟩ = some a5 ∧ w.cell? ⟨g, 6, none⟩ = some a6 := ⟨(blk_cell h.out 0).trans rfl, (blk_cell h.out 1).trans rfl, (blk_cell h.out 2).trans rfl, (blk_cell h.out 3).trans rfl, (blk_cell h.out 4).trans rfl, (blk_cell h.out 5).trans rfl, (blk_cell h.out 6).trans rfl⟩
theorem cf7_ {w : World} {g t : Nat} {a0 a1 a2 a3 a4 a5 a6 : Value} (h : Aside0 (w.heap[g]? = some (.cells #[a0, a1, a2, a3, a4, a5, a6] t (0, 0)))) : w.cell? ⟨g, 0, none⟩ = some a0 ∧ w.cell? ⟨g, 1, none⟩ = some a1 ∧ w.cell? ⟨g, 2, none⟩ = some a2 ∧ w.cell? ⟨g, 3, none⟩ = some a3 ∧ w.cell? ⟨g, 4, none⟩ = some a4 ∧ w.cell? ⟨g, 5, none⟩ = some a5 ∧ w.cell? ⟨g, 6, none⟩ = some a6 ∧ w.frozen? ⟨g, 0, none⟩ = false ∧ w.frozen? ⟨g, 1, none⟩ = false ∧ w.frozen? ⟨g, 2, none⟩ = false ∧ w.frozen? ⟨g, 3, none⟩ = false ∧ w.frozen? ⟨g, 4, none⟩ = false ∧ w.frozen? ⟨g, 5, none⟩ = false ∧ w.frozen? ⟨g, 6, none⟩ = false := ⟨(blk_cell h.out 0).trans rfl, (blk_cell h.out 1).trans rfl, (blk_cell h.out 2).trans rfl, (blk_cell h.out 3).trans rfl, (blk_cell h.out 4).trans rfl, (blk_cell h.out 5).trans rfl, (blk_cell h.out 6).trans rfl, blk_frozen h.out 0, blk_frozen h.out 1, blk_frozen h.out 2, blk_frozen h.out 3, blk_frozen h.out 4, blk_frozen h.out 5, blk_frozen h.out 6⟩
theorem cz8_ {w : World} {g t : Nat} {a0 a1 a2 a3 a4 a5 a6 a7 : Value} (h : Aside0 (w.heap[g]? = some (.cells #[a0, a1, a2, a3, a4, a5, a6, a7] t (0, 0)))) : w.cell? ⟨g, 0, none⟩ = some a0 ∧ w.cell? ⟨g, 1, none⟩ = some a1 ∧ w.cell? ⟨g, 2, none⟩ = some a2 ∧ w.cell? ⟨g, 3, none⟩ = some a3 ∧ w.cell? ⟨g, 4, none⟩ = some a4 ∧ w.cell? ⟨g, 5, none⟩ = some a5 ∧ w.cell? ⟨g, 6, none⟩ = some a6 ∧ w.cell? ⟨g, 7, none⟩ = some a7 := ⟨(blk_cell h.out 0).trans rfl, (blk_cell h.out 1).trans rfl, (blk_cell h.out 2).trans rfl, (blk_cell h.out 3).trans rfl, (blk_cell h.out 4).trans rfl, (blk_cell h.out 5).trans rfl, (blk_cell h.out 6).trans rfl, (blk_cell h.out 7).trans rfl⟩
theorem cf8_ {w : World} {g t : Nat} {a0 a1 a2 a3 a4 a5 a6 a7 : Value} (h : Aside0 (w.heap[g]? = some (.cells #[a0, a1, a2, a3, a4, a5, a6, a7] t (0, 0)))) : w.cell? ⟨g, 0, none⟩ = some a0 ∧ w.cell? ⟨g, 1, none⟩ = some a1 ∧ w.cell? ⟨g, 2, none⟩ = some a2 ∧ w.cell? ⟨g, 3, none⟩ = some a3 ∧ w.cell? ⟨g, 4, none⟩ = some a4 ∧ w.cell? ⟨g, 5, none⟩ = some a5 ∧ w.cell? ⟨g, 6, none⟩ = some a6 ∧ w.cell? ⟨g, 7, none⟩ = some a7 ∧ w.frozen? ⟨g, 0, none⟩ = false ∧ w.frozen? ⟨g, 1, none⟩ = false ∧ w.frozen? ⟨g, 2, none⟩ = false ∧ w.frozen? ⟨g, 3, none⟩ = false ∧ w.frozen? ⟨g, 4, none⟩ = false ∧ w.frozen? ⟨g, 5, none⟩ = false ∧ w.frozen? ⟨g, 6, none⟩ = false ∧ w.frozen? ⟨g, 7, none⟩ = false := ⟨(blk_cell h.out 0).trans rfl, (blk_cell h.out 1).trans rfl, (blk_cell h.out 2).trans rfl, (blk_cell h.out 3).trans rfl, (blk_cell h.out 4).trans rfl, (blk_cell h.out 5).trans rfl, (blk_cell h.out 6).trans rfl, (blk_cell h.out 7).trans rfl, blk_frozen h.out 0, blk_frozen h.out 1, blk_frozen h.out 2, blk_frozen h.out 3, blk_frozen h.out 4, blk_frozen h.out 5, blk_frozen h.out 6, blk_frozen h.out 7⟩
end

section
open Go.Proofs.YtllkijlmjapleaaDoorW.PrintLast
variable {P : Program} {ops : Array Oper} {Q : Exit → Act → World → Prop} {md : Region.Mode} {S : World → Prop} {ds : List Nat} {T : Bool × List (List Nat × List Nat)} {B : List Nat} {oi : Oper} {v : Value} {fuel : Nat} {l : Array Bool} {a a' : Act} {w : World}
theorem pT_ (i : Nat) (N : Option Tmp) (l' : Array Bool) (HT : Aside0 (rtab md ops = T)) (h : wpAnyLast P md ops Q S ds fuel l' a' w)
    (hi : ops[i]? = some oi := by rfl) (hN : oi.dst = N := by rfl) (hc : anyT T l.toList l'.toList i = true := by kernel_rfl)
    (hQ : ∀ c a w, Q (.panic c) (a.put oi.dst v) w → Q (.panic c) a w := by exact fun _ _ _ h => h)
    (hw : Region.wanted oi (yielded ops a.tmps) = true := by rfl) (hy : ∀ w, (execOp a.eval oi).run P w = .ok (.value v) w := by (intro w'; go_simp; with_reducible rfl))
    (ha : a.put N v = a' := by (simp only [Act.put, List.setIfInBounds_toArray, List.set_cons_zero, List.set_cons_succ, i64_w, i32_w]; rfl)) : wpAnyLast P md ops Q S ds (fuel + 1) l a w :=
  pure_ l' hi hN (any_of HT.out hc) hQ (Or.inl ⟨hw, hy⟩) ha h
theorem pU_ (i : Nat) (N : Option Tmp) (l' : Array Bool) (HT : Aside0 (rtab md ops = T)) (h : wpAnyLast P md ops Q S ds fuel l' a' w)
    (hi : ops[i]? = some oi := by rfl) (hN : oi.dst = N := by rfl) (hc : anyT T l.toList l'.toList i = true := by kernel_rfl)
    (hQ : ∀ c a w, Q (.panic c) (a.put oi.dst undef) w → Q (.panic c) a w := by exact fun _ _ _ h => h)
    (hw : Region.wanted oi (yielded ops a.tmps) = false := by rfl)
    (ha : a.put N undef = a' := by (simp only [Act.put, List.setIfInBounds_toArray, List.set_cons_zero, List.set_cons_succ, i64_w, i32_w]; rfl)) : wpAnyLast P md ops Q S ds (fuel + 1) l a w :=
  pure_ l' hi hN (any_of HT.out hc) hQ (Or.inr ⟨hw, rfl⟩) ha h
theorem pB_ (i : Nat) (N : Option Tmp) (l' : Array Bool) (h : wpAnyLast P md ops Q S ds fuel l' a' w)
    (hi : ops[i]? = some oi := by rfl) (hN : oi.dst = N := by rfl) (hc : anyB md ops l l' i = true := by kernel_rfl)
    (hQ : ∀ c a w, Q (.panic c) (a.put oi.dst v) w → Q (.panic c) a w := by exact fun _ _ _ h => h)
    (hw : Region.wanted oi (yielded ops a.tmps) = true := by rfl) (hy : ∀ w, (execOp a.eval oi).run P w = .ok (.value v) w := by (intro w'; go_simp; with_reducible rfl))
    (ha : a.put N v = a' := by (simp only [Act.put, List.setIfInBounds_toArray, List.set_cons_zero, List.set_cons_succ, i64_w, i32_w]; rfl)) : wpAnyLast P md ops Q S ds (fuel + 1) l a w :=
  pure_ l' hi hN hc hQ (Or.inl ⟨hw, hy⟩) ha h
theorem tT_ (i : Nat) (N : Option Tmp) (l' : Array Bool) (HT : Aside0 (rtab md ops = T)) (HW : Aside0 (waitsOk T.2 B = true)) (hS : S w) (h : wpAnyLast P md ops Q S ds fuel l' a' w)
    (hi : ops[i]? = some oi := by rfl) (hN : oi.dst = N := by rfl) (hc : takeW T B ds l.toList l'.toList i = true := by kernel_rfl)
    (hQ : ∀ c a w, Q (.panic c) (a.put oi.dst v) w → Q (.panic c) a w := by exact fun _ _ _ h => h)
    (hw : Region.wanted oi (yielded ops a.tmps) = true := by rfl) (hy : ∀ w, S w → (execOp a.eval oi).run P w = .ok (.value v) w := by (intro w' s0; go_simp; with_reducible rfl))
    (ha : a.put N v = a' := by (simp only [Act.put, List.setIfInBounds_toArray, List.set_cons_zero, List.set_cons_succ, i64_w, i32_w]; rfl)) : wpAnyLast P md ops Q S ds (fuel + 1) l a w :=
  take_ l' hi hN (take_ofW HT.out HW.out hc) hQ (Or.inl ⟨hw, hy⟩) hS ha h
theorem tB_ (i : Nat) (N : Option Tmp) (l' : Array Bool) (hS : S w) (h : wpAnyLast P md ops Q S ds fuel l' a' w)
    (hi : ops[i]? = some oi := by rfl) (hN : oi.dst = N := by rfl) (hc : takeB md ops ds l l' i = true := by kernel_rfl)
    (hQ : ∀ c a w, Q (.panic c) (a.put oi.dst v) w → Q (.panic c) a w := by exact fun _ _ _ h => h)
    (hw : Region.wanted oi (yielded ops a.tmps) = true := by rfl) (hy : ∀ w, S w → (execOp a.eval oi).run P w = .ok (.value v) w := by (intro w' s0; go_simp; with_reducible rfl))
    (ha : a.put N v = a' := by (simp only [Act.put, List.setIfInBounds_toArray, List.set_cons_zero, List.set_cons_succ, i64_w, i32_w]; rfl)) : wpAnyLast P md ops Q S ds (fuel + 1) l a w :=
  take_ l' hi hN hc hQ (Or.inl ⟨hw, hy⟩) hS ha h
theorem gL_ {rest : List Oper} {oi : Oper} {a : Act} {w : World} {f : FuncId} {fn : Func} {as : Array Operand} {ts : Array TypeId} (N : Option Tmp) (hf : P.funcs[f]? = some fn) (args : Array Value)
    (h : Calls P f args w fun e w' => ∃ v, e = .returned v ∧ wpList P ops Q rest (a.put N v) w')
    (hd : oi.dst = N := by rfl) (hg : oi.guard = none := by rfl) (hname : (fn.name == "runtime.NumGoroutine") = false := by kernel_rfl) (hb : fn.body.isSome = true := by rfl)
    (hop : oi.op = .call { callee := .value (.func f), args := as, argTypes := ts } := by rfl)
    (hargs : as.map a.eval = args := by ((try simp only [List.map_toArray, List.map_cons, List.map_nil]); first | done | rfl | (simp only [List.length_drop, List.length_take]; rfl))) : wpList P ops Q (oi :: rest) a w :=
  goesL_ N hd hg hf hname hb args hop hargs h
theorem nS_ (N : Option Tmp) {b : Act} (h : wpAnyLast P md ops Q S ds fuel l a' w) (hp : a = b.put N v := by rfl) (ha : b.put N v = a' := by (simp only [Act.put, List.setIfInBounds_toArray, List.set_cons_zero, List.set_cons_succ, i64_w, i32_w]; rfl)) : wpAnyLast P md ops Q S ds fuel l a w := norm_ (hp.trans ha) h
end

/- Words of the second pass (press2.py). -/
theorem mk_ {p : Prop} (h : p) : Aside0 p := ⟨h⟩
@[reducible] def uu (a b : Nat) : Array Bool := (List.replicate a true ++ List.replicate b false).toArray
theorem eW_ {p : Prop} (h : p := by first | rfl | (simp [errW_none, errW_some] <;> rfl) | (simp [*, errW_none, errW_some] <;> rfl)) : p := h
theorem eS_ {p : Prop} (h : p := by first | rfl | (simp; done) | (simp [*]; done)) : p := h
theorem dN_ {p : Prop} (h : p := by first | exact ⟨rfl, _, World.drewN_drewN _ _ _⟩ | exact ⟨rfl, _, Eq.trans (World.drewN_drewN _ _ _) (congrArg (World.drewN _) (Nat.add_assoc _ _ _))⟩) : p := h
theorem kB_ {w w1 : World} {g g' : Nat} {o : Obj} (h : KeepBut w w1 g none) (hb : w.heap[g']? = some o) (hg : Aside0 (g' ≠ g)) : Aside0 (w1.heap[g']? = some o) := ⟨KeepBut.blk h hb hg.out (by simp)⟩
theorem bn_ {w : World} {b : Addr} {u : Value} {g n : Nat} (hx : w.cell? b = some u) (hg : Aside0 (w.heap.size ≤ g)) (hb : b.block = n := by first | rfl | exact add_block _ _) : n ≠ g :=
  Nat.ne_of_lt (Nat.lt_of_lt_of_le (by have := World.block_lt_of_cell? _ _ hx; rwa [hb] at this) hg.out)

end Go.Proofs.YtllkijlmjapleaaDoor.Sq
