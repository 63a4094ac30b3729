/- Rows of rows whose inner blocks lie between two numbers: the bounds are told inside the kind, so that all the words for rows hold as they stand. -/
import Derived.Test.YtjoghfehmhapbaaWApart
import Derived.Test.YtjoghfehmhapbaaWKept
import Derived.Test.YtjoghfehmhapbaaWMore
import Derived.Test.YtjoghfehmhapbaaSq
set_option linter.unusedVariables false
set_option linter.unusedSimpArgs false
namespace Go.Proofs.Ytjoghfehmhapbaa.Bet
open Go.RowKit Go.Proofs.YtjoghfehmhapbaaW.PrintWords Go.Proofs.YtjoghfehmhapbaaW.PrintLast Go.Proofs.YtjoghfehmhapbaaW.PrintMore
section
variable {α : Type} {d : Kd α} {lo hi e base : Nat} {w w1 W W' : World} {ok ok' P : Nat → Prop} {v : Value} {xs : List α}
/-- d, whose blocks lie at lo or above, and below hi. -/
def bet (d : Kd α) (lo hi : Nat) : Kd α where
  sz := d.sz
  E := d.E
  K := d.K
  M := fun w base ok x cs => d.M w base (fun k => ok k ∧ lo ≤ k ∧ k < hi) x cs
  K_len := fun h => d.K_len h
  K_one := fun h => d.K_one h
  K_below := fun hb h => d.K_below hb h
  K_of_M := fun h => d.K_of_M h
  M_mono := fun hok h => d.M_mono (fun k hk => ⟨hok k hk.1, hk.2⟩) h
  M_bound := fun h => d.M_mono (fun _ hk => ⟨⟨hk.1.1, hk.2⟩, hk.1.2⟩) (d.M_bound h)
  M_move := fun hm h => d.M_move (fun k hk => hm k hk.1) h
  M_lower := fun hb h => d.M_lower hb h
theorem S_in (h : Kd.S d e w base ok v xs) : Kd.S (bet d base w.heap.size) e w base ok v xs := by
  obtain ⟨f, h⟩ := h
  obtain ⟨h0, inner, ho, hr⟩ := Kd.R_bound h
  exact ⟨f, fun k hk => (h0 k hk).1, inner, ho, hr.1, fun j p hj => d.M_mono (fun k hk => ⟨⟨⟨hk.1.1.1, hk.1.2⟩, hk.2⟩, hk.1.1.2.1, hk.1.1.2.2.1⟩) (hr.2 j p hj)⟩
theorem S_out (h : Kd.S (bet d lo hi) e w base ok v xs) : Kd.S d e w base ok v xs := by
  obtain ⟨f, h0, inner, ho, hr⟩ := h
  exact ⟨f, h0, inner, ho, hr.1, fun j p hj => d.M_mono (fun k hk => hk.1) (hr.2 j p hj)⟩
theorem S_hand (h : Kd.S (bet d lo hi) e w base ok v xs) : Kd.S d e w base (fun k => (ok k ∧ (lo ≤ k ∧ k < hi ∨ some k = v.ownBlock)) ∧ k < w.heap.size ∧ ∃ q, q ∈ e :: d.E ∧ ∃ cells, w.heap[k]? = some (.cells cells q (0, 0))) v xs := by
  obtain ⟨f, h⟩ := h
  obtain ⟨h0, inner, ho, hr⟩ := Kd.R_bound h
  exact ⟨f, fun k hk => ⟨⟨(h0 k hk).1, .inr hk.symm⟩, (h0 k hk).2.2⟩, inner, ho, hr.1, fun j p hj => d.M_mono (fun k hk => ⟨⟨⟨⟨hk.1.1.1.1, .inl hk.2⟩, hk.1.1.1.2.2⟩, hk.1.1.2⟩, hk.1.2⟩) (hr.2 j p hj)⟩
theorem S_home (h : Kd.S d e w base ok' v xs) (hin : ∀ k, ok' k → some k ≠ v.ownBlock → lo ≤ k ∧ k < hi) (hok : ∀ k, ok' k → ok k) : Kd.S (bet d lo hi) e w base ok v xs := by
  obtain ⟨f, h0, inner, ho, hr⟩ := h
  exact ⟨f, fun k hk => hok k (h0 k hk), inner, ho, hr.1, fun j p hj => d.M_mono (fun k hk => ⟨⟨⟨hok k hk.1.1, hk.1.2⟩, hk.2⟩, hin k hk.1.1 hk.1.2⟩) (hr.2 j p hj)⟩
theorem S_back (h : Kd.S d e w base (fun k => (ok k ∧ (lo ≤ k ∧ k < hi ∨ some k = v.ownBlock)) ∧ P k) v xs) : Kd.S (bet d lo hi) e w base ok v xs :=
  S_home h (fun k hk hn => hk.1.2.resolve_right hn) (fun k hk => hk.1.1)
theorem bet_E : (bet d lo hi).E = d.E := rfl
theorem S_readsB {A : Option Addr} {n c : Nat} (h : Kd.S (bet d lo hi) e w base ok (.slice A n c) xs) : n = xs.length ∧ n ≤ c ∧ d.C w A xs.length xs := Kd.S_reads' (S_out h)
theorem S_inV {Q : Nat → Prop} (h : Kd.S d e w base ok v xs) (hq : Q base) : ∃ lo hi, Q lo ∧ hi = w.heap.size ∧ Kd.S (bet d lo hi) e w base ok v xs := ⟨base, w.heap.size, hq, rfl, S_in h⟩
theorem S_kept (h : Kd.S (bet d lo hi) e W base ok v xs) (hk : Kept W W' P) (hn : ∀ k, ok k → (lo ≤ k ∧ k < hi ∨ some k = v.ownBlock) → (∃ q, q ∈ e :: d.E ∧ ∃ cells, W.heap[k]? = some (.cells cells q (0, 0))) → ¬ P k) : Kd.S (bet d lo hi) e W' base ok v xs :=
  S_back (Kd.S_move (S_hand h) (fun k hk' => hk.2 k hk'.2.1 (hn k hk'.1.1 hk'.1.2 hk'.2.2)))
theorem R_typedk (h : d.R e W base ok v xs) (hE : d.E = []) : d.R e W base (fun k => (ok k ∧ some k = v.ownBlock) ∧ k < W.heap.size ∧ ∃ q, q ∈ [e] ∧ ∃ cells, W.heap[k]? = some (.cells cells q (0, 0))) v xs :=
  Kd.R_mono (Kd.R_bound (Kd.R_tight2 hE h)) (fun k hk => ⟨⟨hk.1.2, hk.1.1⟩, hk.2.2.1, by have := hk.2.2.2; rw [hE] at this; exact this⟩)
theorem R_kept (h : d.R e W base ok v xs) (hE : d.E = []) (hk : Kept W W' P) (hn : ∀ k, ok k → some k = v.ownBlock → (∃ q, q ∈ [e] ∧ ∃ cells, W.heap[k]? = some (.cells cells q (0, 0))) → ¬ P k) : d.R e W' base ok v xs :=
  Kd.R_mono (Kd.R_step (R_typedk h hE) (fun k hk' hlt => hk.2 k hlt (hn k hk'.1.1 hk'.1.2 hk'.2.2))) (fun _ hk' => hk'.1.1)
theorem ty_ne {h : Option Obj} {c1 c2 : Array Value} {q1 q2 : Nat} (h1 : h = some (.cells c1 q1 (0, 0))) (h2 : h = some (.cells c2 q2 (0, 0))) : q1 = q2 := by
  rw [h1] at h2
  injection h2 with h2
  injection h2
open Go.Proofs.Ytjoghfehmhapbaa.Sq in
theorem sDb_ {W0 W : World} {A : Option Addr} {n c : Nat} [Th W0 W] (h : Aside0 (Kd.S (bet d lo hi) e W0 base ok (.slice A n c) xs)) : d.C W A xs.length xs := (S_readsB (sT_ h : Kd.S (bet d lo hi) e W base ok (.slice A n c) xs)).2.2
open Go.Proofs.Ytjoghfehmhapbaa.Sq in
theorem sFb_ {W0 W : World} {g t : Nat} {cells : Array Value} [f : Fa g W0 W] (h : Aside0 (Kd.S (bet d lo hi) e W0 base ok v xs)) (bk : Aside0 (W0.heap[g]? = some (.cells cells t (0, 0)))) (ht : ∀ q, q ∈ e :: d.E → q ≠ t := by decide) : Kd.S (bet d lo hi) e W base ok v xs := sF_ h bk ht
open Go.Proofs.Ytjoghfehmhapbaa.Sq in
theorem sDFb_ {W0 W : World} {g t : Nat} {cells : Array Value} {A : Option Addr} {n c : Nat} [f : Fa g W0 W] (h : Aside0 (Kd.S (bet d lo hi) e W0 base ok (.slice A n c) xs)) (bk : Aside0 (W0.heap[g]? = some (.cells cells t (0, 0)))) (ht : ∀ q, q ∈ e :: d.E → q ≠ t := by decide) : d.C W A xs.length xs :=
  (S_readsB (sFb_ h bk ht : Kd.S (bet d lo hi) e W base ok (.slice A n c) xs)).2.2
open Go.Proofs.Ytjoghfehmhapbaa.Sq in
theorem sBFb_ {W0 W W1 : World} {g t : Nat} {cells : Array Value} [Fa g W0 W] (h : Aside0 (Kd.S (bet d lo hi) e W0 base ok v xs)) (bk : Aside0 (W0.heap[g]? = some (.cells cells t (0, 0)))) (hb : Below W.heap.size W W1) (ht : ∀ q, q ∈ e :: d.E → q ≠ t := by decide) : Aside0 (Kd.S (bet d lo hi) e W1 base ok v xs) := sBF_ h bk hb ht
/-- One object is not of two types. -/
theorem tyX_ {h : Option Obj} {A B : List Nat} (h1 : ∃ q, q ∈ A ∧ ∃ cells, h = some (.cells cells q (0, 0))) (h2 : ∃ q, q ∈ B ∧ ∃ cells, h = some (.cells cells q (0, 0))) (hd : ∀ q, q ∈ A → q ∉ B := by decide) : False := by
  obtain ⟨q1, m1, c1, e1⟩ := h1
  obtain ⟨q2, m2, c2, e2⟩ := h2
  have e := ty_ne e1 e2
  subst e
  exact hd _ m1 m2
/-- Two that are handed over: the first a row of rows, the second a flat row. -/
theorem hp_of {β : Type} {d1 : Kd β} {e1 : Nat} {ok1 : Nat → Prop} {v1 : Value} {ys : List β} (_h0 : Kd.S (bet d lo hi) e W base ok v xs) (_h1 : d1.R e1 W base ok1 v1 ys) (hne : ∀ k, ok k → ok1 k → some k ≠ v1.ownBlock) :
    ∀ k, ((ok k ∧ (lo ≤ k ∧ k < hi ∨ some k = v.ownBlock)) ∧ k < W.heap.size ∧ ∃ q, q ∈ e :: d.E ∧ ∃ cells, W.heap[k]? = some (.cells cells q (0, 0))) → ¬ ((ok1 k ∧ some k = v1.ownBlock) ∧ k < W.heap.size ∧ ∃ q, q ∈ [e1] ∧ ∃ cells, W.heap[k]? = some (.cells cells q (0, 0))) :=
  fun k h0 h1 => hne k h0.1.1 h1.1.1 h1.1.2
theorem hp_ty {β : Type} {d1 : Kd β} {e1 : Nat} {ok1 : Nat → Prop} {v1 : Value} {ys : List β} (_h0 : Kd.S (bet d lo hi) e W base ok v xs) (_h1 : d1.R e1 W base ok1 v1 ys) (hne : ∀ q, q ∈ e :: d.E → q ≠ e1) :
    ∀ k, ((ok k ∧ (lo ≤ k ∧ k < hi ∨ some k = v.ownBlock)) ∧ k < W.heap.size ∧ ∃ q, q ∈ e :: d.E ∧ ∃ cells, W.heap[k]? = some (.cells cells q (0, 0))) → ¬ ((ok1 k ∧ some k = v1.ownBlock) ∧ k < W.heap.size ∧ ∃ q, q ∈ [e1] ∧ ∃ cells, W.heap[k]? = some (.cells cells q (0, 0))) := by
  rintro k ⟨-, -, q, hq, c, hc⟩ ⟨-, -, q', hq', c', hc'⟩
  exact hne q hq ((ty_ne hc hc').trans (List.mem_singleton.1 hq'))
theorem hp_rr {α' β : Type} {d0 : Kd α'} {d1 : Kd β} {e0 e1 : Nat} {ok0 ok1 : Nat → Prop} {v0 v1 : Value} {zs : List α'} {ys : List β} (_h0 : d0.R e0 W base ok0 v0 zs) (_h1 : d1.R e1 W base ok1 v1 ys) (hne : e0 ≠ e1) :
    ∀ k, ((ok0 k ∧ some k = v0.ownBlock) ∧ k < W.heap.size ∧ ∃ q, q ∈ [e0] ∧ ∃ cells, W.heap[k]? = some (.cells cells q (0, 0))) → ¬ ((ok1 k ∧ some k = v1.ownBlock) ∧ k < W.heap.size ∧ ∃ q, q ∈ [e1] ∧ ∃ cells, W.heap[k]? = some (.cells cells q (0, 0))) := by
  rintro k ⟨-, -, q, hq, c, hc⟩ ⟨-, -, q', hq', c', hc'⟩
  exact hne ((List.mem_singleton.1 hq).symm.trans ((ty_ne hc hc').trans (List.mem_singleton.1 hq')))
theorem hp_rk {α' β : Type} {d0 : Kd α'} {d1 : Kd β} {e0 e1 : Nat} {ok0 ok1 : Nat → Prop} {v0 v1 : Value} {zs : List α'} {ys : List β} (_h0 : d0.R e0 W base ok0 v0 zs) (_h1 : d1.R e1 W base ok1 v1 ys) (hne : ∀ k, ok0 k → ok1 k → some k = v0.ownBlock → some k ≠ v1.ownBlock) :
    ∀ k, ((ok0 k ∧ some k = v0.ownBlock) ∧ k < W.heap.size ∧ ∃ q, q ∈ [e0] ∧ ∃ cells, W.heap[k]? = some (.cells cells q (0, 0))) → ¬ ((ok1 k ∧ some k = v1.ownBlock) ∧ k < W.heap.size ∧ ∃ q, q ∈ [e1] ∧ ∃ cells, W.heap[k]? = some (.cells cells q (0, 0))) :=
  fun k h0 h1 => hne k h0.1.1 h1.1.1 h0.1.2 h1.1.2
theorem blk_kp {g : Nat} {o : Obj} (h : W.heap[g]? = some o) (hk : Kept W W' P) (hn : ¬ P g) : W'.heap[g]? = some o := (hk.2 g (blk_lt h) hn).trans h
end
end Go.Proofs.Ytjoghfehmhapbaa.Bet
