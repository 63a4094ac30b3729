/- impl's StartTasks: what its map holds, and rows that lie beside a map. -/
import Derived.Test.YtjoghfehmhapbaaRunMapFnSuiteOnce
set_option linter.unusedVariables false
set_option linter.unusedSimpArgs false
namespace Go.Proofs.Ytjoghfehmhapbaa.QFnSuiteOnce
open Go.RowKit Go.Proofs.YtjoghfehmhapbaaW.PrintWords Go.Proofs.YtjoghfehmhapbaaW.PrintLast Go.Proofs.YtjoghfehmhapbaaW.PrintMore Go.Proofs.Ytjoghfehmhapbaa.Sq Go.Maps

theorem ne_row {w : World} {B n e : Nat} {D : DataW Unit} {v : Value} (h : w.ownsMap Try.prog 2 (plainElem (H := Unit) Try.prog 2) B n D) (ht : ∀ k, v.ownBlock = some k → ∃ cells, w.heap[k]? = some (.cells cells e (0, 0))) : some B ≠ v.ownBlock := by
  obtain ⟨es, clock, hb, _⟩ := h
  intro he
  obtain ⟨cells, hc⟩ := ht B he.symm
  rw [hb] at hc
  injection hc with hc
  cases hc
theorem ne_blk {w : World} {B n g e : Nat} {D : DataW Unit} {cells : Array Value} (h : w.ownsMap Try.prog 2 (plainElem (H := Unit) Try.prog 2) B n D) (ht : w.heap[g]? = some (.cells cells e (0, 0))) : some g ≠ some B := by
  obtain ⟨es, clock, hb, _⟩ := h
  intro he
  cases he
  rw [hb] at ht
  injection ht with ht
  cases ht
theorem R_overM {α : Type} {d : Kd α} {e base : Nat} {ok : Nat → Prop} {W w1 : World} {u : Value} {xs : List α} {B n : Nat} {D : DataW Unit} (h : d.R e W base ok u xs) (hm : W.ownsMap Try.prog 2 (plainElem (H := Unit) Try.prog 2) B n D) (hg : W.grownBy w1 (some B)) : d.R e w1 base ok u xs := by
  refine Kd.R_mono (Kd.R_move (Kd.R_bound h) (fun k hk => hg.block k hk.2.2.1 (fun he => ?_))) (fun _ hk => hk.1)
  obtain ⟨_, _, _, q, hq, cells, hc⟩ := hk
  obtain ⟨es, clock, hb, _⟩ := hm
  cases he
  rw [hb] at hc
  injection hc with hc
  cases hc
theorem S_overM {α : Type} {d : Kd α} {e base : Nat} {ok : Nat → Prop} {W w1 : World} {u : Value} {xs : List α} {B n : Nat} {D : DataW Unit} (h : Kd.S d e W base ok u xs) (hm : W.ownsMap Try.prog 2 (plainElem (H := Unit) Try.prog 2) B n D) (hg : W.grownBy w1 (some B)) : Kd.S d e w1 base ok u xs := by
  obtain ⟨f, h⟩ := h
  exact ⟨f, R_overM h hm hg⟩
theorem blk_overM {W w1 : World} {B n g e : Nat} {D : DataW Unit} {cells : Array Value} (h : W.heap[g]? = some (.cells cells e (0, 0))) (hm : W.ownsMap Try.prog 2 (plainElem (H := Unit) Try.prog 2) B n D) (hg : W.grownBy w1 (some B)) : w1.heap[g]? = some (.cells cells e (0, 0)) := blk_grown h hg (ne_blk hm h)
theorem map_below {w w1 : World} {B n : Nat} {D : DataW Unit} (h : w.ownsMap Try.prog 2 (plainElem (H := Unit) Try.prog 2) B n D) (hb : Below w.heap.size w w1) : w1.ownsMap Try.prog 2 (plainElem (H := Unit) Try.prog 2) B n D := h.kept (grown_of_below hb none) (by simp)
theorem look_run {w : World} {B n : Nat} {D : DataW Unit} {g c : Int} (h : w.ownsMap Try.prog 2 (plainElem (H := Unit) Try.prog 2) B n D) (hat : D.atKey (.int .i64 g) (.lit (.int .i64 0)) = .lit (.int .i64 c)) (hwf : (Lit.int .i64 g).wf = true) :
    (Instr.lookup 78 (.map (some B)) (.int .i64 g) false).run Try.prog w = .ok (.int .i64 c) w := by
  obtain ⟨c', hr, hat', _⟩ := h.lookup_int lawI Try.underlying78 Try.underlying2 (zeroI _) (keyOf_int_mk Try.underlying2 hwf)
  have e : c = c' := (Lit.int.inj (DataW.lit.inj (hat.symm.trans hat'))).2
  rw [e]
  exact hr
def impl_runningA.f (_k : Nat) (l0 : List S39) (l1 : List Int) (_a2 : Int) (l3 : List S43) : Option Bool :=
  if (l3.length ≤ l0.length ∧ l3.length ≤ 1048576 ∧ l1.length ≤ 1048576) ∧ (∀ q ∈ List.range l3.length, 1 ≤ (rd_T39 l0 (q : Int)).f1 ∧ (rd_T39 l0 (q : Int)).f1 ≤ (l1.length : Int)) then some true else none
theorem impl_runningA.mono : ∀ a0 a1 a2 a3 k, LeO (impl_runningA.f k a0 a1 a2 a3) (impl_runningA.f (k + 1) a0 a1 a2 a3) := fun _ _ _ _ _ => LeO.refl _
theorem runningA_some {k : Nat} {l0 : List S39} {l1 : List Int} {a : Int} {l3 : List S43} {t : Bool} (h : impl_runningA.f k l0 l1 a l3 = some t) :
    (l3.length ≤ l0.length ∧ l3.length ≤ 1048576 ∧ l1.length ≤ 1048576) ∧ (∀ q : Nat, q < l3.length → (Lit.int .i64 (rd_T39 l0 (q : Int)).f1).wf = true) := by
  unfold impl_runningA.f at h
  by_cases c : (l3.length ≤ l0.length ∧ l3.length ≤ 1048576 ∧ l1.length ≤ 1048576) ∧ (∀ q ∈ List.range l3.length, 1 ≤ (rd_T39 l0 (q : Int)).f1 ∧ (rd_T39 l0 (q : Int)).f1 ≤ (l1.length : Int))
  · refine ⟨c.1, fun q hq => ?_⟩
    have := c.2 q (List.mem_range.mpr hq)
    exact WalkArith.wf_i64 (by have := c.1.2.2; omega)
  · rw [if_neg c] at h; cases h
theorem wf_at {l0 : List S39} {n : Nat} (h : ∀ q : Nat, q < n → (Lit.int .i64 (rd_T39 l0 (q : Int)).f1).wf = true) (x : Int) (h0 : 0 ≤ x) (h1 : x < (n : Int)) : (Lit.int .i64 (rd_T39 l0 x).f1).wf = true := by
  have := h x.toNat (by omega)
  rwa [Int.toNat_of_nonneg h0] at this
def impl_count.f (_k : Nat) (l0 : List S39) (_l1 : List Int) (_a2 : Int) (l3 : List S43) (g : Int) : Option Int := some (cntG l0 l3 g l3.length)
theorem impl_count.mono : ∀ a0 a1 a2 a3 a4 k, LeO (impl_count.f k a0 a1 a2 a3 a4) (impl_count.f (k + 1) a0 a1 a2 a3 a4) := fun _ _ _ _ _ _ => LeO.refl _
theorem count_at {H : Type} {D : DataW H} {k : Nat} {l0 : List S39} {l1 : List Int} {a : Int} {l3 : List S43} {g t : Int} (hD : Holds D l0 l3 l3.length) (h : impl_count.f k l0 l1 a l3 g = some t) : D.atKey (.int .i64 g) (.lit (.int .i64 0)) = .lit (.int .i64 t) := by
  have := (hD.2 g).1
  rw [this]
  exact congrArg (fun z => DataW.lit (Lit.int .i64 z)) (Option.some.inj h)
theorem cntG_same (l0 : List S39) (l3 : List S43) (v : S43) (i : Nat) (hi : i < l3.length) (hv : v.f0 = 1) (h0 : (rd_T43 l3 (i : Int)).f0 = 0) (g : Int) : ∀ n : Nat, cntG l0 (l3.set i v) g n = cntG l0 l3 g n + (if i < n ∧ (rd_T39 l0 (i : Int)).f1 = g then 1 else 0) := by
  intro n
  induction n with
  | zero => simp [cntG]
  | succ n ih =>
    simp only [cntG]
    rw [ih]
    by_cases c : n = i
    · subst c
      have e : (rd_T43 (l3.set n v) (n : Int)).f0 = 1 := by
        show ((l3.set n v).getD (n : Int).toNat z43).f0 = 1
        rw [Int.toNat_natCast, List.getD_eq_getElem?_getD, List.getElem?_set_self hi]
        exact hv
      rw [e, h0]
      by_cases c2 : (rd_T39 l0 (n : Int)).f1 = g
      · simp [c2]
      · simp [c2]
    · have e : (rd_T43 (l3.set i v) (n : Int)) = rd_T43 l3 (n : Int) := by
        show (l3.set i v).getD (n : Int).toNat z43 = l3.getD (n : Int).toNat z43
        rw [Int.toNat_natCast, List.getD_eq_getElem?_getD, List.getD_eq_getElem?_getD, List.getElem?_set_ne (fun x => c x.symm)]
      rw [e]
      by_cases c3 : i < n
      · have c4 : i < n + 1 := by omega
        simp only [c3, c4, true_and]
        omega
      · have c4 : ¬ i < n + 1 := by omega
        simp only [c3, c4, false_and, if_false]
        omega
theorem holds_begin {H : Type} {D : DataW H} {l0 : List S39} {l3 : List S43} (h : Holds D l0 l3 l3.length) (x : Int) (hx0 : 0 ≤ x) (hx1 : x < (l3.length : Int)) (hf : (rd_T43 l3 x).f0 = 0) (v : S43) (hv : v.f0 = 1) {l3' : List S43} (he : l3' = l3.set x.toNat v)
    {c : Int} (hat : D.atKey (.int .i64 (rd_T39 l0 x).f1) (.lit (.int .i64 0)) = .lit (.int .i64 c)) (hn : l3.length ≤ 1048576) : Holds (D.put (.int .i64 (rd_T39 l0 x).f1) (.lit (.int .i64 (wrap64 (c + 1))))) l0 l3' l3'.length := by
  subst he
  obtain ⟨i, rfl⟩ : ∃ i : Nat, x = (i : Int) := ⟨x.toNat, (Int.toNat_of_nonneg hx0).symm⟩
  rw [Int.toNat_natCast, List.length_set]
  have hi : i < l3.length := by omega
  refine ⟨h.1.put _ _, fun g => ?_⟩
  have hb := cntG_bd l0 l3 (rd_T39 l0 (i : Int)).f1 l3.length
  have e : c = cntG l0 l3 (rd_T39 l0 (i : Int)).f1 l3.length := by
    have := (h.2 (rd_T39 l0 (i : Int)).f1).1
    rw [hat] at this
    injection this with this
    injection this
  have ew : wrap64 (c + 1) = c + 1 := by unfold wrap64; omega
  rw [cntG_same l0 l3 v i hi hv hf g]
  by_cases c2 : (rd_T39 l0 (i : Int)).f1 = g
  · rw [if_pos ⟨hi, c2⟩, ← c2, atKey_put_same h.1 (show WideAt.IsKeyLit (.int .i64 (rd_T39 l0 (i : Int)).f1) from trivial), ew, e]
    exact ⟨rfl, fun _ => by omega⟩
  · have hne : (.int .i64 g : Lit) ≠ .int .i64 (rd_T39 l0 (i : Int)).f1 := fun z => c2 (by injection z with _ z; exact z.symm)
    rw [if_neg (fun z => c2 z.2), Int.add_zero, atKey_put_other hne, has_put_other hne]
    exact h.2 g
theorem nm_lt {nm n : Nat} {x : Int} (h : nm ≤ 1048576 + x.toNat) (h1 : x < (n : Int)) (h2 : n ≤ 1048576) : nm < maxLen := by unfold maxLen; omega
theorem nm_stay {nm n : Nat} {x : Int} (h : nm ≤ 1048576 + x.toNat) (h0 : 0 ≤ x) (h1 : x < (n : Int)) (h2 : n ≤ 1048576) : nm ≤ 1048576 + (wrap64 (x + 1)).toNat := by unfold wrap64; omega
theorem nm_more {nm n : Nat} {x : Int} (h : nm ≤ 1048576 + x.toNat) (h0 : 0 ≤ x) (h1 : x < (n : Int)) (h2 : n ≤ 1048576) : nm + 1 ≤ 1048576 + (wrap64 (x + 1)).toNat := by unfold wrap64; omega
theorem x_more {n : Nat} {x : Int} (h0 : 0 ≤ x) (h1 : x < (n : Int)) (h2 : n ≤ 1048576) : 0 ≤ wrap64 (x + 1) := by unfold wrap64; omega
theorem set_two {x y1 y2 : List S43} {i : Int} (h0 : 0 ≤ i) (h1 : i < (x.length : Int)) (e1 : y1 = x.set i.toNat ⟨1, (rd_T43 x i).f1⟩) (e2 : y2 = y1.set i.toNat ⟨(rd_T43 y1 i).f0, wrap64 ((rd_T43 y1 i).f1 + 1)⟩) : y2 = x.set i.toNat ⟨1, wrap64 ((rd_T43 x i).f1 + 1)⟩ := by
  have hi : i.toNat < x.length := by omega
  have e : rd_T43 y1 i = ⟨1, (rd_T43 x i).f1⟩ := by
    subst e1
    show (x.set i.toNat _).getD i.toNat z43 = _
    rw [List.getD_eq_getElem?_getD, List.getElem?_set_self hi]
    rfl
  rw [e] at e2
  subst e1
  rw [e2, List.set_set]
end Go.Proofs.Ytjoghfehmhapbaa.QFnSuiteOnce
