/- The reader of drawn numbers: from bytes it tells numbers within what is asked, and goes on within its bytes. Plain; the bytes are bytes. -/
import Derived.Test.YtllkijlmjapleaaDoorSumLib
import Derived.Test.YtllkijlmjapleaaDoorQFnPhrasesx13
set_option linter.unusedVariables false
set_option linter.unusedSimpArgs false
namespace Go.Proofs.YtllkijlmjapleaaDoor.QFnPhrases
open Go.RowKit Go.Proofs.YtllkijlmjapleaaDoorW.PrintWords Go.Proofs.YtllkijlmjapleaaDoor.Opn Go.Proofs.YtllkijlmjapleaaDoor.Pl

/-- Bytes, and a place among them. -/
structure RdOk (b : List Int) (p : Int) : Prop where
  len : b.length ≤ 1048576
  byte : ∀ i : Nat, i < b.length → 0 ≤ rd b (i : Int) ∧ rd b (i : Int) ≤ 255
  p0 : 0 ≤ p
  p1 : p ≤ (b.length : Int)

theorem rdNext {b : List Int} {p : Int} (h : RdOk b p) : ∃ v p', spec_l1Rd_next.f b p = some (v, p') ∧ 0 ≤ v ∧ v ≤ 255 ∧ RdOk b p' := by
  unfold spec_l1Rd_next.f
  have hl := h.len
  have h0 := h.p0
  have h1 := h.p1
  by_cases hp : p ≥ (b.length : Int)
  · rw [if_pos hp]
    exact ⟨0, p, rfl, by omega, by omega, h⟩
  · rw [if_neg hp, w64 (n := p + 1) (by omega) (by omega), w64 (n := p + 1 - 1) (by omega) (by omega), show p + 1 - 1 = p by omega, if_pos (by omega), if_pos (by omega)]
    have hb := h.byte p.toNat (by omega)
    rw [show (p.toNat : Int) = p by omega] at hb
    rw [w64 (n := rd b p) (by omega) (by omega)]
    exact ⟨_, _, rfl, hb.1, hb.2, ⟨h.len, h.byte, by omega, by omega⟩⟩

theorem tmod_bd {v n : Int} (hv : 0 ≤ v) (hn : 0 < n) : 0 ≤ Int.tmod v n ∧ Int.tmod v n < n := by
  rw [Int.tmod_eq_emod_of_nonneg hv]
  exact ⟨Int.emod_nonneg v (by omega), Int.emod_lt_of_pos v hn⟩

theorem rdBelow {b : List Int} {p : Int} (h : RdOk b p) (n : Int) (hn : 1 ≤ n) : ∃ v p', spec_l1Rd_below.f b p n = some (v, p') ∧ 0 ≤ v ∧ v < n ∧ RdOk b p' := by
  unfold spec_l1Rd_below.f
  by_cases h1 : n ≤ 1
  · rw [if_pos h1]
    exact ⟨0, p, rfl, by omega, by omega, h⟩
  rw [if_neg h1]
  obtain ⟨v, p', e, v0, v1, hr⟩ := rdNext h
  by_cases h2 : n ≤ 256
  · rw [if_pos h2, e]
    simp only [Option.bind_some]
    rw [if_neg (by omega)]
    have := tmod_bd v0 (show 0 < n by omega)
    exact ⟨_, _, rfl, this.1, this.2, hr⟩
  · rw [if_neg h2, e]
    simp only [Option.bind_some]
    obtain ⟨u, p'', e2, u0, u1, hr2⟩ := rdNext hr
    rw [e2]
    simp only [Option.bind_some]
    rw [if_neg (by omega), w64 (n := v * 256) (by omega) (by omega), w64 (n := v * 256 + u) (by omega) (by omega)]
    have := tmod_bd (show 0 ≤ v * 256 + u by omega) (show 0 < n by omega)
    exact ⟨_, _, rfl, this.1, this.2, hr2⟩

theorem rdOnce {b : List Int} {p : Int} (h : RdOk b p) (n : Int) (hn : 1 ≤ n) : ∃ v p', spec_l1Rd_once.f b p n = some (v, p') ∧ RdOk b p' := by
  unfold spec_l1Rd_once.f
  obtain ⟨v, p', e, _, _, hr⟩ := rdBelow h n hn
  rw [e]
  exact ⟨_, _, rfl, hr⟩

end Go.Proofs.YtllkijlmjapleaaDoor.QFnPhrases
