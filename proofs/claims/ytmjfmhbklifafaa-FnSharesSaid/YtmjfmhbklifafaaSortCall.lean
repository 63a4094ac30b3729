/- The library's sort, called with a row of the call's own. -/
import Derived.Test.YtmjfmhbklifafaaSortPlain
import Derived.Test.YtmjfmhbklifafaaSortLib
set_option linter.unusedVariables false
set_option linter.unusedSimpArgs false
namespace Go.Proofs.Ytmjfmhbklifafaa.Srt
open Go Go.RowKit Go.Proofs.YtmjfmhbklifafaaW.PrintWords

theorem sort_calls {w0 w : World} {base : Nat} {ok : Nat → Prop} {A : Option Addr} {c : Nat} {l : List Int} (h : Aside0 ((Kd.int .i64).R 2 w base ok (.slice A l.length c) l)) (hB : Aside0 (Below w0.heap.size w0 w)) (hb : w0.heap.size ≤ base) (hl : l.length < 4611686018427387904) :
    Calls Try.prog 48 #[.slice A l.length c] w fun e w' => e = .returned (.tuple #[]) ∧ (Kd.int .i64).R 2 w' base ok (.slice A (ordI l).length c) (ordI l) ∧ Below w0.heap.size w0 w' := by
  cases A with
  | none =>
    have hl0 : l = [] := by
      rcases Nat.eq_zero_or_pos l.length with h1 | h1
      · exact List.eq_nil_of_length_eq_zero h1
      · obtain ⟨_, inner, ⟨_, ho⟩, _⟩ := h.out
        rcases ho with ⟨_, e⟩ | ⟨g, cap, cur, e, _⟩
        · omega
        · cases e
    subst hl0
    refine (Try.slices_Sort_none none c w).mono fun e w' ⟨h1, h2⟩ => ?_
    subst h2
    have ho : ordI [] = [] := List.eq_nil_of_length_eq_zero (ordI_len [])
    rw [ho]
    exact ⟨h1, h.out, hB.out⟩
  | some a =>
    obtain ⟨g, n, q⟩ := a
    obtain ⟨rfl, rfl, _, _, cur, hg, _⟩ := own_int h.out
    refine (Try.slices_Sort g 0 c l w (holds_int h.out) (blk_lt hg) hl).mono fun e w' ⟨h1, m, os, h2⟩ => ?_
    subst h2
    have := sorted_row h.out hB.out hb m os
    exact ⟨h1, this.1, this.2⟩

end Go.Proofs.Ytmjfmhbklifafaa.Srt
