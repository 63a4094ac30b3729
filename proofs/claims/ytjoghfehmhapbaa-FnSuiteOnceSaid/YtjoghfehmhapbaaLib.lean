/- Plain lemmas on rounds, lists and whole numbers of 64 bits, used by the plain proofs of this claim. No condition. -/
import Derived.Test.YtjoghfehmhapbaaOpens
set_option linter.unusedVariables false
set_option linter.unusedSimpArgs false
namespace Go.Proofs.Ytjoghfehmhapbaa.Pl
open Go.RowKit Go.Proofs.YtjoghfehmhapbaaW.PrintWords Go.Proofs.Ytjoghfehmhapbaa.Opn

theorem w64 {n : Int} (h : -9223372036854775808 ≤ n) (h2 : n ≤ 9223372036854775807) : wrap64 n = n := by unfold wrap64; omega
theorem wfU8_range {n : Int} (h : WfI .u8 n) : 0 ≤ n ∧ n ≤ 255 := by
  unfold WfI at h
  simp only [Lit.wf, IntKind.min, IntKind.max, Bool.and_eq_true] at h
  simp [IntKind.bits, IntKind.signed] at h
  omega
theorem rd_lt (l : List Int) (i : Nat) (h : i < l.length) : rd l (i : Int) = l[i] := by
  simp [rd, List.getD_eq_getElem?_getD, List.getElem?_eq_getElem h]
theorem getD_lt {α : Type} (l : List α) (d : α) (i : Nat) (h : i < l.length) : l.getD (i : Int).toNat d = l[i] := by
  simp [List.getD_eq_getElem?_getD, List.getElem?_eq_getElem h]

theorem Ev_up {ρ : Type} (g : Nat → Nat → Option ρ) (r : Nat → ρ) (n : Nat) (hend : Ev (fun k => g k n) (r n)) (hstep : ∀ i, i < n → Ev (fun k => g k (i + 1)) (r (i + 1)) → Ev (fun k => g k i) (r i)) :
    ∀ i, i ≤ n → Ev (fun k => g k i) (r i) := by
  have key : ∀ d i, i + d = n → Ev (fun k => g k i) (r i) := by
    intro d
    induction d with
    | zero => intro i hi; rw [show i = n by omega]; exact hend
    | succ d ih => intro i hi; exact hstep i (by omega) (ih (i + 1) (by omega))
  intro i hi
  exact key (n - i) i (by omega)
theorem Ev_bind {α β : Type} {g : Nat → Option α} {f : Nat → α → Option β} (a : α) {r : β} (h : Ev g a) (k : Ev (fun n => f n a) r) : Ev (fun n => (g n).bind (f n)) r := Ev.bind h k
theorem set_take_drop {α : Type} (l m : List α) (i : Nat) (hi : i < m.length) (hl : l.length = m.length) : ((m.take i ++ l.drop i).set i m[i]) = m.take (i + 1) ++ l.drop (i + 1) := by
  rw [List.set_append]
  have h1 : (m.take i).length = i := by rw [List.length_take]; omega
  rw [if_neg (by omega), h1, Nat.sub_self, List.take_succ_eq_append_getElem hi, List.append_assoc]
  congr 1
  rw [List.drop_eq_getElem_cons (by omega : i < l.length)]
  rfl
end Go.Proofs.Ytjoghfehmhapbaa.Pl
