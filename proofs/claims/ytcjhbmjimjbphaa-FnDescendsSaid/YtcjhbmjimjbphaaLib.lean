/- Plain lemmas on rounds, lists and whole numbers of 64 bits, used by the plain proofs of this claim. No condition. -/
import Derived.Test.YtcjhbmjimjbphaaOpens
set_option linter.unusedVariables false
set_option linter.unusedSimpArgs false
namespace Go.Proofs.Ytcjhbmjimjbphaa.Pl
open Go.RowKit Go.Proofs.YtcjhbmjimjbphaaW.PrintWords Go.Proofs.Ytcjhbmjimjbphaa.Opn

theorem w64 {n : Int} (h : -9223372036854775808 ≤ n) (h2 : n ≤ 9223372036854775807) : wrap64 n = n := by unfold wrap64; omega
theorem wfI_mk {n : Int} (h : -9223372036854775808 ≤ n ∧ n ≤ 9223372036854775807) : WfI .i64 n := by
  unfold WfI
  simp only [Lit.wf, IntKind.min, IntKind.max, Bool.and_eq_true]
  simp [IntKind.bits, IntKind.signed]
  omega
theorem wfU8_range {n : Int} (h : WfI .u8 n) : 0 ≤ n ∧ n ≤ 255 := by
  unfold WfI at h
  simp only [Lit.wf, IntKind.min, IntKind.max, Bool.and_eq_true] at h
  simp [IntKind.bits, IntKind.signed] at h
  omega
theorem wfL_get {α : Type} {wf : α → Prop} {l : List α} (h : WfL wf l) (i : Nat) (hi : i < l.length) : wf l[i] := h.2 _ (List.getElem_mem _)

theorem rd_lt (l : List Int) (i : Nat) (h : i < l.length) : rd l (i : Int) = l[i] := by
  simp [rd, List.getD_eq_getElem?_getD, List.getElem?_eq_getElem h]
theorem getD_lt {α : Type} (l : List α) (d : α) (i : Nat) (h : i < l.length) : l.getD (i : Int).toNat d = l[i] := by
  simp [List.getD_eq_getElem?_getD, List.getElem?_eq_getElem h]

theorem Ev_up {ρ : Type} (g : Nat → Nat → Option ρ) (r : Nat → ρ) (n : Nat) (hend : Ev (fun k => g k n) (r n)) (hstep : ∀ i, i < n → Ev (fun k => g k (i + 1)) (r (i + 1)) → Ev (fun k => g k i) (r i)) :
    ∀ i, i ≤ n → Ev (fun k => g k i) (r i) := by
  have key : ∀ d i, i + d = n → Ev (fun k => g k i) (r i) := by
    intro d
    induction d with
    | zero => intro i hi; rw [show i = n by omega]; exact hend
    | succ d ih => intro i hi; exact hstep i (by omega) (ih (i + 1) (by omega))
  intro i hi
  exact key (n - i) i (by omega)
theorem Ev_bind {α β : Type} {g : Nat → Option α} {f : Nat → α → Option β} (a : α) {r : β} (h : Ev g a) (k : Ev (fun n => f n a) r) : Ev (fun n => (g n).bind (f n)) r := Ev.bind h k
def accW (s : Int) (f : Nat → Int) : Nat → Int
  | 0 => s
  | i + 1 => wrap64 (accW s f i + f i)
theorem accW_congr (s : Int) {f g : Nat → Int} : ∀ n, (∀ i, i < n → f i = g i) → accW s f n = accW s g n := by
  intro n
  induction n with
  | zero => exact fun _ => rfl
  | succ n ih => intro h; simp only [accW]; rw [ih (fun i hi => h i (by omega)), h n (by omega)]
theorem mem_range_get {α : Type} (l : List α) (p : α → Bool) (i : Nat) (h : i < l.length) : (l.drop i).all p = (p l[i] && (l.drop (i + 1)).all p) := by
  rw [List.drop_eq_getElem_cons h, List.all_cons]
end Go.Proofs.Ytcjhbmjimjbphaa.Pl
