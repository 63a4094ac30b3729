/- Plain lemmas on rounds, lists and whole numbers of 64 bits, used by the plain proofs of this claim. No condition. -/
import Derived.Test.YtefagcpmadpefaaOpens
set_option linter.unusedVariables false
set_option linter.unusedSimpArgs false
namespace Go.Proofs.Ytefagcpmadpefaa.Pl
open Go.RowKit Go.Proofs.YtefagcpmadpefaaW.PrintWords Go.Proofs.Ytefagcpmadpefaa.Opn

theorem w64 {n : Int} (h : -9223372036854775808 ≤ n) (h2 : n ≤ 9223372036854775807) : wrap64 n = n := by unfold wrap64; omega
theorem w64_range (n : Int) : -9223372036854775808 ≤ wrap64 n ∧ wrap64 n ≤ 9223372036854775807 := by unfold wrap64; omega
theorem wfI_range {n : Int} (h : WfI .i64 n) : -9223372036854775808 ≤ n ∧ n ≤ 9223372036854775807 := by
  unfold WfI at h
  simp only [Lit.wf, IntKind.min, IntKind.max, Bool.and_eq_true] at h
  simp [IntKind.bits, IntKind.signed] at h
  omega
theorem wfI_mk {n : Int} (h : -9223372036854775808 ≤ n ∧ n ≤ 9223372036854775807) : WfI .i64 n := by
  unfold WfI
  simp only [Lit.wf, IntKind.min, IntKind.max, Bool.and_eq_true]
  simp [IntKind.bits, IntKind.signed]
  omega
theorem wfU8_range {n : Int} (h : WfI .u8 n) : 0 ≤ n ∧ n ≤ 255 := by
  unfold WfI at h
  simp only [Lit.wf, IntKind.min, IntKind.max, Bool.and_eq_true] at h
  simp [IntKind.bits, IntKind.signed] at h
  omega
theorem wfL_get {α : Type} {wf : α → Prop} {l : List α} (h : WfL wf l) (i : Nat) (hi : i < l.length) : wf l[i] := h.2 _ (List.getElem_mem _)

theorem rd_lt (l : List Int) (i : Nat) (h : i < l.length) : rd l (i : Int) = l[i] := by
  simp [rd, List.getD_eq_getElem?_getD, List.getElem?_eq_getElem h]
theorem rd_ge (l : List Int) (i : Nat) (h : l.length ≤ i) : rd l (i : Int) = 0 := by
  simp [rd, List.getD_eq_getElem?_getD, List.getElem?_eq_none h]
theorem getD_lt {α : Type} (l : List α) (d : α) (i : Nat) (h : i < l.length) : l.getD (i : Int).toNat d = l[i] := by
  simp [List.getD_eq_getElem?_getD, List.getElem?_eq_getElem h]

/-- A loop that counts up: told from its end. -/
theorem Ev_up {ρ : Type} (g : Nat → Nat → Option ρ) (r : Nat → ρ) (n : Nat) (hend : Ev (fun k => g k n) (r n)) (hstep : ∀ i, i < n → Ev (fun k => g k (i + 1)) (r (i + 1)) → Ev (fun k => g k i) (r i)) :
    ∀ i, i ≤ n → Ev (fun k => g k i) (r i) := by
  have key : ∀ d i, i + d = n → Ev (fun k => g k i) (r i) := by
    intro d
    induction d with
    | zero => intro i hi; rw [show i = n by omega]; exact hend
    | succ d ih => intro i hi; exact hstep i (by omega) (ih (i + 1) (by omega))
  intro i hi
  exact key (n - i) i (by omega)
theorem Ev_bind {α β : Type} {g : Nat → Option α} {f : Nat → α → Option β} (a : α) {r : β} (h : Ev g a) (k : Ev (fun n => f n a) r) : Ev (fun n => (g n).bind (f n)) r := Ev.bind h k
theorem Ev_const {α : Type} {o : Option α} {r : α} (h : o = some r) : Ev (fun _ => o) r := ⟨0, fun _ _ => h⟩

/-- A sum that wraps at each step. -/
def accW (s : Int) (f : Nat → Int) : Nat → Int
  | 0 => s
  | i + 1 => wrap64 (accW s f i + f i)
theorem accW_congr (s : Int) {f g : Nat → Int} : ∀ n, (∀ i, i < n → f i = g i) → accW s f n = accW s g n := by
  intro n
  induction n with
  | zero => exact fun _ => rfl
  | succ n ih => intro h; simp only [accW]; rw [ih (fun i hi => h i (by omega)), h n (by omega)]
theorem mem_range_get {α : Type} (l : List α) (p : α → Bool) (i : Nat) (h : i < l.length) : (l.drop i).all p = (p l[i] && (l.drop (i + 1)).all p) := by
  rw [List.drop_eq_getElem_cons h, List.all_cons]
theorem set_take_drop {α : Type} (l m : List α) (i : Nat) (hi : i < m.length) (hl : l.length = m.length) : ((m.take i ++ l.drop i).set i m[i]) = m.take (i + 1) ++ l.drop (i + 1) := by
  rw [List.set_append]
  have h1 : (m.take i).length = i := by rw [List.length_take]; omega
  rw [if_neg (by omega), h1, Nat.sub_self, List.take_succ_eq_append_getElem hi, List.append_assoc]
  congr 1
  rw [List.drop_eq_getElem_cons (by omega : i < l.length)]
  rfl
end Go.Proofs.Ytefagcpmadpefaa.Pl
