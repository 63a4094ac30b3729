/- FnExactStuck, plainly: both ways tell the same stuck tasks; marks and comparisons answer as they should. No condition. -/
import Derived.Test.YtjoghfehmhapbaaRunLibFnExactStuck
import Derived.Test.YtjoghfehmhapbaaStatFnExactStuck
set_option linter.unusedVariables false
set_option linter.unusedSimpArgs false
namespace Go.Proofs.Ytjoghfehmhapbaa.QFnExactStuck
open Go.RowKit Go.Proofs.YtjoghfehmhapbaaW.PrintWords Go.Proofs.YtjoghfehmhapbaaW.PrintMore Go.Proofs.Ytjoghfehmhapbaa.Opn Go.Proofs.Ytjoghfehmhapbaa.Pl

theorem Ev_eq {α : Type} {f g : Nat → Option α} {r : α} (e : g = f) (h : Ev f r) : Ev g r := e ▸ h
/-! ### which tasks are stuck -/
def anyIn (out a : List Int) (j : Nat) : Prop := ∃ q : Nat, j ≤ q ∧ q < a.length ∧ rd a (q : Int) ∈ out
def stuckAt (l0 : List S39) (l3 : List S43) (out : List Int) (i : Nat) : Prop := (rd_T43 l3 (i : Int)).f0 = 3 ∨ anyIn out (rd_T39 l0 (i : Int)).f0 0
noncomputable def stuckL (l0 : List S39) (l3 : List S43) : Nat → List Int
  | 0 => []
  | i + 1 => stuckL l0 l3 i ++ (if dec_ (stuckAt l0 l3 (stuckL l0 l3 i) i) = true then [(i : Int) + 1] else [])
theorem stuck_len (l0 : List S39) (l3 : List S43) : ∀ i, (stuckL l0 l3 i).length ≤ i := by
  intro i
  induction i with
  | zero => exact Nat.le_refl _
  | succ i ih =>
    simp only [stuckL, List.length_append]
    split <;> simp <;> omega
theorem stuck_mem (l0 : List S39) (l3 : List S43) : ∀ (i : Nat) (a : Int), a ∈ stuckL l0 l3 i → 1 ≤ a ∧ a ≤ (i : Int) := by
  intro i
  induction i with
  | zero => intro a h; simp [stuckL] at h
  | succ i ih =>
    intro a h
    simp only [stuckL, List.mem_append] at h
    rcases h with h | h
    · have := ih a h; omega
    · split at h
      · simp at h; omega
      · simp at h
/-! ### the reference's search -/
def inFrom (out : List Int) (m : Nat) (v : Int) : Prop := ∃ m' : Nat, m ≤ m' ∧ m' < out.length ∧ rd out (m' : Int) = v
theorem inFrom_mem (out : List Int) (v : Int) : inFrom out 0 v ↔ v ∈ out := by
  constructor
  · rintro ⟨m, _, hm, e⟩
    rw [rd_lt out m hm] at e
    exact e ▸ List.getElem_mem hm
  · intro h
    obtain ⟨m, hm, e⟩ := List.getElem_of_mem h
    exact ⟨m, Nat.zero_le _, hm, by rw [rd_lt out m hm]; exact e⟩
theorem spec_l2_ev (l0 : List S39) (l1 : List Int) (n : Int) (l3 : List S43) (out a : List Int) (i : Int) (q : Nat) (hq : q < a.length) (ho : out.length ≤ 1048576) (ha : a.length ≤ 1048576) (R : List Int) : ∀ (d m : Nat) (b : Bool), m + d = out.length →
    Ev (fun k => spec_Stuck.l1 k out i (b || dec_ (inFrom out m (rd a (q : Int)))) a ((q + 1 : Nat) : Int) l0 l1 n l3) R → Ev (fun k => spec_Stuck.l2 k out i b a (q : Int) (m : Int) l0 l1 n l3) R := by
  intro d
  induction d with
  | zero =>
    intro m b hm h
    have e : dec_ (inFrom out m (rd a (q : Int))) = false := dec_false (by rintro ⟨m', h1, h2, _⟩; omega)
    rw [e, Bool.or_false] at h
    refine Ev.step (fun k => ?_) h
    simp only [spec_Stuck.l2]
    rw [if_neg (by omega), w64 (n := (q : Int) + 1) (by omega) (by omega)]
    rfl
  | succ d ih =>
    intro m b hm h
    have ew : wrap64 ((m : Int) + 1) = ((m + 1 : Nat) : Int) := by rw [w64 (by omega) (by omega)]; rfl
    cases b with
    | true =>
      rw [Bool.true_or] at h
      refine Ev.step (fun k => ?_) (ih (m + 1) true (by omega) (by rw [Bool.true_or]; exact h))
      simp only [spec_Stuck.l2, ew]
      rw [if_pos (by omega)]
      simp only [if_true]
    | false =>
      rw [Bool.false_or] at h
      have e : ((rd out (m : Int) == rd a (q : Int)) || dec_ (inFrom out (m + 1) (rd a (q : Int)))) = dec_ (inFrom out m (rd a (q : Int))) := by
        by_cases c : rd out (m : Int) = rd a (q : Int)
        · rw [show (rd out (m : Int) == rd a (q : Int)) = true from beq_iff_eq.mpr c, Bool.true_or, dec_true (p := inFrom out m (rd a (q : Int))) ⟨m, Nat.le_refl _, by omega, c⟩]
        · rw [show (rd out (m : Int) == rd a (q : Int)) = false from beq_eq_false_iff_ne.mpr c, Bool.false_or]
          refine dec_iff ⟨fun ⟨m', h1, h2, h3⟩ => ⟨m', by omega, h2, h3⟩, fun ⟨m', h1, h2, h3⟩ => ⟨m', ?_, h2, h3⟩⟩
          by_cases c2 : m' = m
          · subst c2; exact absurd h3 c
          · omega
      refine Ev.step (fun k => ?_) (ih (m + 1) (rd out (m : Int) == rd a (q : Int)) (by omega) (by rw [e]; exact h))
      simp only [spec_Stuck.l2, ew]
      rw [if_pos (by omega)]
      simp only [Bool.false_eq_true, if_false]
      rw [if_pos (by omega), if_pos (by omega), if_pos (by omega)]
theorem spec_l1_ev (l0 : List S39) (l1 : List Int) (n : Int) (l3 : List S43) (out a : List Int) (i : Nat) (hi : i ≤ 1048576) (ho : out.length ≤ 1048576) (ha : a.length ≤ 1048576) (R : List Int) : ∀ (d q : Nat) (b : Bool), q + d = a.length →
    Ev (fun k => spec_Stuck.l0 k (if (b || dec_ (anyIn out a q)) = true then out ++ [(i : Int) + 1] else out) ((i + 1 : Nat) : Int) l0 l1 n l3) R → Ev (fun k => spec_Stuck.l1 k out (i : Int) b a (q : Int) l0 l1 n l3) R := by
  have ew : wrap64 ((i : Int) + 1) = (i : Int) + 1 := w64 (by omega) (by omega)
  intro d
  induction d with
  | zero =>
    intro q b hq h
    have e : dec_ (anyIn out a q) = false := dec_false (by rintro ⟨q', h1, h2, _⟩; omega)
    rw [e, Bool.or_false] at h
    refine Ev.step (fun k => ?_) h
    simp only [spec_Stuck.l1, ew]
    rw [if_neg (by omega)]
    cases b with
    | true => simp only [if_true]; rw [if_pos (by omega)]; rfl
    | false => simp only [Bool.false_eq_true, if_false]; rfl
  | succ d ih =>
    intro q b hq h
    have e : ((b || dec_ (inFrom out 0 (rd a (q : Int)))) || dec_ (anyIn out a (q + 1))) = (b || dec_ (anyIn out a q)) := by
      rw [Bool.or_assoc]
      refine congrArg (b || ·) ?_
      by_cases c : rd a (q : Int) ∈ out
      · rw [dec_true ((inFrom_mem out _).mpr c), Bool.true_or, dec_true (p := anyIn out a q) ⟨q, Nat.le_refl _, by omega, c⟩]
      · rw [dec_false (fun x => c ((inFrom_mem out _).mp x)), Bool.false_or]
        refine dec_iff ⟨fun ⟨q', h1, h2, h3⟩ => ⟨q', by omega, h2, h3⟩, fun ⟨q', h1, h2, h3⟩ => ⟨q', ?_, h2, h3⟩⟩
        by_cases c2 : q' = q
        · subst c2; exact absurd h3 c
        · omega
    have key := ih (q + 1) (b || dec_ (inFrom out 0 (rd a (q : Int)))) (by omega) (by rw [e]; exact h)
    refine Ev.step (fun k => ?_) (spec_l2_ev l0 l1 n l3 out a (i : Int) q (by omega) ho ha R out.length 0 b (by omega) key)
    simp only [spec_Stuck.l1]
    rw [if_pos (by omega)]
    rfl
theorem spec_l0_ev (l0 : List S39) (l1 : List Int) (n : Int) (l3 : List S43) (hF : FitsR l0 l1 l3) (hl : l3.length = l0.length) : ∀ (d i : Nat), i + d = l3.length → Ev (fun k => spec_Stuck.l0 k (stuckL l0 l3 i) (i : Int) l0 l1 n l3) (stuckL l0 l3 l3.length) := by
  have hn3 := hF.n3
  intro d
  induction d with
  | zero =>
    intro i hi
    have hi' : i = l3.length := by omega
    subst hi'
    refine Ev.step (f := fun _ => some (stuckL l0 l3 l3.length)) (fun k => ?_) (Ev.now _)
    simp only [spec_Stuck.l0]
    rw [if_neg (by omega)]
  | succ d ih =>
    intro i hi
    have hsl := stuck_len l0 l3 i
    have ha := hF.s.n1 i (by omega)
    have key := ih (i + 1) (by omega)
    refine Ev.step (fun k => ?_) (spec_l1_ev l0 l1 n l3 (stuckL l0 l3 i) (rd_T39 l0 (i : Int)).f0 i (by omega) (by omega) ha _ (rd_T39 l0 (i : Int)).f0.length 0 ((rd_T43 l3 (i : Int)).f0 == 3) (by omega) (Ev_eq ?_ key))
    · simp only [spec_Stuck.l0]
      rw [if_pos (by omega), if_pos (by omega), if_pos (by omega)]
      rfl
    · funext k
      have e : (((rd_T43 l3 (i : Int)).f0 == 3) || dec_ (anyIn (stuckL l0 l3 i) (rd_T39 l0 (i : Int)).f0 0)) = dec_ (stuckAt l0 l3 (stuckL l0 l3 i) i) := by
        by_cases c : (rd_T43 l3 (i : Int)).f0 = 3
        · rw [show ((rd_T43 l3 (i : Int)).f0 == 3) = true from beq_iff_eq.mpr c, Bool.true_or, dec_true (p := stuckAt l0 l3 (stuckL l0 l3 i) i) (.inl c)]
        · rw [show ((rd_T43 l3 (i : Int)).f0 == 3) = false from beq_eq_false_iff_ne.mpr c, Bool.false_or]
          exact dec_iff ⟨fun h => .inr h, fun h => h.resolve_left c⟩
      rw [e]
      simp only [stuckL]
      by_cases c : dec_ (stuckAt l0 l3 (stuckL l0 l3 i) i) = true
      · rw [if_pos c, if_pos c]
      · rw [if_neg c, if_neg c, List.append_nil]
/-! ### the program's table -/
def tabOk (l0 : List S39) (l3 : List S43) (t : List Bool) (i : Nat) : Prop := t.length = l3.length ∧ ∀ q : Nat, q < l3.length → (rdOf false t (q : Int) = true ↔ (q : Int) + 1 ∈ stuckL l0 l3 i)
theorem rdOf_set (t : List Bool) (i q : Nat) (b : Bool) (hi : i < t.length) : rdOf false (t.set i b) (q : Int) = if q = i then b else rdOf false t (q : Int) := by
  unfold rdOf
  rw [Int.toNat_natCast, List.getD_eq_getElem?_getD, List.getD_eq_getElem?_getD]
  by_cases c : q = i
  · subst c; rw [if_pos rfl, List.getElem?_set_self hi]; rfl
  · rw [if_neg c, List.getElem?_set_ne (fun x => c x.symm)]
theorem tab_start (l0 : List S39) (l3 : List S43) : tabOk l0 l3 (List.replicate l3.length false) 0 := by
  refine ⟨List.length_replicate, fun q hq => ?_⟩
  unfold rdOf
  rw [Int.toNat_natCast, List.getD_eq_getElem?_getD, List.getElem?_replicate]
  simp [stuckL]
  split <;> simp
theorem tab_step {l0 : List S39} {l3 : List S43} {t : List Bool} {i : Nat} (h : tabOk l0 l3 t i) (hi : i < l3.length) : tabOk l0 l3 (t.set i (dec_ (stuckAt l0 l3 (stuckL l0 l3 i) i))) (i + 1) := by
  refine ⟨by rw [List.length_set]; exact h.1, fun q hq => ?_⟩
  rw [rdOf_set t i q _ (by rw [h.1]; exact hi)]
  simp only [stuckL, List.mem_append]
  by_cases c : q = i
  · subst c
    rw [if_pos rfl]
    by_cases c2 : dec_ (stuckAt l0 l3 (stuckL l0 l3 q) q) = true
    · rw [if_pos c2]; simp [c2]
    · rw [if_neg c2]
      constructor
      · intro x; exact absurd x c2
      · rintro (x | x)
        · have := stuck_mem l0 l3 q _ x; omega
        · simp at x
  · rw [if_neg c, h.2 q hq]
    constructor
    · exact .inl
    · rintro (x | x)
      · exact x
      · split at x
        · simp at x; omega
        · simp at x
theorem implIdx_ev (t : List Bool) (a : List Int) (ha : a.length ≤ 1048576) (ht : t.length ≤ 1048576) (hb : ∀ q : Nat, q < a.length → 1 ≤ rd a (q : Int) ∧ rd a (q : Int) ≤ (t.length : Int)) : ∀ (d j : Nat), j + d = a.length → ∃ v, Ev (fun k => slices_IndexFunc_int64_int64.l0 k a t (a.length : Int) (j : Int)) v ∧ decide (v ≥ 0) = dec_ (∃ q : Nat, j ≤ q ∧ q < a.length ∧ rdOf false t (rd a (q : Int) - 1) = true) := by
  intro d
  induction d with
  | zero =>
    intro j hj
    refine ⟨-1, Ev.step (f := fun _ => some (-1)) (fun k => ?_) (Ev.now _), ?_⟩
    · simp only [slices_IndexFunc_int64_int64.l0]
      rw [if_neg (by omega)]
    · rw [dec_false (by rintro ⟨q, h1, h2, _⟩; omega)]; rfl
  | succ d ih =>
    intro j hj
    have hbj := hb j (by omega)
    have ew : wrap64 (rd a (j : Int) - 1) = rd a (j : Int) - 1 := w64 (by omega) (by omega)
    have ew2 : wrap64 ((j : Int) + 1) = ((j + 1 : Nat) : Int) := by rw [w64 (by omega) (by omega)]; rfl
    by_cases c : rdOf false t (rd a (j : Int) - 1) = true
    · refine ⟨(j : Int), Ev.step (f := fun _ => some (j : Int)) (fun k => ?_) (Ev.now _), ?_⟩
      · simp only [slices_IndexFunc_int64_int64.l0, ew]
        rw [if_pos (by omega), if_pos (by omega), if_pos (by omega), if_pos (by omega), if_pos (by omega), if_pos c]
      · rw [dec_true ⟨j, Nat.le_refl _, by omega, c⟩, decide_eq_true (by omega)]
    · obtain ⟨v, e, hv⟩ := ih (j + 1) (by omega)
      refine ⟨v, Ev.step (fun k => ?_) e, ?_⟩
      · simp only [slices_IndexFunc_int64_int64.l0, ew, ew2]
        rw [if_pos (by omega), if_pos (by omega), if_pos (by omega), if_pos (by omega), if_pos (by omega), if_neg c]
      · rw [hv]
        refine dec_iff ⟨fun ⟨q, h1, h2, h3⟩ => ⟨q, by omega, h2, h3⟩, fun ⟨q, h1, h2, h3⟩ => ⟨q, ?_, h2, h3⟩⟩
        by_cases c2 : q = j
        · subst c2; exact absurd h3 c
        · omega
theorem implHas_ev {l0 : List S39} {l1 : List Int} {l3 : List S43} {t : List Bool} {i : Nat} (hF : FitsR l0 l1 l3) (hs : suiteOk l0 l1) (hl : l3.length = l0.length) (hi : i < l3.length) (h : tabOk l0 l3 t i) : Ev (fun k => slices_ContainsFunc_int64_int64.f k (rd_T39 l0 (i : Int)).f0 t) (dec_ (anyIn (stuckL l0 l3 i) (rd_T39 l0 (i : Int)).f0 0)) := by
  have hb := after_bd hs hl i hi
  have hn3 := hF.n3
  unfold slices_ContainsFunc_int64_int64.f slices_IndexFunc_int64_int64.f
  obtain ⟨v, e, hv⟩ := implIdx_ev t (rd_T39 l0 (i : Int)).f0 (hF.s.n1 i (by omega)) (by rw [h.1]; exact hn3) (by rw [h.1]; exact hb) (rd_T39 l0 (i : Int)).f0.length 0 (by omega)
  refine Ev_bind _ e ?_
  rw [hv, dec_iff (q := anyIn (stuckL l0 l3 i) (rd_T39 l0 (i : Int)).f0 0)]
  · exact Ev.now _
  · have key : ∀ q : Nat, q < (rd_T39 l0 (i : Int)).f0.length → (rdOf false t (rd (rd_T39 l0 (i : Int)).f0 (q : Int) - 1) = true ↔ rd (rd_T39 l0 (i : Int)).f0 (q : Int) ∈ stuckL l0 l3 i) := by
      intro q hq
      have hbq := hb q hq
      have := h.2 (rd (rd_T39 l0 (i : Int)).f0 (q : Int) - 1).toNat (by omega)
      rw [show (((rd (rd_T39 l0 (i : Int)).f0 (q : Int) - 1).toNat : Nat) : Int) = rd (rd_T39 l0 (i : Int)).f0 (q : Int) - 1 by omega, show rd (rd_T39 l0 (i : Int)).f0 (q : Int) - 1 + 1 = rd (rd_T39 l0 (i : Int)).f0 (q : Int) by omega] at this
      exact this
    exact ⟨fun ⟨q, h1, h2, h3⟩ => ⟨q, h1, h2, (key q h2).mp h3⟩, fun ⟨q, h1, h2, h3⟩ => ⟨q, h1, h2, (key q h2).mpr h3⟩⟩
theorem impl_l0_ev (l0 : List S39) (l1 : List Int) (n : Int) (l3 : List S43) (hF : FitsR l0 l1 l3) (hs : suiteOk l0 l1) (hl : l3.length = l0.length) : ∀ (d i : Nat) (t : List Bool), i + d = l3.length → tabOk l0 l3 t i → Ev (fun k => impl_Stuck.l0 k t (stuckL l0 l3 i) l0 (l0.length : Int) (i : Int) l0 l1 n l3) (stuckL l0 l3 l3.length) := by
  have hn3 := hF.n3
  intro d
  induction d with
  | zero =>
    intro i t hi ht
    have hi' : i = l3.length := by omega
    subst hi'
    refine Ev.step (f := fun _ => some (stuckL l0 l3 l3.length)) (fun k => ?_) (Ev.now _)
    simp only [impl_Stuck.l0]
    rw [if_neg (by omega)]
  | succ d ih =>
    intro i t hi ht
    have hil : i < l3.length := by omega
    have hsl := stuck_len l0 l3 i
    have htl := ht.1
    have ew : wrap64 ((i : Int) + 1) = ((i + 1 : Nat) : Int) := by rw [w64 (by omega) (by omega)]; rfl
    have key := ih (i + 1) _ (by omega) (tab_step ht hil)
    by_cases c : (rd_T43 l3 (i : Int)).f0 = 3
    · rw [dec_true (p := stuckAt l0 l3 (stuckL l0 l3 i) i) (.inl c)] at key
      have e2 : stuckL l0 l3 (i + 1) = stuckL l0 l3 i ++ [((i + 1 : Nat) : Int)] := by simp only [stuckL]; rw [if_pos (dec_true (p := stuckAt l0 l3 (stuckL l0 l3 i) i) (.inl c))]; rfl
      rw [e2] at key
      refine Ev.step (fun k => ?_) key
      simp only [impl_Stuck.l0, ew, Int.toNat_natCast, Option.bind_some, if_true]
      rw [if_pos (by omega), if_pos (by omega), if_pos (by omega), if_pos (by omega), if_pos c, if_pos (by omega), if_pos (by omega)]
    · have eh := implHas_ev hF hs hl hil ht
      rw [show dec_ (anyIn (stuckL l0 l3 i) (rd_T39 l0 (i : Int)).f0 0) = dec_ (stuckAt l0 l3 (stuckL l0 l3 i) i) from dec_iff ⟨fun x => .inr x, fun x => x.resolve_left c⟩] at eh
      refine Ev.step (f := fun k => (slices_ContainsFunc_int64_int64.f k (rd_T39 l0 (i : Int)).f0 t).bind fun b => if b = true then impl_Stuck.l0 k (t.set i b) (stuckL l0 l3 i ++ [((i + 1 : Nat) : Int)]) l0 (l0.length : Int) ((i + 1 : Nat) : Int) l0 l1 n l3 else impl_Stuck.l0 k (t.set i b) (stuckL l0 l3 i) l0 (l0.length : Int) ((i + 1 : Nat) : Int) l0 l1 n l3) (fun k => ?_) (Ev_bind _ eh ?_)
      · simp only [impl_Stuck.l0, ew, Int.toNat_natCast, Option.bind_some]
        rw [if_pos (by omega), if_pos (by omega), if_pos (by omega), if_pos (by omega), if_neg c]
        simp only [if_pos (show (i : Int) < (t.length : Int) by omega), if_pos (show (stuckL l0 l3 i).length < 17592186044416 by omega)]
      · by_cases c2 : dec_ (stuckAt l0 l3 (stuckL l0 l3 i) i) = true
        · have e2 : stuckL l0 l3 (i + 1) = stuckL l0 l3 i ++ [((i + 1 : Nat) : Int)] := by simp only [stuckL]; rw [if_pos c2]; rfl
          rw [e2] at key
          simp only [if_pos c2]
          exact key
        · have e2 : stuckL l0 l3 (i + 1) = stuckL l0 l3 i := by simp only [stuckL]; rw [if_neg c2, List.append_nil]
          rw [e2] at key
          simp only [if_neg c2]
          exact key
noncomputable def stuckRun (l0 : List S39) (l1 : List Int) (n : Int) (l3 : List S43) : List Int := if dec_ (runP l0 l1 n l3) = true then stuckL l0 l3 l3.length else []
theorem specStuck_ev (l0 : List S39) (l1 : List Int) (n : Int) (l3 : List S43) (h : FitsR l0 l1 l3) : Ev (fun k => spec_Stuck.f k l0 l1 n l3) (stuckRun l0 l1 n l3) := by
  unfold spec_Stuck.f stuckRun
  simp only [Option.bind_some]
  refine Ev_bind _ (specOkR_ev l0 l1 n l3 h) ?_
  by_cases c : runP l0 l1 n l3
  · rw [dec_true c]
    simp only [if_true]
    exact spec_l0_ev l0 l1 n l3 h c.2.2.1 l3.length 0 (by omega)
  · rw [dec_false c]
    simp only [Bool.false_eq_true, if_false]
    exact Ev.now _
theorem implStuck_ev (l0 : List S39) (l1 : List Int) (n : Int) (l3 : List S43) (h : FitsR l0 l1 l3) : Ev (fun k => impl_Stuck.f k l0 l1 n l3) (stuckRun l0 l1 n l3) := by
  have hn3 := h.n3
  unfold impl_Stuck.f stuckRun
  refine Ev_bind _ (implOkR_ev l0 l1 n l3 h) ?_
  by_cases c : runP l0 l1 n l3
  · rw [dec_true c]
    simp only [if_true, if_pos (show (0 : Int) ≤ (l3.length : Int) by omega), Int.toNat_natCast, if_pos (show l3.length ≤ 281474976710656 by omega)]
    exact impl_l0_ev l0 l1 n l3 h c.1 c.2.2.1 l3.length 0 _ (by omega) (tab_start l0 l3)
  · rw [dec_false c]
    simp only [Bool.false_eq_true, if_false]
    exact Ev.now _
theorem stuck_fits {l0 : List S39} {l1 : List Int} {l3 : List S43} (n : Int) (h : FitsR l0 l1 l3) : (stuckRun l0 l1 n l3).length ≤ 1048576 := by
  unfold stuckRun
  split
  · exact Nat.le_trans (stuck_len _ _ _) h.n3
  · simp


theorem markRunS_ev {l0 : List S39} {l1 : List Int} (h : Fits l0 l1) (n : Int) (l3 : List S43) (h3 : l3.length ≤ 1048576) (a : Int) (ha : 0 ≤ a) (ha2 : a ≤ 4000000000000000000) : ∃ m y0 y1 y3, Ev (fun k => laws_markRun.f k l0 l1 n l3 a) (m, y0, y1, y3) ∧ a ≤ m := by
  obtain ⟨m, y0, y1, e0, ⟨b0, b1⟩, r0⟩ := markSuite_ev h a ha ha2
  obtain ⟨y3, e3, p0, p1⟩ := markJs_ev l3.length m (by omega) (by omega) l3.length 0 l3 (by omega) rfl (fun q hq => by omega)
  refine ⟨m + 2 * (l3.length : Int), y0, y1, y3, ?_, by omega⟩
  unfold laws_markRun.f
  exact Ev_bind _ e0 (Ev_bind _ (show Ev (fun k => laws_markJobS.l0 k l3 m 0) _ by simpa using e3) (Ev.now _))
theorem Pure.FnExactStuck : FnExactStuck_Pure := by
  intro a d n j w0 w1 w2 w3
  refine Ev.rounds (g := fun k => laws_FnExactStuck.f k a d n j) ?_
  unfold laws_FnExactStuck.f
  obtain ⟨r, hr, hc⟩ := szRun_ev a d n j w0.1 (fun i hi => (wfL_get w0 i hi).1.1) w1.1 w3.1
  refine Ev_bind _ hr ?_
  by_cases c : r < 0
  · simp only [if_pos c]; exact Ev.now _
  simp only [if_neg c]
  have sm := hc.resolve_left c
  have fit := sm.fits
  have e0 := toRun_ev n sm
  have eS := specStuck_ev _ _ n _ fit
  have eI := implStuck_ev _ _ n _ fit
  have rf := stuck_fits n fit
  generalize stuckRun (a.map toT) d n (j.map toJ) = X at eS eI rf
  have eq := eqI_ev X rf
  have eq0 := eqRun_ev fit.s n _ fit.n3
  refine Ev_bind _ e0 (Ev_bind _ eS (Ev_bind _ e0 (Ev_bind _ eI (Ev_bind _ eq ?_))))
  simp only [if_true]
  refine Ev_bind _ e0 (Ev_bind _ eq0 ?_)
  simp only [if_true]
  obtain ⟨q, y0, y1, y3, em, hq⟩ := markRunS_ev fit.s n _ fit.n3 1 (by omega) (by omega)
  refine Ev_bind _ em ?_
  simp only [if_neg (show ¬ q < 0 by omega)]
  refine Ev_bind _ eq ?_
  refine Ev.step (fun k => by simp only [laws_FnExactStuck.j0]; rw [if_neg (by simp)]) ?_
  obtain ⟨z4, em4, hz4, hh4⟩ := markInt_ev X 1 (by omega) (by omega)
  have eh4 := heldInt_ev z4 1 (by omega) (by omega) hh4
  rw [hz4] at eh4
  refine Ev_bind _ em4 (Ev_bind _ eh4 ?_)
  simp only [if_neg (show ¬ 1 + (X.length : Int) < 0 by omega), if_true]
  refine Ev_bind _ e0 (Ev_bind _ eI (Ev_bind _ eq ?_))
  simp only [if_true]
  refine Ev_bind _ eh4 ?_
  simp only [if_neg (show ¬ 1 + (X.length : Int) < 0 by omega), if_true]
  exact Ev.now _
end Go.Proofs.Ytjoghfehmhapbaa.QFnExactStuck
