/- FnExactDeal, plainly: both Deal functions tell the same places; copies, marks and comparisons of equal lists answer as they should. No condition. -/
import Derived.Test.YtobiblhmchoilaaLib
import Derived.Test.YtobiblhmchoilaaQFnExactDealx6
import Derived.Test.YtobiblhmchoilaaStatFnExactDeal
set_option linter.unusedVariables false
set_option linter.unusedSimpArgs false
namespace Go.Proofs.Ytobiblhmchoilaa.QFnExactDeal
open Go.RowKit Go.Proofs.YtobiblhmchoilaaW.PrintWords Go.Proofs.Ytobiblhmchoilaa.Opn Go.Proofs.Ytobiblhmchoilaa.Pl

def inB (n a b : Int) : Bool := decide (a ≤ n) && decide (n ≤ b)
theorem inB_iff (n a b : Int) : inB n a b = true ↔ a ≤ n ∧ n ≤ b := by simp [inB]
theorem specIn (n a b : Int) : spec_l2In.f n a b = some (inB n a b) := by
  unfold spec_l2In.f inB
  by_cases h : n ≥ a
  · rw [if_pos h, decide_eq_true (show a ≤ n from h), Bool.true_and]
  · rw [if_neg h, decide_eq_false (show ¬ a ≤ n from h), Bool.false_and]
theorem implIn (n a b : Int) : impl_in.f n a b = some (inB n a b) := by
  unfold impl_in.f inB
  by_cases h : n ≥ a
  · rw [if_pos h, decide_eq_true (show a ≤ n from h), Bool.true_and]
  · rw [if_neg h, decide_eq_false (show ¬ a ≤ n from h), Bool.false_and]

theorem up_ind {P : Nat → Prop} (n : Nat) (hend : P n) (hstep : ∀ i, i < n → P (i + 1) → P i) : ∀ i, i ≤ n → P i := by
  have key : ∀ d i, i + d = n → P i := by
    intro d
    induction d with
    | zero => intro i hi; rw [show i = n by omega]; exact hend
    | succ d ih => intro i hi; exact hstep i (by omega) (ih (i + 1) (by omega))
  intro i hi
  exact key (n - i) i (by omega)

/-- a, a + 1, .. : n numbers -/
def rng (a : Int) (n : Nat) : List Int := (List.range n).map (fun i : Nat => a + (i : Int))
theorem rng_len (a : Int) (n : Nat) : (rng a n).length = n := by simp [rng]
theorem rng_get (a : Int) (n i : Nat) (h : i < (rng a n).length) : (rng a n)[i] = a + (i : Int) := by simp [rng]

theorem mark_ev (l : List Int) (hl : l.length ≤ 1048576) (a : Int) (h0 : 0 ≤ a) (h1 : a ≤ 1000000000000) : Ev (fun k => laws_markInt64S.f k l a) (a + (l.length : Int), rng a l.length) := by
  unfold laws_markInt64S.f
  have key := Ev_up (fun k i => laws_markInt64S.l0 k ((rng a l.length).take i ++ l.drop i) (a + (i : Int)) (i : Int)) (fun _ => (a + (l.length : Int), rng a l.length)) l.length (by
      refine Ev.step (f := fun _ => some (a + (l.length : Int), rng a l.length)) (fun k => ?_) (Ev.now _)
      simp only [laws_markInt64S.l0]
      rw [if_neg (by simp [rng_len])]
      rw [List.take_of_length_le (by rw [rng_len]; exact Nat.le_refl _), List.drop_length, List.append_nil]) (by
      intro i hi ih
      refine Ev.step (fun k => ?_) ih
      simp only [laws_markInt64S.l0]
      rw [if_pos (by simp [rng_len]; omega), if_pos (by omega), w64 (n := (i : Int) + 1) (by omega) (by omega), w64 (n := a + (i : Int) + 1) (by omega) (by omega), Int.toNat_natCast]
      have e := set_take_drop l (rng a l.length) i (by rw [rng_len]; exact hi) (by rw [rng_len])
      rw [rng_get] at e
      rw [e, show a + (i : Int) + 1 = a + ((i + 1 : Nat) : Int) by omega]
      rfl) 0 (Nat.zero_le _)
  simpa using key

theorem held_ev (n : Nat) (hn : n ≤ 1048576) (a : Int) (h0 : 0 ≤ a) (h1 : a ≤ 1000000000000) : Ev (fun k => laws_heldInt64S.f k (rng a n) a) (a + (n : Int)) := by
  unfold laws_heldInt64S.f
  have key := Ev_up (fun k i => laws_heldInt64S.l0 k (rng a n) (a + (i : Int)) (i : Int)) (fun _ => a + (n : Int)) n (by
      refine Ev.step (f := fun _ => some (a + (n : Int))) (fun k => ?_) (Ev.now _)
      simp only [laws_heldInt64S.l0]
      rw [if_neg (by simp [rng_len])]) (by
      intro i hi ih
      refine Ev.step (fun k => ?_) ih
      simp only [laws_heldInt64S.l0]
      rw [if_pos (by simp [rng_len]; omega), if_pos (by omega), rd_lt _ i (by rw [rng_len]; exact hi), rng_get, if_pos rfl, w64 (n := (i : Int) + 1) (by omega) (by omega), w64 (n := a + (i : Int) + 1) (by omega) (by omega)]
      rw [show a + (i : Int) + 1 = a + ((i + 1 : Nat) : Int) by omega]
      rfl) 0 (Nat.zero_le _)
  simpa using key

theorem eqInts_ev (l : List Int) (hl : l.length ≤ 1048576) : Ev (fun k => laws_eqInt64S.f k l l) true := by
  unfold laws_eqInt64S.f
  simp only [if_true]
  have key := Ev_up (fun k i => laws_eqInt64S.l0 k l l (i : Int)) (fun _ => true) l.length (by
      refine Ev.step (f := fun _ => some true) (fun k => ?_) (Ev.now _)
      simp only [laws_eqInt64S.l0]
      rw [if_neg (by omega)]) (by
      intro i hi ih
      refine Ev.step (fun k => ?_) ih
      simp only [laws_eqInt64S.l0]
      rw [if_pos (by omega), if_pos (by omega), if_pos (by omega), if_pos True.intro, w64 (n := (i : Int) + 1) (by omega) (by omega)]
      rfl) 0 (Nat.zero_le _)
  exact key

/-- Some answer of a kind. -/
def Tells {α : Type} (g : Nat → Option α) (P : α → Prop) : Prop := ∃ r, Ev g r ∧ P r
theorem Tells.now {α : Type} {P : α → Prop} (r : α) (h : P r) : Tells (fun _ => some r) P := ⟨r, Ev.now r, h⟩
theorem Tells.step {α : Type} {g f : Nat → Option α} {P : α → Prop} (h : ∀ k, g (k + 1) = f k) (t : Tells f P) : Tells g P := by
  obtain ⟨r, hr, hp⟩ := t
  exact ⟨r, Ev.step h hr, hp⟩
theorem Tells.bind {α β : Type} {g : Nat → Option α} {f : Nat → α → Option β} {P : α → Prop} {Q : β → Prop} (t : Tells g P) (h : ∀ r, P r → Tells (fun k => f k r) Q) : Tells (fun k => (g k).bind (f k)) Q := by
  obtain ⟨r, hr, hp⟩ := t
  obtain ⟨s, hs, hq⟩ := h r hp
  exact ⟨s, Ev_bind r hr hs, hq⟩

theorem rd36 (l : List S36) (i : Nat) (h : i < l.length) : rd_T36 l (i : Int) = l[i] := getD_lt l z36 i h
theorem rd39 (l : List S39) (i : Nat) (h : i < l.length) : rd_T39 l (i : Int) = l[i] := getD_lt l z39 i h

/-- an entry of the law's, as one of the program's -/
def cv (e : S36) : S39 := ⟨e.f0, e.f1, e.f2, e.f3, e.f4⟩
theorem toE_ev (l : List S36) (hl : l.length ≤ 1048576) : Ev (fun k => laws_toEntryS.f k l) (l.map cv) := by
  unfold laws_toEntryS.f
  simp only [if_pos (show 0 ≤ (l.length : Int) by omega), Int.toNat_natCast, if_pos (show l.length ≤ 5864062014805 by omega)]
  have key := Ev_up (fun k i => laws_toEntryS.l0 k l ((l.map cv).take i ++ (List.replicate l.length z39).drop i) (i : Int)) (fun _ => l.map cv) l.length (by
      refine Ev.step (f := fun _ => some (l.map cv)) (fun k => ?_) (Ev.now _)
      simp only [laws_toEntryS.l0]
      rw [if_neg (by omega), List.take_of_length_le (by rw [List.length_map]; exact Nat.le_refl _), List.drop_of_length_le (by rw [List.length_replicate]; exact Nat.le_refl _), List.append_nil]) (by
      intro i hi ih
      refine Ev.step (fun k => ?_) ih
      have e := set_take_drop (List.replicate l.length z39) (l.map cv) i (by rw [List.length_map]; exact hi) (by rw [List.length_map, List.length_replicate])
      rw [List.getElem_map] at e
      simp only [laws_toEntryS.l0, laws_toEntry.f, Option.bind_some]
      rw [if_pos (by omega), if_pos (by omega), if_pos (by rw [List.length_append, List.length_take, List.length_drop, List.length_map, List.length_replicate]; omega), rd36 l i hi, w64 (n := (i : Int) + 1) (by omega) (by omega), Int.toNat_natCast]
      rw [← e]
      rfl) 0 (Nat.zero_le _)
  simpa using key

theorem eqE_ev (l : List S39) (hl : l.length ≤ 1048576) : Ev (fun k => laws_eqEntryS.f k l l) true := by
  unfold laws_eqEntryS.f
  simp only [if_true]
  have key := Ev_up (fun k i => laws_eqEntryS.l0 k l l (i : Int)) (fun _ => true) l.length (by
      refine Ev.step (f := fun _ => some true) (fun k => ?_) (Ev.now _)
      simp only [laws_eqEntryS.l0]
      rw [if_neg (by omega)]) (by
      intro i hi ih
      refine Ev.step (fun k => ?_) ih
      simp only [laws_eqEntryS.l0, laws_eqEntry.f, if_true, Option.bind_some]
      rw [if_pos (by omega), if_pos (by omega), if_pos (by omega), w64 (n := (i : Int) + 1) (by omega) (by omega)]
      rfl) 0 (Nat.zero_le _)
  exact key

theorem str1 (x : Int) : (strOfNums [x]).size = 1 := rfl
theorem text_ev (n : Int) (h0 : 0 ≤ n) (h1 : n ≤ 1000000000000) : Tells (fun k => laws_markText.f k n) (fun _ => True) := by
  unfold laws_markText.f
  by_cases c : n ≤ 0
  · simp only [if_pos c]; exact Tells.now _ trivial
  simp only [if_neg c]
  have key : ∀ (m x : Nat) (s : ByteArray), x ≤ m → (s.size : Int) + (x : Int) ≤ 1000000000000 → Tells (fun k => laws_markText.l0 k (x : Int) s) (fun _ => True) := by
    intro m
    induction m with
    | zero =>
      intro x s hx hs
      refine Tells.step (f := fun _ => some ((⟨#[109]⟩ : ByteArray) ++ s)) (fun k => ?_) (Tells.now _ trivial)
      simp only [laws_markText.l0]
      rw [if_neg (by omega), if_pos (by omega)]
    | succ m ih =>
      intro x s hx hs
      by_cases cx : 0 < x
      · have hd : Int.tdiv (x : Int) 10 = ((x / 10 : Nat) : Int) := by rw [Int.tdiv_eq_ediv_of_nonneg (by omega)]; rfl
        refine Tells.step (fun k => ?_) (ih (x / 10) ((strOfNums [(wrap64 (48 + (Int.tmod (x : Int) 10))) % 256]) ++ s) (by omega) (by rw [ByteArray.size_append, str1]; omega))
        simp only [laws_markText.l0, Option.bind_some]
        rw [if_pos (by omega), if_pos (by rw [str1]; omega), hd, w64 (by omega) (by omega)]
      · refine Tells.step (f := fun _ => some ((⟨#[109]⟩ : ByteArray) ++ s)) (fun k => ?_) (Tells.now _ trivial)
        simp only [laws_markText.l0]
        rw [if_neg (by omega), if_pos (by omega)]
  obtain ⟨m, rfl⟩ : ∃ m : Nat, n = (m : Int) := ⟨n.toNat, by omega⟩
  exact key m m _ (Nat.le_refl _) (by show ((0 : Nat) : Int) + (m : Int) ≤ 1000000000000; omega)

theorem markE_ev (l : List S39) (hl : l.length ≤ 1048576) : Tells (fun k => laws_markEntryS.f k l 1) (fun r => 0 ≤ r.1) := by
  unfold laws_markEntryS.f
  have key : ∀ (d i : Nat) (l : List S39) (a : Int), l.length = i + d → l.length ≤ 1048576 → 1 ≤ a → a ≤ 1 + 5 * (i : Int) → Tells (fun k => laws_markEntryS.l0 k l a (i : Int)) (fun r => 0 ≤ r.1) := by
    intro d
    induction d with
    | zero =>
      intro i l a hl hm h0 h1
      refine Tells.step (f := fun _ => some (a, l)) (fun k => ?_) (Tells.now _ (by show 0 ≤ a; omega))
      simp only [laws_markEntryS.l0]
      rw [if_neg (by omega)]
    | succ d ih =>
      intro i l a hl hm h0 h1
      apply Tells.step
      · intro k
        simp only [laws_markEntryS.l0, Option.bind_some]
        rw [if_pos (by omega), w64 (n := (i : Int) + 1) (by omega) (by omega), w64 (n := a + 1) (by omega) (by omega), w64 (n := a + 1 + 1) (by omega) (by omega), w64 (n := a + 1 + 1 + 1) (by omega) (by omega), w64 (n := a + 1 + 1 + 1 + 1) (by omega) (by omega), w64 (n := a + 1 + 1 + 1 + 1 + 1) (by omega) (by omega)]
      refine Tells.bind (text_ev a (by omega) (by omega)) (fun r _ => ?_)
      simp only [if_pos (show 0 ≤ (i : Int) by omega)]
      exact ih (i + 1) _ (a + 1 + 1 + 1 + 1 + 1) (by simp only [List.length_set]; omega) (by simp only [List.length_set]; exact hm) (by omega) (by omega)
  exact key l.length 0 l 1 (by omega) hl (by omega) (by omega)

theorem sz_ev (l : List S36) (hl : WfL wfT36 l) : Tells (fun k => laws_szEntryS.f k l 1048576) (fun t => t < 0 ∨ l.length ≤ 1048576) := by
  have hlen : l.length ≤ 9223372036854775807 := hl.1
  unfold laws_szEntryS.f
  rw [w64 (n := 1048576 - (l.length : Int)) (by omega) (by omega)]
  by_cases c : 1048576 - (l.length : Int) < 0
  · simp only [if_pos c]; exact Tells.now _ (.inl (by decide))
  simp only [if_neg c]
  have key := up_ind (P := fun i => ∀ x : Int, 0 ≤ x → x ≤ 1048576 → Tells (fun k => laws_szEntryS.l0 k l x (i : Int)) (fun t => t < 0 ∨ l.length ≤ 1048576)) l.length (by
      intro x h0 h1
      refine Tells.step (f := fun _ => some x) (fun k => ?_) (Tells.now _ (.inr (by omega)))
      simp only [laws_szEntryS.l0]
      rw [if_neg (by omega)]) (by
      intro i hi ih x h0 h1
      have hw := wfL_get hl i hi
      have hs : l[i].f0.size ≤ 9223372036854775807 := hw.1
      have e : laws_szEntry.f l[i].f0 l[i].f1 l[i].f2 l[i].f3 l[i].f4 x = some (if x - (l[i].f0.size : Int) < 0 then -1 else x - (l[i].f0.size : Int)) := by
        unfold laws_szEntry.f
        rw [w64 (n := x - (l[i].f0.size : Int)) (by omega) (by omega)]
        split <;> rfl
      by_cases c2 : x - (l[i].f0.size : Int) < 0
      · rw [if_pos c2] at e
        refine Tells.step (f := fun _ => some (-1)) (fun k => ?_) (Tells.now _ (.inl (by decide)))
        simp only [laws_szEntryS.l0]
        rw [if_pos (by omega), if_pos (by omega), rd36 l i hi, e]
        rfl
      · rw [if_neg c2] at e
        refine Tells.step (fun k => ?_) (ih (x - (l[i].f0.size : Int)) (by omega) (by omega))
        simp only [laws_szEntryS.l0]
        rw [if_pos (by omega), if_pos (by omega), rd36 l i hi, e, w64 (n := (i : Int) + 1) (by omega) (by omega)]
        simp only [Option.bind_some]
        rw [if_neg c2]
        rfl) 0 (Nat.zero_le _)
  exact key _ (by omega) (by omega)

/-- a name: of small letters -/
def parF (s : ByteArray) : Nat → Nat → Bool
  | 0, _ => inB (s.size : Int) 1 4
  | d + 1, i => if bt s (i : Int) < 97 then false else if bt s (i : Int) > 122 then false else parF s d (i + 1)
theorem specPar_ev (s : ByteArray) (hs : s.size ≤ 9223372036854775807) : Ev (fun k => spec_l25ParamOk.f k s) (parF s s.size 0) := by
  unfold spec_l25ParamOk.f
  have key : ∀ d i : Nat, i + d = s.size → Ev (fun k => spec_l25ParamOk.l0 k s (i : Int)) (parF s d i) := by
    intro d
    induction d with
    | zero =>
      intro i hi
      refine Ev.step (f := fun _ => some (inB (s.size : Int) 1 4)) (fun k => ?_) (Ev.now _)
      simp only [spec_l25ParamOk.l0]
      rw [if_neg (by omega)]
      unfold inB
      by_cases c : (s.size : Int) ≥ 1
      · rw [if_pos c, decide_eq_true (show (1 : Int) ≤ s.size from c), Bool.true_and]
      · rw [if_neg c, decide_eq_false (show ¬ (1 : Int) ≤ s.size from c), Bool.false_and]
    | succ d ih =>
      intro i hi
      simp only [parF]
      by_cases c1 : bt s (i : Int) < 97
      · rw [if_pos c1]
        refine Ev.step (f := fun _ => some false) (fun k => ?_) (Ev.now _)
        simp only [spec_l25ParamOk.l0]
        rw [if_pos (by omega), if_pos (by omega), if_pos c1]
      rw [if_neg c1]
      by_cases c2 : bt s (i : Int) > 122
      · rw [if_pos c2]
        refine Ev.step (f := fun _ => some false) (fun k => ?_) (Ev.now _)
        simp only [spec_l25ParamOk.l0]
        rw [if_pos (by omega), if_pos (by omega), if_neg c1, if_pos c2]
      rw [if_neg c2]
      refine Ev.step (fun k => ?_) (ih (i + 1) (by omega))
      simp only [spec_l25ParamOk.l0]
      rw [if_pos (by omega), if_pos (by omega), if_neg c1, if_neg c2, w64 (n := (i : Int) + 1) (by omega) (by omega)]
      rfl
  exact key s.size 0 (by omega)
theorem implPar_ev (s : ByteArray) (hs : s.size ≤ 9223372036854775807) : Ev (fun k => impl_paramOk.f k s) (parF s s.size 0) := by
  unfold impl_paramOk.f
  have key : ∀ d i : Nat, i + d = s.size → Ev (fun k => impl_paramOk.l0 k s (i : Int)) (parF s d i) := by
    intro d
    induction d with
    | zero =>
      intro i hi
      refine Ev.step (f := fun _ => some (inB (s.size : Int) 1 4)) (fun k => ?_) (Ev.now _)
      simp only [impl_paramOk.l0, implIn, Option.bind_some]
      rw [if_neg (by omega)]
    | succ d ih =>
      intro i hi
      simp only [parF]
      by_cases c1 : bt s (i : Int) < 97
      · rw [if_pos c1]
        refine Ev.step (f := fun _ => some false) (fun k => ?_) (Ev.now _)
        simp only [impl_paramOk.l0]
        rw [if_pos (by omega), if_pos (by omega), if_pos c1]
      rw [if_neg c1]
      by_cases c2 : bt s (i : Int) > 122
      · rw [if_pos c2]
        refine Ev.step (f := fun _ => some false) (fun k => ?_) (Ev.now _)
        simp only [impl_paramOk.l0]
        rw [if_pos (by omega), if_pos (by omega), if_neg c1, if_pos c2]
      rw [if_neg c2]
      refine Ev.step (fun k => ?_) (ih (i + 1) (by omega))
      simp only [impl_paramOk.l0]
      rw [if_pos (by omega), if_pos (by omega), if_neg c1, if_neg c2, w64 (n := (i : Int) + 1) (by omega) (by omega)]
      rfl
  exact key s.size 0 (by omega)

/-- an entry that fits -/
def entB (e : S39) : Bool := parF e.f0 e.f0.size 0 && (inB e.f1 0 52596000 && (inB e.f2 0 360 && (inB e.f3 0 1100 && inB e.f4 0 1000000000)))
theorem specTime (n : Int) : spec_l2Time.f n = some (inB n 0 52596000) := by
  unfold spec_l2Time.f inB
  by_cases h : n ≥ 0
  · rw [if_pos h, decide_eq_true (show 0 ≤ n from h), Bool.true_and]
  · rw [if_neg h, decide_eq_false (show ¬ 0 ≤ n from h), Bool.false_and]
theorem specEnt_ev (e : S39) (hs : e.f0.size ≤ 9223372036854775807) : Ev (fun k => spec_l25EntryOk.f k e.f0 e.f1 e.f2 e.f3 e.f4) (entB e) := by
  unfold spec_l25EntryOk.f entB
  refine Ev_bind _ (specPar_ev e.f0 hs) ?_
  cases parF e.f0 e.f0.size 0 with
  | false => simpa using Ev.now false
  | true =>
    simp only [if_true, specTime, specIn, Option.bind_some, Bool.true_and]
    cases inB e.f1 0 52596000 with
    | false => simpa using Ev.now false
    | true =>
      simp only [if_true, Bool.true_and]
      cases inB e.f2 0 360 with
      | false => simpa using Ev.now false
      | true =>
        simp only [if_true, Bool.true_and]
        cases inB e.f3 0 1100 with
        | false => simpa using Ev.now false
        | true => simp only [if_true, Bool.true_and]; exact Ev.now _
theorem implEnt_ev (e : S39) (hs : e.f0.size ≤ 9223372036854775807) : Ev (fun k => impl_entryOk.f k e.f0 e.f1 e.f2 e.f3 e.f4) (entB e) := by
  unfold impl_entryOk.f entB impl_isTime.f
  refine Ev_bind _ (implPar_ev e.f0 hs) ?_
  cases parF e.f0 e.f0.size 0 with
  | false => simpa using Ev.now false
  | true =>
    simp only [if_true, implIn, Option.bind_some, Bool.true_and]
    cases inB e.f1 0 52596000 with
    | false => simpa using Ev.now false
    | true =>
      simp only [if_true, Bool.true_and]
      cases inB e.f2 0 360 with
      | false => simpa using Ev.now false
      | true =>
        simp only [if_true, Bool.true_and]
        cases inB e.f3 0 1100 with
        | false => simpa using Ev.now false
        | true => simp only [if_true, Bool.true_and]; exact Ev.now _

/-- the first place where it keeps within the budget, or -1 -/
def idxG (has : List Int) (s b : Int) : Nat → Nat → Int
  | 0, _ => -1
  | d + 1, i => if wrap64 (rd has (i : Int) + s) ≤ b then (i : Int) else idxG has s b d (i + 1)
theorem idxG_bd (has : List Int) (s b : Int) : ∀ d i : Nat, i + d = has.length → idxG has s b d i = -1 ∨ (0 ≤ idxG has s b d i ∧ idxG has s b d i < (has.length : Int)) := by
  intro d
  induction d with
  | zero => intro i _; exact .inl rfl
  | succ d ih =>
    intro i hi
    simp only [idxG]
    split
    · exact .inr (by omega)
    · exact ih (i + 1) (by omega)
theorem idx_ev (has : List Int) (hl : has.length ≤ 1048576) (s b : Int) : Ev (fun k => slices_IndexFunc_int64_int64.f k has s b) (idxG has s b has.length 0) := by
  unfold slices_IndexFunc_int64_int64.f
  have key : ∀ d i : Nat, i + d = has.length → Ev (fun k => slices_IndexFunc_int64_int64.l0 k has s b (has.length : Int) (i : Int)) (idxG has s b d i) := by
    intro d
    induction d with
    | zero =>
      intro i hi
      refine Ev.step (f := fun _ => some (-1)) (fun k => ?_) (Ev.now _)
      simp only [slices_IndexFunc_int64_int64.l0]
      rw [if_neg (by omega)]
    | succ d ih =>
      intro i hi
      simp only [idxG]
      by_cases c : wrap64 (rd has (i : Int) + s) ≤ b
      · rw [if_pos c]
        refine Ev.step (f := fun _ => some (i : Int)) (fun k => ?_) (Ev.now _)
        simp only [slices_IndexFunc_int64_int64.l0]
        rw [if_pos (by omega), if_pos (by omega), if_pos (by omega), if_pos c]
      · rw [if_neg c]
        refine Ev.step (fun k => ?_) (ih (i + 1) (by omega))
        simp only [slices_IndexFunc_int64_int64.l0]
        rw [if_pos (by omega), if_pos (by omega), if_pos (by omega), if_neg c, w64 (n := (i : Int) + 1) (by omega) (by omega)]
        rfl
  exact key has.length 0 (by omega)

/-- what has been given out behind one entry -/
def give (has : List Int) (s r : Int) : List Int := if 0 ≤ r then has.set r.toNat (wrap64 (rd has r + s)) else has
theorem give_len (has : List Int) (s r : Int) : (give has s r).length = has.length := by
  unfold give
  split
  · exact List.length_set
  · rfl
/-- the places told, one entry behind the other -/
def dealL (b : Int) : List Int → List S39 → List Int
  | _, [] => []
  | has, e :: es => idxG has e.f4 b has.length 0 :: dealL b (give has e.f4 (idxG has e.f4 b has.length 0)) es
theorem dealL_len (b : Int) : ∀ (es : List S39) (has : List Int), (dealL b has es).length = es.length := by
  intro es
  induction es with
  | nil => intro _; rfl
  | cons e es ih => intro has; simp only [dealL, List.length_cons, ih]

section
variable {l : List S39} {b slots : Int}
theorem specOne_ev {R : List Int × Bool} (hl : l.length ≤ 300) (i : Nat) (hi : i < l.length) (out : List Int) (ho : out.length = i) :
    ∀ (d s : Nat) (used : List Int), s + d = used.length → (used.length : Int) = slots → slots ≤ 100 →
      Ev (fun k => spec_Deal.l0 k l b slots (out ++ [idxG used l[i].f4 b d s]) (give used l[i].f4 (idxG used l[i].f4 b d s)) ((i + 1 : Nat) : Int)) R →
      Ev (fun k => spec_Deal.l1 k l b slots out used (i : Int) (-1) (s : Int)) R := by
  have w1 : wrap64 ((i : Int) + 1) = ((i + 1 : Nat) : Int) := w64 (by omega) (by omega)
  intro d
  induction d with
  | zero =>
    intro s used hs hu h1 hR
    refine Ev.step (f := fun k => spec_Deal.j3 k l b slots out used (i : Int) (-1) (s : Int) false) (fun k => ?_) ?_
    · simp only [spec_Deal.l1]
      rw [if_neg (by omega)]
    · refine Ev.step (fun k => ?_) hR
      simp only [spec_Deal.j3]
      rw [if_neg (by simp), if_pos (by omega), w1]
      rfl
  | succ d ih =>
    intro s used hs hu h1 hR
    simp only [idxG] at hR
    refine Ev.step (f := fun k => spec_Deal.j3 k l b slots out used (i : Int) (-1) (s : Int) true) (fun k => ?_) ?_
    · simp only [spec_Deal.l1]
      rw [if_pos (by omega)]
      rfl
    have w2 : wrap64 ((s : Int) + 1) = ((s + 1 : Nat) : Int) := w64 (by omega) (by omega)
    by_cases c : wrap64 (rd used (s : Int) + l[i].f4) ≤ b
    · rw [if_pos c] at hR
      have eg : give used l[i].f4 (s : Int) = used.set s (wrap64 (rd used (s : Int) + l[i].f4)) := by
        unfold give
        rw [if_pos (by omega), Int.toNat_natCast]
      rw [eg] at hR
      have stop : Ev (fun k => spec_Deal.j3 k l b slots out (used.set s (wrap64 (rd used (s : Int) + l[i].f4))) (i : Int) (s : Int) ((s + 1 : Nat) : Int) false) R := by
        refine Ev.step (fun k => ?_) hR
        simp only [spec_Deal.j3]
        rw [if_neg (by simp), if_pos (by omega), w1]
      refine Ev.step (f := fun k => spec_Deal.l1 k l b slots out (used.set s (wrap64 (rd used (s : Int) + l[i].f4))) (i : Int) (s : Int) ((s + 1 : Nat) : Int)) (fun k => ?_) ?_
      · simp only [spec_Deal.j3]
        rw [if_pos True.intro, if_pos (by omega), if_pos (by omega), if_pos (by omega), if_pos (by omega), rd39 l i hi, if_pos c, w2, Int.toNat_natCast]
      · refine Ev.step (fun k => ?_) stop
        simp only [spec_Deal.l1]
        by_cases c2 : ((s + 1 : Nat) : Int) < slots
        · rw [if_pos c2, decide_eq_false (by omega)]
        · rw [if_neg c2]
    · rw [if_neg c] at hR
      refine Ev.step (fun k => ?_) (ih (s + 1) used (by omega) hu h1 hR)
      simp only [spec_Deal.j3]
      rw [if_pos True.intro, if_pos (by omega), if_pos (by omega), if_pos (by omega), if_pos (by omega), rd39 l i hi, if_neg c, w2]

theorem specRun_ev (hl : l.length ≤ 300) (hs : ∀ e ∈ l, e.f0.size ≤ 9223372036854775807) (h1 : slots ≤ 100) : ∀ i : Nat, i ≤ l.length → ∀ out used : List Int, out.length = i → (used.length : Int) = slots →
    Ev (fun k => spec_Deal.l0 k l b slots out used (i : Int)) (cond ((l.drop i).all entB) (out ++ dealL b used (l.drop i), true) ([], false)) := by
  refine up_ind (P := fun i => ∀ out used : List Int, out.length = i → (used.length : Int) = slots → Ev (fun k => spec_Deal.l0 k l b slots out used (i : Int)) (cond ((l.drop i).all entB) (out ++ dealL b used (l.drop i), true) ([], false))) l.length ?_ ?_
  · intro out used _ _
    rw [List.drop_length]
    simp only [List.all_nil, cond_true, dealL, List.append_nil]
    refine Ev.step (f := fun _ => some (out, true)) (fun k => ?_) (Ev.now _)
    simp only [spec_Deal.l0]
    rw [if_neg (by omega)]
  · intro i hi ih out used ho hu
    have he := specEnt_ev l[i] (hs _ (List.getElem_mem hi))
    rw [List.drop_eq_getElem_cons hi, List.all_cons]
    apply Ev.step
    · intro k
      simp only [spec_Deal.l0]
      rw [if_pos (by omega), if_pos (by omega), rd39 l i hi]
    refine Ev_bind _ he ?_
    cases entB l[i] with
    | false =>
      simp only [Bool.false_eq_true, if_false, Bool.false_and, cond_false]
      exact Ev.now _
    | true =>
      simp only [if_true, Bool.true_and]
      have h2 := ih (out ++ [idxG used l[i].f4 b used.length 0]) (give used l[i].f4 (idxG used l[i].f4 b used.length 0)) (by rw [List.length_append]; simp only [List.length_cons, List.length_nil]; omega) (by rw [give_len]; exact hu)
      have h3 := specOne_ev hl i hi out ho used.length 0 used (by omega) hu h1 h2
      simp only [dealL]
      rw [List.append_assoc] at h3
      exact h3

theorem implRun_ev (hl : l.length ≤ 300) (has0 : (slots.toNat : Int) = slots) (h1 : slots ≤ 100) : ∀ i : Nat, i ≤ l.length → ∀ out has : List Int, out.length = i → (has.length : Int) = slots →
    Ev (fun k => impl_Deal.l1 k has out l (l.length : Int) (i : Int) b) (out ++ dealL b has (l.drop i), true) := by
  refine up_ind (P := fun i => ∀ out has : List Int, out.length = i → (has.length : Int) = slots → Ev (fun k => impl_Deal.l1 k has out l (l.length : Int) (i : Int) b) (out ++ dealL b has (l.drop i), true)) l.length ?_ ?_
  · intro out has _ _
    rw [List.drop_length]
    simp only [dealL, List.append_nil]
    refine Ev.step (f := fun _ => some (out, true)) (fun k => ?_) (Ev.now _)
    simp only [impl_Deal.l1]
    rw [if_neg (by omega)]
  · intro i hi ih out has ho hu
    rw [List.drop_eq_getElem_cons hi]
    simp only [dealL]
    have w1 : wrap64 ((i : Int) + 1) = ((i + 1 : Nat) : Int) := w64 (by omega) (by omega)
    apply Ev.step
    · intro k
      simp only [impl_Deal.l1]
      rw [if_pos (by omega), if_pos (by omega), if_pos (by omega), rd39 l i hi, w1]
    refine Ev_bind _ (idx_ev has (by omega) l[i].f4 b) ?_
    have hb := idxG_bd has l[i].f4 b has.length 0 (by omega)
    have h2 := ih (out ++ [idxG has l[i].f4 b has.length 0]) (give has l[i].f4 (idxG has l[i].f4 b has.length 0)) (by rw [List.length_append]; simp only [List.length_cons, List.length_nil]; omega) (by rw [give_len]; exact hu)
    rw [List.append_assoc] at h2
    generalize idxG has l[i].f4 b has.length 0 = r at hb h2 ⊢
    unfold give at h2 ⊢
    by_cases c : 0 ≤ r
    · rw [if_pos c] at h2 ⊢
      simp only [if_pos (show r ≥ 0 from c), if_pos c, if_pos (show r < (has.length : Int) by omega), if_pos (show out.length < 17592186044416 by omega)]
      exact h2
    · rw [if_neg c] at h2 ⊢
      simp only [if_neg (show ¬ r ≥ 0 from c), if_pos (show out.length < 17592186044416 by omega)]
      exact h2

theorem implAll_ev {R : List Int × Bool} (hl : l.length ≤ 300) (hs : ∀ e ∈ l, e.f0.size ≤ 9223372036854775807) (h0 : 1 ≤ slots) (h1 : slots ≤ 100) (hR : Ev (fun k => impl_Deal.l1 k (List.replicate slots.toNat 0) [] l (l.length : Int) 0 b) R) : ∀ i : Nat, i ≤ l.length →
    Ev (fun k => impl_Deal.l0 k l slots l (l.length : Int) (i : Int) b) (cond ((l.drop i).all entB) R ([], false)) := by
  refine up_ind (P := fun i => Ev (fun k => impl_Deal.l0 k l slots l (l.length : Int) (i : Int) b) (cond ((l.drop i).all entB) R ([], false))) l.length ?_ ?_
  · rw [List.drop_length]
    simp only [List.all_nil, cond_true]
    refine Ev.step (fun k => ?_) hR
    simp only [impl_Deal.l0]
    rw [if_neg (by omega), if_pos (by omega), if_pos (by omega)]
  · intro i hi ih
    have he := implEnt_ev l[i] (hs _ (List.getElem_mem hi))
    rw [List.drop_eq_getElem_cons hi, List.all_cons]
    apply Ev.step
    · intro k
      simp only [impl_Deal.l0]
      rw [if_pos (by omega), if_pos (by omega), if_pos (by omega), rd39 l i hi, w64 (n := (i : Int) + 1) (by omega) (by omega)]
    refine Ev_bind _ he ?_
    cases entB l[i] with
    | false =>
      simp only [Bool.false_eq_true, if_false, Bool.false_and, cond_false]
      exact Ev.now _
    | true =>
      simp only [if_true, Bool.true_and]
      exact ih

/-- what Deal tells -/
def dealR (l : List S39) (b slots : Int) : List Int × Bool :=
  cond (decide ((l.length : Int) ≤ 300) && (inB b 0 1000000000000 && (inB slots 1 100 && l.all entB))) (dealL b (List.replicate slots.toNat 0) l, true) ([], false)
theorem dealR_len (l : List S39) (b slots : Int) : (dealR l b slots).1.length ≤ l.length := by
  unfold dealR
  cases (decide ((l.length : Int) ≤ 300) && (inB b 0 1000000000000 && (inB slots 1 100 && l.all entB))) with
  | true => simp only [cond_true, dealL_len]; exact Nat.le_refl _
  | false => simp

theorem specDeal_ev (hs : ∀ e ∈ l, e.f0.size ≤ 9223372036854775807) : Ev (fun k => spec_Deal.f k l b slots) (dealR l b slots) := by
  have bad : Ev (fun k => spec_Deal.j0 k l b slots [] true) ([], false) :=
    Ev.step (f := fun _ => some ([], false)) (fun k => by simp only [spec_Deal.j0]; rfl) (Ev.now _)
  unfold spec_Deal.f dealR
  simp only [Option.bind_some]
  by_cases c : (l.length : Int) > 300
  · simp only [if_pos c, decide_eq_false (show ¬ (l.length : Int) ≤ 300 by omega), Bool.false_and, cond_false]; exact bad
  simp only [if_neg c, decide_eq_true (show (l.length : Int) ≤ 300 by omega), Bool.true_and, specIn, Option.bind_some]
  cases h1 : inB b 0 1000000000000 with
  | false => simpa using bad
  | true =>
    simp only [if_true, Bool.true_and]
    cases h2 : inB slots 1 100 with
    | false => simpa using bad
    | true =>
      have h2' := (inB_iff _ _ _).mp h2
      simp only [Bool.not_true, Bool.true_and]
      refine Ev.step (f := fun k => spec_Deal.l0 k l b slots [] (List.replicate slots.toNat 0) 0) (fun k => ?_) ?_
      · simp only [spec_Deal.j0]
        rw [if_neg (by simp), if_pos (by omega), if_pos (by omega)]
      · have := specRun_ev (b := b) (by omega) hs h2'.2 0 (Nat.zero_le _) [] (List.replicate slots.toNat 0) rfl (by rw [List.length_replicate]; omega)
        simpa using this

theorem implDeal_ev (hs : ∀ e ∈ l, e.f0.size ≤ 9223372036854775807) : Ev (fun k => impl_Deal.f k l b slots) (dealR l b slots) := by
  have bad : Ev (fun k => impl_Deal.j0 k l slots true b) ([], false) :=
    Ev.step (f := fun _ => some ([], false)) (fun k => by simp only [impl_Deal.j0]; rfl) (Ev.now _)
  unfold impl_Deal.f dealR
  by_cases c : (l.length : Int) > 300
  · simp only [if_pos c, decide_eq_false (show ¬ (l.length : Int) ≤ 300 by omega), Bool.false_and, cond_false]; exact bad
  simp only [if_neg c, decide_eq_true (show (l.length : Int) ≤ 300 by omega), Bool.true_and, implIn, Option.bind_some]
  cases h1 : inB b 0 1000000000000 with
  | false => simpa using bad
  | true =>
    simp only [if_true, Bool.true_and]
    cases h2 : inB slots 1 100 with
    | false => simpa using bad
    | true =>
      have h2' := (inB_iff _ _ _).mp h2
      simp only [Bool.not_true, Bool.true_and]
      refine Ev.step (f := fun k => impl_Deal.l0 k l slots l (l.length : Int) 0 b) (fun k => by simp only [impl_Deal.j0]; rfl) ?_
      have h3 := implRun_ev (b := b) (l := l) (by omega) (by omega) h2'.2 0 (Nat.zero_le _) [] (List.replicate slots.toNat 0) rfl (by rw [List.length_replicate]; omega)
      have := implAll_ev (by omega) hs h2'.1 h2'.2 h3 0 (Nat.zero_le _)
      simpa using this
end

theorem Pure.FnExactDeal : FnExactDeal_Pure := by
  intro l0 b slots wl _ _
  refine Ev.rounds (g := fun k => laws_FnExactDeal.f k l0 b slots) ?_
  unfold laws_FnExactDeal.f
  obtain ⟨t, ht, hsz⟩ := sz_ev l0 wl
  refine Ev_bind t ht ?_
  by_cases gt : t < 0
  · simp only [if_pos gt]; exact Ev.now _
  simp only [if_neg gt]
  have hl : l0.length ≤ 1048576 := by omega
  have eT := toE_ev l0 hl
  have hs : ∀ e ∈ l0.map cv, e.f0.size ≤ 9223372036854775807 := by
    intro e he
    obtain ⟨x, hx, rfl⟩ := List.mem_map.mp he
    exact (wl.2 x hx).1
  have eS := specDeal_ev (b := b) (slots := slots) hs
  have eI := implDeal_ev (b := b) (slots := slots) hs
  have hr := dealR_len (l0.map cv) b slots
  rw [List.length_map] at hr
  generalize dealR (l0.map cv) b slots = r at eS eI hr
  have eQ := eqInts_ev r.1 (by omega)
  refine Ev_bind _ eT (Ev_bind _ eS (Ev_bind _ eT (Ev_bind _ eI (Ev_bind _ eQ ?_))))
  simp only [if_true, bne_self_eq_false]
  apply Ev.step
  · intro k
    simp only [laws_FnExactDeal.j0]
    rw [if_neg (by simp)]
  refine Ev_bind _ eT (Ev_bind _ (eqE_ev _ (by rw [List.length_map]; exact hl)) ?_)
  simp only [if_true]
  obtain ⟨m, em, hm⟩ := markE_ev (l0.map cv) (by rw [List.length_map]; exact hl)
  refine Ev_bind _ em ?_
  simp only [if_neg (show ¬ m.1 < 0 by omega)]
  refine Ev_bind _ eQ ?_
  simp only [if_true, bne_self_eq_false]
  have m1 := mark_ev r.1 (by omega) 1 (by omega) (by omega)
  have h1 := held_ev r.1.length (by omega) 1 (by omega) (by omega)
  apply Ev.step
  · intro k
    simp only [laws_FnExactDeal.j1]
    rw [if_neg (by simp)]
  refine Ev_bind _ m1 (Ev_bind _ h1 ?_)
  simp only [if_neg (show ¬ 1 + (r.1.length : Int) < 0 by omega), if_true]
  refine Ev_bind _ eT (Ev_bind _ eI (Ev_bind _ eQ ?_))
  simp only [if_true, bne_self_eq_false]
  apply Ev.step
  · intro k
    simp only [laws_FnExactDeal.j2]
    rw [if_neg (by simp)]
  refine Ev_bind _ h1 ?_
  simp only [if_neg (show ¬ 1 + (r.1.length : Int) < 0 by omega), if_true]
  exact Ev.now _
end Go.Proofs.Ytobiblhmchoilaa.QFnExactDeal
