/- FnExactPick, plainly: both Pick functions tell the same entries; copies, marks and comparisons of equal lists answer as they should. No condition. -/
import Derived.Sort.Walk0
import Derived.Test.YtefagcpmadpefaaLib
import Derived.Test.YtefagcpmadpefaaQFnExactPickx12
import Derived.Test.YtefagcpmadpefaaStatFnExactPick
set_option linter.unusedVariables false
set_option linter.unusedSimpArgs false
namespace Go.Proofs.Ytefagcpmadpefaa.QFnExactPick
open Go.RowKit Go.Proofs.YtefagcpmadpefaaW.PrintWords Go.Proofs.Ytefagcpmadpefaa.Opn Go.Proofs.Ytefagcpmadpefaa.Pl

def inB (n a b : Int) : Bool := decide (a ≤ n) && decide (n ≤ b)
theorem inB_iff (n a b : Int) : inB n a b = true ↔ a ≤ n ∧ n ≤ b := by simp [inB]
theorem specIn (n a b : Int) : spec_l2In.f n a b = some (inB n a b) := by
  unfold spec_l2In.f inB
  by_cases h : n ≥ a
  · rw [if_pos h, decide_eq_true (show a ≤ n from h), Bool.true_and]
  · rw [if_neg h, decide_eq_false (show ¬ a ≤ n from h), Bool.false_and]
theorem implIn (n a b : Int) : impl_in.f n a b = some (inB n a b) := by
  unfold impl_in.f inB
  by_cases h : n ≥ a
  · rw [if_pos h, decide_eq_true (show a ≤ n from h), Bool.true_and]
  · rw [if_neg h, decide_eq_false (show ¬ a ≤ n from h), Bool.false_and]

theorem up_ind {P : Nat → Prop} (n : Nat) (hend : P n) (hstep : ∀ i, i < n → P (i + 1) → P i) : ∀ i, i ≤ n → P i := by
  have key : ∀ d i, i + d = n → P i := by
    intro d
    induction d with
    | zero => intro i hi; rw [show i = n by omega]; exact hend
    | succ d ih => intro i hi; exact hstep i (by omega) (ih (i + 1) (by omega))
  intro i hi
  exact key (n - i) i (by omega)

/-- a, a + 1, .. : n numbers -/
def rng (a : Int) (n : Nat) : List Int := (List.range n).map (fun i : Nat => a + (i : Int))
theorem rng_len (a : Int) (n : Nat) : (rng a n).length = n := by simp [rng]
theorem rng_get (a : Int) (n i : Nat) (h : i < (rng a n).length) : (rng a n)[i] = a + (i : Int) := by simp [rng]
theorem mark_ev (l : List Int) (hl : l.length ≤ 1048576) (a : Int) (h0 : 0 ≤ a) (h1 : a ≤ 1000000000000) : Ev (fun k => laws_markInt64S.f k l a) (a + (l.length : Int), rng a l.length) := by
  unfold laws_markInt64S.f
  have key := Ev_up (fun k i => laws_markInt64S.l0 k ((rng a l.length).take i ++ l.drop i) (a + (i : Int)) (i : Int)) (fun _ => (a + (l.length : Int), rng a l.length)) l.length (by
      refine Ev.step (f := fun _ => some (a + (l.length : Int), rng a l.length)) (fun k => ?_) (Ev.now _)
      simp only [laws_markInt64S.l0]
      rw [if_neg (by simp [rng_len])]
      rw [List.take_of_length_le (by rw [rng_len]; exact Nat.le_refl _), List.drop_length, List.append_nil]) (by
      intro i hi ih
      refine Ev.step (fun k => ?_) ih
      simp only [laws_markInt64S.l0]
      rw [if_pos (by simp [rng_len]; omega), if_pos (by omega), w64 (n := (i : Int) + 1) (by omega) (by omega), w64 (n := a + (i : Int) + 1) (by omega) (by omega), Int.toNat_natCast]
      have e := set_take_drop l (rng a l.length) i (by rw [rng_len]; exact hi) (by rw [rng_len])
      rw [rng_get] at e
      rw [e, show a + (i : Int) + 1 = a + ((i + 1 : Nat) : Int) by omega]
      rfl) 0 (Nat.zero_le _)
  simpa using key

theorem eqInts_ev (l : List Int) (hl : l.length ≤ 1048576) : Ev (fun k => laws_eqInt64S.f k l l) true := by
  unfold laws_eqInt64S.f
  simp only [if_true]
  have key := Ev_up (fun k i => laws_eqInt64S.l0 k l l (i : Int)) (fun _ => true) l.length (by
      refine Ev.step (f := fun _ => some true) (fun k => ?_) (Ev.now _)
      simp only [laws_eqInt64S.l0]
      rw [if_neg (by omega)]) (by
      intro i hi ih
      refine Ev.step (fun k => ?_) ih
      simp only [laws_eqInt64S.l0]
      rw [if_pos (by omega), if_pos (by omega), if_pos (by omega), if_pos True.intro, w64 (n := (i : Int) + 1) (by omega) (by omega)]
      rfl) 0 (Nat.zero_le _)
  exact key

/-- Some answer of a kind. -/
def Tells {α : Type} (g : Nat → Option α) (P : α → Prop) : Prop := ∃ r, Ev g r ∧ P r
theorem Tells.now {α : Type} {P : α → Prop} (r : α) (h : P r) : Tells (fun _ => some r) P := ⟨r, Ev.now r, h⟩
theorem Tells.step {α : Type} {g f : Nat → Option α} {P : α → Prop} (h : ∀ k, g (k + 1) = f k) (t : Tells f P) : Tells g P := by
  obtain ⟨r, hr, hp⟩ := t
  exact ⟨r, Ev.step h hr, hp⟩
theorem Tells.bind {α β : Type} {g : Nat → Option α} {f : Nat → α → Option β} {P : α → Prop} {Q : β → Prop} (t : Tells g P) (h : ∀ r, P r → Tells (fun k => f k r) Q) : Tells (fun k => (g k).bind (f k)) Q := by
  obtain ⟨r, hr, hp⟩ := t
  obtain ⟨s, hs, hq⟩ := h r hp
  exact ⟨s, Ev_bind r hr hs, hq⟩

theorem rd40 (l : List S40) (i : Nat) (h : i < l.length) : rd_T40 l (i : Int) = l[i] := getD_lt l z40 i h
theorem rd44 (l : List S44) (i : Nat) (h : i < l.length) : rd_T44 l (i : Int) = l[i] := getD_lt l z44 i h
theorem rdB (l : List ByteArray) (i : Nat) (h : i < l.length) : rdOf ByteArray.empty l (i : Int) = l[i] := getD_lt l ByteArray.empty i h

/-- an entry of the law's, as one of the program's -/
def cv (e : S40) : S44 := ⟨e.f0, e.f1, e.f2, e.f3, e.f4⟩
theorem toE_ev (l : List S40) (hl : l.length ≤ 1048576) : Ev (fun k => laws_toEntryS.f k l) (l.map cv) := by
  unfold laws_toEntryS.f
  simp only [if_pos (show 0 ≤ (l.length : Int) by omega), Int.toNat_natCast, if_pos (show l.length ≤ 5864062014805 by omega)]
  have key := Ev_up (fun k i => laws_toEntryS.l0 k l ((l.map cv).take i ++ (List.replicate l.length z44).drop i) (i : Int)) (fun _ => l.map cv) l.length (by
      refine Ev.step (f := fun _ => some (l.map cv)) (fun k => ?_) (Ev.now _)
      simp only [laws_toEntryS.l0]
      rw [if_neg (by omega), List.take_of_length_le (by rw [List.length_map]; exact Nat.le_refl _), List.drop_of_length_le (by rw [List.length_replicate]; exact Nat.le_refl _), List.append_nil]) (by
      intro i hi ih
      refine Ev.step (fun k => ?_) ih
      have e := set_take_drop (List.replicate l.length z44) (l.map cv) i (by rw [List.length_map]; exact hi) (by rw [List.length_map, List.length_replicate])
      rw [List.getElem_map] at e
      simp only [laws_toEntryS.l0, laws_toEntry.f, Option.bind_some]
      rw [if_pos (by omega), if_pos (by omega), if_pos (by rw [List.length_append, List.length_take, List.length_drop, List.length_map, List.length_replicate]; omega), rd40 l i hi, w64 (n := (i : Int) + 1) (by omega) (by omega), Int.toNat_natCast]
      rw [← e]
      rfl) 0 (Nat.zero_le _)
  simpa using key

theorem eqE_ev (l : List S44) (hl : l.length ≤ 1048576) : Ev (fun k => laws_eqEntryS.f k l l) true := by
  unfold laws_eqEntryS.f
  simp only [if_true]
  have key := Ev_up (fun k i => laws_eqEntryS.l0 k l l (i : Int)) (fun _ => true) l.length (by
      refine Ev.step (f := fun _ => some true) (fun k => ?_) (Ev.now _)
      simp only [laws_eqEntryS.l0]
      rw [if_neg (by omega)]) (by
      intro i hi ih
      refine Ev.step (fun k => ?_) ih
      simp only [laws_eqEntryS.l0, laws_eqEntry.f, if_true, Option.bind_some]
      rw [if_pos (by omega), if_pos (by omega), if_pos (by omega), w64 (n := (i : Int) + 1) (by omega) (by omega)]
      rfl) 0 (Nat.zero_le _)
  exact key

theorem str1 (x : Int) : (strOfNums [x]).size = 1 := rfl
theorem text_ev (n : Int) (h0 : 0 ≤ n) (h1 : n ≤ 1000000000000) : Tells (fun k => laws_markText.f k n) (fun _ => True) := by
  unfold laws_markText.f
  by_cases c : n ≤ 0
  · simp only [if_pos c]; exact Tells.now _ trivial
  simp only [if_neg c]
  have key : ∀ (m x : Nat) (s : ByteArray), x ≤ m → (s.size : Int) + (x : Int) ≤ 1000000000000 → Tells (fun k => laws_markText.l0 k (x : Int) s) (fun _ => True) := by
    intro m
    induction m with
    | zero =>
      intro x s hx hs
      refine Tells.step (f := fun _ => some ((⟨#[109]⟩ : ByteArray) ++ s)) (fun k => ?_) (Tells.now _ trivial)
      simp only [laws_markText.l0]
      rw [if_neg (by omega), if_pos (by omega)]
    | succ m ih =>
      intro x s hx hs
      by_cases cx : 0 < x
      · have hd : Int.tdiv (x : Int) 10 = ((x / 10 : Nat) : Int) := by rw [Int.tdiv_eq_ediv_of_nonneg (by omega)]; rfl
        refine Tells.step (fun k => ?_) (ih (x / 10) ((strOfNums [(wrap64 (48 + (Int.tmod (x : Int) 10))) % 256]) ++ s) (by omega) (by rw [ByteArray.size_append, str1]; omega))
        simp only [laws_markText.l0, Option.bind_some]
        rw [if_pos (by omega), if_pos (by rw [str1]; omega), hd, w64 (by omega) (by omega)]
      · refine Tells.step (f := fun _ => some ((⟨#[109]⟩ : ByteArray) ++ s)) (fun k => ?_) (Tells.now _ trivial)
        simp only [laws_markText.l0]
        rw [if_neg (by omega), if_pos (by omega)]
  obtain ⟨m, rfl⟩ : ∃ m : Nat, n = (m : Int) := ⟨n.toNat, by omega⟩
  exact key m m _ (Nat.le_refl _) (by show ((0 : Nat) : Int) + (m : Int) ≤ 1000000000000; omega)

/-- a name: of small letters -/
def parF (s : ByteArray) : Nat → Nat → Bool
  | 0, _ => inB (s.size : Int) 1 4
  | d + 1, i => if bt s (i : Int) < 97 then false else if bt s (i : Int) > 122 then false else parF s d (i + 1)
theorem specPar_ev (s : ByteArray) (hs : s.size ≤ 9223372036854775807) : Ev (fun k => spec_l25ParamOk.f k s) (parF s s.size 0) := by
  unfold spec_l25ParamOk.f
  have key : ∀ d i : Nat, i + d = s.size → Ev (fun k => spec_l25ParamOk.l0 k s (i : Int)) (parF s d i) := by
    intro d
    induction d with
    | zero =>
      intro i hi
      refine Ev.step (f := fun _ => some (inB (s.size : Int) 1 4)) (fun k => ?_) (Ev.now _)
      simp only [spec_l25ParamOk.l0]
      rw [if_neg (by omega)]
      unfold inB
      by_cases c : (s.size : Int) ≥ 1
      · rw [if_pos c, decide_eq_true (show (1 : Int) ≤ s.size from c), Bool.true_and]
      · rw [if_neg c, decide_eq_false (show ¬ (1 : Int) ≤ s.size from c), Bool.false_and]
    | succ d ih =>
      intro i hi
      simp only [parF]
      by_cases c1 : bt s (i : Int) < 97
      · rw [if_pos c1]
        refine Ev.step (f := fun _ => some false) (fun k => ?_) (Ev.now _)
        simp only [spec_l25ParamOk.l0]
        rw [if_pos (by omega), if_pos (by omega), if_pos c1]
      rw [if_neg c1]
      by_cases c2 : bt s (i : Int) > 122
      · rw [if_pos c2]
        refine Ev.step (f := fun _ => some false) (fun k => ?_) (Ev.now _)
        simp only [spec_l25ParamOk.l0]
        rw [if_pos (by omega), if_pos (by omega), if_neg c1, if_pos c2]
      rw [if_neg c2]
      refine Ev.step (fun k => ?_) (ih (i + 1) (by omega))
      simp only [spec_l25ParamOk.l0]
      rw [if_pos (by omega), if_pos (by omega), if_neg c1, if_neg c2, w64 (n := (i : Int) + 1) (by omega) (by omega)]
      rfl
  exact key s.size 0 (by omega)
theorem implPar_ev (s : ByteArray) (hs : s.size ≤ 9223372036854775807) : Ev (fun k => impl_paramOk.f k s) (parF s s.size 0) := by
  unfold impl_paramOk.f
  have key : ∀ d i : Nat, i + d = s.size → Ev (fun k => impl_paramOk.l0 k s (i : Int)) (parF s d i) := by
    intro d
    induction d with
    | zero =>
      intro i hi
      refine Ev.step (f := fun _ => some (inB (s.size : Int) 1 4)) (fun k => ?_) (Ev.now _)
      simp only [impl_paramOk.l0, implIn, Option.bind_some]
      rw [if_neg (by omega)]
    | succ d ih =>
      intro i hi
      simp only [parF]
      by_cases c1 : bt s (i : Int) < 97
      · rw [if_pos c1]
        refine Ev.step (f := fun _ => some false) (fun k => ?_) (Ev.now _)
        simp only [impl_paramOk.l0]
        rw [if_pos (by omega), if_pos (by omega), if_pos c1]
      rw [if_neg c1]
      by_cases c2 : bt s (i : Int) > 122
      · rw [if_pos c2]
        refine Ev.step (f := fun _ => some false) (fun k => ?_) (Ev.now _)
        simp only [impl_paramOk.l0]
        rw [if_pos (by omega), if_pos (by omega), if_neg c1, if_pos c2]
      rw [if_neg c2]
      refine Ev.step (fun k => ?_) (ih (i + 1) (by omega))
      simp only [impl_paramOk.l0]
      rw [if_pos (by omega), if_pos (by omega), if_neg c1, if_neg c2, w64 (n := (i : Int) + 1) (by omega) (by omega)]
      rfl
  exact key s.size 0 (by omega)

/-- an entry that fits -/
def entB (e : S44) : Bool := parF e.f0 e.f0.size 0 && (inB e.f1 0 52596000 && (inB e.f2 0 360 && (inB e.f3 0 1100 && inB e.f4 0 1000000000)))
theorem specTime (n : Int) : spec_l2Time.f n = some (inB n 0 52596000) := by
  unfold spec_l2Time.f inB
  by_cases h : n ≥ 0
  · rw [if_pos h, decide_eq_true (show 0 ≤ n from h), Bool.true_and]
  · rw [if_neg h, decide_eq_false (show ¬ 0 ≤ n from h), Bool.false_and]
theorem specEnt_ev (e : S44) (hs : e.f0.size ≤ 9223372036854775807) : Ev (fun k => spec_l25EntryOk.f k e.f0 e.f1 e.f2 e.f3 e.f4) (entB e) := by
  unfold spec_l25EntryOk.f entB
  refine Ev_bind _ (specPar_ev e.f0 hs) ?_
  cases parF e.f0 e.f0.size 0 with
  | false => simpa using Ev.now false
  | true =>
    simp only [if_true, specTime, specIn, Option.bind_some, Bool.true_and]
    cases inB e.f1 0 52596000 with
    | false => simpa using Ev.now false
    | true =>
      simp only [if_true, Bool.true_and]
      cases inB e.f2 0 360 with
      | false => simpa using Ev.now false
      | true =>
        simp only [if_true, Bool.true_and]
        cases inB e.f3 0 1100 with
        | false => simpa using Ev.now false
        | true => simp only [if_true, Bool.true_and]; exact Ev.now _
theorem implEnt_ev (e : S44) (hs : e.f0.size ≤ 9223372036854775807) : Ev (fun k => impl_entryOk.f k e.f0 e.f1 e.f2 e.f3 e.f4) (entB e) := by
  unfold impl_entryOk.f entB impl_isTime.f
  refine Ev_bind _ (implPar_ev e.f0 hs) ?_
  cases parF e.f0 e.f0.size 0 with
  | false => simpa using Ev.now false
  | true =>
    simp only [if_true, implIn, Option.bind_some, Bool.true_and]
    cases inB e.f1 0 52596000 with
    | false => simpa using Ev.now false
    | true =>
      simp only [if_true, Bool.true_and]
      cases inB e.f2 0 360 with
      | false => simpa using Ev.now false
      | true =>
        simp only [if_true, Bool.true_and]
        cases inB e.f3 0 1100 with
        | false => simpa using Ev.now false
        | true => simp only [if_true, Bool.true_and]; exact Ev.now _

/-! ## the comparison of two entries -/
theorem u8_ne {a b : UInt8} (h : a < b) : a ≠ b := by rintro rfl; exact absurd h (by simp)
theorem cb_eq : ∀ x y : List UInt8, (Lib.compareBytes x y = 0 ↔ x = y) ∧ (Lib.compareBytes x y < 0 ↔ Op.bytesLess x y = true)
  | [], [] => by simp [Lib.compareBytes, Op.bytesLess]
  | [], _ :: _ => by simp [Lib.compareBytes, Op.bytesLess]
  | _ :: _, [] => by simp [Lib.compareBytes, Op.bytesLess]
  | a :: x, b :: y => by
    have ih := cb_eq x y
    simp only [Lib.compareBytes, Op.bytesLess]
    by_cases h1 : a < b
    · have := u8_ne h1
      simp [h1, this]
    · by_cases h2 : b < a
      · have h3 := (u8_ne h2).symm
        simp [h1, h2, h3]
      · have h3 : a = b := UInt8.le_antisymm (UInt8.not_lt.mp h2) (UInt8.not_lt.mp h1)
        subst h3
        simp [h1, ih.1, ih.2]

/-- which of two entries comes ahead -/
def aheadB (a b : S44) : Bool := if a.f0.toList = b.f0.toList then (if a.f1 = b.f1 then (if a.f2 = b.f2 then decide (a.f3 < b.f3) else decide (a.f2 < b.f2)) else decide (a.f1 < b.f1)) else Op.bytesLess a.f0.toList b.f0.toList
theorem specAhead (a b : S44) : spec_l25Ahead.f a.f0 a.f1 a.f2 a.f3 a.f4 b.f0 b.f1 b.f2 b.f3 b.f4 = some (aheadB a b) := by
  unfold spec_l25Ahead.f aheadB
  split
  · split
    · split <;> rfl
    · rfl
  · rfl

theorem key_ev (a b : S44) : Tells (fun k => impl_keyCompare.f k a.f0 a.f1 a.f2 a.f3 a.f4 b.f0 b.f1 b.f2 b.f3 b.f4) (fun c => decide (c ≥ 0) = !aheadB a b) := by
  unfold impl_keyCompare.f strings_Compare.f
  have hc := cb_eq a.f0.toList b.f0.toList
  rw [Lib.toList_data, Lib.toList_data] at hc
  simp only [Option.bind_some]
  unfold aheadB
  rw [Lib.toList_data, Lib.toList_data]
  by_cases c0 : Lib.compareBytes a.f0.data.toList b.f0.data.toList = 0
  · have e0 := hc.1.mp c0
    simp only [if_pos c0, if_pos e0]
    by_cases c1 : a.f1 = b.f1
    · rw [if_pos c1]
      by_cases c2 : a.f2 = b.f2
      · rw [if_pos c2]
        by_cases c3 : a.f3 < b.f3
        · refine ⟨-1, ⟨3, fun k hk => ?_⟩, by simp [c3]⟩
          obtain ⟨k, rfl⟩ : ∃ m, k = m + 1 + 1 + 1 := ⟨k - 3, by omega⟩
          simp [impl_keyCompare.l0, rd_T83, wrap64, c1, c2, c3]
        · by_cases c4 : b.f3 < a.f3
          · refine ⟨1, ⟨3, fun k hk => ?_⟩, by simp [c3]⟩
            obtain ⟨k, rfl⟩ : ∃ m, k = m + 1 + 1 + 1 := ⟨k - 3, by omega⟩
            simp [impl_keyCompare.l0, rd_T83, wrap64, c1, c2, c3, c4]
          · refine ⟨0, ⟨4, fun k hk => ?_⟩, by simp [c3]⟩
            obtain ⟨k, rfl⟩ : ∃ m, k = m + 1 + 1 + 1 + 1 := ⟨k - 4, by omega⟩
            simp [impl_keyCompare.l0, rd_T83, wrap64, c1, c2, c3, c4]
      · rw [if_neg c2]
        by_cases c3 : a.f2 < b.f2
        · refine ⟨-1, ⟨2, fun k hk => ?_⟩, by simp [c3]⟩
          obtain ⟨k, rfl⟩ : ∃ m, k = m + 1 + 1 := ⟨k - 2, by omega⟩
          simp [impl_keyCompare.l0, rd_T83, wrap64, c1, c3]
        · refine ⟨1, ⟨2, fun k hk => ?_⟩, by simp [c3]⟩
          obtain ⟨k, rfl⟩ : ∃ m, k = m + 1 + 1 := ⟨k - 2, by omega⟩
          have c4 : b.f2 < a.f2 := by omega
          simp [impl_keyCompare.l0, rd_T83, wrap64, c1, c3, c4]
    · rw [if_neg c1]
      by_cases c3 : a.f1 < b.f1
      · refine ⟨-1, ⟨1, fun k hk => ?_⟩, by simp [c3]⟩
        obtain ⟨k, rfl⟩ : ∃ m, k = m + 1 := ⟨k - 1, by omega⟩
        simp [impl_keyCompare.l0, rd_T83, wrap64, c3]
      · refine ⟨1, ⟨1, fun k hk => ?_⟩, by simp [c3]⟩
        obtain ⟨k, rfl⟩ : ∃ m, k = m + 1 := ⟨k - 1, by omega⟩
        have c4 : b.f1 < a.f1 := by omega
        simp [impl_keyCompare.l0, rd_T83, wrap64, c3, c4]
  · have e0 : ¬ a.f0.data.toList = b.f0.data.toList := fun h => c0 (hc.1.mpr h)
    simp only [if_neg c0, if_neg e0]
    refine Tells.now _ ?_
    by_cases c1 : Lib.compareBytes a.f0.data.toList b.f0.data.toList < 0
    · rw [hc.2.mp c1]
      simpa using c1
    · have c2 : Op.bytesLess a.f0.data.toList b.f0.data.toList = false := by
        cases h : Op.bytesLess a.f0.data.toList b.f0.data.toList with
        | false => rfl
        | true => exact absurd (hc.2.mpr h) c1
      rw [c2]
      simpa using c1

/-! ## an archive that fits -/
def okF (l : List S44) : Nat → Nat → Bool
  | 0, _ => true
  | d + 1, i => entB (rd_T44 l (i : Int)) && ((decide (i = 0) || aheadB (rd_T44 l ((i : Int) - 1)) (rd_T44 l (i : Int))) && okF l d (i + 1))
section
variable {l : List S44}
theorem specOk_ev (hl : l.length ≤ 300) (hs : ∀ e ∈ l, e.f0.size ≤ 9223372036854775807) : ∀ d i : Nat, i + d = l.length → Ev (fun k => spec_l25Ok.l0 k l (i : Int)) (okF l d i) := by
  intro d
  induction d with
  | zero =>
    intro i hi
    refine Ev.step (f := fun _ => some true) (fun k => ?_) (Ev.now _)
    simp only [spec_l25Ok.l0]
    rw [if_neg (by omega)]
  | succ d ih =>
    intro i hi
    have w1 : wrap64 ((i : Int) + 1) = ((i + 1 : Nat) : Int) := w64 (by omega) (by omega)
    have w0 : wrap64 ((i : Int) - 1) = (i : Int) - 1 := w64 (by omega) (by omega)
    have he := specEnt_ev (rd_T44 l (i : Int)) (by rw [rd44 l i (by omega)]; exact hs _ (List.getElem_mem _))
    apply Ev.step
    · intro k
      simp only [spec_l25Ok.l0]
      rw [if_pos (by omega), if_pos (by omega)]
    refine Ev_bind _ he ?_
    simp only [okF]
    cases entB (rd_T44 l (i : Int)) with
    | false => simpa using Ev.now false
    | true =>
      simp only [if_true, Bool.true_and]
      have e := ih (i + 1) (by omega)
      by_cases c : i = 0
      · simp only [if_neg (show ¬ ((i : Int) > 0) by omega), w1, decide_eq_true c, Bool.true_or, Bool.true_and]
        exact e
      · simp only [if_pos (show (i : Int) > 0 by omega), w0, if_pos (show 0 ≤ (i : Int) - 1 by omega), if_pos (show (i : Int) - 1 < (l.length : Int) by omega), specAhead, Option.bind_some, decide_eq_false c, Bool.false_or]
        cases aheadB (rd_T44 l ((i : Int) - 1)) (rd_T44 l (i : Int)) with
        | false => simpa using Ev.now false
        | true => simp only [if_true, Bool.true_and, w1]; exact e
theorem implOk_ev (hl : l.length ≤ 300) (hs : ∀ e ∈ l, e.f0.size ≤ 9223372036854775807) : ∀ d i : Nat, i + d = l.length → Ev (fun k => impl_archiveOk.l0 k l l (l.length : Int) (i : Int)) (okF l d i) := by
  intro d
  induction d with
  | zero =>
    intro i hi
    refine Ev.step (f := fun _ => some true) (fun k => ?_) (Ev.now _)
    simp only [impl_archiveOk.l0]
    rw [if_neg (by omega)]
  | succ d ih =>
    intro i hi
    have w1 : wrap64 ((i : Int) + 1) = ((i + 1 : Nat) : Int) := w64 (by omega) (by omega)
    have w0 : wrap64 ((i : Int) - 1) = (i : Int) - 1 := w64 (by omega) (by omega)
    have he := implEnt_ev (rd_T44 l (i : Int)) (by rw [rd44 l i (by omega)]; exact hs _ (List.getElem_mem _))
    apply Ev.step
    · intro k
      simp only [impl_archiveOk.l0]
      rw [if_pos (by omega), if_pos (by omega), if_pos (by omega)]
    refine Ev_bind _ he ?_
    simp only [okF]
    cases entB (rd_T44 l (i : Int)) with
    | false => simpa using Ev.now false
    | true =>
      simp only [if_true, Bool.true_and]
      have e := ih (i + 1) (by omega)
      by_cases c : i = 0
      · simp only [if_neg (show ¬ ((i : Int) > 0) by omega), w1, decide_eq_true c, Bool.true_or, Bool.true_and]
        exact e
      · simp only [if_pos (show (i : Int) > 0 by omega), w0, if_pos (show 0 ≤ (i : Int) - 1 by omega), if_pos (show (i : Int) - 1 < (l.length : Int) by omega), decide_eq_false c, Bool.false_or]
        obtain ⟨r, hr, hp⟩ := key_ev (rd_T44 l ((i : Int) - 1)) (rd_T44 l (i : Int))
        refine Ev_bind _ hr ?_
        cases h : aheadB (rd_T44 l ((i : Int) - 1)) (rd_T44 l (i : Int)) with
        | false =>
          rw [h] at hp
          have hp2 : r ≥ 0 := of_decide_eq_true hp
          simp only [if_pos hp2, Bool.false_and]
          exact Ev.now false
        | true =>
          rw [h] at hp
          have hp2 : ¬ r ≥ 0 := of_decide_eq_false hp
          simp only [if_neg hp2, Bool.true_and, w1]
          exact e
/-- an archive that fits -/
def okB (l : List S44) : Bool := decide ((l.length : Int) ≤ 300) && okF l l.length 0
theorem specArch_ev (hs : ∀ e ∈ l, e.f0.size ≤ 9223372036854775807) : Ev (fun k => spec_l25Ok.f k l) (okB l) := by
  unfold spec_l25Ok.f okB
  by_cases c : (l.length : Int) > 300
  · simp only [if_pos c, decide_eq_false (show ¬ (l.length : Int) ≤ 300 by omega), Bool.false_and]; exact Ev.now _
  · simp only [if_neg c, decide_eq_true (show (l.length : Int) ≤ 300 by omega), Bool.true_and]
    exact specOk_ev (by omega) hs l.length 0 (by omega)
theorem implArch_ev (hs : ∀ e ∈ l, e.f0.size ≤ 9223372036854775807) : Ev (fun k => impl_archiveOk.f k l) (okB l) := by
  unfold impl_archiveOk.f okB
  by_cases c : (l.length : Int) > 300
  · simp only [if_pos c, decide_eq_false (show ¬ (l.length : Int) ≤ 300 by omega), Bool.false_and]; exact Ev.now _
  · simp only [if_neg c, decide_eq_true (show (l.length : Int) ≤ 300 by omega), Bool.true_and]
    exact implOk_ev (by omega) hs l.length 0 (by omega)
end

/-! ## numbers that rise -/
def inF (l : List Int) (lo up : Int) : Nat → Nat → Bool
  | 0, _ => true
  | d + 1, i => inB (rd l (i : Int)) lo up && inF l lo up d (i + 1)
def upF (l : List Int) : Nat → Nat → Bool
  | 0, _ => true
  | d + 1, i => (decide (i = 0) || decide (rd l ((i : Int) - 1) < rd l (i : Int))) && upF l d (i + 1)
/-- at most forty numbers of a range that rise -/
def riseB (l : List Int) (lo up : Int) : Bool := decide ((l.length : Int) ≤ 40) && (inF l lo up l.length 0 && upF l l.length 0)
theorem specRise_ev (l : List Int) (lo up : Int) : Ev (fun k => spec_l25Rises.f k l lo up) (riseB l lo up) := by
  unfold spec_l25Rises.f riseB
  by_cases c : (l.length : Int) > 40
  · simp only [if_pos c, decide_eq_false (show ¬ (l.length : Int) ≤ 40 by omega), Bool.false_and]; exact Ev.now _
  simp only [if_neg c, decide_eq_true (show (l.length : Int) ≤ 40 by omega), Bool.true_and]
  have key : ∀ d i : Nat, i + d = l.length → Ev (fun k => spec_l25Rises.l0 k l lo up (i : Int)) (inF l lo up d i && upF l d i) := by
    intro d
    induction d with
    | zero =>
      intro i hi
      refine Ev.step (f := fun _ => some true) (fun k => ?_) (Ev.now _)
      simp only [spec_l25Rises.l0]
      rw [if_neg (by omega)]
    | succ d ih =>
      intro i hi
      have w1 : wrap64 ((i : Int) + 1) = ((i + 1 : Nat) : Int) := w64 (by omega) (by omega)
      have w0 : wrap64 ((i : Int) - 1) = (i : Int) - 1 := w64 (by omega) (by omega)
      have e := ih (i + 1) (by omega)
      simp only [inF, upF]
      apply Ev.step
      · intro k
        simp only [spec_l25Rises.l0, specIn, Option.bind_some]
        rw [if_pos (by omega), if_pos (by omega)]
      cases inB (rd l (i : Int)) lo up with
      | false => simpa using Ev.now false
      | true =>
        simp only [if_true, Bool.true_and]
        by_cases c : i = 0
        · simp only [if_neg (show ¬ ((i : Int) > 0) by omega), w1, decide_eq_true c, Bool.true_or, Bool.true_and]
          exact e
        · simp only [if_pos (show (i : Int) > 0 by omega), w0, if_pos (show 0 ≤ (i : Int) - 1 by omega), if_pos (show (i : Int) - 1 < (l.length : Int) by omega), decide_eq_false c, Bool.false_or]
          by_cases c2 : rd l (i : Int) ≤ rd l ((i : Int) - 1)
          · simp only [if_pos c2, decide_eq_false (show ¬ rd l ((i : Int) - 1) < rd l (i : Int) by omega), Bool.false_and, Bool.and_false]
            exact Ev.now false
          · simp only [if_neg c2, decide_eq_true (show rd l ((i : Int) - 1) < rd l (i : Int) by omega), Bool.true_and, w1]
            exact e
  exact key l.length 0 (by omega)
theorem implRise_ev (l : List Int) (lo up : Int) : Ev (fun k => impl_risesIn.f k l lo up) (riseB l lo up) := by
  have bad : Ev (fun k => impl_risesIn.j0 k l true) false :=
    Ev.step (f := fun _ => some false) (fun k => by simp only [impl_risesIn.j0]; rfl) (Ev.now _)
  unfold impl_risesIn.f riseB
  by_cases c : (l.length : Int) > 40
  · simp only [if_pos c, decide_eq_false (show ¬ (l.length : Int) ≤ 40 by omega), Bool.false_and]; exact bad
  simp only [if_neg c, decide_eq_true (show (l.length : Int) ≤ 40 by omega), Bool.true_and]
  have each : Ev (fun k => impl_each.f k l (l.length : Int) lo up) (inF l lo up l.length 0) := by
    unfold impl_each.f
    simp only [if_true]
    have key : ∀ d i : Nat, i + d = l.length → Ev (fun k => impl_each.l0 k lo up l (l.length : Int) (i : Int)) (inF l lo up d i) := by
      intro d
      induction d with
      | zero =>
        intro i hi
        refine Ev.step (f := fun _ => some true) (fun k => ?_) (Ev.now _)
        simp only [impl_each.l0]
        rw [if_neg (by omega)]
      | succ d ih =>
        intro i hi
        have w1 : wrap64 ((i : Int) + 1) = ((i + 1 : Nat) : Int) := w64 (by omega) (by omega)
        have e := ih (i + 1) (by omega)
        simp only [inF]
        apply Ev.step
        · intro k
          simp only [impl_each.l0, implIn, Option.bind_some]
          rw [if_pos (by omega), if_pos (by omega), if_pos (by omega)]
        cases inB (rd l (i : Int)) lo up with
        | false => simpa using Ev.now false
        | true => simp only [if_true, Bool.true_and, w1]; exact e
    exact key l.length 0 (by omega)
  have rise : ∀ d i : Nat, i + d = l.length → 1 ≤ i → Ev (fun k => impl_risesIn.l0 k l (i : Int)) (upF l d i) := by
    intro d
    induction d with
    | zero =>
      intro i hi _
      refine Ev.step (f := fun _ => some true) (fun k => ?_) (Ev.now _)
      simp only [impl_risesIn.l0]
      rw [if_neg (by omega)]
    | succ d ih =>
      intro i hi h1
      have w1 : wrap64 ((i : Int) + 1) = ((i + 1 : Nat) : Int) := w64 (by omega) (by omega)
      have w0 : wrap64 ((i : Int) - 1) = (i : Int) - 1 := w64 (by omega) (by omega)
      have e := ih (i + 1) (by omega) (by omega)
      simp only [upF, decide_eq_false (show ¬ i = 0 by omega), Bool.false_or]
      by_cases c2 : rd l ((i : Int) - 1) ≥ rd l (i : Int)
      · rw [decide_eq_false (show ¬ rd l ((i : Int) - 1) < rd l (i : Int) by omega), Bool.false_and]
        refine Ev.step (f := fun _ => some false) (fun k => ?_) (Ev.now _)
        simp only [impl_risesIn.l0]
        rw [w0, if_pos (by omega), if_pos (by omega), if_pos (by omega), if_pos (by omega), if_pos c2]
      · rw [decide_eq_true (show rd l ((i : Int) - 1) < rd l (i : Int) by omega), Bool.true_and]
        refine Ev.step (fun k => ?_) e
        simp only [impl_risesIn.l0]
        rw [w0, if_pos (by omega), if_pos (by omega), if_pos (by omega), if_pos (by omega), if_neg c2, w1]
  refine Ev_bind _ each ?_
  cases inF l lo up l.length 0 with
  | false => exact bad
  | true =>
    simp only [Bool.not_true, Bool.true_and]
    have hu : upF l l.length 0 = upF l (l.length - 1) 1 := by
      cases h : l.length with
      | zero => rfl
      | succ n => simp [upF]
    rw [hu]
    refine Ev.step (f := fun k => impl_risesIn.l0 k l 1) (fun k => by simp only [impl_risesIn.j0]; rfl) ?_
    by_cases c0 : l.length = 0
    · rw [c0]
      refine Ev.step (f := fun _ => some true) (fun k => ?_) (Ev.now _)
      simp only [impl_risesIn.l0]
      rw [if_neg (by omega)]
    · exact rise (l.length - 1) 1 (by omega) (by omega)

/-! ## a request that fits -/
def nameF (ns : List ByteArray) : Nat → Nat → Bool
  | 0, _ => true
  | d + 1, i => parF (rdOf ByteArray.empty ns (i : Int)) (rdOf ByteArray.empty ns (i : Int)).size 0 && ((decide (i = 0) || Op.bytesLess (rdOf ByteArray.empty ns ((i : Int) - 1)).toList (rdOf ByteArray.empty ns (i : Int)).toList) && nameF ns d (i + 1))
/-- a request that fits -/
def reqB (ns : List ByteArray) (t h p : List Int) : Bool := decide ((ns.length : Int) ≤ 40) && (nameF ns ns.length 0 && (riseB t 0 52596000 && (riseB h 0 360 && riseB p 0 1100)))
theorem specReq_ev (ns : List ByteArray) (t h p : List Int) (hs : ∀ e ∈ ns, e.size ≤ 9223372036854775807) : Ev (fun k => spec_l25RequestOk.f k ns t h p) (reqB ns t h p) := by
  unfold spec_l25RequestOk.f reqB
  by_cases c : (ns.length : Int) > 40
  · simp only [if_pos c, decide_eq_false (show ¬ (ns.length : Int) ≤ 40 by omega), Bool.false_and]; exact Ev.now _
  simp only [if_neg c, decide_eq_true (show (ns.length : Int) ≤ 40 by omega), Bool.true_and]
  have key : ∀ d i : Nat, i + d = ns.length → Ev (fun k => spec_l25RequestOk.l0 k (i : Int) ns t h p) (nameF ns d i && (riseB t 0 52596000 && (riseB h 0 360 && riseB p 0 1100))) := by
    intro d
    induction d with
    | zero =>
      intro i hi
      simp only [nameF, Bool.true_and]
      apply Ev.step
      · intro k
        simp only [spec_l25RequestOk.l0]
        rw [if_neg (by omega)]
      refine Ev_bind _ (specRise_ev t 0 52596000) ?_
      cases riseB t 0 52596000 with
      | false => simpa using Ev.now false
      | true =>
        simp only [if_true, Bool.true_and]
        refine Ev_bind _ (specRise_ev h 0 360) ?_
        cases riseB h 0 360 with
        | false => simpa using Ev.now false
        | true =>
          simp only [if_true, Bool.true_and]
          exact Ev_bind _ (specRise_ev p 0 1100) (Ev.now _)
    | succ d ih =>
      intro i hi
      have w1 : wrap64 ((i : Int) + 1) = ((i + 1 : Nat) : Int) := w64 (by omega) (by omega)
      have w0 : wrap64 ((i : Int) - 1) = (i : Int) - 1 := w64 (by omega) (by omega)
      have e := ih (i + 1) (by omega)
      simp only [nameF]
      apply Ev.step
      · intro k
        simp only [spec_l25RequestOk.l0]
        rw [if_pos (by omega), if_pos (by omega)]
      refine Ev_bind _ (specPar_ev (rdOf ByteArray.empty ns (i : Int)) (by rw [rdB ns i (by omega)]; exact hs _ (List.getElem_mem _))) ?_
      cases parF (rdOf ByteArray.empty ns (i : Int)) (rdOf ByteArray.empty ns (i : Int)).size 0 with
      | false => simpa using Ev.now false
      | true =>
        simp only [if_true, Bool.true_and]
        by_cases c : i = 0
        · simp only [if_neg (show ¬ ((i : Int) > 0) by omega), w1, decide_eq_true c, Bool.true_or, Bool.true_and]
          exact e
        · simp only [if_pos (show (i : Int) > 0 by omega), w0, if_pos (show 0 ≤ (i : Int) - 1 by omega), if_pos (show (i : Int) - 1 < (ns.length : Int) by omega), decide_eq_false c, Bool.false_or]
          cases Op.bytesLess (rdOf ByteArray.empty ns ((i : Int) - 1)).toList (rdOf ByteArray.empty ns (i : Int)).toList with
          | false => simpa using Ev.now false
          | true => simp only [if_true, Bool.true_and, w1]; exact e
  exact key ns.length 0 (by omega)
theorem implReq_ev (ns : List ByteArray) (t h p : List Int) (hs : ∀ e ∈ ns, e.size ≤ 9223372036854775807) : Ev (fun k => impl_requestOk.f k ns t h p) (reqB ns t h p) := by
  unfold impl_requestOk.f reqB
  by_cases c : (ns.length : Int) > 40
  · simp only [if_pos c, decide_eq_false (show ¬ (ns.length : Int) ≤ 40 by omega), Bool.false_and]; exact Ev.now _
  simp only [if_neg c, decide_eq_true (show (ns.length : Int) ≤ 40 by omega), Bool.true_and]
  have key : ∀ d i : Nat, i + d = ns.length → Ev (fun k => impl_requestOk.l0 k ns (ns.length : Int) (i : Int) ns t h p) (nameF ns d i && (riseB t 0 52596000 && (riseB h 0 360 && riseB p 0 1100))) := by
    intro d
    induction d with
    | zero =>
      intro i hi
      simp only [nameF, Bool.true_and]
      apply Ev.step
      · intro k
        simp only [impl_requestOk.l0]
        rw [if_neg (by omega)]
      refine Ev_bind _ (implRise_ev t 0 52596000) ?_
      cases riseB t 0 52596000 with
      | false => simpa using Ev.now false
      | true =>
        simp only [if_true, Bool.true_and]
        refine Ev_bind _ (implRise_ev h 0 360) ?_
        cases riseB h 0 360 with
        | false => simpa using Ev.now false
        | true =>
          simp only [if_true, Bool.true_and]
          exact Ev_bind _ (implRise_ev p 0 1100) (Ev.now _)
    | succ d ih =>
      intro i hi
      have w1 : wrap64 ((i : Int) + 1) = ((i + 1 : Nat) : Int) := w64 (by omega) (by omega)
      have w0 : wrap64 ((i : Int) - 1) = (i : Int) - 1 := w64 (by omega) (by omega)
      have e := ih (i + 1) (by omega)
      simp only [nameF]
      apply Ev.step
      · intro k
        simp only [impl_requestOk.l0]
        rw [if_pos (by omega), if_pos (by omega), if_pos (by omega)]
      refine Ev_bind _ (implPar_ev (rdOf ByteArray.empty ns (i : Int)) (by rw [rdB ns i (by omega)]; exact hs _ (List.getElem_mem _))) ?_
      cases parF (rdOf ByteArray.empty ns (i : Int)) (rdOf ByteArray.empty ns (i : Int)).size 0 with
      | false => simpa using Ev.now false
      | true =>
        simp only [if_true, Bool.true_and]
        by_cases c : i = 0
        · simp only [if_neg (show ¬ ((i : Int) > 0) by omega), w1, decide_eq_true c, Bool.true_or, Bool.true_and]
          exact e
        · simp only [if_pos (show (i : Int) > 0 by omega), w0, if_pos (show 0 ≤ (i : Int) - 1 by omega), if_pos (show (i : Int) - 1 < (ns.length : Int) by omega), decide_eq_false c, Bool.false_or]
          cases Op.bytesLess (rdOf ByteArray.empty ns ((i : Int) - 1)).toList (rdOf ByteArray.empty ns (i : Int)).toList with
          | false => simpa using Ev.now false
          | true => simp only [if_true, Bool.true_and, w1]; exact e
  exact key ns.length 0 (by omega)

/-! ## what a request asks for -/
def anyF (l : List Int) (a : Int) : Nat → Nat → Bool
  | 0, _ => false
  | d + 1, i => if rd l (i : Int) = a then true else anyF l a d (i + 1)
def hasB (l : List Int) (a : Int) : Bool := anyF l a l.length 0 || ((l.length : Int) == 0)
theorem specHas_ev (l : List Int) (hl : l.length ≤ 1048576) (a : Int) : Ev (fun k => spec_l25Has.f k l a) (hasB l a) := by
  unfold spec_l25Has.f hasB
  have key : ∀ d i : Nat, i + d = l.length → Ev (fun k => spec_l25Has.l0 k l a (i : Int)) (anyF l a d i || ((l.length : Int) == 0)) := by
    intro d
    induction d with
    | zero =>
      intro i hi
      simp only [anyF, Bool.false_or]
      refine Ev.step (f := fun _ => some ((l.length : Int) == 0)) (fun k => ?_) (Ev.now _)
      simp only [spec_l25Has.l0]
      rw [if_neg (by omega)]
    | succ d ih =>
      intro i hi
      have w1 : wrap64 ((i : Int) + 1) = ((i + 1 : Nat) : Int) := w64 (by omega) (by omega)
      simp only [anyF]
      by_cases c : rd l (i : Int) = a
      · rw [if_pos c, Bool.true_or]
        refine Ev.step (f := fun _ => some true) (fun k => ?_) (Ev.now _)
        simp only [spec_l25Has.l0]
        rw [if_pos (by omega), if_pos (by omega), if_pos c]
      · rw [if_neg c]
        refine Ev.step (fun k => ?_) (ih (i + 1) (by omega))
        simp only [spec_l25Has.l0]
        rw [if_pos (by omega), if_pos (by omega), if_neg c, w1]
  exact key l.length 0 (by omega)
theorem implHas_ev (l : List Int) (hl : l.length ≤ 1048576) (a : Int) : Ev (fun k => impl_Pick_1.f k l a) (hasB l a) := by
  unfold impl_Pick_1.f hasB
  by_cases c0 : (l.length : Int) = 0
  · simp only [if_pos c0, beq_iff_eq.mpr c0, Bool.or_true]; exact Ev.now _
  simp only [if_neg c0, beq_eq_false_iff_ne.mpr c0, Bool.or_false]
  unfold slices_Contains_int64_int64.f slices_Index_int64_int64.f
  have key : ∀ d i : Nat, i + d = l.length → Tells (fun k => slices_Index_int64_int64.l0 k l a (l.length : Int) (i : Int)) (fun r => decide (r ≥ 0) = anyF l a d i) := by
    intro d
    induction d with
    | zero =>
      intro i hi
      refine Tells.step (f := fun _ => some (-1)) (fun k => ?_) (Tells.now _ (by simp [anyF]))
      simp only [slices_Index_int64_int64.l0]
      rw [if_neg (by omega)]
    | succ d ih =>
      intro i hi
      have w1 : wrap64 ((i : Int) + 1) = ((i + 1 : Nat) : Int) := w64 (by omega) (by omega)
      simp only [anyF]
      by_cases c : rd l (i : Int) = a
      · rw [if_pos c]
        refine Tells.step (f := fun _ => some (i : Int)) (fun k => ?_) (Tells.now _ (by simp))
        simp only [slices_Index_int64_int64.l0]
        rw [if_pos (by omega), if_pos (by omega), if_pos (by omega), if_pos c.symm]
      · rw [if_neg c]
        refine Tells.step (fun k => ?_) (ih (i + 1) (by omega))
        simp only [slices_Index_int64_int64.l0]
        rw [if_pos (by omega), if_pos (by omega), if_pos (by omega), if_neg (fun h => c h.symm), w1]
  obtain ⟨r, hr, hp⟩ := key l.length 0 (by omega)
  rw [← hp]
  exact Ev_bind _ (Ev_bind _ hr (Ev.now _)) (Ev.now _)
def anyN (ns : List ByteArray) (s : ByteArray) : Nat → Nat → Bool
  | 0, _ => false
  | d + 1, i => if (rdOf ByteArray.empty ns (i : Int)).toList = s.toList then true else anyN ns s d (i + 1)
def nmB (ns : List ByteArray) (s : ByteArray) : Bool := ((ns.length : Int) == 0) || anyN ns s ns.length 0
theorem implNm_ev (ns : List ByteArray) (hl : ns.length ≤ 1048576) (s : ByteArray) : Ev (fun k => slices_Contains_string_string.f k ns s) (anyN ns s ns.length 0) := by
  unfold slices_Contains_string_string.f slices_Index_string_string.f
  have key : ∀ d i : Nat, i + d = ns.length → Tells (fun k => slices_Index_string_string.l0 k ns s (ns.length : Int) (i : Int)) (fun r => decide (r ≥ 0) = anyN ns s d i) := by
    intro d
    induction d with
    | zero =>
      intro i hi
      refine Tells.step (f := fun _ => some (-1)) (fun k => ?_) (Tells.now _ (by simp [anyN]))
      simp only [slices_Index_string_string.l0]
      rw [if_neg (by omega)]
    | succ d ih =>
      intro i hi
      have w1 : wrap64 ((i : Int) + 1) = ((i + 1 : Nat) : Int) := w64 (by omega) (by omega)
      simp only [anyN]
      by_cases c : (rdOf ByteArray.empty ns (i : Int)).toList = s.toList
      · rw [if_pos c]
        refine Tells.step (f := fun _ => some (i : Int)) (fun k => ?_) (Tells.now _ (by simp))
        simp only [slices_Index_string_string.l0]
        rw [if_pos (by omega), if_pos (by omega), if_pos (by omega), if_pos c.symm]
      · rw [if_neg c]
        refine Tells.step (fun k => ?_) (ih (i + 1) (by omega))
        simp only [slices_Index_string_string.l0]
        rw [if_pos (by omega), if_pos (by omega), if_pos (by omega), if_neg (fun h => c h.symm), w1]
  obtain ⟨r, hr, hp⟩ := key ns.length 0 (by omega)
  rw [← hp]
  exact Ev_bind _ hr (Ev.now _)

/-- an entry that is asked for -/
def keepB (ns : List ByteArray) (t h p : List Int) (e : S44) : Bool := nmB ns e.f0 && (hasB t e.f1 && (hasB h e.f2 && hasB p e.f3))
section
variable {l : List S44} {ns : List ByteArray} {t h p : List Int}
theorem specTail_ev {R : List S44} (ht : t.length ≤ 1048576) (hh : h.length ≤ 1048576) (hp : p.length ≤ 1048576) (e : S44) (out : List S44) (i : Nat) (b : Bool) (ho : out.length ≤ 300) (hi : i ≤ 300)
    (hR : Ev (fun k => spec_Pick.l0 k l (out ++ cond (b && (hasB t e.f1 && (hasB h e.f2 && hasB p e.f3))) [e] []) ((i + 1 : Nat) : Int) ns t h p) R) :
    Ev (fun k => spec_Pick.l1 k l out (i : Int) b (ns.length : Int) ns t h p e.f0 e.f1 e.f2 e.f3 e.f4) R := by
  have w1 : wrap64 ((i : Int) + 1) = ((i + 1 : Nat) : Int) := w64 (by omega) (by omega)
  apply Ev.step
  · intro k
    simp only [spec_Pick.l1]
    rw [if_neg (by omega), w1]
  cases b with
  | false => simpa using hR
  | true =>
    simp only [if_true, Bool.true_and] at hR ⊢
    refine Ev_bind _ (specHas_ev t ht e.f1) ?_
    cases q0 : hasB t e.f1 with
    | false => simpa [q0] using hR
    | true =>
      simp only [q0, if_true, Bool.true_and] at hR ⊢
      refine Ev_bind _ (specHas_ev h hh e.f2) ?_
      cases q1 : hasB h e.f2 with
      | false => simpa [q1] using hR
      | true =>
        simp only [q1, if_true, Bool.true_and] at hR ⊢
        refine Ev_bind _ (specHas_ev p hp e.f3) ?_
        cases q2 : hasB p e.f3 with
        | false => simpa [q2] using hR
        | true =>
          simp only [if_true, if_pos (show out.length < 2932031007402 by omega)]
          rw [q2] at hR; exact hR
theorem specOne_ev {R : List S44} (hn : ns.length ≤ 1048576) (ht : t.length ≤ 1048576) (hh : h.length ≤ 1048576) (hp : p.length ≤ 1048576) (e : S44) (out : List S44) (i : Nat) (ho : out.length ≤ 300) (hi : i ≤ 300) : ∀ (d j : Nat) (b : Bool), j + d = ns.length →
    Ev (fun k => spec_Pick.l0 k l (out ++ cond ((b || anyN ns e.f0 d j) && (hasB t e.f1 && (hasB h e.f2 && hasB p e.f3))) [e] []) ((i + 1 : Nat) : Int) ns t h p) R →
    Ev (fun k => spec_Pick.l1 k l out (i : Int) b (j : Int) ns t h p e.f0 e.f1 e.f2 e.f3 e.f4) R := by
  intro d
  induction d with
  | zero =>
    intro j b hj hR
    obtain rfl : j = ns.length := by omega
    simp only [anyN, Bool.or_false] at hR
    exact specTail_ev ht hh hp e out i b ho hi hR
  | succ d ih =>
    intro j b hj hR
    have w1 : wrap64 ((j : Int) + 1) = ((j + 1 : Nat) : Int) := w64 (by omega) (by omega)
    simp only [anyN] at hR
    cases b with
    | true =>
      refine Ev.step (fun k => ?_) (ih (j + 1) true (by omega) (by simpa using hR))
      simp only [spec_Pick.l1]
      rw [if_pos (by omega), if_pos True.intro, w1]
    | false =>
      by_cases c : (rdOf ByteArray.empty ns (j : Int)).toList = e.f0.toList
      · rw [if_pos c] at hR
        refine Ev.step (fun k => ?_) (ih (j + 1) true (by omega) (by simpa using hR))
        simp only [spec_Pick.l1]
        rw [if_pos (by omega), if_neg (by simp), if_pos (by omega), w1, beq_iff_eq.mpr c]
      · rw [if_neg c] at hR
        refine Ev.step (fun k => ?_) (ih (j + 1) false (by omega) hR)
        simp only [spec_Pick.l1]
        rw [if_pos (by omega), if_neg (by simp), if_pos (by omega), w1, beq_eq_false_iff_ne.mpr c]
theorem specRun_ev (hl : l.length ≤ 300) (hn : ns.length ≤ 1048576) (ht : t.length ≤ 1048576) (hh : h.length ≤ 1048576) (hp : p.length ≤ 1048576) : ∀ i : Nat, i ≤ l.length → ∀ out : List S44, out.length ≤ i →
    Ev (fun k => spec_Pick.l0 k l out (i : Int) ns t h p) (out ++ (l.drop i).filter (keepB ns t h p)) := by
  refine up_ind (P := fun i => ∀ out : List S44, out.length ≤ i → Ev (fun k => spec_Pick.l0 k l out (i : Int) ns t h p) (out ++ (l.drop i).filter (keepB ns t h p))) l.length ?_ ?_
  · intro out _
    rw [List.drop_length]
    simp only [List.filter_nil, List.append_nil]
    refine Ev.step (f := fun _ => some out) (fun k => ?_) (Ev.now _)
    simp only [spec_Pick.l0]
    rw [if_neg (by omega)]
  · intro i hi ih out ho
    apply Ev.step
    · intro k
      simp only [spec_Pick.l0]
      rw [if_pos (by omega), if_pos (by omega), rd44 l i hi]
    refine specOne_ev hn ht hh hp l[i] out i (by omega) (by omega) ns.length 0 _ (by omega) ?_
    have e := ih (out ++ cond (keepB ns t h p l[i]) [l[i]] []) (by rw [List.length_append]; cases keepB ns t h p l[i] <;> simp <;> omega)
    rw [List.append_assoc] at e
    rw [List.drop_eq_getElem_cons hi, List.filter_cons]
    have e2 : cond (keepB ns t h p l[i]) [l[i]] [] ++ (l.drop (i + 1)).filter (keepB ns t h p) = if keepB ns t h p l[i] = true then l[i] :: (l.drop (i + 1)).filter (keepB ns t h p) else (l.drop (i + 1)).filter (keepB ns t h p) := by
      cases keepB ns t h p l[i] <;> rfl
    rw [e2] at e
    exact e
theorem implKeep_ev {R : List S44} (hl : l.length ≤ 300) (ht : t.length ≤ 1048576) (hh : h.length ≤ 1048576) (hp : p.length ≤ 1048576) (e : S44) (out : List S44) (i : Nat) (ho : out.length ≤ 300)
    (hR : Ev (fun k => impl_Pick.l0 k (out ++ cond (hasB t e.f1 && (hasB h e.f2 && hasB p e.f3)) [e] []) l (l.length : Int) ((i + 1 : Nat) : Int) ns t h p) R) :
    Ev (fun k => (impl_Pick_1.f k t e.f1).bind fun t235 => (if t235 = true then ((impl_Pick_1.f k h e.f2).bind fun t236 => (if t236 = true then ((impl_Pick_1.f k p e.f3).bind fun t237 => (if t237 = true then (if out.length < 2932031007402 then (impl_Pick.l0 k (out ++ [(⟨e.f0, e.f1, e.f2, e.f3, e.f4⟩ : S44)]) l (l.length : Int) ((i + 1 : Nat) : Int) ns t h p) else (none)) else (impl_Pick.l0 k out l (l.length : Int) ((i + 1 : Nat) : Int) ns t h p))) else (impl_Pick.l0 k out l (l.length : Int) ((i + 1 : Nat) : Int) ns t h p))) else (impl_Pick.l0 k out l (l.length : Int) ((i + 1 : Nat) : Int) ns t h p))) R := by
  refine Ev_bind _ (implHas_ev t ht e.f1) ?_
  cases q0 : hasB t e.f1 with
  | false => simpa [q0] using hR
  | true =>
    simp only [q0, if_true, Bool.true_and] at hR ⊢
    refine Ev_bind _ (implHas_ev h hh e.f2) ?_
    cases q1 : hasB h e.f2 with
    | false => simpa [q1] using hR
    | true =>
      simp only [q1, if_true, Bool.true_and] at hR ⊢
      refine Ev_bind _ (implHas_ev p hp e.f3) ?_
      cases q2 : hasB p e.f3 with
      | false => simpa [q2] using hR
      | true =>
        simp only [if_true, if_pos (show out.length < 2932031007402 by omega)]
        rw [q2] at hR; exact hR
theorem implRun_ev (hl : l.length ≤ 300) (hn : ns.length ≤ 1048576) (ht : t.length ≤ 1048576) (hh : h.length ≤ 1048576) (hp : p.length ≤ 1048576) : ∀ i : Nat, i ≤ l.length → ∀ out : List S44, out.length ≤ i →
    Ev (fun k => impl_Pick.l0 k out l (l.length : Int) (i : Int) ns t h p) (out ++ (l.drop i).filter (keepB ns t h p)) := by
  refine up_ind (P := fun i => ∀ out : List S44, out.length ≤ i → Ev (fun k => impl_Pick.l0 k out l (l.length : Int) (i : Int) ns t h p) (out ++ (l.drop i).filter (keepB ns t h p))) l.length ?_ ?_
  · intro out _
    rw [List.drop_length]
    simp only [List.filter_nil, List.append_nil]
    refine Ev.step (f := fun _ => some out) (fun k => ?_) (Ev.now _)
    simp only [impl_Pick.l0]
    rw [if_neg (by omega)]
  · intro i hi ih out ho
    have w1 : wrap64 ((i : Int) + 1) = ((i + 1 : Nat) : Int) := w64 (by omega) (by omega)
    have e := ih (out ++ cond (keepB ns t h p l[i]) [l[i]] []) (by rw [List.length_append]; cases keepB ns t h p l[i] <;> simp <;> omega)
    rw [List.append_assoc] at e
    rw [List.drop_eq_getElem_cons hi, List.filter_cons]
    have e2 : cond (keepB ns t h p l[i]) [l[i]] [] ++ (l.drop (i + 1)).filter (keepB ns t h p) = if keepB ns t h p l[i] = true then l[i] :: (l.drop (i + 1)).filter (keepB ns t h p) else (l.drop (i + 1)).filter (keepB ns t h p) := by
      cases keepB ns t h p l[i] <;> rfl
    rw [e2] at e
    generalize (if keepB ns t h p l[i] = true then l[i] :: (l.drop (i + 1)).filter (keepB ns t h p) else (l.drop (i + 1)).filter (keepB ns t h p)) = Z at e ⊢
    unfold keepB nmB at e
    by_cases c : (ns.length : Int) = 0
    · simp only [beq_iff_eq.mpr c, Bool.true_or, Bool.true_and] at e
      apply Ev.step
      · intro k
        simp only [impl_Pick.l0]
        rw [if_pos (by omega), if_pos (by omega), if_pos (by omega), if_pos c, w1, rd44 l i hi]
      exact implKeep_ev hl ht hh hp l[i] out i (by omega) e
    · simp only [beq_eq_false_iff_ne.mpr c, Bool.false_or] at e
      apply Ev.step
      · intro k
        simp only [impl_Pick.l0]
        rw [if_pos (by omega), if_pos (by omega), if_pos (by omega), if_neg c, w1, rd44 l i hi]
      refine Ev_bind _ (implNm_ev ns hn l[i].f0) ?_
      cases q : anyN ns l[i].f0 ns.length 0 with
      | false => simpa [q] using e
      | true =>
        simp only [q, if_true, Bool.true_and] at e ⊢
        exact implKeep_ev hl ht hh hp l[i] out i (by omega) e

/-- what Pick tells -/
def pickR (l : List S44) (ns : List ByteArray) (t h p : List Int) : List S44 := cond (okB l && reqB ns t h p) (l.filter (keepB ns t h p)) []
theorem pickR_len (l : List S44) (ns : List ByteArray) (t h p : List Int) : (pickR l ns t h p).length ≤ l.length := by
  unfold pickR
  cases (okB l && reqB ns t h p) with
  | true => exact List.length_filter_le _ _
  | false => simp
theorem specPick_ev (hs : ∀ e ∈ l, e.f0.size ≤ 9223372036854775807) (hsn : ∀ e ∈ ns, e.size ≤ 9223372036854775807) (hn : ns.length ≤ 1048576) (ht : t.length ≤ 1048576) (hh : h.length ≤ 1048576) (hp : p.length ≤ 1048576) : Ev (fun k => spec_Pick.f k l ns t h p) (pickR l ns t h p) := by
  have bad : Ev (fun k => spec_Pick.j0 k l [] true ns t h p) [] :=
    Ev.step (f := fun _ => some []) (fun k => by simp only [spec_Pick.j0]; rfl) (Ev.now _)
  unfold spec_Pick.f pickR
  simp only [Option.bind_some]
  refine Ev_bind _ (specArch_ev hs) ?_
  cases ha : okB l with
  | false => simpa using bad
  | true =>
    simp only [if_true, Bool.true_and]
    refine Ev_bind _ (specReq_ev ns t h p hsn) ?_
    cases reqB ns t h p with
    | false => exact bad
    | true =>
      simp only [Bool.not_true, cond_true]
      have hl : l.length ≤ 300 := by
        unfold okB at ha
        have := of_decide_eq_true (Bool.and_eq_true_iff.mp ha).1
        omega
      refine Ev.step (f := fun k => spec_Pick.l0 k l [] 0 ns t h p) (fun k => by simp only [spec_Pick.j0]; rfl) ?_
      have := specRun_ev hl hn ht hh hp 0 (Nat.zero_le _) [] (Nat.zero_le _)
      simpa using this
theorem implPick_ev (hs : ∀ e ∈ l, e.f0.size ≤ 9223372036854775807) (hsn : ∀ e ∈ ns, e.size ≤ 9223372036854775807) (hn : ns.length ≤ 1048576) (ht : t.length ≤ 1048576) (hh : h.length ≤ 1048576) (hp : p.length ≤ 1048576) : Ev (fun k => impl_Pick.f k l ns t h p) (pickR l ns t h p) := by
  have bad : Ev (fun k => impl_Pick.j0 k l true ns t h p) [] :=
    Ev.step (f := fun _ => some []) (fun k => by simp only [impl_Pick.j0]; rfl) (Ev.now _)
  unfold impl_Pick.f pickR
  refine Ev_bind _ (implArch_ev hs) ?_
  cases ha : okB l with
  | false => simpa using bad
  | true =>
    simp only [if_true, Bool.true_and]
    refine Ev_bind _ (implReq_ev ns t h p hsn) ?_
    cases reqB ns t h p with
    | false => exact bad
    | true =>
      simp only [Bool.not_true, cond_true]
      have hl : l.length ≤ 300 := by
        unfold okB at ha
        have := of_decide_eq_true (Bool.and_eq_true_iff.mp ha).1
        omega
      refine Ev.step (f := fun k => impl_Pick.l0 k [] l (l.length : Int) 0 ns t h p) (fun k => by simp only [impl_Pick.j0]; rfl) ?_
      have := implRun_ev hl hn ht hh hp 0 (Nat.zero_le _) [] (Nat.zero_le _)
      simpa using this
end

/-! ## the law's own helpers -/
theorem szE_ev (l : List S40) (hl : WfL wfT40 l) : Tells (fun k => laws_szEntryS.f k l 1048576) (fun t => t < 0 ∨ (l.length ≤ 1048576 ∧ t ≤ 1048576)) := by
  have hlen : l.length ≤ 9223372036854775807 := hl.1
  unfold laws_szEntryS.f
  rw [w64 (n := 1048576 - (l.length : Int)) (by omega) (by omega)]
  by_cases c : 1048576 - (l.length : Int) < 0
  · simp only [if_pos c]; exact Tells.now _ (.inl (by decide))
  simp only [if_neg c]
  have key := up_ind (P := fun i => ∀ x : Int, 0 ≤ x → x ≤ 1048576 → Tells (fun k => laws_szEntryS.l0 k l x (i : Int)) (fun t => t < 0 ∨ (l.length ≤ 1048576 ∧ t ≤ 1048576))) l.length (by
      intro x h0 h1
      refine Tells.step (f := fun _ => some x) (fun k => ?_) (Tells.now _ (.inr (by omega)))
      simp only [laws_szEntryS.l0]
      rw [if_neg (by omega)]) (by
      intro i hi ih x h0 h1
      have hw := wfL_get hl i hi
      have hs : l[i].f0.size ≤ 9223372036854775807 := hw.1
      have e : laws_szEntry.f l[i].f0 l[i].f1 l[i].f2 l[i].f3 l[i].f4 x = some (if x - (l[i].f0.size : Int) < 0 then -1 else x - (l[i].f0.size : Int)) := by
        unfold laws_szEntry.f
        rw [w64 (n := x - (l[i].f0.size : Int)) (by omega) (by omega)]
        split <;> rfl
      by_cases c2 : x - (l[i].f0.size : Int) < 0
      · rw [if_pos c2] at e
        refine Tells.step (f := fun _ => some (-1)) (fun k => ?_) (Tells.now _ (.inl (by decide)))
        simp only [laws_szEntryS.l0]
        rw [if_pos (by omega), if_pos (by omega), rd40 l i hi, e]
        rfl
      · rw [if_neg c2] at e
        refine Tells.step (fun k => ?_) (ih (x - (l[i].f0.size : Int)) (by omega) (by omega))
        simp only [laws_szEntryS.l0]
        rw [if_pos (by omega), if_pos (by omega), rd40 l i hi, e, w64 (n := (i : Int) + 1) (by omega) (by omega)]
        simp only [Option.bind_some]
        rw [if_neg c2]
        rfl) 0 (Nat.zero_le _)
  exact key _ (by omega) (by omega)
theorem szS_ev (l : List ByteArray) (hn : l.length ≤ 9223372036854775807) (hs : ∀ e ∈ l, e.size ≤ 9223372036854775807) (a : Int) (h0 : 0 ≤ a) (h1 : a ≤ 1048576) : Tells (fun k => laws_szStringS.f k l a) (fun t => t < 0 ∨ (l.length ≤ 1048576 ∧ t ≤ 1048576)) := by
  unfold laws_szStringS.f
  rw [w64 (n := a - (l.length : Int)) (by omega) (by omega)]
  by_cases c : a - (l.length : Int) < 0
  · simp only [if_pos c]; exact Tells.now _ (.inl (by decide))
  simp only [if_neg c]
  have key := up_ind (P := fun i => ∀ x : Int, 0 ≤ x → x ≤ 1048576 → Tells (fun k => laws_szStringS.l0 k l x (i : Int)) (fun t => t < 0 ∨ (l.length ≤ 1048576 ∧ t ≤ 1048576))) l.length (by
      intro x h0 h1
      refine Tells.step (f := fun _ => some x) (fun k => ?_) (Tells.now _ (.inr (by omega)))
      simp only [laws_szStringS.l0]
      rw [if_neg (by omega)]) (by
      intro i hi ih x h0 h1
      have hw := hs _ (List.getElem_mem hi)
      have ew : wrap64 (x - (l[i].size : Int)) = x - (l[i].size : Int) := w64 (by omega) (by omega)
      by_cases c2 : x - (l[i].size : Int) < 0
      · refine Tells.step (f := fun _ => some (-1)) (fun k => ?_) (Tells.now _ (.inl (by decide)))
        simp only [laws_szStringS.l0]
        rw [if_pos (by omega), if_pos (by omega), rdB l i hi, ew, if_pos c2]
      · refine Tells.step (fun k => ?_) (ih (x - (l[i].size : Int)) (by omega) (by omega))
        simp only [laws_szStringS.l0]
        rw [if_pos (by omega), if_pos (by omega), rdB l i hi, ew, if_neg c2, w64 (n := (i : Int) + 1) (by omega) (by omega)]
        rfl) 0 (Nat.zero_le _)
  exact key _ (by omega) (by omega)
theorem szI_eq (l : List Int) (hn : l.length ≤ 9223372036854775807) (a : Int) (h0 : 0 ≤ a) (h1 : a ≤ 1048576) : laws_szInt64S.f l a = some (if a - (l.length : Int) < 0 then -1 else a - (l.length : Int)) := by
  unfold laws_szInt64S.f
  rw [w64 (n := a - (l.length : Int)) (by omega) (by omega)]
  split <;> rfl
theorem szR_ev (ns : List ByteArray) (t h p : List Int) (hn : ns.length ≤ 9223372036854775807) (hs : ∀ e ∈ ns, e.size ≤ 9223372036854775807) (ht : t.length ≤ 9223372036854775807) (hh : h.length ≤ 9223372036854775807) (hp : p.length ≤ 9223372036854775807) (a : Int) (h0 : 0 ≤ a) (h1 : a ≤ 1048576) :
    Tells (fun k => laws_szRequest.f k ns t h p a) (fun r => r < 0 ∨ (ns.length ≤ 1048576 ∧ t.length ≤ 1048576 ∧ h.length ≤ 1048576 ∧ p.length ≤ 1048576)) := by
  unfold laws_szRequest.f
  refine Tells.bind (szS_ev ns hn hs a h0 h1) (fun r hr => ?_)
  by_cases c : r < 0
  · simp only [if_pos c]; exact Tells.now _ (.inl (by decide))
  simp only [if_neg c]
  obtain ⟨n1, r1⟩ := hr.resolve_left c
  rw [szI_eq t ht r (by omega) r1]
  simp only [Option.bind_some]
  by_cases c1 : r - (t.length : Int) < 0
  · simp only [if_pos c1, if_pos (show (-1 : Int) < 0 by decide)]; exact Tells.now _ (.inl (by decide))
  simp only [if_neg c1]
  rw [szI_eq h hh _ (by omega) (by omega)]
  simp only [Option.bind_some]
  by_cases c2 : r - (t.length : Int) - (h.length : Int) < 0
  · simp only [if_pos c2, if_pos (show (-1 : Int) < 0 by decide)]; exact Tells.now _ (.inl (by decide))
  simp only [if_neg c2]
  rw [szI_eq p hp _ (by omega) (by omega)]
  simp only [Option.bind_some]
  by_cases c3 : r - (t.length : Int) - (h.length : Int) - (p.length : Int) < 0
  · simp only [if_pos c3, if_pos (show (-1 : Int) < 0 by decide)]; exact Tells.now _ (.inl (by decide))
  simp only [if_neg c3]
  exact Tells.now _ (.inr (by omega))

theorem toS_ev (l : List ByteArray) (hl : l.length ≤ 1048576) : Ev (fun k => laws_toStringS.f k l) l := by
  unfold laws_toStringS.f
  simp only [if_pos (show 0 ≤ (l.length : Int) by omega), Int.toNat_natCast, if_pos (show l.length ≤ 17592186044416 by omega)]
  have key := Ev_up (fun k i => laws_toStringS.l0 k l (l.take i ++ (List.replicate l.length (⟨#[]⟩ : ByteArray)).drop i) (i : Int)) (fun _ => l) l.length (by
      refine Ev.step (f := fun _ => some l) (fun k => ?_) (Ev.now _)
      simp only [laws_toStringS.l0]
      rw [if_neg (by omega), List.take_of_length_le (Nat.le_refl _), List.drop_of_length_le (by rw [List.length_replicate]; exact Nat.le_refl _), List.append_nil]) (by
      intro i hi ih
      refine Ev.step (fun k => ?_) ih
      have e := set_take_drop (List.replicate l.length (⟨#[]⟩ : ByteArray)) l i hi (by rw [List.length_replicate])
      simp only [laws_toStringS.l0]
      rw [if_pos (by omega), if_pos (by omega), if_pos (by rw [List.length_append, List.length_take, List.length_drop, List.length_replicate]; omega), rdB l i hi, w64 (n := (i : Int) + 1) (by omega) (by omega), Int.toNat_natCast]
      rw [← e]
      rfl) 0 (Nat.zero_le _)
  simpa using key
theorem toI_ev (l : List Int) (hl : l.length ≤ 1048576) : Ev (fun k => laws_toInt64S.f k l) l := by
  unfold laws_toInt64S.f
  simp only [if_pos (show 0 ≤ (l.length : Int) by omega), Int.toNat_natCast, if_pos (show l.length ≤ 35184372088832 by omega)]
  have key := Ev_up (fun k i => laws_toInt64S.l0 k l (l.take i ++ (List.replicate l.length (0 : Int)).drop i) (i : Int)) (fun _ => l) l.length (by
      refine Ev.step (f := fun _ => some l) (fun k => ?_) (Ev.now _)
      simp only [laws_toInt64S.l0]
      rw [if_neg (by omega), List.take_of_length_le (Nat.le_refl _), List.drop_of_length_le (by rw [List.length_replicate]; exact Nat.le_refl _), List.append_nil]) (by
      intro i hi ih
      refine Ev.step (fun k => ?_) ih
      have e := set_take_drop (List.replicate l.length (0 : Int)) l i hi (by rw [List.length_replicate])
      simp only [laws_toInt64S.l0]
      rw [if_pos (by omega), if_pos (by omega), if_pos (by rw [List.length_append, List.length_take, List.length_drop, List.length_replicate]; omega), rd_lt l i hi, w64 (n := (i : Int) + 1) (by omega) (by omega), Int.toNat_natCast]
      rw [← e]
      rfl) 0 (Nat.zero_le _)
  simpa using key
theorem toR_ev (ns : List ByteArray) (t h p : List Int) (hn : ns.length ≤ 1048576) (ht : t.length ≤ 1048576) (hh : h.length ≤ 1048576) (hp : p.length ≤ 1048576) : Ev (fun k => laws_toRequest.f k ns t h p) (ns, t, h, p) := by
  unfold laws_toRequest.f
  exact Ev_bind _ (toS_ev ns hn) (Ev_bind _ (toI_ev t ht) (Ev_bind _ (toI_ev h hh) (Ev_bind _ (toI_ev p hp) (Ev.now _))))
theorem eqS_ev (l : List ByteArray) (hl : l.length ≤ 1048576) : Ev (fun k => laws_eqStringS.f k l l) true := by
  unfold laws_eqStringS.f
  simp only [if_true]
  have key := Ev_up (fun k i => laws_eqStringS.l0 k l l (i : Int)) (fun _ => true) l.length (by
      refine Ev.step (f := fun _ => some true) (fun k => ?_) (Ev.now _)
      simp only [laws_eqStringS.l0]
      rw [if_neg (by omega)]) (by
      intro i hi ih
      refine Ev.step (fun k => ?_) ih
      simp only [laws_eqStringS.l0]
      rw [if_pos (by omega), if_pos (by omega), if_pos (by omega), if_pos True.intro, w64 (n := (i : Int) + 1) (by omega) (by omega)]
      rfl) 0 (Nat.zero_le _)
  exact key
theorem eqR_ev (ns : List ByteArray) (t h p : List Int) (hn : ns.length ≤ 1048576) (ht : t.length ≤ 1048576) (hh : h.length ≤ 1048576) (hp : p.length ≤ 1048576) : Ev (fun k => laws_eqRequest.f k ns t h p ns t h p) true := by
  unfold laws_eqRequest.f
  refine Ev_bind _ (eqS_ev ns hn) ?_
  simp only [if_true]
  refine Ev_bind _ (eqInts_ev t ht) ?_
  simp only [if_true]
  refine Ev_bind _ (eqInts_ev h hh) ?_
  simp only [if_true]
  refine Ev_bind _ (eqInts_ev p hp) ?_
  simp only [if_true]
  exact Ev.now _

/-- the text of a mark -/
noncomputable def txt (n : Int) : ByteArray := open Classical in if h : ∃ r, Ev (fun k => laws_markText.f k n) r then h.choose else ByteArray.empty
theorem txt_ev (n : Int) (h0 : 0 ≤ n) (h1 : n ≤ 1000000000000) : Ev (fun k => laws_markText.f k n) (txt n) := by
  obtain ⟨r, hr, _⟩ := text_ev n h0 h1
  have h : ∃ r, Ev (fun k => laws_markText.f k n) r := ⟨r, hr⟩
  unfold txt
  rw [dif_pos h]
  exact h.choose_spec
/-- a marked entry, marked entries -/
noncomputable def mkE (a : Int) : S44 := ⟨txt a, a + 1, a + 2, a + 3, a + 4⟩
noncomputable def mkL (n : Nat) : List S44 := (List.range n).map (fun i : Nat => mkE (1 + 5 * (i : Int)))
theorem mkL_len (n : Nat) : (mkL n).length = n := by simp [mkL]
theorem mkL_get (n i : Nat) (h : i < (mkL n).length) : (mkL n)[i] = mkE (1 + 5 * (i : Int)) := by simp [mkL]
theorem rd_set (l : List S44) (i : Nat) (h : i < l.length) (v : S44) : rd_T44 (l.set i v) (i : Int) = v := by
  rw [rd44 _ i (by rw [List.length_set]; exact h), List.getElem_set_self]
theorem markE_ev (l : List S44) (hl : l.length ≤ 1048576) : Ev (fun k => laws_markEntryS.f k l 1) (1 + 5 * (l.length : Int), mkL l.length) := by
  unfold laws_markEntryS.f
  have key := Ev_up (fun k i => laws_markEntryS.l0 k ((mkL l.length).take i ++ l.drop i) (1 + 5 * (i : Int)) (i : Int)) (fun _ => (1 + 5 * (l.length : Int), mkL l.length)) l.length (by
      refine Ev.step (f := fun _ => some (1 + 5 * (l.length : Int), mkL l.length)) (fun k => ?_) (Ev.now _)
      simp only [laws_markEntryS.l0]
      rw [if_neg (by simp [mkL_len])]
      rw [List.take_of_length_le (by rw [mkL_len]; exact Nat.le_refl _), List.drop_length, List.append_nil]) (by
      intro i hi ih
      have hlen : ((mkL l.length).take i ++ l.drop i).length = l.length := by simp [mkL_len]; omega
      have e := set_take_drop l (mkL l.length) i (by rw [mkL_len]; exact hi) (by rw [mkL_len])
      rw [mkL_get] at e
      rw [← e] at ih
      generalize (mkL l.length).take i ++ l.drop i = m at hlen ih ⊢
      have hm : i < m.length := by omega
      apply Ev.step
      · intro k
        simp only [laws_markEntryS.l0, Option.bind_some]
        rw [if_pos (by omega), w64 (n := (i : Int) + 1) (by omega) (by omega)]
      refine Ev_bind _ (txt_ev (1 + 5 * (i : Int)) (by omega) (by omega)) ?_
      have a1 : wrap64 (1 + 5 * (i : Int) + 1) = 1 + 5 * (i : Int) + 1 := w64 (by omega) (by omega)
      have a2 : wrap64 (1 + 5 * (i : Int) + 1 + 1) = 1 + 5 * (i : Int) + 2 := by rw [w64 (by omega) (by omega)]; omega
      have a3 : wrap64 (1 + 5 * (i : Int) + 2 + 1) = 1 + 5 * (i : Int) + 3 := by rw [w64 (by omega) (by omega)]; omega
      have a4 : wrap64 (1 + 5 * (i : Int) + 3 + 1) = 1 + 5 * (i : Int) + 4 := by rw [w64 (by omega) (by omega)]; omega
      have a5 : wrap64 (1 + 5 * (i : Int) + 4 + 1) = 1 + 5 * ((i + 1 : Nat) : Int) := by rw [w64 (by omega) (by omega)]; omega
      simp only [if_pos (show 0 ≤ (i : Int) by omega), Int.toNat_natCast, List.set_set, rd_set m i hm, a1, a2, a3, a4, a5]
      exact ih) 0 (Nat.zero_le _)
  simpa using key
theorem heldE_ev (n : Nat) (hn : n ≤ 1048576) : Ev (fun k => laws_heldEntryS.f k (mkL n) 1) (1 + 5 * (n : Int)) := by
  unfold laws_heldEntryS.f
  have key := Ev_up (fun k i => laws_heldEntryS.l0 k (mkL n) (1 + 5 * (i : Int)) (i : Int)) (fun _ => 1 + 5 * (n : Int)) n (by
      refine Ev.step (f := fun _ => some (1 + 5 * (n : Int))) (fun k => ?_) (Ev.now _)
      simp only [laws_heldEntryS.l0]
      rw [if_neg (by simp [mkL_len])]) (by
      intro i hi ih
      apply Ev.step
      · intro k
        simp only [laws_heldEntryS.l0]
        rw [if_pos (by rw [mkL_len]; omega), if_pos (by omega), rd44 _ i (by rw [mkL_len]; exact hi), mkL_get, w64 (n := (i : Int) + 1) (by omega) (by omega)]
      refine Ev_bind _ (txt_ev (1 + 5 * (i : Int)) (by omega) (by omega)) ?_
      have a1 : wrap64 (1 + 5 * (i : Int) + 1) = 1 + 5 * (i : Int) + 1 := w64 (by omega) (by omega)
      have a2 : wrap64 (1 + 5 * (i : Int) + 1 + 1) = 1 + 5 * (i : Int) + 2 := by rw [w64 (by omega) (by omega)]; omega
      have a3 : wrap64 (1 + 5 * (i : Int) + 2 + 1) = 1 + 5 * (i : Int) + 3 := by rw [w64 (by omega) (by omega)]; omega
      have a4 : wrap64 (1 + 5 * (i : Int) + 3 + 1) = 1 + 5 * (i : Int) + 4 := by rw [w64 (by omega) (by omega)]; omega
      have a5 : wrap64 (1 + 5 * (i : Int) + 4 + 1) = 1 + 5 * ((i + 1 : Nat) : Int) := by rw [w64 (by omega) (by omega)]; omega
      simp only [mkE, a1, a2, a3, a4, a5, if_true]
      exact ih) 0 (Nat.zero_le _)
  simpa using key
theorem markS_ev (l : List ByteArray) (hl : l.length ≤ 1048576) (a : Int) (h0 : 1 ≤ a) (h1 : a ≤ 100000000) : Tells (fun k => laws_markStringS.f k l a) (fun r => r.1 = a + (l.length : Int)) := by
  unfold laws_markStringS.f
  have key : ∀ (d i : Nat) (l : List ByteArray) (b : Int), l.length = i + d → l.length ≤ 1048576 → b = a + (i : Int) → Tells (fun k => laws_markStringS.l0 k l b (i : Int)) (fun r => r.1 = a + (l.length : Int)) := by
    intro d
    induction d with
    | zero =>
      intro i l b hl hm hb
      refine Tells.step (f := fun _ => some (b, l)) (fun k => ?_) (Tells.now _ (by show b = _; omega))
      simp only [laws_markStringS.l0]
      rw [if_neg (by omega)]
    | succ d ih =>
      intro i l b hl hm hb
      apply Tells.step
      · intro k
        simp only [laws_markStringS.l0]
        rw [if_pos (by omega), w64 (n := (i : Int) + 1) (by omega) (by omega), w64 (n := b + 1) (by omega) (by omega)]
      refine Tells.bind (text_ev b (by omega) (by omega)) (fun r _ => ?_)
      simp only [if_pos (show 0 ≤ (i : Int) by omega)]
      have e := ih (i + 1) (l.set (i : Int).toNat r) (b + 1) (by simp only [List.length_set]; omega) (by simp only [List.length_set]; exact hm) (by omega)
      simp only [List.length_set] at e
      exact e
  exact key l.length 0 l a (by omega) hl (by omega)
theorem markR_ev (ns : List ByteArray) (t h p : List Int) (hn : ns.length ≤ 1048576) (ht : t.length ≤ 1048576) (hh : h.length ≤ 1048576) (hp : p.length ≤ 1048576) (a : Int) (h0 : 1 ≤ a) (h1 : a ≤ 10000000) : Tells (fun k => laws_markRequest.f k ns t h p a) (fun r => 0 ≤ r.1) := by
  unfold laws_markRequest.f
  refine Tells.bind (markS_ev ns hn a h0 (by omega)) (fun r hr => ?_)
  rw [hr]
  refine Tells.bind ⟨_, mark_ev t ht _ (by omega) (by omega), rfl⟩ (P := fun r => r = _) (fun r2 hr2 => ?_)
  subst hr2
  refine Tells.bind ⟨_, mark_ev h hh _ (by show 0 ≤ _; omega) (by show _ ≤ (1000000000000 : Int); omega), rfl⟩ (P := fun r => r = _) (fun r3 hr3 => ?_)
  subst hr3
  refine Tells.bind ⟨_, mark_ev p hp _ (by show 0 ≤ _; omega) (by show _ ≤ (1000000000000 : Int); omega), rfl⟩ (P := fun r => r = _) (fun r4 hr4 => ?_)
  subst hr4
  exact Tells.now _ (by show 0 ≤ _; omega)

theorem Pure.FnExactPick : FnExactPick_Pure := by
  intro l0 ns t h p wl wn wt wh wp
  refine Ev.rounds (g := fun k => laws_FnExactPick.f k l0 ns t h p) ?_
  unfold laws_FnExactPick.f
  obtain ⟨z, hz, hsz⟩ := szE_ev l0 wl
  refine Ev_bind z hz ?_
  by_cases gt : z < 0
  · simp only [if_pos gt]; exact Ev.now _
  simp only [if_neg gt]
  obtain ⟨hl, hz2⟩ := hsz.resolve_left gt
  have hsn : ∀ e ∈ ns, e.size ≤ 9223372036854775807 := fun e he => wn.2 e he
  obtain ⟨y, hy, hsy⟩ := szR_ev ns t h p wn.1 hsn wt.1 wh.1 wp.1 z (by omega) hz2
  refine Ev_bind y hy ?_
  by_cases gy : y < 0
  · simp only [if_pos gy]; exact Ev.now _
  simp only [if_neg gy]
  obtain ⟨hn, ht, hh, hp⟩ := hsy.resolve_left gy
  have eT := toE_ev l0 hl
  have hs : ∀ e ∈ l0.map cv, e.f0.size ≤ 9223372036854775807 := by
    intro e he
    obtain ⟨x, hx, rfl⟩ := List.mem_map.mp he
    exact (wl.2 x hx).1
  have eR := toR_ev ns t h p hn ht hh hp
  have eS := specPick_ev hs hsn hn ht hh hp
  have eI := implPick_ev hs hsn hn ht hh hp
  have hr := pickR_len (l0.map cv) ns t h p
  rw [List.length_map] at hr
  generalize pickR (l0.map cv) ns t h p = r at eS eI hr
  have eQ := eqE_ev r (by omega)
  have eL := eqE_ev (l0.map cv) (by rw [List.length_map]; exact hl)
  refine Ev_bind _ eT (Ev_bind _ eR (Ev_bind _ eS (Ev_bind _ eT (Ev_bind _ eR (Ev_bind _ eI (Ev_bind _ eQ ?_))))))
  simp only [if_true]
  refine Ev_bind _ eT (Ev_bind _ eL ?_)
  simp only [if_true]
  refine Ev_bind _ eR (Ev_bind _ (eqR_ev ns t h p hn ht hh hp) ?_)
  simp only [if_true]
  refine Ev_bind _ (markE_ev (l0.map cv) (by rw [List.length_map]; exact hl)) ?_
  obtain ⟨m, em, hm⟩ := markR_ev ns t h p hn ht hh hp (1 + 5 * ((l0.map cv).length : Int)) (by omega) (by rw [List.length_map]; omega)
  refine Ev_bind _ em ?_
  simp only [if_neg (show ¬ m.1 < 0 by omega)]
  refine Ev_bind _ eQ ?_
  have h1 := heldE_ev r.length (by omega)
  apply Ev.step
  · intro k
    simp only [laws_FnExactPick.j0]
    rw [if_neg (by simp)]
  refine Ev_bind _ (markE_ev r (by omega)) (Ev_bind _ h1 ?_)
  simp only [if_neg (show ¬ 1 + 5 * (r.length : Int) < 0 by omega), if_true]
  refine Ev_bind _ eT (Ev_bind _ eR (Ev_bind _ eI (Ev_bind _ eQ ?_)))
  simp only [if_true]
  refine Ev_bind _ h1 ?_
  simp only [if_neg (show ¬ 1 + 5 * (r.length : Int) < 0 by omega), if_true]
  exact Ev.now _
end Go.Proofs.Ytefagcpmadpefaa.QFnExactPick
