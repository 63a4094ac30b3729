/- A text in pieces and put together again, plainly. Condition: the text has at most 2^20 bytes. -/
import Derived.Test.YtgdlmbnnfngieaaDoorRuneLib
import Derived.Lib.Join
import Derived.Lib.TrimByte
set_option linter.unusedVariables false
set_option linter.unusedSimpArgs false
namespace Go.Proofs.YtgdlmbnnfngieaaDoor.QFnExactTitle
open Go.RowKit Go.Proofs.YtgdlmbnnfngieaaDoorW.PrintWords Go.Proofs.YtgdlmbnnfngieaaDoor.Opn Go.Proofs.YtgdlmbnnfngieaaDoor.Pl

/-- Bytes as a string. -/
def B (l : List UInt8) : ByteArray := ⟨l.toArray⟩
theorem B_app (a b : List UInt8) : B a ++ B b = B (a ++ b) := by
  apply ByteArray.ext
  rw [ByteArray.data_append]
  simp [B]
theorem B_size (a : List UInt8) : (B a).size = a.length := by simp [B, ByteArray.size]
theorem sz (s : ByteArray) : s.data.toList.length = s.size := Array.length_toList

theorem rune_ev (s : ByteArray) (i : Nat) (hs : s.size ≤ 1048576) (hi : i < s.size) : Ev (fun k => spec_l4Rune.f k s (i : Int)) (runeOf (Utf8.decode s i)) :=
  ⟨9, fun k hk => by
    obtain ⟨m, rfl⟩ : ∃ m, k = m + 9 := ⟨k - 9, by omega⟩
    exact rune_eq s i hs hi m⟩
theorem specRunes (s : ByteArray) (hs : s.size ≤ 1048576) : ∀ (f i : Nat) (acc : List ByteArray), s.size ≤ i + f → acc.length + f ≤ 4000000 → i ≤ s.size → Ev (fun k => spec_l4Runes.l0 k s acc (i : Int)) (acc ++ pieces s f i) := by
  intro f
  induction f with
  | zero =>
    intro i acc h1 h2 h3
    refine Ev.step (f := fun _ => some acc) (fun k => ?_) (by rw [pieces, List.append_nil]; exact Ev.now _)
    rw [spec_l4Runes.l0, if_neg (by omega)]
  | succ f ih =>
    intro i acc h1 h2 h3
    by_cases h : i < s.size
    · have hw := wid_le s i h
      have hp := wid_pos s i
      have hn := ih (i + wid s i) (acc ++ [s.extract i (i + wid s i)]) (by omega) (by rw [List.length_append, List.length_singleton]; omega) hw
      rw [List.append_assoc] at hn
      rw [pieces, if_pos h]
      refine Ev.step (fun k => by rw [spec_l4Runes.l0, if_pos (by omega)]) (Ev_bind _ (rune_ev s i hs h) ?_)
      simp only [runeOf_snd]
      have hwr : wrap64 ((i : Int) + (wid s i : Int)) = ((i + wid s i : Nat) : Int) := by rw [w64 (by omega) (by omega)]; omega
      simp only [hwr]
      simp only [if_pos (show (0 : Int) ≤ (i : Int) by omega), if_pos (show (i : Int) ≤ ((i + wid s i : Nat) : Int) by omega), if_pos (show ((i + wid s i : Nat) : Int) ≤ (s.size : Int) by omega), if_pos (show acc.length < 8796093022208 by omega), Int.toNat_natCast]
      exact hn
    · refine Ev.step (f := fun _ => some acc) (fun k => ?_) (by rw [pieces, if_neg h, List.append_nil]; exact Ev.now _)
      rw [spec_l4Runes.l0, if_neg (by omega)]
theorem cut_head (s : ByteArray) (i n : Nat) (h : i + n ≤ s.size) : (s.extract i s.size).extract 0 n = s.extract i (i + n) := by
  apply ByteArray.ext
  rw [← Array.toList_inj, Lib.extract_data, Lib.extract_data, Lib.extract_data]
  rw [List.drop_zero, List.take_take]
  congr 1
  omega
theorem cut_rest (s : ByteArray) (i n : Nat) (h : i + n ≤ s.size) : (s.extract i s.size).extract n (s.extract i s.size).size = s.extract (i + n) s.size := by
  rw [Lib.tail_size]
  apply ByteArray.ext
  rw [← Array.toList_inj, Lib.extract_data, Lib.extract_data, Lib.extract_data]
  rw [List.drop_take, List.drop_drop, List.take_take]
  congr 1
  omega
theorem all_of (s : ByteArray) : s.extract 0 s.size = s := by
  apply ByteArray.ext
  rw [← Array.toList_inj, Lib.extract_data, List.drop_zero]
  exact List.take_of_length_le (by rw [sz]; omega)
theorem implRunes (s : ByteArray) (hs : s.size ≤ 1048576) : ∀ (f i : Nat) (rs : List Int) (acc : List ByteArray), s.size ≤ i + f → acc.length + f ≤ 4000000 → rs.length + f ≤ 4000000 → i ≤ s.size →
    Ev (fun k => impl_runes.l0 k (s.extract i s.size) rs acc) (rs ++ runeNos s f i, acc ++ pieces s f i) := by
  intro f
  induction f with
  | zero =>
    intro i rs acc h1 h2 h3 h4
    refine Ev.step (f := fun _ => some (rs, acc)) (fun k => ?_) (by rw [pieces, runeNos, List.append_nil, List.append_nil]; exact Ev.now _)
    rw [impl_runes.l0, if_neg (by rw [Lib.tail_size]; omega)]
  | succ f ih =>
    intro i rs acc h1 h2 h3 h4
    by_cases h : i < s.size
    · have hw := wid_le s i h
      have hp := wid_pos s i
      have hn := ih (i + wid s i) (rs ++ [(runeOf (Utf8.decode s i)).1]) (acc ++ [s.extract i (i + wid s i)]) (by omega) (by rw [List.length_append, List.length_singleton]; omega) (by rw [List.length_append, List.length_singleton]; omega) hw
      rw [List.append_assoc, List.append_assoc] at hn
      rw [pieces, runeNos, if_pos h, if_pos h]
      refine Ev.step (fun k => by rw [impl_runes.l0, if_pos (by rw [Lib.tail_size]; omega)]) (Ev_bind ((((Utf8.decode s i).1 : Nat) : Int), ((wid s i : Nat) : Int)) (Ev_const (by unfold utf8_DecodeRuneInString.f; rw [go_tail s i h]; rfl)) ?_)
      simp only [Option.bind_some, List.length_singleton, if_pos (show rs.length + 1 < 35184372088832 by omega), if_pos (show acc.length + 1 < 8796093022208 by omega), if_pos (show (0 : Int) ≤ (wid s i : Int) by omega), Lib.tail_size, if_pos (show (wid s i : Int) ≤ ((s.size - i : Nat) : Int) by omega), Int.toNat_natCast]
      have e1 := cut_head s i (wid s i) hw
      have e2 := cut_rest s i (wid s i) hw
      rw [Lib.tail_size] at e2
      simp only [e1, e2]
      have hr : (if ((Utf8.decode s i).1 : Int) = 65533 then (if (wid s i : Int) = 1 then (-1 : Int) else ((Utf8.decode s i).1 : Int)) else ((Utf8.decode s i).1 : Int)) = (runeOf (Utf8.decode s i)).1 := by
        unfold runeOf wid
        obtain ⟨a, b⟩ := Utf8.decode s i
        by_cases ca : a = 65533
        · by_cases cb : b = 1
          · subst ca; subst cb; rfl
          · rw [if_pos (show ((a : Nat) : Int) = 65533 by omega), if_neg (by simp only; omega), if_neg (by intro e; injection e with _ e2; exact cb e2)]
        · rw [if_neg (by simp only; omega), if_neg (by intro e; injection e with e2 _; exact ca e2)]
      rw [← hr] at hn ⊢
      by_cases ca : ((Utf8.decode s i).1 : Int) = 65533
      · by_cases cb : (wid s i : Int) = 1
        · simp only [if_pos ca, if_pos cb] at hn ⊢; exact hn
        · simp only [if_pos ca, if_neg cb] at hn ⊢; exact hn
      · simp only [if_neg ca] at hn ⊢; exact hn
    · refine Ev.step (f := fun _ => some (rs, acc)) (fun k => ?_) (by rw [pieces, runeNos, if_neg h, if_neg h, List.append_nil, List.append_nil]; exact Ev.now _)
      rw [impl_runes.l0, if_neg (by rw [Lib.tail_size]; omega)]

theorem specCut (s : ByteArray) (hs : s.size ≤ 1048576) : Ev (fun k => spec_l4Runes.f k s) (pieces s s.size 0) := by
  have h := specRunes s hs s.size 0 [] (by omega) (by simp; omega) (by omega)
  rw [List.nil_append] at h
  exact h
theorem implCut (s : ByteArray) (hs : s.size ≤ 1048576) : Ev (fun k => impl_runes.f k s) (runeNos s s.size 0, pieces s s.size 0) := by
  have h := implRunes s hs s.size 0 [] [] (by omega) (by simp; omega) (by simp; omega) (by omega)
  rw [List.nil_append, List.nil_append, all_of] at h
  exact h

/-- The bytes of all pieces. -/
def flat (P : List ByteArray) : List UInt8 := (P.map (·.data.toList)).flatten
theorem flat_nil : flat [] = [] := rfl
theorem flat_app (P Q : List ByteArray) : flat (P ++ Q) = flat P ++ flat Q := by unfold flat; rw [List.map_append, List.flatten_append]
theorem flat_one (p : ByteArray) : flat [p] = p.data.toList := by unfold flat; simp
theorem flat_cons (p : ByteArray) (P : List ByteArray) : flat (p :: P) = p.data.toList ++ flat P := rfl
theorem flat_pieces (s : ByteArray) : ∀ f i, s.size ≤ i + f → i ≤ s.size → flat (pieces s f i) = s.data.toList.drop i := by
  intro f
  induction f with
  | zero =>
    intro i h1 h2
    rw [pieces, flat_nil, List.drop_eq_nil_of_le (by rw [sz]; omega)]
  | succ f ih =>
    intro i h1 h2
    rw [pieces]
    by_cases h : i < s.size
    · have hw := wid_le s i h
      have hp := wid_pos s i
      rw [if_pos h, flat_cons, ih _ (by omega) hw, Lib.extract_data, Nat.add_sub_cancel_left, ← List.drop_drop]
      exact List.take_append_drop _ _
    · rw [if_neg h, flat_nil, List.drop_eq_nil_of_le (by rw [sz]; omega)]
theorem flat_len (s : ByteArray) : (flat (pieces s s.size 0)).length = s.size := by
  rw [flat_pieces s _ _ (by omega) (by omega), List.drop_zero, sz]
theorem flat_take_len (P : List ByteArray) (n : Nat) : (flat (P.take n)).length ≤ (flat P).length := by
  conv => rhs; rw [← List.take_append_drop n P]
  rw [flat_app, List.length_append]; omega
theorem join_flat (P : List ByteArray) : Lib.join (P.map (·.data.toList)) [] = flat P := by
  unfold Lib.join flat
  induction P with
  | nil => rfl
  | cons p P ih =>
    cases P with
    | nil => simp [List.intercalate]
    | cons q R =>
      simp only [List.map_cons, List.intercalate, List.intersperse, List.flatten_cons, List.nil_append] at ih ⊢
      rw [ih]
theorem nums_B (l : List UInt8) : strOfNums (l.map fun b => (b.toNat : Int)) = B l := by
  unfold strOfNums B
  rw [List.map_map]
  congr 2
  conv => rhs; rw [← List.map_id l]
  apply List.map_congr_left
  intro b _
  simp
theorem joined_ev (P : List ByteArray) (hP : P.length ≤ 4000000) (hl : (flat P).length ≤ 4000000) : Ev (fun k => spec_l4Joined.f k P) (B (flat P)) := by
  have key := Ev_up (fun k i => spec_l4Joined.l0 k P ((flat (P.take i)).map fun b => (b.toNat : Int)) (i : Int)) (fun _ => B (flat P)) P.length ?_ ?_ 0 (Nat.zero_le _)
  · rw [List.take_zero] at key
    exact key
  · refine Ev.step (f := fun _ => some (B (flat P))) (fun k => ?_) (Ev.now _)
    rw [spec_l4Joined.l0, if_neg (by omega), List.take_length, nums_B]
  · intro i hi hn
    refine Ev.step (fun k => ?_) hn
    have hrd : rdOf ByteArray.empty P (i : Int) = P[i] := by
      unfold rdOf
      rw [Int.toNat_natCast, List.getD_eq_getElem?_getD, List.getElem?_eq_getElem hi]
      rfl
    have ht : flat (P.take (i + 1)) = flat (P.take i) ++ P[i].data.toList := by
      rw [List.take_succ_eq_append_getElem hi, flat_app, flat_one]
    have hle := flat_take_len P (i + 1)
    have hsz : P[i].size = P[i].data.toList.length := (sz _).symm
    rw [ht, List.length_append] at hle
    rw [spec_l4Joined.l0, if_pos (by omega), if_pos (by omega), hrd, if_pos (by rw [List.length_map, hsz]; omega), w64 (by omega) (by omega)]
    rw [ht, List.map_append]
    rfl

end Go.Proofs.YtgdlmbnnfngieaaDoor.QFnExactTitle
