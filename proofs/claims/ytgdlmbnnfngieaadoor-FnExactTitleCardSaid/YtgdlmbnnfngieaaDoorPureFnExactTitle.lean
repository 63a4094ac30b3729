/- FnExactTitle, plainly: both take the same pieces and leave out the blanks at the end. No condition. -/
import Derived.Test.YtgdlmbnnfngieaaDoorTitleLib
import Derived.Test.YtgdlmbnnfngieaaDoorStatFnExactTitle
set_option linter.unusedVariables false
set_option linter.unusedSimpArgs false
namespace Go.Proofs.YtgdlmbnnfngieaaDoor.QFnExactTitle
open Go.RowKit Go.Proofs.YtgdlmbnnfngieaaDoorW.PrintWords Go.Proofs.YtgdlmbnnfngieaaDoor.Opn Go.Proofs.YtgdlmbnnfngieaaDoor.Pl

theorem trim_blank (l : List UInt8) : Lib.trimRightB (l ++ [32]) 32 = Lib.trimRightB l 32 := by
  unfold Lib.trimRightB
  rw [List.reverse_append]
  simp [List.dropWhile_cons]
theorem trim_other (l : List UInt8) (c : UInt8) (h : c ≠ 32) : Lib.trimRightB (l ++ [c]) 32 = l ++ [c] := by
  unfold Lib.trimRightB
  rw [List.reverse_append]
  simp [List.dropWhile_cons, h]
/-- A piece is a blank or does not end in one. -/
def Good (p : ByteArray) : Prop := p.data.toList = [32] ∨ ∃ l c, p.data.toList = l ++ [c] ∧ c ≠ 32
theorem decode_last (s : ByteArray) (i : Nat) (h : wid s i ≠ 1) : gb s (i + (wid s i - 1)) / 64 = 2 := by
  have key : ∀ d, Utf8.decode s i = d → d.2 ≠ 1 → gb s (i + (d.2 - 1)) / 64 = 2 := by
    intro d hd h
    rw [dec_eq] at hd
    repeat' split at hd
    all_goals subst hd
    · exact absurd rfl h
    · rename_i h1 _; exact h1.2.2
    · exact absurd rfl h
    · rename_i h1 _; exact h1.2.2.2
    · exact absurd rfl h
    · rename_i h1 _; exact h1.2.2.2.2
    · exact absurd rfl h
    · exact absurd rfl h
  exact key _ rfl h
theorem gb_list (s : ByteArray) (j : Nat) (h : j < s.data.toList.length) : (s.data.toList[j]'h).toNat = gb s j := by
  obtain ⟨d⟩ := s
  show (d.toList[j]'h).toNat = (d[j]!).toNat
  rw [getElem!_pos d j (by simpa using h)]
  simp
theorem good_pieces (s : ByteArray) : ∀ f i, ∀ p ∈ pieces s f i, Good p := by
  intro f
  induction f with
  | zero => intro i p hp; simp [pieces] at hp
  | succ f ih =>
    intro i p hp
    rw [pieces] at hp
    by_cases h : i < s.size
    · rw [if_pos h] at hp
      rcases List.mem_cons.1 hp with rfl | hp
      · have hw := wid_le s i h
        have h1 := wid_pos s i
        have hlen : s.data.toList.length = s.size := sz s
        have hj : i + (wid s i - 1) < s.data.toList.length := by omega
        have e : (s.extract i (i + wid s i)).data.toList = (s.data.toList.drop i).take (wid s i - 1) ++ [s.data.toList[i + (wid s i - 1)]] := by
          rw [Lib.extract_data, Nat.add_sub_cancel_left]
          conv => lhs; rw [show wid s i = wid s i - 1 + 1 by omega]
          rw [List.take_succ_eq_append_getElem (by rw [List.length_drop]; omega), List.getElem_drop]
        by_cases hc : s.data.toList[i + (wid s i - 1)] = 32
        · by_cases hw1 : wid s i = 1
          · left
            rw [e, hc, hw1]
            rfl
          · exfalso
            have h2 := decode_last s i hw1
            rw [← gb_list s _ hj, hc] at h2
            exact absurd h2 (by decide)
        · exact Or.inr ⟨_, _, e, hc⟩
      · exact ih _ p hp
    · rw [if_neg h] at hp
      exact absurd hp (by simp)
theorem titleLoop (T : ByteArray) (hT : T.size ≤ 3) : ∀ (n : Nat) (P : List ByteArray), P.length = n → n ≤ 4000000 → (flat P).length ≤ 4000000 → (∀ p ∈ P, Good p) → Ev (fun k => spec_Title.l0 k P T) (B (Lib.trimRightB (flat P) 32) ++ T) := by
  intro n
  induction n with
  | zero =>
    intro P hl _ hf hg
    obtain rfl := List.eq_nil_of_length_eq_zero hl
    refine Ev.step (fun k => by rw [spec_Title.l0, if_neg (by simp)]) (Ev_bind _ (joined_ev [] (by simp) (by simp [flat])) ?_)
    rw [if_pos (by rw [B_size, flat_nil]; simp; omega)]
    exact Ev.now _
  | succ n ih =>
    intro P hl hn hf hg
    obtain ⟨Q, p, rfl⟩ : ∃ Q p, P = Q ++ [p] := by
      rcases List.eq_nil_or_concat P with h | ⟨Q, p, h⟩
      · rw [h] at hl; simp at hl
      · exact ⟨Q, p, by rw [h]; simp⟩
    rw [List.length_append, List.length_singleton] at hl
    have hQ : Q.length = n := by omega
    have hfl : flat (Q ++ [p]) = flat Q ++ p.data.toList := by rw [flat_app, flat_one]
    have hwr : wrap64 (((Q ++ [p]).length : Int) - 1) = (n : Int) := by rw [List.length_append, List.length_singleton, w64 (by omega) (by omega)]; omega
    have hrd : rdOf ByteArray.empty (Q ++ [p]) (n : Int) = p := by
      unfold rdOf
      rw [Int.toNat_natCast, ← hQ]
      simp
    have hlen : (Q ++ [p]).length = n + 1 := by rw [List.length_append, List.length_singleton, hQ]
    rcases hg p (by simp) with h32 | ⟨l, c, hp, hc⟩
    · have hn' := ih Q hQ (by omega) (by rw [hfl, List.length_append] at hf; omega) (fun q hq => hg q (by simp [hq]))
      have ht : (Q ++ [p]).take n = Q := by rw [← hQ]; simp
      rw [hfl, h32, trim_blank]
      refine Ev.step (fun k => ?_) hn'
      rw [spec_Title.l0, if_pos (by omega), hwr, if_pos (by omega), if_pos (by omega), hrd, if_pos (by rw [Lib.toList_data, h32]), if_pos (by omega), Int.toNat_natCast, ht]
    · have ht : Lib.trimRightB (flat (Q ++ [p])) 32 = flat (Q ++ [p]) := by rw [hfl, hp, ← List.append_assoc, trim_other _ _ hc]
      rw [ht]
      have hne : ¬ p.toList = [32] := by
        rw [Lib.toList_data, hp]
        intro e
        have e2 := congrArg List.reverse e
        simp at e2
        exact hc e2.1
      refine Ev.step (fun k => by rw [spec_Title.l0, if_pos (by omega), hwr, if_pos (by omega), if_pos (by omega), hrd, if_neg hne]) (Ev_bind _ (joined_ev _ (by omega) hf) ?_)
      rw [if_pos (by rw [B_size]; omega)]
      exact Ev.now _

theorem in_some (m : Int) : spec_l2In.f m 1 1000 = some (decide (1 ≤ m ∧ m ≤ 1000)) ∧ impl_in.f m 1 1000 = some (decide (1 ≤ m ∧ m ≤ 1000)) := by
  unfold spec_l2In.f impl_in.f
  by_cases h : m ≥ 1
  · rw [if_pos h]
    have e : decide (m ≤ 1000) = decide (1 ≤ m ∧ m ≤ 1000) := decide_eq_decide.2 (by omega)
    rw [e]
    exact ⟨rfl, rfl⟩
  · rw [if_neg h]
    have e : false = decide (1 ≤ m ∧ m ≤ 1000) := (decide_eq_false (by omega)).symm
    rw [e]
    exact ⟨rfl, rfl⟩
theorem both (t : ByteArray) (m : Int) (hs : t.size ≤ 1048576) : ∃ R, Ev (fun k => spec_Title.f k t m) R ∧ Ev (fun k => impl_Title.f k t m) R := by
  unfold spec_Title.f impl_Title.f
  rw [(in_some m).1, (in_some m).2]
  simp only [Option.bind_some]
  by_cases hm : 1 ≤ m ∧ m ≤ 1000
  case neg =>
    rw [decide_eq_false hm]
    simp only [Bool.false_eq_true, if_false]
    refine ⟨⟨#[]⟩, Ev.step (f := fun _ => some ⟨#[]⟩) (fun k => ?_) (Ev.now _), Ev.step (f := fun _ => some ⟨#[]⟩) (fun k => ?_) (Ev.now _)⟩
    · rw [spec_Title.j0, if_pos rfl]
    · rw [impl_Title.j0, if_pos rfl]
  rw [decide_eq_true hm]
  simp only [if_true]
  by_cases hz : (t.size : Int) > 20000
  · rw [decide_eq_true hz]
    refine ⟨⟨#[]⟩, Ev.step (f := fun _ => some ⟨#[]⟩) (fun k => ?_) (Ev.now _), Ev.step (f := fun _ => some ⟨#[]⟩) (fun k => ?_) (Ev.now _)⟩
    · rw [spec_Title.j0, if_pos rfl]
    · rw [impl_Title.j0, if_pos rfl]
  rw [decide_eq_false hz]
  obtain ⟨n, rfl⟩ : ∃ n : Nat, m = (n : Int) := ⟨m.toNat, by omega⟩
  obtain ⟨P, hP⟩ : ∃ P, pieces t t.size 0 = P := ⟨_, rfl⟩
  have hsp := specCut t hs
  have him := implCut t hs
  have hlen := pieces_len t t.size 0
  have hfl := flat_len t
  have hgood := good_pieces t t.size 0
  rw [hP] at hsp him hlen hfl hgood
  have hft := flat_take_len P n
  have htl : (Lib.trimRightB (flat (P.take n)) 32).length ≤ (flat (P.take n)).length := by
    unfold Lib.trimRightB
    rw [List.length_reverse]
    have := (List.dropWhile_sublist (l := (flat (P.take n)).reverse) (· == (32 : UInt8))).length_le
    rw [List.length_reverse] at this
    exact this
  have hjoin : ∀ Q : List ByteArray, Q.length ≤ 1000 → (flat Q).length ≤ 4000000 → strings_Join.f Q (⟨#[]⟩ : ByteArray) = some (B (flat Q)) := by
    intro Q h1 h2
    unfold strings_Join.f
    have e : (⟨#[]⟩ : ByteArray).data.toList = [] := rfl
    rw [e, join_flat, if_pos ⟨h1, by omega⟩]
    rfl
  have htrim : ∀ l : List UInt8, l.length ≤ 4000000 → strings_TrimRight.f (B l) (⟨#[32]⟩ : ByteArray) = some (B (Lib.trimRightB l 32)) := by
    intro l h
    unfold strings_TrimRight.f
    rw [if_pos ⟨rfl, by rw [B_size]; omega⟩]
    rfl
  have hmn : mn (n : Int) (P.length : Int) = ((min n P.length : Nat) : Int) := by unfold mn; split <;> omega
  by_cases hlong : n < P.length
  · refine ⟨B (Lib.trimRightB (flat (P.take n)) 32) ++ (⟨#[226, 128, 166]⟩ : ByteArray), Ev.step (fun k => by rw [spec_Title.j0, if_neg (by decide)]) (Ev_bind _ hsp ?_), Ev.step (fun k => by rw [impl_Title.j0, if_neg (by decide)]) (Ev_bind _ him ?_)⟩
    · simp only [if_pos (show (P.length : Int) > (n : Int) by omega), if_pos (show (0 : Int) ≤ (n : Int) by omega), if_pos (show (n : Int) ≤ (P.length : Int) by omega), Int.toNat_natCast]
      refine Ev.step (fun k => by rw [spec_Title.j1]) ?_
      exact titleLoop _ (by decide) _ _ rfl (by rw [List.length_take]; omega) (by omega) (fun p hp => hgood p (List.mem_of_mem_take hp))
    · simp only [hmn, show min n P.length = n by omega]
      simp only [if_pos (show (0 : Int) ≤ (n : Int) by omega), if_pos (show (n : Int) ≤ (P.length : Int) by omega), Int.toNat_natCast]
      rw [hjoin _ (by rw [List.length_take]; omega) (by omega)]
      simp only [Option.bind_some]
      rw [htrim _ (by omega)]
      simp only [Option.bind_some]
      rw [if_pos (by omega), if_pos (by rw [B_size]; omega)]
      exact Ev.now _
  · have hall : P.take n = P := List.take_of_length_le (by omega)
    rw [hall] at htl
    refine ⟨B (Lib.trimRightB (flat P) 32), Ev.step (fun k => by rw [spec_Title.j0, if_neg (by decide)]) (Ev_bind _ hsp ?_), Ev.step (fun k => by rw [impl_Title.j0, if_neg (by decide)]) (Ev_bind _ him ?_)⟩
    · simp only [if_neg (show ¬ (P.length : Int) > (n : Int) by omega)]
      refine Ev.step (fun k => by rw [spec_Title.j1]) ?_
      have h := titleLoop ⟨#[]⟩ (by decide) _ P rfl (by omega) (by omega) hgood
      have e : B (Lib.trimRightB (flat P) 32) ++ (⟨#[]⟩ : ByteArray) = B (Lib.trimRightB (flat P) 32) := by
        have e2 : (⟨#[]⟩ : ByteArray) = B [] := rfl
        rw [e2, B_app, List.append_nil]
      rw [e] at h
      exact h
    · simp only [hmn, show min n P.length = P.length by omega]
      simp only [if_pos (show (0 : Int) ≤ (P.length : Int) by omega), if_pos (show (P.length : Int) ≤ (P.length : Int) by omega), Int.toNat_natCast, List.take_length]
      rw [hjoin _ (by omega) (by omega)]
      simp only [Option.bind_some]
      rw [htrim _ (by omega)]
      simp only [Option.bind_some]
      rw [if_neg (by omega)]
      exact Ev.now _
theorem Pure.FnExactTitle : FnExactTitle_Pure := by
  intro t m wt wm
  refine Ev.rounds (g := fun k => laws_FnExactTitle.f k t m) ?_
  unfold laws_FnExactTitle.f
  by_cases hz : (t.size : Int) > 1048576
  · simp only [if_pos hz]
    exact Ev.now _
  simp only [if_neg hz]
  obtain ⟨R, h1, h2⟩ := both t m (by omega)
  refine Ev_bind _ h1 (Ev_bind _ h2 ?_)
  simp only [if_true]
  exact Ev.now _
end Go.Proofs.YtgdlmbnnfngieaaDoor.QFnExactTitle
