/- FnExactStamp, plainly: both tell the same date and write its numbers with the same noughts ahead. No condition. -/
import Derived.Test.YtadfgfjpadbfdaaDoorStampLibFnExactStamp
import Derived.Test.YtadfgfjpadbfdaaDoorStatFnExactStamp
set_option linter.unusedVariables false
set_option linter.unusedSimpArgs false
namespace Go.Proofs.YtadfgfjpadbfdaaDoor.QFnExactStamp
open Go.RowKit Go.Proofs.YtadfgfjpadbfdaaDoorW.PrintWords Go.Proofs.YtadfgfjpadbfdaaDoor.Opn Go.Proofs.YtadfgfjpadbfdaaDoor.Pl

/-- A number in at least w digits. -/
def padL (n : Int) (w : Nat) : List UInt8 := List.replicate (w - (Lib.itoa n).length) 48 ++ Lib.itoa n
theorem padL_len {n : Int} (h0 : 0 ≤ n) (h1 : n ≤ 1000000000000) {w : Nat} (hw : w ≤ 4) : (padL n w).length ≤ 25 := by
  have := dec_len n h0 h1
  unfold padL
  rw [List.length_append, List.length_replicate]
  omega
theorem specPad (n : Int) (h0 : 0 ≤ n) (h1 : n ≤ 1000000000000) (w : Nat) (hw : w ≤ 4) : Ev (fun k => spec_l2Pad.f k n (w : Int)) (B (padL n w)) := by
  have hl := dec_len n h0 h1
  unfold spec_l2Pad.f
  refine Ev_bind _ (dec_ev n h0 h1) ?_
  have key : ∀ (d : Nat) (l : List UInt8), w - l.length = d → l.length ≤ 30 → Ev (fun k => spec_l2Pad.l0 k (w : Int) (B l)) (B (List.replicate d 48 ++ l)) := by
    intro d
    induction d with
    | zero =>
      intro l hd hll
      refine Ev.step (f := fun _ => some (B l)) (fun k => ?_) (Ev.now _)
      simp only [spec_l2Pad.l0]
      rw [if_neg (by rw [B_size]; omega)]
    | succ d ih =>
      intro l hd hll
      have hn := ih (48 :: l) (by rw [List.length_cons]; omega) (by rw [List.length_cons]; omega)
      have e : List.replicate (d + 1) (48 : UInt8) ++ l = List.replicate d 48 ++ 48 :: l := by
        rw [List.replicate_succ', List.append_assoc]; rfl
      rw [e]
      refine Ev.step (fun k => ?_) hn
      simp only [spec_l2Pad.l0]
      rw [if_pos (by rw [B_size]; omega), if_pos (by rw [B_size]; omega)]
      have hb : (⟨#[48]⟩ : ByteArray) = B [48] := rfl
      rw [hb, B_app]
      rfl
  exact key (w - (Lib.itoa n).length) (Lib.itoa n) rfl (by omega)
theorem rep48 (c : Nat) : Lib.repeatL [48] c = List.replicate c (48 : UInt8) := by
  induction c with
  | zero => rfl
  | succ c ih =>
    rw [List.replicate_succ, ← ih]
    rfl
theorem implFill (n : Int) (h0 : 0 ≤ n) (h1 : n ≤ 1000000000000) (w : Nat) (hw : w ≤ 4) : impl_fill.f n (w : Int) = some (B (padL n w)) := by
  have hl := dec_len n h0 h1
  unfold impl_fill.f
  rw [implDec n h0 h1]
  simp only [Option.bind_some, B_size]
  rw [w64 (n := (w : Int) - ((Lib.itoa n).length : Int)) (by omega) (by omega)]
  have hm : mx 0 ((w : Int) - ((Lib.itoa n).length : Int)) = ((w - (Lib.itoa n).length : Nat) : Int) := by unfold mx; split <;> omega
  rw [hm]
  unfold strings_Repeat.f
  have hs : (⟨#[48]⟩ : ByteArray).size = 1 := rfl
  rw [if_pos ⟨by omega, by omega, by rw [hs]; omega⟩]
  have hd : (⟨#[48]⟩ : ByteArray).data.toList = [48] := rfl
  rw [hd, Int.toNat_natCast, rep48]
  simp only [Option.bind_some]
  have hb : (⟨(List.replicate (w - (Lib.itoa n).length) (48 : UInt8)).toArray⟩ : ByteArray) = B (List.replicate (w - (Lib.itoa n).length) 48) := rfl
  rw [hb, if_pos (by rw [B_size, List.length_replicate]; omega), B_app]
  rfl

/-- The stamp's bytes. -/
def stampL (Y M D h m : Int) : List UInt8 := padL Y 4 ++ ([45] ++ (padL M 2 ++ ([45] ++ (padL D 2 ++ ([84] ++ (padL h 2 ++ ([58] ++ (padL m 2 ++ [90]))))))))
theorem Pure.FnExactStamp : FnExactStamp_Pure := by
  intro t wt
  refine Ev.rounds (g := fun k => laws_FnExactStamp.f k t) ?_
  unfold laws_FnExactStamp.f spec_Stamp.f impl_Stamp.f spec_DateOf.f impl_DateOf.f spec_l2Time.f impl_isTime.f
  have hin : impl_in.f t 0 52596000 = some (decide (0 ≤ t) && decide (t ≤ 52596000)) := by
    unfold impl_in.f
    by_cases h : t ≥ 0
    · rw [if_pos h, decide_eq_true (show 0 ≤ t from h), Bool.true_and]
    · rw [if_neg h, decide_eq_false (show ¬ 0 ≤ t from h), Bool.false_and]
  rw [hin]
  by_cases h0 : 0 ≤ t
  · by_cases h1 : t ≤ 52596000
    · simp only [if_pos (show t ≥ 0 from h0), Option.bind_some, decide_eq_true h0, decide_eq_true h1, Bool.and_self, if_true]
      have hd : wrap64 (Int.tdiv t 1440) = t / 1440 := by rw [Int.tdiv_eq_ediv_of_nonneg h0]; exact w64 (by omega) (by omega)
      have hd6 : wrap64 (Int.tdiv t 60) = t / 60 := by rw [Int.tdiv_eq_ediv_of_nonneg h0]; exact w64 (by omega) (by omega)
      have hh : Int.tmod (wrap64 (Int.tdiv t 60)) 24 = t / 60 % 24 := by rw [hd6, Int.tmod_eq_emod_of_nonneg (by omega)]
      have hmi : Int.tmod t 60 = t % 60 := Int.tmod_eq_emod_of_nonneg h0
      obtain ⟨day, hday⟩ : ∃ day, day = t / 1440 := ⟨_, rfl⟩
      have hdb : 0 ≤ day ∧ day ≤ 36525 := by omega
      rw [hd, ← hday]
      obtain ⟨Y, M, r, he, hdat⟩ := spec_loop day (Int.tmod (wrap64 (Int.tdiv t 60)) 24) (Int.tmod t 60) hdb.2 day.toNat day 2000 1 (by omega) hdb.1 (by omega) (by omega) (by omega) (by omega) (by rw [cum1]; unfold yr; omega)
      have hy : wrap64 (2000 + wrap64 (Int.tdiv day 366)) = 2000 + day / 366 := by
        rw [Int.tdiv_eq_ediv_of_nonneg hdb.1, w64 (n := day / 366) (by omega) (by omega)]; exact w64 (by omega) (by omega)
      have hcb := cum_bd (y := Y) hdat.m1 (show M ≤ 13 by have := hdat.m12; omega)
      have hle : 2000 + day / 366 ≤ Y := by
        have h2 := hdat.e
        have h3 := hdat.r0
        have h4 := hdat.r1
        have hs := cum_step Y M hdat.m1 hdat.m12
        have h5 := cum_le (y := Y) (a := M + 1) (b := 13) (by have := hdat.m1; omega) (by have := hdat.m12; omega) (by omega)
        have h6 := yr_step Y
        have h7 : day < yr (Y + 1) := by omega
        unfold yr at h7
        omega
      have hi := impl_year (t := t) hdat hdb (Y - (2000 + day / 366)).toNat (2000 + day / 366) (by omega) (by omega)
      rw [hy]
      obtain ⟨m1, m12, y0, y1, r0, r1, e⟩ := hdat
      have hmb := md_bd Y M
      have gh : 0 ≤ Int.tmod (wrap64 (Int.tdiv t 60)) 24 ∧ Int.tmod (wrap64 (Int.tdiv t 60)) 24 ≤ 23 := by rw [hh]; omega
      have gm : 0 ≤ Int.tmod t 60 ∧ Int.tmod t 60 ≤ 59 := by rw [hmi]; omega
      obtain ⟨H, hH⟩ : ∃ H, H = Int.tmod (wrap64 (Int.tdiv t 60)) 24 := ⟨_, rfl⟩
      obtain ⟨I, hI⟩ : ∃ I, I = Int.tmod t 60 := ⟨_, rfl⟩
      rw [← hH, ← hI] at he hi
      rw [← hH] at gh
      rw [← hI] at gm
      rw [← hH, ← hI]
      clear hH hI hh hmi hd hd6 hin
      have l1 := padL_len (n := Y) (by omega) (by omega) (w := 4) (by omega)
      have l2 := padL_len (n := M) (by omega) (by omega) (w := 2) (by omega)
      have l3 := padL_len (n := r + 1) (by omega) (by omega) (w := 2) (by omega)
      have l4 := padL_len (n := H) (by omega) (by omega) (w := 2) (by omega)
      have l5 := padL_len (n := I) (by omega) (by omega) (w := 2) (by omega)
      have b45 : (⟨#[45]⟩ : ByteArray) = B [45] := rfl
      have b84 : (⟨#[84]⟩ : ByteArray) = B [84] := rfl
      have b58 : (⟨#[58]⟩ : ByteArray) = B [58] := rfl
      have b90 : (⟨#[90]⟩ : ByteArray) = B [90] := rfl
      simp only [b45, b84, b58, b90]
      refine Ev_bind (B (stampL Y M (r + 1) H I)) ?_ (Ev_bind (B (stampL Y M (r + 1) H I)) ?_ ?_)
      · refine Ev_bind _ he ?_
        simp only [if_true]
        refine Ev_bind _ (specPad Y (by omega) (by omega) 4 (by omega)) ?_
        simp only [B_app, B_size, List.length_append, List.length_singleton, if_pos (show (padL Y 4).length + 1 ≤ 9223372036854775807 by omega)]
        refine Ev_bind _ (specPad M (by omega) (by omega) 2 (by omega)) ?_
        simp only [B_app, B_size, List.length_append, List.length_singleton, if_pos (show (padL Y 4).length + 1 + (padL M 2).length ≤ 9223372036854775807 by omega), if_pos (show (padL Y 4).length + 1 + (padL M 2).length + 1 ≤ 9223372036854775807 by omega)]
        refine Ev_bind _ (specPad (r + 1) (by omega) (by omega) 2 (by omega)) ?_
        simp only [B_app, B_size, List.length_append, List.length_singleton, if_pos (show (padL Y 4).length + 1 + (padL M 2).length + 1 + (padL (r + 1) 2).length ≤ 9223372036854775807 by omega), if_pos (show (padL Y 4).length + 1 + (padL M 2).length + 1 + (padL (r + 1) 2).length + 1 ≤ 9223372036854775807 by omega)]
        refine Ev_bind _ (specPad H (by omega) (by omega) 2 (by omega)) ?_
        simp only [B_app, B_size, List.length_append, List.length_singleton, if_pos (show (padL Y 4).length + 1 + (padL M 2).length + 1 + (padL (r + 1) 2).length + 1 + (padL H 2).length ≤ 9223372036854775807 by omega), if_pos (show (padL Y 4).length + 1 + (padL M 2).length + 1 + (padL (r + 1) 2).length + 1 + (padL H 2).length + 1 ≤ 9223372036854775807 by omega)]
        refine Ev_bind _ (specPad I (by omega) (by omega) 2 (by omega)) ?_
        simp only [B_app, B_size, List.length_append, List.length_singleton, if_pos (show (padL Y 4).length + 1 + (padL M 2).length + 1 + (padL (r + 1) 2).length + 1 + (padL H 2).length + 1 + (padL I 2).length ≤ 9223372036854775807 by omega), if_pos (show (padL Y 4).length + 1 + (padL M 2).length + 1 + (padL (r + 1) 2).length + 1 + (padL H 2).length + 1 + (padL I 2).length + 1 ≤ 9223372036854775807 by omega)]
        simp only [List.append_assoc, stampL]
        exact Ev.now _
      · refine Ev_bind _ hi ?_
        simp only [if_true, implFill Y (by omega) (by omega) 4 (by omega), implFill M (by omega) (by omega) 2 (by omega), implFill (r + 1) (by omega) (by omega) 2 (by omega), implFill H (by omega) (by omega) 2 (by omega), implFill I (by omega) (by omega) 2 (by omega), show (4 : Int) = ((4 : Nat) : Int) from rfl, show (2 : Int) = ((2 : Nat) : Int) from rfl, Option.bind_some]
        simp only [B_app, B_size, List.length_append, List.length_singleton, if_pos (show (padL Y 4).length + 1 ≤ 9223372036854775807 by omega)]
        simp only [B_app, B_size, List.length_append, List.length_singleton, if_pos (show (padL Y 4).length + 1 + (padL M 2).length ≤ 9223372036854775807 by omega), if_pos (show (padL Y 4).length + 1 + (padL M 2).length + 1 ≤ 9223372036854775807 by omega)]
        simp only [B_app, B_size, List.length_append, List.length_singleton, if_pos (show (padL Y 4).length + 1 + (padL M 2).length + 1 + (padL (r + 1) 2).length ≤ 9223372036854775807 by omega), if_pos (show (padL Y 4).length + 1 + (padL M 2).length + 1 + (padL (r + 1) 2).length + 1 ≤ 9223372036854775807 by omega)]
        simp only [B_app, B_size, List.length_append, List.length_singleton, if_pos (show (padL Y 4).length + 1 + (padL M 2).length + 1 + (padL (r + 1) 2).length + 1 + (padL H 2).length ≤ 9223372036854775807 by omega), if_pos (show (padL Y 4).length + 1 + (padL M 2).length + 1 + (padL (r + 1) 2).length + 1 + (padL H 2).length + 1 ≤ 9223372036854775807 by omega)]
        simp only [B_app, B_size, List.length_append, List.length_singleton, if_pos (show (padL Y 4).length + 1 + (padL M 2).length + 1 + (padL (r + 1) 2).length + 1 + (padL H 2).length + 1 + (padL I 2).length ≤ 9223372036854775807 by omega), if_pos (show (padL Y 4).length + 1 + (padL M 2).length + 1 + (padL (r + 1) 2).length + 1 + (padL H 2).length + 1 + (padL I 2).length + 1 ≤ 9223372036854775807 by omega)]
        simp only [List.append_assoc, stampL]
        exact Ev.now _
      · simp only [if_true]
        exact Ev.now _
    · simp only [if_pos (show t ≥ 0 from h0), Option.bind_some, decide_eq_true h0, decide_eq_false h1, Bool.true_and, Bool.and_false, Bool.false_eq_true, if_false, if_true]
      exact Ev.now _
  · simp only [if_neg (show ¬ t ≥ 0 from h0), Option.bind_some, decide_eq_false h0, Bool.false_and, Bool.false_eq_true, if_false, if_true]
    exact Ev.now _
end Go.Proofs.YtadfgfjpadbfdaaDoor.QFnExactStamp
