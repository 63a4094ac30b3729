/- Days and dates, plainly: the program's and the reference's date of a time are the same. Condition: the time lies where a time may lie. -/
import Derived.Test.YtadfgfjpadbfdaaDoorLib
import Derived.Test.YtadfgfjpadbfdaaDoorQFnExactStampx3
import Derived.Lib.ItoaLen
set_option linter.unusedVariables false
set_option linter.unusedSimpArgs false
namespace Go.Proofs.YtadfgfjpadbfdaaDoor.QFnExactStamp
open Go.RowKit Go.Proofs.YtadfgfjpadbfdaaDoorW.PrintWords Go.Proofs.YtadfgfjpadbfdaaDoor.Opn Go.Proofs.YtadfgfjpadbfdaaDoor.Pl

/-- Bytes as a string. -/
def B (l : List UInt8) : ByteArray := ⟨l.toArray⟩
theorem B_app (a b : List UInt8) : B a ++ B b = B (a ++ b) := by
  apply ByteArray.ext
  rw [ByteArray.data_append]
  simp [B]
theorem B_size (a : List UInt8) : (B a).size = a.length := by simp [B, ByteArray.size]

/-- The digits of a number above 0; none of 0. -/
def digs (u : Nat) : List UInt8 := if u = 0 then [] else Lib.decDigits u
theorem digs_step (u : Nat) (h : 0 < u) : digs u = digs (u / 10) ++ [UInt8.ofNat (48 + u % 10)] := by
  unfold digs
  rw [if_neg (by omega), Lib.decDigits]
  by_cases h1 : u < 10
  · rw [dif_pos h1, if_pos (by omega), Nat.mod_eq_of_lt h1]
    rfl
  · rw [dif_neg h1, if_neg (by omega)]
theorem u64 {n : Int} (h0 : 0 ≤ n) (h1 : n < 18446744073709551616) : IntKind.u64.wrap n = n := by
  have e : n % 18446744073709551616 = n := Int.emod_eq_of_lt h0 h1
  simpa [IntKind.wrap, IntKind.bits, IntKind.signed] using e
theorem digit_ev (x0 : Int) (hx : 0 ≤ x0) : ∀ (u : Nat) (acc : List UInt8), u ≤ 1000000000000 → acc.length + u ≤ 2000000000000 → Ev (fun k => spec_l1Dec.l0 k x0 (B acc) (u : Int)) (B (digs u ++ acc)) := by
  intro u
  induction u using Nat.strongRecOn with
  | _ u ih =>
    intro acc hu ha
    by_cases h0 : u = 0
    · subst h0
      refine Ev.step (f := fun _ => some (B (digs 0 ++ acc))) (fun k => ?_) (Ev.now _)
      simp only [spec_l1Dec.l0]
      rw [if_neg (by decide), if_neg (by omega)]
      rfl
    · have ht : Int.tmod (u : Int) 10 = ((u % 10 : Nat) : Int) := rfl
      have hd : Int.tdiv (u : Int) 10 = ((u / 10 : Nat) : Int) := rfl
      have hn := ih (u / 10) (by omega) (UInt8.ofNat (48 + u % 10) :: acc) (by omega) (by rw [List.length_cons]; omega)
      rw [digs_step u (by omega), List.append_assoc]
      refine Ev.step (fun k => ?_) hn
      have hs : strOfNums [(IntKind.u64.wrap (48 + Int.tmod (u : Int) 10)) % 256] = B [UInt8.ofNat (48 + u % 10)] := by
        rw [ht, u64 (by omega) (by omega), Int.emod_eq_of_lt (by omega) (by omega)]
        have : (48 + ((u % 10 : Nat) : Int)).toNat = 48 + u % 10 := by omega
        simp only [strOfNums, List.map_cons, List.map_nil, this]
        rfl
      simp only [spec_l1Dec.l0]
      rw [if_pos (by omega)]
      simp only [Option.bind_some]
      rw [hs, if_pos (by rw [B_size, B_size, List.length_singleton]; omega), hd, u64 (by omega) (by omega), B_app]
      rfl
theorem dec_ev (n : Int) (h0 : 0 ≤ n) (h1 : n ≤ 1000000000000) : Ev (fun k => spec_l1Dec.f k n) (B (Lib.itoa n)) := by
  unfold spec_l1Dec.f
  by_cases hz : n = 0
  · subst hz
    rw [show Lib.itoa 0 = [48] by decide +kernel]
    simp only [if_true]
    exact Ev.now (B [48])
  · simp only [if_neg hz, if_neg (show ¬ n < 0 by omega)]
    obtain ⟨u, rfl⟩ : ∃ u : Nat, n = (u : Int) := ⟨n.toNat, by omega⟩
    have h := digit_ev (u : Int) h0 u [] (by omega) (by simp; omega)
    rw [List.append_nil] at h
    have e : Lib.itoa (u : Int) = digs u := by
      unfold Lib.itoa digs
      rw [if_neg (by omega), if_neg (by omega), Int.toNat_natCast]
    rw [e, u64 (by omega) (by omega)]
    exact Ev.step (fun k => by simp only [spec_l1Dec.j0]; rfl) h
theorem implDec (n : Int) (h0 : 0 ≤ n) (h1 : n ≤ 1000000000000) : impl_dec.f n = some (B (Lib.itoa n)) := by
  unfold impl_dec.f
  rw [if_pos ⟨by omega, by omega⟩]
  rfl
theorem dec_len (n : Int) (h0 : 0 ≤ n) (h1 : n ≤ 1000000000000) : (Lib.itoa n).length ≤ 21 := Lib.itoa_length_le n (by omega) (by omega)


/-- Days of a month, of the months ahead of it, of the years ahead. -/
def md (y m : Int) : Int := if m = 2 then (if y % 4 = 0 then 29 else 28) else if m = 4 then 30 else if m = 6 then 30 else if m = 9 then 30 else if m = 11 then 30 else 31
def cum (y m : Int) : Int := if m = 1 then 0 else if m = 2 then 31 else (if m = 3 then 59 else if m = 4 then 90 else if m = 5 then 120 else if m = 6 then 151 else if m = 7 then 181 else if m = 8 then 212 else if m = 9 then 243 else if m = 10 then 273 else if m = 11 then 304 else if m = 12 then 334 else 365) + (if y % 4 = 0 then 1 else 0)
def yr (y : Int) : Int := (y - 2000) * 365 + (y - 2000 + 3) / 4
theorem months {m : Int} (h0 : 1 ≤ m) (h1 : m ≤ 12) : m = 1 ∨ m = 2 ∨ m = 3 ∨ m = 4 ∨ m = 5 ∨ m = 6 ∨ m = 7 ∨ m = 8 ∨ m = 9 ∨ m = 10 ∨ m = 11 ∨ m = 12 := by omega
theorem cum_step (y m : Int) (h0 : 1 ≤ m) (h1 : m ≤ 12) : cum y (m + 1) = cum y m + md y m := by
  unfold cum md
  rcases months h0 h1 with rfl | rfl | rfl | rfl | rfl | rfl | rfl | rfl | rfl | rfl | rfl | rfl <;> simp <;> split <;> simp
theorem md_bd (y m : Int) : 28 ≤ md y m ∧ md y m ≤ 31 := by
  unfold md
  repeat' split
  all_goals omega
theorem cum_mono (y a : Int) (h0 : 1 ≤ a) : ∀ n : Nat, a + n ≤ 13 → cum y a ≤ cum y (a + n) := by
  intro n
  induction n with
  | zero => intro _; simp
  | succ n ih =>
    intro h
    have h1 := ih (by omega)
    have h2 := cum_step y (a + n) (by omega) (by omega)
    have h3 := md_bd y (a + n)
    have e : a + ((n + 1 : Nat) : Int) = a + n + 1 := by omega
    rw [e]
    omega
theorem cum_le {y a b : Int} (h0 : 1 ≤ a) (h1 : a ≤ b) (h2 : b ≤ 13) : cum y a ≤ cum y b := by
  have := cum_mono y a h0 (b - a).toNat (by omega)
  rw [show a + ((b - a).toNat : Int) = b by omega] at this
  exact this
theorem cum1 (y : Int) : cum y 1 = 0 := rfl
theorem cum_bd {y a : Int} (h0 : 1 ≤ a) (h1 : a ≤ 13) : 0 ≤ cum y a ∧ cum y a ≤ 366 := by
  have h := cum_le (y := y) (a := 1) (b := a) (by omega) h0 h1
  have h' := cum_le (y := y) (a := a) (b := 13) h0 h1 (by omega)
  have e : cum y 13 ≤ 366 := by unfold cum; simp; split <;> omega
  rw [cum1] at h
  omega
theorem yr_step (y : Int) : yr (y + 1) = yr y + cum y 13 := by
  unfold yr cum
  simp
  split <;> omega
theorem yr_mono {a b : Int} (h : a ≤ b) : yr a ≤ yr b := by unfold yr; omega
theorem yr_bd {y : Int} (h0 : 2000 ≤ y) (h1 : y ≤ 2200) : 0 ≤ yr y ∧ yr y ≤ 100000 := by unfold yr; omega

theorem implMd (y m : Int) (hy : 0 ≤ y) : impl_monthDays.f y m = some (md y m) := by
  unfold impl_monthDays.f impl_leap.f md
  rw [Int.tmod_eq_emod_of_nonneg hy]
  simp only [Option.bind_some, beq_iff_eq]
  repeat' split
  all_goals first | rfl | omega
theorem specMd (y m : Int) (hy : 0 ≤ y) (h : y ≠ 2100 ∨ m ≠ 2) : spec_l2Days.f y m = some (md y m) := by
  unfold spec_l2Days.f md
  rw [Int.tmod_eq_emod_of_nonneg hy]
  repeat' split
  all_goals first | rfl | omega

theorem daysTo_ev (y m : Int) (hy : 2000 ≤ y) (hy2 : y ≤ 2200) (hm : 1 ≤ m) (hm2 : m ≤ 12) : Ev (fun k => impl_daysTo.f k y m 1) (yr y + cum y m) := by
  have hyb := yr_bd hy hy2
  have key : ∀ (d : Nat) (i : Int), i + d = m → 1 ≤ i → Ev (fun k => impl_daysTo.l0 k y m 1 (yr y + cum y i) i) (yr y + cum y m) := by
    intro d
    induction d with
    | zero =>
      intro i hi h1
      have e : i = m := by omega
      subst e
      have hb := cum_bd (y := y) h1 (show i ≤ 13 by omega)
      refine Ev.step (f := fun _ => some (yr y + cum y i)) (fun k => ?_) (Ev.now _)
      simp only [impl_daysTo.l0]
      rw [if_neg (by omega), w64 (n := yr y + cum y i + 1) (by omega) (by omega), w64 (n := yr y + cum y i + 1 - 1) (by omega) (by omega), Int.add_sub_cancel]
    | succ d ih =>
      intro i hi h1
      have hb := cum_bd (y := y) h1 (show i ≤ 13 by omega)
      have hmb := md_bd y i
      have hs := cum_step y i h1 (by omega)
      have hn := ih (i + 1) (by omega) (by omega)
      refine Ev.step (fun k => ?_) hn
      simp only [impl_daysTo.l0]
      rw [if_pos (by omega), implMd y i (by omega)]
      simp only [Option.bind_some]
      rw [w64 (n := yr y + cum y i + md y i) (by omega) (by omega), w64 (n := i + 1) (by omega) (by omega), hs, Int.add_assoc]
  have h := key (m - 1).toNat 1 (by omega) (by omega)
  unfold impl_daysTo.f
  have e : wrap64 (wrap64 (wrap64 (y - 2000) * 365) + wrap64 (Int.tdiv (wrap64 (wrap64 (y - 2000) + 3)) 4)) = yr y + cum y 1 := by
    rw [w64 (n := y - 2000) (by omega) (by omega), w64 (n := y - 2000 + 3) (by omega) (by omega), Int.tdiv_eq_ediv_of_nonneg (by omega), w64 (n := (y - 2000) * 365) (by omega) (by omega), w64 (n := (y - 2000 + 3) / 4) (by omega) (by omega)]
    rw [cum1, Int.add_zero]
    exact w64 (by unfold yr at hyb; omega) (by unfold yr at hyb; omega)
  simp only [e]
  exact h

/-- A day's date. -/
structure Dat (day Y M r : Int) : Prop where
  m1 : 1 ≤ M
  m12 : M ≤ 12
  y0 : 2000 ≤ Y
  y1 : Y ≤ 2100
  r0 : 0 ≤ r
  r1 : r < md Y M
  e : r + yr Y + cum Y M = day

theorem spec_loop (day h mi : Int) (hd : day ≤ 36525) : ∀ (n : Nat) (days Y M : Int), days ≤ n → 0 ≤ days → 1 ≤ M → M ≤ 12 → 2000 ≤ Y → Y ≤ 2100 → days + yr Y + cum Y M = day →
    ∃ Y' M' r, Ev (fun k => spec_DateOf.l0 k days Y M 1 h mi) (Y', M', r + 1, h, mi, true) ∧ Dat day Y' M' r := by
  intro n
  induction n with
  | zero =>
    intro days Y M hn h0 m1 m2 y0 y1 e
    have hc : Y ≠ 2100 ∨ M ≠ 2 := by
      by_cases hy : Y = 2100
      · right; intro hm; subst hy; subst hm
        have : yr 2100 = 36525 := by decide
        have : cum 2100 2 = 31 := rfl
        omega
      · exact .inl hy
    have hmb := md_bd Y M
    refine ⟨Y, M, days, Ev.step (f := fun _ => some (Y, M, days + 1, h, mi, true)) (fun k => ?_) (Ev.now _), m1, m2, y0, y1, h0, by omega, e⟩
    simp only [spec_DateOf.l0]
    rw [specMd Y M (by omega) hc]
    simp only [Option.bind_some]
    rw [if_neg (by omega), w64 (n := days + 1) (by omega) (by omega)]
  | succ n ih =>
    intro days Y M hn h0 m1 m2 y0 y1 e
    have hyb := yr_bd y0 (show Y ≤ 2200 by omega)
    have hcb := cum_bd (y := Y) m1 (show M ≤ 13 by omega)
    have h21 : Y = 2100 → M = 1 ∧ days = 0 := by
      intro hy; subst hy
      have : yr 2100 = 36525 := by decide
      have hc2 : M = 1 ∨ cum 2100 2 ≤ cum 2100 M := by
        by_cases hm : M = 1
        · exact .inl hm
        · exact .inr (cum_le (by omega) (by omega) (by omega))
      have : cum 2100 2 = 31 := rfl
      omega
    have hc : Y ≠ 2100 ∨ M ≠ 2 := by
      by_cases hy : Y = 2100
      · have := (h21 hy).1; omega
      · exact .inl hy
    have hmb := md_bd Y M
    by_cases hlt : days < md Y M
    · refine ⟨Y, M, days, Ev.step (f := fun _ => some (Y, M, days + 1, h, mi, true)) (fun k => ?_) (Ev.now _), m1, m2, y0, y1, h0, hlt, e⟩
      simp only [spec_DateOf.l0]
      rw [specMd Y M (by omega) hc]
      simp only [Option.bind_some]
      rw [if_neg (by omega), w64 (n := days + 1) (by omega) (by omega)]
    · have hs := cum_step Y M m1 m2
      have hY : Y ≠ 2100 := fun hy => by have := (h21 hy).2; omega
      by_cases h12 : M = 12
      · subst h12
        have hys := yr_step Y
        have e13 : cum Y (12 + 1) = cum Y 13 := rfl
        obtain ⟨Y', M', r, he, hdat⟩ := ih (days - md Y 12) (Y + 1) 1 (by omega) (by omega) (by omega) (by omega) (by omega) (by omega) (by rw [cum1]; omega)
        refine ⟨Y', M', r, Ev.step (fun k => ?_) he, hdat⟩
        simp only [spec_DateOf.l0]
        rw [specMd Y 12 (by omega) hc]
        simp only [Option.bind_some]
        rw [if_pos (by omega), if_pos (show wrap64 (12 + 1) = 13 from w64 (n := 12 + 1) (by decide) (by decide)), w64 (n := days - md Y 12) (by omega) (by omega), w64 (n := Y + 1) (by omega) (by omega)]
      · obtain ⟨Y', M', r, he, hdat⟩ := ih (days - md Y M) Y (M + 1) (by omega) (by omega) (by omega) (by omega) y0 y1 (by omega)
        refine ⟨Y', M', r, Ev.step (fun k => ?_) he, hdat⟩
        simp only [spec_DateOf.l0]
        rw [specMd Y M (by omega) hc]
        simp only [Option.bind_some]
        rw [if_pos (by omega), w64 (n := M + 1) (by omega) (by omega), if_neg (by omega), w64 (n := days - md Y M) (by omega) (by omega)]

theorem impl_month {t day Y M r : Int} (hd : Dat day Y M r) (hday : 0 ≤ day ∧ day ≤ 36525) : ∀ (d : Nat) (m : Int), m + d = M → 1 ≤ m → Ev (fun k => impl_DateOf.l1 k t day Y m) (Y, M, r + 1, Int.tmod (wrap64 (Int.tdiv t 60)) 24, Int.tmod t 60, true) := by
  obtain ⟨m1, m12, y0, y1, r0, r1, e⟩ := hd
  intro d
  induction d with
  | zero =>
    intro m hm h1
    have em : m = M := by omega
    subst em
    have hs := cum_step Y m m1 m12
    have h2 := daysTo_ev Y m y0 (by omega) m1 m12
    have hres : wrap64 (wrap64 (day - (yr Y + cum Y m)) + 1) = r + 1 := by
      have hmb := md_bd Y m
      rw [w64 (n := day - (yr Y + cum Y m)) (by omega) (by omega), w64 (by omega) (by omega)]; omega
    by_cases hl : m < 12
    · have h3 := daysTo_ev Y (m + 1) y0 (by omega) (by omega) (by omega)
      refine Ev.step (f := fun k => (impl_daysTo.f k Y (m + 1) 1).bind fun t128 => (if t128 ≤ day then (impl_DateOf.l1 k t day Y (m + 1)) else ((impl_daysTo.f k Y m 1).bind fun t129 => (some (Y, m, wrap64 ((wrap64 (day - t129)) + 1), Int.tmod (wrap64 (Int.tdiv t 60)) 24, Int.tmod t 60, true))))) (fun k => ?_) ?_
      · simp only [impl_DateOf.l1]
        rw [if_pos hl, w64 (n := m + 1) (by omega) (by omega)]
      · refine Ev_bind _ h3 ?_
        simp only [if_neg (show ¬ yr Y + cum Y (m + 1) ≤ day by omega)]
        refine Ev_bind _ h2 ?_
        rw [hres]
        exact Ev.now _
    · refine Ev.step (f := fun k => (impl_daysTo.f k Y m 1).bind fun t130 => (some (Y, m, wrap64 ((wrap64 (day - t130)) + 1), Int.tmod (wrap64 (Int.tdiv t 60)) 24, Int.tmod t 60, true))) (fun k => ?_) ?_
      · simp only [impl_DateOf.l1]
        rw [if_neg hl]
      · refine Ev_bind _ h2 ?_
        rw [hres]
        exact Ev.now _
  | succ d ih =>
    intro m hm h1
    have hn := ih (m + 1) (by omega) (by omega)
    have h3 := daysTo_ev Y (m + 1) y0 (by omega) (by omega) (by omega)
    have hc := cum_le (y := Y) (a := m + 1) (b := M) (by omega) (by omega) (by omega)
    refine Ev.step (f := fun k => (impl_daysTo.f k Y (m + 1) 1).bind fun t128 => (if t128 ≤ day then (impl_DateOf.l1 k t day Y (m + 1)) else ((impl_daysTo.f k Y m 1).bind fun t129 => (some (Y, m, wrap64 ((wrap64 (day - t129)) + 1), Int.tmod (wrap64 (Int.tdiv t 60)) 24, Int.tmod t 60, true))))) (fun k => ?_) ?_
    · simp only [impl_DateOf.l1]
      rw [if_pos (by omega), w64 (n := m + 1) (by omega) (by omega)]
    · refine Ev_bind _ h3 ?_
      simp only [if_pos (show yr Y + cum Y (m + 1) ≤ day by omega)]
      exact hn
theorem impl_year {t day Y M r : Int} (hd : Dat day Y M r) (hday : 0 ≤ day ∧ day ≤ 36525) : ∀ (d : Nat) (y : Int), y + d = Y → 2000 ≤ y → Ev (fun k => impl_DateOf.l0 k t day y) (Y, M, r + 1, Int.tmod (wrap64 (Int.tdiv t 60)) 24, Int.tmod t 60, true) := by
  have hd' := hd
  obtain ⟨m1, m12, y0, y1, r0, r1, e⟩ := hd'
  intro d
  induction d with
  | zero =>
    intro y hy h1
    have ey : y = Y := by omega
    subst ey
    have hm := impl_month (t := t) hd hday (M - 1).toNat 1 (by omega) (by omega)
    have h2 := daysTo_ev (y + 1) 1 (by omega) (by omega) (by omega) (by omega)
    rw [cum1, Int.add_zero] at h2
    have hs := cum_step y M m1 m12
    have hle := cum_le (y := y) (a := M + 1) (b := 13) (by omega) (by omega) (by omega)
    have hys := yr_step y
    refine Ev.step (f := fun k => (impl_daysTo.f k (y + 1) 1 1).bind fun t127 => (if t127 ≤ day then (impl_DateOf.l0 k t day (y + 1)) else (impl_DateOf.l1 k t day y 1))) (fun k => ?_) ?_
    · simp only [impl_DateOf.l0]
      rw [w64 (n := y + 1) (by omega) (by omega)]
    · refine Ev_bind _ h2 ?_
      simp only [if_neg (show ¬ yr (y + 1) ≤ day by omega)]
      exact hm
  | succ d ih =>
    intro y hy h1
    have hn := ih (y + 1) (by omega) (by omega)
    have h2 := daysTo_ev (y + 1) 1 (by omega) (by omega) (by omega) (by omega)
    rw [cum1, Int.add_zero] at h2
    have hmo := yr_mono (a := y + 1) (b := Y) (by omega)
    have hcb := cum_bd (y := Y) m1 (show M ≤ 13 by omega)
    refine Ev.step (f := fun k => (impl_daysTo.f k (y + 1) 1 1).bind fun t127 => (if t127 ≤ day then (impl_DateOf.l0 k t day (y + 1)) else (impl_DateOf.l1 k t day y 1))) (fun k => ?_) ?_
    · simp only [impl_DateOf.l0]
      rw [w64 (n := y + 1) (by omega) (by omega)]
    · refine Ev_bind _ h2 ?_
      simp only [if_pos (show yr (y + 1) ≤ day by omega)]
      exact hn
end Go.Proofs.YtadfgfjpadbfdaaDoor.QFnExactStamp
