/- FnExactSoilText, plainly: both ask the same of the five numbers, and both write them in decimal with blanks between. No condition. -/
import Derived.Test.YtadfgfjpadbfdaaDoorLib
import Derived.Test.YtadfgfjpadbfdaaDoorStatFnExactSoilText
import Derived.Lib.ItoaLen
set_option linter.unusedVariables false
set_option linter.unusedSimpArgs false
namespace Go.Proofs.YtadfgfjpadbfdaaDoor.QFnExactSoilText
open Go.RowKit Go.Proofs.YtadfgfjpadbfdaaDoorW.PrintWords Go.Proofs.YtadfgfjpadbfdaaDoor.Opn Go.Proofs.YtadfgfjpadbfdaaDoor.Pl

def inB (n a b : Int) : Bool := decide (a ≤ n) && decide (n ≤ b)
theorem specIn (n a b : Int) : spec_l2In.f n a b = some (inB n a b) := by
  unfold spec_l2In.f inB
  by_cases h : n ≥ a
  · rw [if_pos h, decide_eq_true (show a ≤ n from h), Bool.true_and]
  · rw [if_neg h, decide_eq_false (show ¬ a ≤ n from h), Bool.false_and]
theorem implIn (n a b : Int) : impl_in.f n a b = some (inB n a b) := by
  unfold impl_in.f inB
  by_cases h : n ≥ a
  · rw [if_pos h, decide_eq_true (show a ≤ n from h), Bool.true_and]
  · rw [if_neg h, decide_eq_false (show ¬ a ≤ n from h), Bool.false_and]

/-- What both ask. -/
def soilB (a b c d e : Int) : Bool := inB a 0 1000000000000 && (inB b 0 400 && (inB c 0 1500 && (inB d 0 1000000000000 && (inB e 0 1000000000000 && (e == wrap64 (wrap64 (wrap64 (a + b) + c) + d))))))
theorem implOk (a b c d e : Int) : impl_soilOk.f a b c d e = some (soilB a b c d e) := by
  unfold impl_soilOk.f soilB
  simp only [implIn, Option.bind_some]
  cases inB a 0 1000000000000 <;> cases inB b 0 400 <;> cases inB c 0 1500 <;> cases inB d 0 1000000000000 <;> cases inB e 0 1000000000000 <;> simp
def specB (a b c d e : Int) : Bool := inB a 0 1000000000000 && (inB b 0 1000000000000 && (inB c 0 1000000000000 && (inB d 0 1000000000000 && (inB e 0 1000000000000 && (decide (b ≤ 400) && (decide (c ≤ 1500) && (e == wrap64 (wrap64 (wrap64 (a + b) + c) + d))))))))
theorem both (a b c d e : Int) : specB a b c d e = soilB a b c d e := by
  unfold specB soilB inB
  rw [Bool.eq_iff_iff]
  simp only [Bool.and_eq_true, decide_eq_true_eq, beq_iff_eq]
  constructor
  · rintro ⟨h1, h2, h3, h4, h5, h6, h7, h8⟩; exact ⟨h1, ⟨h2.1, h6⟩, ⟨h3.1, h7⟩, h4, h5, h8⟩
  · rintro ⟨h1, h2, h3, h4, h5, h8⟩; exact ⟨h1, ⟨h2.1, Int.le_trans h2.2 (by decide)⟩, ⟨h3.1, Int.le_trans h3.2 (by decide)⟩, h4, h5, h2.2, h3.2, h8⟩
theorem specOk_ev (a b c d e : Int) : Ev (fun k => spec_l17SoilOk.f k a b c d e) (soilB a b c d e) := by
  rw [← both]
  unfold spec_l17SoilOk.f
  simp only [Option.bind_some]
  have h5 : Ev (fun k => spec_l17SoilOk.l0 k [a, b, c, d, e] 5 5 a b c d e) (decide (b ≤ 400) && (decide (c ≤ 1500) && (e == wrap64 (wrap64 (wrap64 (a + b) + c) + d)))) := by
    refine Ev.step (f := fun _ => some (decide (b ≤ 400) && (decide (c ≤ 1500) && (e == wrap64 (wrap64 (wrap64 (a + b) + c) + d))))) (fun k => ?_) (Ev.now _)
    simp only [spec_l17SoilOk.l0]
    rw [if_neg (by decide)]
    by_cases h1 : b ≤ 400 <;> by_cases h2 : c ≤ 1500 <;> simp [h1, h2]
  have one : ∀ (i j : Int) (v : Int) (r : Bool), i < 5 → 0 ≤ i → wrap64 (i + 1) = j → rd [a, b, c, d, e] i = v → Ev (fun k => spec_l17SoilOk.l0 k [a, b, c, d, e] 5 j a b c d e) r → Ev (fun k => spec_l17SoilOk.l0 k [a, b, c, d, e] 5 i a b c d e) (inB v 0 1000000000000 && r) := by
    intro i j v r hi h0 hj hv hr
    refine Ev.step (f := fun k => if inB v 0 1000000000000 = true then spec_l17SoilOk.l0 k [a, b, c, d, e] 5 j a b c d e else some false) (fun k => ?_) ?_
    · simp only [spec_l17SoilOk.l0]
      rw [if_pos hi, if_pos h0, if_pos (by simpa using hi), specIn, hj, hv]
      rfl
    · cases inB v 0 1000000000000
      · simpa using Ev.now false
      · simpa using hr
  have h4 := one 4 5 e _ (by decide) (by decide) (w64 (by decide) (by decide)) rfl h5
  have h3 := one 3 4 d _ (by decide) (by decide) (w64 (by decide) (by decide)) rfl h4
  have h2 := one 2 3 c _ (by decide) (by decide) (w64 (by decide) (by decide)) rfl h3
  have h1 := one 1 2 b _ (by decide) (by decide) (w64 (by decide) (by decide)) rfl h2
  exact one 0 1 a _ (by decide) (by decide) (w64 (by decide) (by decide)) rfl h1

/-- Bytes as a string. -/
def B (l : List UInt8) : ByteArray := ⟨l.toArray⟩
theorem B_app (a b : List UInt8) : B a ++ B b = B (a ++ b) := by
  apply ByteArray.ext
  rw [ByteArray.data_append]
  simp [B]
theorem B_size (a : List UInt8) : (B a).size = a.length := by simp [B, ByteArray.size]

/-- The digits of a number above 0; none of 0. -/
def digs (u : Nat) : List UInt8 := if u = 0 then [] else Lib.decDigits u
theorem digs_step (u : Nat) (h : 0 < u) : digs u = digs (u / 10) ++ [UInt8.ofNat (48 + u % 10)] := by
  unfold digs
  rw [if_neg (by omega), Lib.decDigits]
  by_cases h1 : u < 10
  · rw [dif_pos h1, if_pos (by omega), Nat.mod_eq_of_lt h1]
    rfl
  · rw [dif_neg h1, if_neg (by omega)]
theorem u64 {n : Int} (h0 : 0 ≤ n) (h1 : n < 18446744073709551616) : IntKind.u64.wrap n = n := by
  have e : n % 18446744073709551616 = n := Int.emod_eq_of_lt h0 h1
  simpa [IntKind.wrap, IntKind.bits, IntKind.signed] using e
theorem digit_ev (x0 : Int) (hx : 0 ≤ x0) : ∀ (u : Nat) (acc : List UInt8), u ≤ 1000000000000 → acc.length + u ≤ 2000000000000 → Ev (fun k => spec_l1Dec.l0 k x0 (B acc) (u : Int)) (B (digs u ++ acc)) := by
  intro u
  induction u using Nat.strongRecOn with
  | _ u ih =>
    intro acc hu ha
    by_cases h0 : u = 0
    · subst h0
      refine Ev.step (f := fun _ => some (B (digs 0 ++ acc))) (fun k => ?_) (Ev.now _)
      simp only [spec_l1Dec.l0]
      rw [if_neg (by decide), if_neg (by omega)]
      rfl
    · have ht : Int.tmod (u : Int) 10 = ((u % 10 : Nat) : Int) := rfl
      have hd : Int.tdiv (u : Int) 10 = ((u / 10 : Nat) : Int) := rfl
      have hn := ih (u / 10) (by omega) (UInt8.ofNat (48 + u % 10) :: acc) (by omega) (by rw [List.length_cons]; omega)
      rw [digs_step u (by omega), List.append_assoc]
      refine Ev.step (fun k => ?_) hn
      have hs : strOfNums [(IntKind.u64.wrap (48 + Int.tmod (u : Int) 10)) % 256] = B [UInt8.ofNat (48 + u % 10)] := by
        rw [ht, u64 (by omega) (by omega), Int.emod_eq_of_lt (by omega) (by omega)]
        have : (48 + ((u % 10 : Nat) : Int)).toNat = 48 + u % 10 := by omega
        simp only [strOfNums, List.map_cons, List.map_nil, this]
        rfl
      simp only [spec_l1Dec.l0]
      rw [if_pos (by omega)]
      simp only [Option.bind_some]
      rw [hs, if_pos (by rw [B_size, B_size, List.length_singleton]; omega), hd, u64 (by omega) (by omega), B_app]
      rfl
theorem dec_ev (n : Int) (h0 : 0 ≤ n) (h1 : n ≤ 1000000000000) : Ev (fun k => spec_l1Dec.f k n) (B (Lib.itoa n)) := by
  unfold spec_l1Dec.f
  by_cases hz : n = 0
  · subst hz
    rw [show Lib.itoa 0 = [48] by decide +kernel]
    simp only [if_true]
    exact Ev.now (B [48])
  · simp only [if_neg hz, if_neg (show ¬ n < 0 by omega)]
    obtain ⟨u, rfl⟩ : ∃ u : Nat, n = (u : Int) := ⟨n.toNat, by omega⟩
    have h := digit_ev (u : Int) h0 u [] (by omega) (by simp; omega)
    rw [List.append_nil] at h
    have e : Lib.itoa (u : Int) = digs u := by
      unfold Lib.itoa digs
      rw [if_neg (by omega), if_neg (by omega), Int.toNat_natCast]
    rw [e, u64 (by omega) (by omega)]
    exact Ev.step (fun k => by simp only [spec_l1Dec.j0]; rfl) h
theorem implDec (n : Int) (h0 : 0 ≤ n) (h1 : n ≤ 1000000000000) : impl_dec.f n = some (B (Lib.itoa n)) := by
  unfold impl_dec.f
  rw [if_pos ⟨by omega, by omega⟩]
  rfl
theorem dec_len (n : Int) (h0 : 0 ≤ n) (h1 : n ≤ 1000000000000) : (Lib.itoa n).length ≤ 21 := Lib.itoa_length_le n (by omega) (by omega)

/-- The text. -/
def soilT (a b c d e : Int) : ByteArray := if soilB a b c d e = true then B (Lib.itoa a ++ ([32] ++ (Lib.itoa b ++ ([32] ++ (Lib.itoa c ++ ([32] ++ (Lib.itoa d ++ ([32] ++ Lib.itoa e)))))))) else ⟨#[]⟩
theorem soil_range {a b c d e : Int} (h : soilB a b c d e = true) : (0 ≤ a ∧ a ≤ 1000000000000) ∧ (0 ≤ b ∧ b ≤ 1000000000000) ∧ (0 ≤ c ∧ c ≤ 1000000000000) ∧ (0 ≤ d ∧ d ≤ 1000000000000) ∧ (0 ≤ e ∧ e ≤ 1000000000000) := by
  unfold soilB inB at h
  simp only [Bool.and_eq_true, decide_eq_true_eq] at h
  omega
theorem join5 (p q r s t : List UInt8) : Lib.join [p, q, r, s, t] [32] = p ++ ([32] ++ (q ++ ([32] ++ (r ++ ([32] ++ (s ++ ([32] ++ t))))))) := by
  simp [Lib.join, List.intercalate, List.intersperse]
theorem impl_soil (a b c d e : Int) : impl_SoilText.f a b c d e = some (soilT a b c d e) := by
  unfold impl_SoilText.f soilT
  rw [implOk]
  simp only [Option.bind_some]
  by_cases h : soilB a b c d e = true
  · obtain ⟨⟨a0, a1⟩, ⟨b0, b1⟩, ⟨c0, c1⟩, ⟨d0, d1⟩, e0, e1⟩ := soil_range h
    have la := dec_len a a0 a1
    have lb := dec_len b b0 b1
    have lc := dec_len c c0 c1
    have ld := dec_len d d0 d1
    have le := dec_len e e0 e1
    rw [if_pos h, if_pos h, implDec a a0 a1, implDec b b0 b1, implDec c c0 c1, implDec d d0 d1, implDec e e0 e1]
    simp only [Option.bind_some]
    unfold strings_Join.f
    have hj : Lib.join ([B (Lib.itoa a), B (Lib.itoa b), B (Lib.itoa c), B (Lib.itoa d), B (Lib.itoa e)].map (·.data.toList)) (⟨#[32]⟩ : ByteArray).data.toList = Lib.join [Lib.itoa a, Lib.itoa b, Lib.itoa c, Lib.itoa d, Lib.itoa e] [32] := by simp [B]
    rw [hj, join5, if_pos ⟨by simp, by simp only [List.length_append, List.length_singleton]; omega⟩]
    rfl
  · rw [if_neg h, if_neg h]
theorem spec_soil (a b c d e : Int) : Ev (fun k => spec_SoilText.f k a b c d e) (soilT a b c d e) := by
  unfold spec_SoilText.f soilT
  refine Ev_bind _ (specOk_ev a b c d e) ?_
  by_cases h : soilB a b c d e = true
  · obtain ⟨⟨a0, a1⟩, ⟨b0, b1⟩, ⟨c0, c1⟩, ⟨d0, d1⟩, e0, e1⟩ := soil_range h
    have la := dec_len a a0 a1
    have lb := dec_len b b0 b1
    have lc := dec_len c c0 c1
    have ld := dec_len d d0 d1
    have le := dec_len e e0 e1
    have hb : (⟨#[32]⟩ : ByteArray) = B [32] := rfl
    simp only [if_pos h, hb]
    refine Ev_bind _ (dec_ev a a0 a1) ?_
    simp only [B_app, B_size, List.length_append, List.length_singleton, if_pos (show (Lib.itoa a).length + 1 ≤ 9223372036854775807 by omega)]
    refine Ev_bind _ (dec_ev b b0 b1) ?_
    simp only [B_app, B_size, List.length_append, List.length_singleton, if_pos (show (Lib.itoa a).length + 1 + (Lib.itoa b).length ≤ 9223372036854775807 by omega), if_pos (show (Lib.itoa a).length + 1 + (Lib.itoa b).length + 1 ≤ 9223372036854775807 by omega)]
    refine Ev_bind _ (dec_ev c c0 c1) ?_
    simp only [B_app, B_size, List.length_append, List.length_singleton, if_pos (show (Lib.itoa a).length + 1 + (Lib.itoa b).length + 1 + (Lib.itoa c).length ≤ 9223372036854775807 by omega), if_pos (show (Lib.itoa a).length + 1 + (Lib.itoa b).length + 1 + (Lib.itoa c).length + 1 ≤ 9223372036854775807 by omega)]
    refine Ev_bind _ (dec_ev d d0 d1) ?_
    simp only [B_app, B_size, List.length_append, List.length_singleton, if_pos (show (Lib.itoa a).length + 1 + (Lib.itoa b).length + 1 + (Lib.itoa c).length + 1 + (Lib.itoa d).length ≤ 9223372036854775807 by omega), if_pos (show (Lib.itoa a).length + 1 + (Lib.itoa b).length + 1 + (Lib.itoa c).length + 1 + (Lib.itoa d).length + 1 ≤ 9223372036854775807 by omega)]
    refine Ev_bind _ (dec_ev e e0 e1) ?_
    simp only [B_app, B_size, List.length_append, List.length_singleton, if_pos (show (Lib.itoa a).length + 1 + (Lib.itoa b).length + 1 + (Lib.itoa c).length + 1 + (Lib.itoa d).length + 1 + (Lib.itoa e).length ≤ 9223372036854775807 by omega)]
    simp only [List.append_assoc]
    exact Ev.now _
  · simp only [if_neg h]
    exact Ev.now _
theorem Pure.FnExactSoilText : FnExactSoilText_Pure := by
  intro a b c d e _ _ _ _ _
  refine Ev.rounds (g := fun k => laws_FnExactSoilText.f k a b c d e) ?_
  unfold laws_FnExactSoilText.f laws_toSoil.f
  simp only [Option.bind_some]
  refine Ev_bind _ (spec_soil a b c d e) ?_
  rw [impl_soil]
  simp only [Option.bind_some, if_true]
  exact Ev.now _
end Go.Proofs.YtadfgfjpadbfdaaDoor.QFnExactSoilText
