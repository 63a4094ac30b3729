/- FnExactPhrase, plainly: both say the same words. No condition. -/
import Derived.Test.YtllkijlmjapleaaDoorPhraseLib
import Derived.Test.YtllkijlmjapleaaDoorStatFnExactPhrase
set_option linter.unusedVariables false
set_option linter.unusedSimpArgs false
namespace Go.Proofs.YtllkijlmjapleaaDoor.QFnExactPhrase
open Go.RowKit Go.Proofs.YtllkijlmjapleaaDoorW.PrintWords Go.Proofs.YtllkijlmjapleaaDoor.Opn Go.Proofs.YtllkijlmjapleaaDoor.Pl

theorem in2 (a b c : Int) : spec_l2In.f a b c = some (decide (b ≤ a ∧ a ≤ c)) := by
  unfold spec_l2In.f
  by_cases h : a ≥ b
  · rw [if_pos h]
    exact congrArg some (decide_eq_decide.2 (by omega))
  · rw [if_neg h]
    exact congrArg some (decide_eq_false (by omega)).symm
theorem inI (a b c : Int) : impl_in.f a b c = some (decide (b ≤ a ∧ a ≤ c)) := in2 a b c
theorem sayOk_eq (d f l r p : Int) : impl_sayOk.f d f l r p = spec_l23Ok.f d f l r p := rfl
theorem sayOk_val (d f l r p : Int) : ∃ b, spec_l23Ok.f d f l r p = some b ∧ (b = true → (0 ≤ d ∧ d ≤ 8) ∧ (0 ≤ f ∧ f ≤ 12) ∧ (0 ≤ l ∧ l ≤ 12) ∧ (0 ≤ r ∧ r ≤ 3) ∧ (0 ≤ p ∧ p ≤ 100) ∧ (f = 0 ↔ d = 0) ∧ (p = 0 ↔ r = 0)) := by
  unfold spec_l23Ok.f
  simp only [in2, Option.bind_some, decide_eq_true_eq]
  by_cases h1 : 0 ≤ d ∧ d ≤ 8
  case neg => rw [if_neg h1]; exact ⟨_, rfl, fun h => by cases h⟩
  rw [if_pos h1]
  by_cases h2 : 0 ≤ f ∧ f ≤ 12
  case neg => rw [if_neg h2]; exact ⟨_, rfl, fun h => by cases h⟩
  rw [if_pos h2]
  by_cases h3 : 0 ≤ l ∧ l ≤ 12
  case neg => rw [if_neg h3]; exact ⟨_, rfl, fun h => by cases h⟩
  rw [if_pos h3]
  by_cases h4 : ((f == 0) == (d == 0)) = true
  case neg => rw [if_neg h4]; exact ⟨_, rfl, fun h => by cases h⟩
  rw [if_pos h4]
  by_cases h5 : 0 ≤ r ∧ r ≤ 3
  case neg => rw [if_neg h5]; exact ⟨_, rfl, fun h => by cases h⟩
  rw [if_pos h5]
  by_cases h6 : 0 ≤ p ∧ p ≤ 100
  case neg => rw [if_neg h6]; exact ⟨_, rfl, fun h => by cases h⟩
  rw [if_pos h6]
  refine ⟨_, rfl, fun h7 => ⟨h1, h2, h3, h5, h6, ?_, ?_⟩⟩
  · by_cases c1 : f = 0 <;> by_cases c2 : d = 0 <;> simp_all
  · by_cases c1 : p = 0 <;> by_cases c2 : r = 0 <;> simp_all
/-- What is said. -/
def sayL (T : Tg) (d f l r p : Nat) : List UInt8 := windL T d f ++ (laterL T f l ++ ([46, 32] ++ (rainL T r p ++ [46])))
theorem specSay (t d f l r p : Nat) (ht : t = 1 ∨ t = 2 ∨ t = 3) (hd : d ≤ 8) (hf : f ≤ 12) (hl : l ≤ 12) (hr : r ≤ 3) (hp : p ≤ 100) :
    Ev (fun k => spec_Phrase.j0 k (t : Int) false (d : Int) (f : Int) (l : Int) (r : Int) (p : Int)) (B (sayL (tg t) d f l r p)) := by
  have h1 := wind_len (tg t) (short t) d f hd (by omega)
  have h2 := later_len (tg t) (short t) f l (by omega)
  have h3 := rain_len (tg t) (short t) r p hr (by omega)
  refine Ev.step (fun k => by rw [spec_Phrase.j0, if_neg (by decide)]) (Ev_bind _ (specWind t d f l r p ht hd hf) (Ev_bind _ (specLater t d f l r p ht hl) ?_))
  simp only [b4632, B_app, B_size, List.length_append, if_pos (show (windL (tg t) d f).length + (laterL (tg t) f l).length ≤ 9223372036854775807 by omega), if_pos (show (windL (tg t) d f).length + (laterL (tg t) f l).length + 2 ≤ 9223372036854775807 by omega)]
  refine Ev_bind _ (specRain t d f l r p ht hr hp) ?_
  simp only [b46, B_app, B_size, List.length_append, List.length_cons, List.length_nil]
  rw [if_pos (by omega), if_pos (by omega)]
  unfold sayL
  simp only [List.append_assoc]
  exact Ev.now _
theorem implAt (t : Nat) (ht : t = 1 ∨ t = 2 ∨ t = 3) : impl_tongueAt.f (t : Int) = some (B (tg t).calm, B (tg t).before, B (tg t).between, B (tg t).up, B (tg t).down, B (tg t).dry, B (tg t).inn, B (tg t).one, B (tg t).many, B ((tg t).dirs.getD 0 []), B ((tg t).dirs.getD 1 []), B ((tg t).dirs.getD 2 []), B ((tg t).dirs.getD 3 []), B ((tg t).dirs.getD 4 []), B ((tg t).dirs.getD 5 []), B ((tg t).dirs.getD 6 []), B ((tg t).dirs.getD 7 []), B ((tg t).dirs.getD 8 []), B ((tg t).rains.getD 0 []), B ((tg t).rains.getD 1 []), B ((tg t).rains.getD 2 []), B ((tg t).rains.getD 3 [])) := by
  rcases ht with rfl | rfl | rfl <;> rfl
theorem implSay (t d f l r p : Nat) (ht : t = 1 ∨ t = 2 ∨ t = 3) (hd : d ≤ 8) (hf : f ≤ 12) (hl : l ≤ 12) (hr : r ≤ 3) (hp : p ≤ 100) :
    Ev (fun k => impl_Phrase.j0 k (t : Int) false (d : Int) (f : Int) (l : Int) (r : Int) (p : Int)) (B (sayL (tg t) d f l r p)) := by
  have h1 := wind_len (tg t) (short t) d f hd (by omega)
  have h2 := later_len (tg t) (short t) f l (by omega)
  have h3 := rain_len (tg t) (short t) r p hr (by omega)
  refine Ev.step (fun k => by rw [impl_Phrase.j0, if_neg (by decide), implAt t ht, Option.bind_some, implRain (tg t) (short t) r p hr hp]) (Ev_bind _ (implWind (tg t) (short t) d f l hd hf hl) ?_)
  simp only [b32, Option.bind_some, B_app, B_size, List.length_append, List.length_cons, List.length_nil]
  rw [if_pos (by omega), if_pos (by omega)]
  unfold sayL
  simp only [List.append_assoc, List.cons_append, List.nil_append]
  exact Ev.now _

theorem Pure.FnExactPhrase : FnExactPhrase_Pure := by
  intro d f l r p t _ _ _ _ _ _
  refine Ev.rounds (g := fun k => laws_FnExactPhrase.f k d f l r p t) ?_
  unfold laws_FnExactPhrase.f laws_toSay.f
  simp only [Option.bind_some]
  obtain ⟨R, h1, h2⟩ : ∃ R, Ev (fun k => spec_Phrase.f k d f l r p t) R ∧ Ev (fun k => impl_Phrase.f k d f l r p t) R := by
    unfold spec_Phrase.f impl_Phrase.f
    obtain ⟨b, hb, hok⟩ := sayOk_val d f l r p
    simp only [sayOk_eq, hb, in2, inI, Option.bind_some]
    by_cases hq : b = true ∧ (1 ≤ t ∧ t ≤ 3)
    · obtain ⟨rfl, ht⟩ := hq
      obtain ⟨⟨d0, d1⟩, ⟨f0, f1⟩, ⟨l0, l1⟩, ⟨r0, r1⟩, ⟨p0, p1⟩, _, _⟩ := hok rfl
      obtain ⟨d, rfl⟩ : ∃ n : Nat, d = (n : Int) := ⟨d.toNat, by omega⟩
      obtain ⟨f, rfl⟩ : ∃ n : Nat, f = (n : Int) := ⟨f.toNat, by omega⟩
      obtain ⟨l, rfl⟩ : ∃ n : Nat, l = (n : Int) := ⟨l.toNat, by omega⟩
      obtain ⟨r, rfl⟩ : ∃ n : Nat, r = (n : Int) := ⟨r.toNat, by omega⟩
      obtain ⟨p, rfl⟩ : ∃ n : Nat, p = (n : Int) := ⟨p.toNat, by omega⟩
      obtain ⟨t, rfl⟩ : ∃ n : Nat, t = (n : Int) := ⟨t.toNat, by omega⟩
      refine ⟨B (sayL (tg t) d f l r p), ?_, ?_⟩
      · rw [decide_eq_true ht]
        simp only [if_true, Bool.not_true]
        exact specSay t d f l r p (by omega) (by omega) (by omega) (by omega) (by omega) (by omega)
      · rw [decide_eq_true ht]
        simp only [if_true, Bool.not_true]
        exact implSay t d f l r p (by omega) (by omega) (by omega) (by omega) (by omega) (by omega)
    · have e1 : Ev (fun k => spec_Phrase.j0 k t true d f l r p) (⟨#[]⟩ : ByteArray) := Ev.step (f := fun _ => some ⟨#[]⟩) (fun k => by rw [spec_Phrase.j0, if_pos rfl]) (Ev.now _)
      have e2 : Ev (fun k => impl_Phrase.j0 k t true d f l r p) (⟨#[]⟩ : ByteArray) := Ev.step (f := fun _ => some ⟨#[]⟩) (fun k => by rw [impl_Phrase.j0, if_pos rfl]) (Ev.now _)
      refine ⟨⟨#[]⟩, ?_, ?_⟩
      · cases b with
        | false => simp only [Bool.false_eq_true, if_false]; exact e1
        | true =>
          rw [decide_eq_false (fun h => hq ⟨rfl, h⟩)]
          simp only [if_true, Bool.not_false]
          exact e1
      · by_cases ht : 1 ≤ t ∧ t ≤ 3
        · rw [decide_eq_true ht]
          cases b with
          | false => simp only [if_true, Bool.not_false]; exact e2
          | true => exact absurd ⟨rfl, ht⟩ hq
        · rw [decide_eq_false ht]
          simp only [Bool.false_eq_true, if_false]
          exact e2
  refine Ev_bind _ h1 (Ev_bind _ h2 ?_)
  simp only [if_true]
  exact Ev.now _
end Go.Proofs.YtllkijlmjapleaaDoor.QFnExactPhrase
