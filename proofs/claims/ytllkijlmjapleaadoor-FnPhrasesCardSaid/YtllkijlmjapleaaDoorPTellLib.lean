/- What is said tells what it says, plainly: no two right says, in whatever tongues, have the same words. Conditions: 'Valid'. -/
import Derived.Test.YtllkijlmjapleaaDoorPPhraseLib
set_option linter.unusedVariables false
set_option linter.unusedSimpArgs false
namespace Go.Proofs.YtllkijlmjapleaaDoor.QFnPhrases
open Go.RowKit Go.Proofs.YtllkijlmjapleaaDoorW.PrintWords Go.Proofs.YtllkijlmjapleaaDoor.Opn Go.Proofs.YtllkijlmjapleaaDoor.Pl

theorem in2 (a b c : Int) : spec_l2In.f a b c = some (decide (b ≤ a ∧ a ≤ c)) := by
  unfold spec_l2In.f
  by_cases h : a ≥ b
  · rw [if_pos h]
    exact congrArg some (decide_eq_decide.2 (by omega))
  · rw [if_neg h]
    exact congrArg some (decide_eq_false (by omega)).symm
theorem inI (a b c : Int) : impl_in.f a b c = some (decide (b ≤ a ∧ a ≤ c)) := in2 a b c
theorem sayOk_val (d f l r p : Int) : ∃ b, spec_l23Ok.f d f l r p = some b ∧ (b = true → (0 ≤ d ∧ d ≤ 8) ∧ (0 ≤ f ∧ f ≤ 12) ∧ (0 ≤ l ∧ l ≤ 12) ∧ (0 ≤ r ∧ r ≤ 3) ∧ (0 ≤ p ∧ p ≤ 100) ∧ (f = 0 ↔ d = 0) ∧ (p = 0 ↔ r = 0)) := by
  unfold spec_l23Ok.f
  simp only [in2, Option.bind_some, decide_eq_true_eq]
  by_cases h1 : 0 ≤ d ∧ d ≤ 8
  case neg => rw [if_neg h1]; exact ⟨_, rfl, fun h => by cases h⟩
  rw [if_pos h1]
  by_cases h2 : 0 ≤ f ∧ f ≤ 12
  case neg => rw [if_neg h2]; exact ⟨_, rfl, fun h => by cases h⟩
  rw [if_pos h2]
  by_cases h3 : 0 ≤ l ∧ l ≤ 12
  case neg => rw [if_neg h3]; exact ⟨_, rfl, fun h => by cases h⟩
  rw [if_pos h3]
  by_cases h4 : ((f == 0) == (d == 0)) = true
  case neg => rw [if_neg h4]; exact ⟨_, rfl, fun h => by cases h⟩
  rw [if_pos h4]
  by_cases h5 : 0 ≤ r ∧ r ≤ 3
  case neg => rw [if_neg h5]; exact ⟨_, rfl, fun h => by cases h⟩
  rw [if_pos h5]
  by_cases h6 : 0 ≤ p ∧ p ≤ 100
  case neg => rw [if_neg h6]; exact ⟨_, rfl, fun h => by cases h⟩
  rw [if_pos h6]
  refine ⟨_, rfl, fun h7 => ⟨h1, h2, h3, h5, h6, ?_, ?_⟩⟩
  · by_cases c1 : f = 0 <;> by_cases c2 : d = 0 <;> simp_all
  · by_cases c1 : p = 0 <;> by_cases c2 : r = 0 <;> simp_all

/-- What is said. -/
def sayL (T : Tg) (d f l r p : Nat) : List UInt8 := windL T d f ++ (laterL T f l ++ ([46, 32] ++ (rainL T r p ++ [46])))
theorem specSay (t d f l r p : Nat) (ht : t = 1 ∨ t = 2 ∨ t = 3) (hd : d ≤ 8) (hf : f ≤ 12) (hl : l ≤ 12) (hr : r ≤ 3) (hp : p ≤ 100) :
    Ev (fun k => spec_Phrase.j0 k (t : Int) false (d : Int) (f : Int) (l : Int) (r : Int) (p : Int)) (B (sayL (tg t) d f l r p)) := by
  have h1 := wind_len (tg t) (short t) d f hd (by omega)
  have h2 := later_len (tg t) (short t) f l (by omega)
  have h3 := rain_len (tg t) (short t) r p hr (by omega)
  refine Ev.step (fun k => by rw [spec_Phrase.j0, if_neg (by decide)]) (Ev_bind _ (specWind t d f l r p ht hd hf) (Ev_bind _ (specLater t d f l r p ht hl) ?_))
  simp only [b4632, B_app, B_size, List.length_append, if_pos (show (windL (tg t) d f).length + (laterL (tg t) f l).length ≤ 9223372036854775807 by omega), if_pos (show (windL (tg t) d f).length + (laterL (tg t) f l).length + 2 ≤ 9223372036854775807 by omega)]
  refine Ev_bind _ (specRain t d f l r p ht hr hp) ?_
  simp only [b46, B_app, B_size, List.length_append, List.length_cons, List.length_nil]
  rw [if_pos (by omega), if_pos (by omega)]
  unfold sayL
  simp only [List.append_assoc]
  exact Ev.now _
theorem implAt (t : Nat) (ht : t = 1 ∨ t = 2 ∨ t = 3) : impl_tongueAt.f (t : Int) = some (B (tg t).calm, B (tg t).before, B (tg t).between, B (tg t).up, B (tg t).down, B (tg t).dry, B (tg t).inn, B (tg t).one, B (tg t).many, B ((tg t).dirs.getD 0 []), B ((tg t).dirs.getD 1 []), B ((tg t).dirs.getD 2 []), B ((tg t).dirs.getD 3 []), B ((tg t).dirs.getD 4 []), B ((tg t).dirs.getD 5 []), B ((tg t).dirs.getD 6 []), B ((tg t).dirs.getD 7 []), B ((tg t).dirs.getD 8 []), B ((tg t).rains.getD 0 []), B ((tg t).rains.getD 1 []), B ((tg t).rains.getD 2 []), B ((tg t).rains.getD 3 [])) := by
  rcases ht with rfl | rfl | rfl <;> rfl
theorem okVal (d f l r p : Nat) (hd : d ≤ 8) (hf : f ≤ 12) (hl : l ≤ 12) (hr : r ≤ 3) (hp : p ≤ 100) (hb : (((f : Int) == 0) == ((d : Int) == 0)) = true) : spec_l23Ok.f (d : Int) (f : Int) (l : Int) (r : Int) (p : Int) = some (((p : Int) == 0) == ((r : Int) == 0)) := by
  unfold spec_l23Ok.f
  simp only [in2, Option.bind_some, decide_eq_true_eq]
  rw [if_pos (by omega), if_pos (by omega), if_pos (by omega), if_pos hb, if_pos (by omega), if_pos (by omega)]
theorem specSayF (t d f l r p : Nat) (ht : t = 1 ∨ t = 2 ∨ t = 3) (hd : d ≤ 8) (hf : f ≤ 12) (hl : l ≤ 12) (hr : r ≤ 3) (hp : p ≤ 100) (hb : (((f : Int) == 0) == ((d : Int) == 0)) = true) (hc : (((p : Int) == 0) == ((r : Int) == 0)) = true) :
    Ev (fun k => spec_Phrase.f k (d : Int) (f : Int) (l : Int) (r : Int) (p : Int) (t : Int)) (B (sayL (tg t) d f l r p)) := by
  unfold spec_Phrase.f
  simp only [okVal d f l r p hd hf hl hr hp hb, in2, Option.bind_some, if_pos hc, decide_eq_true (show (1 : Int) ≤ (t : Int) ∧ (t : Int) ≤ 3 by omega), Bool.not_true]
  exact specSay t d f l r p ht hd hf hl hr hp

/-- No word is longer than 20. -/
def Tight (T : Tg) : Prop := (T.calm.length ≤ 20 ∧ T.before.length ≤ 20 ∧ T.between.length ≤ 20 ∧ T.up.length ≤ 20 ∧ T.down.length ≤ 20 ∧ T.dry.length ≤ 20 ∧ T.inn.length ≤ 20 ∧ T.one.length ≤ 20 ∧ T.many.length ≤ 20) ∧ (∀ j, j < 9 → (T.dirs.getD j []).length ≤ 20) ∧ (∀ j, j < 4 → (T.rains.getD j []).length ≤ 20)
theorem tight (t : Nat) : Tight (tg t) := by
  unfold tg Tight
  split
  · decide
  · split
    · decide
    · decide
theorem small_len : ∀ n : Nat, n < 13 → (Lib.itoa (n : Int)).length ≤ 2 := by decide +kernel
theorem say_len (t d f l r p : Nat) (hd : d ≤ 8) (hf : f ≤ 12) (hl : l ≤ 12) (hr : r ≤ 3) (hp : p ≤ 100) : (sayL (tg t) d f l r p).length ≤ 200 := by
  obtain ⟨⟨h1, h2, h3, h4, h5, h6, h7, h8, h9⟩, hds, hrs⟩ := tight t
  have a1 := hds d (by omega)
  have a2 := hrs r (by omega)
  have a3 := small_len f (by omega)
  have a4 := small_len l (by omega)
  have a5 := num_len p (by omega)
  have w : (windL (tg t) d f).length ≤ 62 := by
    unfold windL
    split
    · omega
    · simp only [List.length_append]; omega
  have la : (laterL (tg t) f l).length ≤ 22 := by
    unfold laterL
    split
    · simp only [List.length_append]; omega
    · split
      · simp only [List.length_append]; omega
      · simp
  have ra : (rainL (tg t) r p).length ≤ 82 := by
    unfold rainL
    split
    · omega
    · simp only [List.length_append, List.length_cons, List.length_nil]
      split <;> omega
  unfold sayL
  simp only [List.length_append, List.length_cons, List.length_nil]
  omega

/-- The numbers that stand in a text, the last one first. -/
def runs (x : List Nat) : List Nat × Bool := x.foldl (fun s b => if 48 ≤ b ∧ b ≤ 57 then (if s.2 then (match s.1 with | [] => ([b - 48], true) | a :: r => ((a * 10 + (b - 48)) :: r, true)) else ((b - 48) :: s.1, true)) else (s.1, false)) ([], false)
def dirOf (T : Tg) (x : List UInt8) : Option Nat := (List.range 8).find? fun j => (T.before ++ (T.dirs.getD (j + 1) [] ++ T.between)).isPrefixOf x
def told (T : Tg) (x : List UInt8) : Option Nat × List Nat := (dirOf T x, (runs (x.map UInt8.toNat)).1)
def wants (d f l : Nat) : Option Nat × List Nat := if d = 0 then (none, if l = 0 then [] else [l]) else (some (d - 1), if l = f then [f] else [l, f])
def toldOk (T : Tg) : Bool := (List.range 9).all fun d => (List.range 13).all fun f => (List.range 13).all fun l => ((f == 0) != (d == 0)) || (told T (windL T d f ++ laterL T f l) == wants d f l && (windL T d f ++ laterL T f l).all (fun b => b != 46))
theorem toldOk1 : toldOk tg1 = true := by decide +kernel
theorem toldOk2 : toldOk tg2 = true := by decide +kernel
theorem toldOk3 : toldOk tg3 = true := by decide +kernel
theorem told_ok (t : Nat) : toldOk (tg t) = true := by
  unfold tg
  split
  · exact toldOk1
  · split
    · exact toldOk2
    · exact toldOk3
theorem told_at (t d f l : Nat) (hd : d ≤ 8) (hf : f ≤ 12) (hl : l ≤ 12) (hp : f = 0 ↔ d = 0) : told (tg t) (windL (tg t) d f ++ laterL (tg t) f l) = wants d f l ∧ ∀ b ∈ windL (tg t) d f ++ laterL (tg t) f l, b ≠ 46 := by
  have h := told_ok t
  unfold toldOk at h
  rw [List.all_eq_true] at h
  have h1 := h d (List.mem_range.2 (by omega))
  rw [List.all_eq_true] at h1
  have h2 := h1 f (List.mem_range.2 (by omega))
  rw [List.all_eq_true] at h2
  have h3 := h2 l (List.mem_range.2 (by omega))
  rw [Bool.or_eq_true, Bool.and_eq_true, beq_iff_eq, List.all_eq_true] at h3
  rcases h3 with h3 | ⟨h3, h4⟩
  · exfalso
    by_cases c : f = 0
    · have c2 := hp.1 c
      subst c; subst c2
      exact absurd h3 (by decide)
    · have c2 : ¬ d = 0 := fun e => c (hp.2 e)
      have e1 : (f == 0) = false := beq_eq_false_iff_ne.2 c
      have e2 : (d == 0) = false := beq_eq_false_iff_ne.2 c2
      rw [e1, e2] at h3
      exact absurd h3 (by decide)
  · exact ⟨h3, fun b hb => by have := h4 b hb; simpa using this⟩
theorem wants_inj {d f l d' f' l' : Nat} (hp : f = 0 ↔ d = 0) (hp' : f' = 0 ↔ d' = 0) (h : wants d f l = wants d' f' l') : d = d' ∧ f = f' ∧ l = l' := by
  unfold wants at h
  by_cases c : d = 0
  · have cf := hp.2 c
    by_cases c' : d' = 0
    · have cf' := hp'.2 c'
      rw [if_pos c, if_pos c'] at h
      have h2 := (Prod.mk.inj h).2
      refine ⟨by omega, by omega, ?_⟩
      by_cases e : l = 0
      · by_cases e' : l' = 0
        · omega
        · rw [if_pos e, if_neg e'] at h2; cases h2
      · by_cases e' : l' = 0
        · rw [if_neg e, if_pos e'] at h2; cases h2
        · rw [if_neg e, if_neg e'] at h2
          exact (List.cons.inj h2).1
    · rw [if_pos c, if_neg c'] at h
      cases (Prod.mk.inj h).1
  · by_cases c' : d' = 0
    · rw [if_neg c, if_pos c'] at h
      cases (Prod.mk.inj h).1
    · rw [if_neg c, if_neg c'] at h
      obtain ⟨h1, h2⟩ := Prod.mk.inj h
      have h1 := Option.some.inj h1
      refine ⟨by omega, ?_⟩
      by_cases e : l = f
      · by_cases e' : l' = f'
        · rw [if_pos e, if_pos e'] at h2
          have := (List.cons.inj h2).1
          omega
        · rw [if_pos e, if_neg e'] at h2
          cases (List.cons.inj h2).2
      · by_cases e' : l' = f'
        · rw [if_neg e, if_pos e'] at h2
          cases (List.cons.inj h2).2
        · rw [if_neg e, if_neg e'] at h2
          obtain ⟨a, b⟩ := List.cons.inj h2
          have b := (List.cons.inj b).1
          omega
/-- The first two bytes of what is said of the rain tell tongue and kind. -/
def two (t r : Nat) : List UInt8 := if r = 0 then (tg t).dry.take 2 else ((tg t).rains.getD r []).take 2
def twoOk : Bool := [1, 2, 3].all fun t => [1, 2, 3].all fun t' => (List.range 4).all fun r => (List.range 4).all fun r' => two t r != two t' r' || (t == t' && r == r')
theorem two_ok : twoOk = true := by decide +kernel
def rainOk (t : Nat) : Bool := (List.range 4).all fun r => (List.range 101).all fun p => ((p == 0) != (r == 0)) || ((rainL (tg t) r p).take 2 == two t r && (runs ((rainL (tg t) r p).map UInt8.toNat)).1 == (if r = 0 then [] else [p]))
theorem rain_ok1 : rainOk 1 = true := by decide +kernel
theorem rain_ok2 : rainOk 2 = true := by decide +kernel
theorem rain_ok3 : rainOk 3 = true := by decide +kernel
theorem rain_at (t r p : Nat) (ht : t = 1 ∨ t = 2 ∨ t = 3) (hr : r ≤ 3) (hp : p ≤ 100) (hq : p = 0 ↔ r = 0) : (rainL (tg t) r p).take 2 = two t r ∧ (runs ((rainL (tg t) r p).map UInt8.toNat)).1 = (if r = 0 then [] else [p]) := by
  have h : rainOk t = true := by
    rcases ht with rfl | rfl | rfl
    · exact rain_ok1
    · exact rain_ok2
    · exact rain_ok3
  unfold rainOk at h
  rw [List.all_eq_true] at h
  have h1 := h r (List.mem_range.2 (by omega))
  rw [List.all_eq_true] at h1
  have h2 := h1 p (List.mem_range.2 (by omega))
  rw [Bool.or_eq_true, Bool.and_eq_true, beq_iff_eq, beq_iff_eq] at h2
  rcases h2 with h3 | h3
  · exfalso
    by_cases c : p = 0
    · have c2 := hq.1 c
      subst c; subst c2
      exact absurd h3 (by decide)
    · have c2 : ¬ r = 0 := fun e => c (hq.2 e)
      have e1 : (p == 0) = false := beq_eq_false_iff_ne.2 c
      have e2 : (r == 0) = false := beq_eq_false_iff_ne.2 c2
      rw [e1, e2] at h3
      exact absurd h3 (by decide)
  · exact h3
theorem two_inj {t r t' r' : Nat} (ht : t = 1 ∨ t = 2 ∨ t = 3) (ht' : t' = 1 ∨ t' = 2 ∨ t' = 3) (hr : r ≤ 3) (hr' : r' ≤ 3) (h : two t r = two t' r') : t = t' ∧ r = r' := by
  have k := two_ok
  unfold twoOk at k
  rw [List.all_eq_true] at k
  have k1 := k t (by rcases ht with rfl | rfl | rfl <;> simp)
  rw [List.all_eq_true] at k1
  have k2 := k1 t' (by rcases ht' with rfl | rfl | rfl <;> simp)
  rw [List.all_eq_true] at k2
  have k3 := k2 r (List.mem_range.2 (by omega))
  rw [List.all_eq_true] at k3
  have k4 := k3 r' (List.mem_range.2 (by omega))
  rw [Bool.or_eq_true, Bool.and_eq_true, beq_iff_eq, beq_iff_eq] at k4
  rcases k4 with k4 | k4
  · rw [h] at k4
    simp at k4
  · exact k4
theorem split_first {c : UInt8} {A A' X X' : List UInt8} (h : ∀ b ∈ A, b ≠ c) (h' : ∀ b ∈ A', b ≠ c) (e : A ++ c :: X = A' ++ c :: X') : A = A' ∧ X = X' := by
  induction A generalizing A' with
  | nil =>
    cases A' with
    | nil => exact ⟨rfl, (List.cons.inj e).2⟩
    | cons a r => exact absurd (List.cons.inj e).1.symm (h' a (List.mem_cons_self ..))
  | cons a r ih =>
    cases A' with
    | nil => exact absurd (List.cons.inj e).1 (h a (List.mem_cons_self ..))
    | cons a' r' =>
      obtain ⟨rfl, e2⟩ := List.cons.inj e
      obtain ⟨rfl, e3⟩ := ih (fun b hb => h b (List.mem_cons_of_mem _ hb)) (fun b hb => h' b (List.mem_cons_of_mem _ hb)) e2
      exact ⟨rfl, e3⟩
/-- A say that is right. -/
def Valid (d f l r p : Nat) : Prop := d ≤ 8 ∧ f ≤ 12 ∧ l ≤ 12 ∧ r ≤ 3 ∧ p ≤ 100 ∧ (f = 0 ↔ d = 0) ∧ (p = 0 ↔ r = 0)
theorem say_inj {t t' d f l r p d' f' l' r' p' : Nat} (ht : t = 1 ∨ t = 2 ∨ t = 3) (ht' : t' = 1 ∨ t' = 2 ∨ t' = 3) (v : Valid d f l r p) (v' : Valid d' f' l' r' p') (e : sayL (tg t) d f l r p = sayL (tg t') d' f' l' r' p') :
    t = t' ∧ d = d' ∧ f = f' ∧ l = l' ∧ r = r' ∧ p = p' := by
  obtain ⟨v1, v2, v3, v4, v5, v6, v7⟩ := v
  obtain ⟨u1, u2, u3, u4, u5, u6, u7⟩ := v'
  have g := told_at t d f l v1 v2 v3 v6
  have g' := told_at t' d' f' l' u1 u2 u3 u6
  have e1 : (windL (tg t) d f ++ laterL (tg t) f l) ++ 46 :: (32 :: (rainL (tg t) r p ++ [46])) = (windL (tg t') d' f' ++ laterL (tg t') f' l') ++ 46 :: (32 :: (rainL (tg t') r' p' ++ [46])) := by
    unfold sayL at e
    simpa only [List.append_assoc, List.cons_append, List.nil_append] using e
  obtain ⟨ea, eb⟩ := split_first g.2 g'.2 e1
  have eb := List.append_cancel_right (List.cons.inj eb).2
  have k := rain_at t r p ht v4 v5 v7
  have k' := rain_at t' r' p' ht' u4 u5 u7
  rw [eb] at k
  obtain ⟨rfl, rfl⟩ := two_inj ht ht' v4 u4 (k.1.symm.trans k'.1)
  have hp : p = p' := by
    have e3 := k.2.symm.trans k'.2
    by_cases c : r = 0
    · rw [v7.2 c, u7.2 c]
    · rw [if_neg c, if_neg c] at e3
      exact (List.cons.inj e3).1
  rw [ea] at g
  obtain ⟨a, b, c⟩ := wants_inj v6 u6 (g.1.symm.trans g'.1)
  exact ⟨rfl, a, b, c, rfl, hp⟩

end Go.Proofs.YtllkijlmjapleaaDoor.QFnPhrases
