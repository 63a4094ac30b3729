/- FnExactReadPhrase, plainly: both search the same says in the same order. No condition. -/
import Derived.Test.YtllkijlmjapleaaDoorRPhraseLib
import Derived.Lib.Strings
import Derived.Test.YtllkijlmjapleaaDoorStatFnExactReadPhrase
set_option linter.unusedVariables false
set_option linter.unusedSimpArgs false
namespace Go.Proofs.YtllkijlmjapleaaDoor.QFnExactReadPhrase
open Go.RowKit Go.Proofs.YtllkijlmjapleaaDoorW.PrintWords Go.Proofs.YtllkijlmjapleaaDoor.Opn Go.Proofs.YtllkijlmjapleaaDoor.Pl

theorem in2 (a b c : Int) : spec_l2In.f a b c = some (decide (b ≤ a ∧ a ≤ c)) := by
  unfold spec_l2In.f
  by_cases h : a ≥ b
  · rw [if_pos h]
    exact congrArg some (decide_eq_decide.2 (by omega))
  · rw [if_neg h]
    exact congrArg some (decide_eq_false (by omega)).symm
theorem inI (a b c : Int) : impl_in.f a b c = some (decide (b ≤ a ∧ a ≤ c)) := in2 a b c
theorem sayOk_val (d f l r p : Int) : ∃ b, spec_l23Ok.f d f l r p = some b ∧ (b = true → (0 ≤ d ∧ d ≤ 8) ∧ (0 ≤ f ∧ f ≤ 12) ∧ (0 ≤ l ∧ l ≤ 12) ∧ (0 ≤ r ∧ r ≤ 3) ∧ (0 ≤ p ∧ p ≤ 100) ∧ (f = 0 ↔ d = 0) ∧ (p = 0 ↔ r = 0)) := by
  unfold spec_l23Ok.f
  simp only [in2, Option.bind_some, decide_eq_true_eq]
  by_cases h1 : 0 ≤ d ∧ d ≤ 8
  case neg => rw [if_neg h1]; exact ⟨_, rfl, fun h => by cases h⟩
  rw [if_pos h1]
  by_cases h2 : 0 ≤ f ∧ f ≤ 12
  case neg => rw [if_neg h2]; exact ⟨_, rfl, fun h => by cases h⟩
  rw [if_pos h2]
  by_cases h3 : 0 ≤ l ∧ l ≤ 12
  case neg => rw [if_neg h3]; exact ⟨_, rfl, fun h => by cases h⟩
  rw [if_pos h3]
  by_cases h4 : ((f == 0) == (d == 0)) = true
  case neg => rw [if_neg h4]; exact ⟨_, rfl, fun h => by cases h⟩
  rw [if_pos h4]
  by_cases h5 : 0 ≤ r ∧ r ≤ 3
  case neg => rw [if_neg h5]; exact ⟨_, rfl, fun h => by cases h⟩
  rw [if_pos h5]
  by_cases h6 : 0 ≤ p ∧ p ≤ 100
  case neg => rw [if_neg h6]; exact ⟨_, rfl, fun h => by cases h⟩
  rw [if_pos h6]
  refine ⟨_, rfl, fun h7 => ⟨h1, h2, h3, h5, h6, ?_, ?_⟩⟩
  · by_cases c1 : f = 0 <;> by_cases c2 : d = 0 <;> simp_all
  · by_cases c1 : p = 0 <;> by_cases c2 : r = 0 <;> simp_all

/-- What is said. -/
def sayL (T : Tg) (d f l r p : Nat) : List UInt8 := windL T d f ++ (laterL T f l ++ ([46, 32] ++ (rainL T r p ++ [46])))
theorem specSay (t d f l r p : Nat) (ht : t = 1 ∨ t = 2 ∨ t = 3) (hd : d ≤ 8) (hf : f ≤ 12) (hl : l ≤ 12) (hr : r ≤ 3) (hp : p ≤ 100) :
    Ev (fun k => spec_Phrase.j0 k (t : Int) false (d : Int) (f : Int) (l : Int) (r : Int) (p : Int)) (B (sayL (tg t) d f l r p)) := by
  have h1 := wind_len (tg t) (short t) d f hd (by omega)
  have h2 := later_len (tg t) (short t) f l (by omega)
  have h3 := rain_len (tg t) (short t) r p hr (by omega)
  refine Ev.step (fun k => by rw [spec_Phrase.j0, if_neg (by decide)]) (Ev_bind _ (specWind t d f l r p ht hd hf) (Ev_bind _ (specLater t d f l r p ht hl) ?_))
  simp only [b4632, B_app, B_size, List.length_append, if_pos (show (windL (tg t) d f).length + (laterL (tg t) f l).length ≤ 9223372036854775807 by omega), if_pos (show (windL (tg t) d f).length + (laterL (tg t) f l).length + 2 ≤ 9223372036854775807 by omega)]
  refine Ev_bind _ (specRain t d f l r p ht hr hp) ?_
  simp only [b46, B_app, B_size, List.length_append, List.length_cons, List.length_nil]
  rw [if_pos (by omega), if_pos (by omega)]
  unfold sayL
  simp only [List.append_assoc]
  exact Ev.now _
theorem implAt (t : Nat) (ht : t = 1 ∨ t = 2 ∨ t = 3) : impl_tongueAt.f (t : Int) = some (B (tg t).calm, B (tg t).before, B (tg t).between, B (tg t).up, B (tg t).down, B (tg t).dry, B (tg t).inn, B (tg t).one, B (tg t).many, B ((tg t).dirs.getD 0 []), B ((tg t).dirs.getD 1 []), B ((tg t).dirs.getD 2 []), B ((tg t).dirs.getD 3 []), B ((tg t).dirs.getD 4 []), B ((tg t).dirs.getD 5 []), B ((tg t).dirs.getD 6 []), B ((tg t).dirs.getD 7 []), B ((tg t).dirs.getD 8 []), B ((tg t).rains.getD 0 []), B ((tg t).rains.getD 1 []), B ((tg t).rains.getD 2 []), B ((tg t).rains.getD 3 [])) := by
  rcases ht with rfl | rfl | rfl <;> rfl
theorem okVal (d f l r p : Nat) (hd : d ≤ 8) (hf : f ≤ 12) (hl : l ≤ 12) (hr : r ≤ 3) (hp : p ≤ 100) (hb : (((f : Int) == 0) == ((d : Int) == 0)) = true) : spec_l23Ok.f (d : Int) (f : Int) (l : Int) (r : Int) (p : Int) = some (((p : Int) == 0) == ((r : Int) == 0)) := by
  unfold spec_l23Ok.f
  simp only [in2, Option.bind_some, decide_eq_true_eq]
  rw [if_pos (by omega), if_pos (by omega), if_pos (by omega), if_pos hb, if_pos (by omega), if_pos (by omega)]
theorem specSayF (t d f l r p : Nat) (ht : t = 1 ∨ t = 2 ∨ t = 3) (hd : d ≤ 8) (hf : f ≤ 12) (hl : l ≤ 12) (hr : r ≤ 3) (hp : p ≤ 100) (hb : (((f : Int) == 0) == ((d : Int) == 0)) = true) (hc : (((p : Int) == 0) == ((r : Int) == 0)) = true) :
    Ev (fun k => spec_Phrase.f k (d : Int) (f : Int) (l : Int) (r : Int) (p : Int) (t : Int)) (B (sayL (tg t) d f l r p)) := by
  unfold spec_Phrase.f
  simp only [okVal d f l r p hd hf hl hr hp hb, in2, Option.bind_some, if_pos hc, decide_eq_true (show (1 : Int) ≤ (t : Int) ∧ (t : Int) ≤ 3 by omega), Bool.not_true]
  exact specSay t d f l r p ht hd hf hl hr hp

/-- No word is longer than 20. -/
def Tight (T : Tg) : Prop := (T.calm.length ≤ 20 ∧ T.before.length ≤ 20 ∧ T.between.length ≤ 20 ∧ T.up.length ≤ 20 ∧ T.down.length ≤ 20 ∧ T.dry.length ≤ 20 ∧ T.inn.length ≤ 20 ∧ T.one.length ≤ 20 ∧ T.many.length ≤ 20) ∧ (∀ j, j < 9 → (T.dirs.getD j []).length ≤ 20) ∧ (∀ j, j < 4 → (T.rains.getD j []).length ≤ 20)
theorem tight (t : Nat) : Tight (tg t) := by
  unfold tg Tight
  split
  · decide
  · split
    · decide
    · decide
theorem small_len : ∀ n : Nat, n < 13 → (Lib.itoa (n : Int)).length ≤ 2 := by decide +kernel
theorem say_len (t d f l r p : Nat) (hd : d ≤ 8) (hf : f ≤ 12) (hl : l ≤ 12) (hr : r ≤ 3) (hp : p ≤ 100) : (sayL (tg t) d f l r p).length ≤ 200 := by
  obtain ⟨⟨h1, h2, h3, h4, h5, h6, h7, h8, h9⟩, hds, hrs⟩ := tight t
  have a1 := hds d (by omega)
  have a2 := hrs r (by omega)
  have a3 := small_len f (by omega)
  have a4 := small_len l (by omega)
  have a5 := num_len p (by omega)
  have w : (windL (tg t) d f).length ≤ 62 := by
    unfold windL
    split
    · omega
    · simp only [List.length_append]; omega
  have la : (laterL (tg t) f l).length ≤ 22 := by
    unfold laterL
    split
    · simp only [List.length_append]; omega
    · split
      · simp only [List.length_append]; omega
      · simp
  have ra : (rainL (tg t) r p).length ≤ 82 := by
    unfold rainL
    split
    · omega
    · simp only [List.length_append, List.length_cons, List.length_nil]
      split <;> omega
  unfold sayL
  simp only [List.length_append, List.length_cons, List.length_nil]
  omega

theorem B_toList (l : List UInt8) : (B l).toList = l := by rw [Lib.toList_data]; rfl
theorem B_inj {l m : List UInt8} : (B l).toList = (B m).toList ↔ l = m := by rw [B_toList, B_toList]
theorem B_of (s : ByteArray) : s = B s.data.toList := by cases s; rfl
theorem ahead_val (L M : List UInt8) : ∃ b, spec_l23Ahead.f (B L) (B M) = some b ∧ (b = true ↔ ∃ R, L = M ++ R) := by
  unfold spec_l23Ahead.f
  simp only [B_size]
  by_cases h : M.length ≤ L.length
  · rw [if_pos (by omega), if_pos (by omega), if_pos (by omega), Int.toNat_natCast]
    refine ⟨_, rfl, ?_⟩
    have e : ((B L).extract 0 M.length).toList = L.take M.length := by
      rw [Lib.toList_data, Lib.extract_data, List.drop_zero, Nat.sub_zero]; rfl
    rw [e, B_toList, beq_iff_eq]
    constructor
    · intro h2
      exact ⟨L.drop M.length, by conv => lhs; rw [← List.take_append_drop M.length L, h2]⟩
    · rintro ⟨R, rfl⟩
      simp
  · rw [if_neg (by omega)]
    refine ⟨false, rfl, ?_⟩
    constructor
    · intro h2; cases h2
    · rintro ⟨R, rfl⟩
      rw [List.length_append] at h
      omega
theorem hasPrefix_eq (a b : ByteArray) : stringslite_HasPrefix.f a b = spec_l23Ahead.f a b := rfl
theorem cut_val (L M : List UInt8) : (∃ R, L = M ++ R ∧ strings_CutPrefix.f (B L) (B M) = some (B R, true)) ∨ ((¬ ∃ R, L = M ++ R) ∧ strings_CutPrefix.f (B L) (B M) = some (B L, false)) := by
  obtain ⟨b, hb, hiff⟩ := ahead_val L M
  unfold strings_CutPrefix.f stringslite_CutPrefix.f
  rw [hasPrefix_eq, hb]
  simp only [Option.bind_some, B_size]
  cases b with
  | false =>
    right
    refine ⟨fun h => absurd (hiff.2 h) (by decide), ?_⟩
    simp
  | true =>
    left
    obtain ⟨R, rfl⟩ := hiff.1 rfl
    refine ⟨R, rfl, ?_⟩
    rw [if_pos rfl, if_pos (by omega), if_pos (by rw [List.length_append]; omega)]
    have e : (B (M ++ R)).extract (((M.length : Nat) : Int)).toNat (M ++ R).length = B R := by
      rw [Int.toNat_natCast]
      apply ByteArray.ext
      rw [← Array.toList_inj, Lib.extract_data]
      show ((M ++ R).drop M.length).take ((M ++ R).length - M.length) = R
      rw [List.drop_left, List.length_append, Nat.add_sub_cancel_left, List.take_length]
    rw [e]
    rfl

/-- What a search tells. -/
abbrev Found := Int × Int × Int × Int × Int × Bool
/-- Both tell the same; nothing, where the text is long. -/
def Both (L : List UInt8) (g h : Nat → Option Found) : Prop := ∃ R, Ev g R ∧ Ev h R ∧ (R = (0, 0, 0, 0, 0, false) ∨ L.length ≤ 200)
theorem Both.step {L : List UInt8} {g h g' h' : Nat → Option Found} (b : Both L g' h') (e1 : Ev g' = Ev g' → ∀ R, Ev g' R → Ev g R) (e2 : ∀ R, Ev h' R → Ev h R) : Both L g h := by
  obtain ⟨R, h1, h2, h3⟩ := b
  exact ⟨R, e1 rfl R h1, e2 R h2, h3⟩
def sl0 (L : List UInt8) (t d : Nat) (k : Nat) := spec_ReadPhrase.l0 k (B L) (t : Int) (d : Int)
def sl1 (L : List UInt8) (t d f : Nat) (k : Nat) := spec_ReadPhrase.l1 k (B L) (t : Int) (d : Int) (f : Int)
def sl2 (L : List UInt8) (t d f l : Nat) (k : Nat) := spec_ReadPhrase.l2 k (B L) (t : Int) (d : Int) (f : Int) (d : Int) (f : Int) (l : Int) 0 0
def sl3 (L : List UInt8) (t d f l r : Nat) (k : Nat) := spec_ReadPhrase.l3 k (B L) (t : Int) (d : Int) (f : Int) (r : Int) (d : Int) (f : Int) (l : Int) 0 0
def sl4 (L : List UInt8) (t d f l r p : Nat) (k : Nat) := spec_ReadPhrase.l4 k (B L) (t : Int) (d : Int) (f : Int) (r : Int) (p : Int) (d : Int) (f : Int) (l : Int) 0 0
def il0 (L : List UInt8) (T : Tg) (d : Nat) (k : Nat) := impl_ReadPhrase.l0 k (B L) (d : Int) (B T.calm) (B T.before) (B T.between) (B T.up) (B T.down) (B T.dry) (B T.inn) (B T.one) (B T.many) (B (T.dirs.getD 0 [])) (B (T.dirs.getD 1 [])) (B (T.dirs.getD 2 [])) (B (T.dirs.getD 3 [])) (B (T.dirs.getD 4 [])) (B (T.dirs.getD 5 [])) (B (T.dirs.getD 6 [])) (B (T.dirs.getD 7 [])) (B (T.dirs.getD 8 [])) (B (T.rains.getD 0 [])) (B (T.rains.getD 1 [])) (B (T.rains.getD 2 [])) (B (T.rains.getD 3 []))
def il1 (L : List UInt8) (T : Tg) (d f : Nat) (k : Nat) := impl_ReadPhrase.l1 k (B L) (d : Int) (f : Int) (B T.calm) (B T.before) (B T.between) (B T.up) (B T.down) (B T.dry) (B T.inn) (B T.one) (B T.many) (B (T.dirs.getD 0 [])) (B (T.dirs.getD 1 [])) (B (T.dirs.getD 2 [])) (B (T.dirs.getD 3 [])) (B (T.dirs.getD 4 [])) (B (T.dirs.getD 5 [])) (B (T.dirs.getD 6 [])) (B (T.dirs.getD 7 [])) (B (T.dirs.getD 8 [])) (B (T.rains.getD 0 [])) (B (T.rains.getD 1 [])) (B (T.rains.getD 2 [])) (B (T.rains.getD 3 []))
def il2 (L : List UInt8) (T : Tg) (d f l : Nat) (k : Nat) := impl_ReadPhrase.l2 k (B L) (d : Int) (f : Int) (l : Int) (B T.calm) (B T.before) (B T.between) (B T.up) (B T.down) (B T.dry) (B T.inn) (B T.one) (B T.many) (B (T.dirs.getD 0 [])) (B (T.dirs.getD 1 [])) (B (T.dirs.getD 2 [])) (B (T.dirs.getD 3 [])) (B (T.dirs.getD 4 [])) (B (T.dirs.getD 5 [])) (B (T.dirs.getD 6 [])) (B (T.dirs.getD 7 [])) (B (T.dirs.getD 8 [])) (B (T.rains.getD 0 [])) (B (T.rains.getD 1 [])) (B (T.rains.getD 2 [])) (B (T.rains.getD 3 []))
def il3 (L : List UInt8) (T : Tg) (d f l : Nat) (R : List UInt8) (r : Nat) (k : Nat) := impl_ReadPhrase.l3 k (B L) (d : Int) (f : Int) (l : Int) (B R) (r : Int) (B T.calm) (B T.before) (B T.between) (B T.up) (B T.down) (B T.dry) (B T.inn) (B T.one) (B T.many) (B (T.dirs.getD 0 [])) (B (T.dirs.getD 1 [])) (B (T.dirs.getD 2 [])) (B (T.dirs.getD 3 [])) (B (T.dirs.getD 4 [])) (B (T.dirs.getD 5 [])) (B (T.dirs.getD 6 [])) (B (T.dirs.getD 7 [])) (B (T.dirs.getD 8 [])) (B (T.rains.getD 0 [])) (B (T.rains.getD 1 [])) (B (T.rains.getD 2 [])) (B (T.rains.getD 3 []))
def il4 (L : List UInt8) (T : Tg) (d f l : Nat) (R : List UInt8) (r p : Nat) (k : Nat) := impl_ReadPhrase.l4 k (B L) (d : Int) (f : Int) (l : Int) (B R) (r : Int) (p : Int) (B T.calm) (B T.before) (B T.between) (B T.up) (B T.down) (B T.dry) (B T.inn) (B T.one) (B T.many) (B (T.dirs.getD 0 [])) (B (T.dirs.getD 1 [])) (B (T.dirs.getD 2 [])) (B (T.dirs.getD 3 [])) (B (T.dirs.getD 4 [])) (B (T.dirs.getD 5 [])) (B (T.dirs.getD 6 [])) (B (T.dirs.getD 7 [])) (B (T.dirs.getD 8 [])) (B (T.rains.getD 0 [])) (B (T.rains.getD 1 [])) (B (T.rains.getD 2 [])) (B (T.rains.getD 3 []))
theorem nx (n : Nat) (h : n ≤ 1000) : wrap64 ((n : Int) + 1) = ((n + 1 : Nat) : Int) := by rw [w64 (by omega) (by omega)]; rfl
/-- The parity of a wind: no force, no direction. -/
def Par (d f : Nat) : Prop := (((f : Int) == 0) == ((d : Int) == 0)) = true

theorem both4 {L : List UInt8} {t : Nat} (ht : t = 1 ∨ t = 2 ∨ t = 3) {d f l r : Nat} (hd : d ≤ 8) (hf : f ≤ 12) (hl : l ≤ 12) (hr : r ≤ 3) (hpar : Par d f) {R : List UInt8}
    (hR : L = windL (tg t) d f ++ (laterL (tg t) f l ++ ([46, 32] ++ R))) (h3 : Both L (sl3 L t d f l (r + 1)) (il3 L (tg t) d f l R (r + 1))) :
    ∀ n p : Nat, p + n = 101 → Both L (sl4 L t d f l r p) (il4 L (tg t) d f l R r p) := by
  intro n
  induction n with
  | zero =>
    intro p hp
    refine h3.step (fun _ R h => ?_) (fun R h => ?_)
    · refine Ev.step (fun k => ?_) h
      unfold sl4 sl3
      rw [spec_ReadPhrase.l4, if_neg (by omega), nx r (by omega)]
    · refine Ev.step (fun k => ?_) h
      unfold il4 il3
      rw [impl_ReadPhrase.l4, if_neg (by omega), nx r (by omega)]
  | succ n ih =>
    intro p hp
    have hn := ih (p + 1) (by omega)
    by_cases c : (((p : Int) == 0) == ((r : Int) == 0)) = true
    · by_cases c2 : sayL (tg t) d f l r p = L
      · refine ⟨((d : Int), (f : Int), (l : Int), (r : Int), (p : Int), true), ?_, ?_, Or.inr ?_⟩
        · refine Ev.step (fun k => by unfold sl4; rw [spec_ReadPhrase.l4, if_pos (by omega), okVal d f l r p hd hf hl hr (by omega) hpar, Option.bind_some, if_pos c]) (Ev_bind _ (specSayF t d f l r p ht hd hf hl hr (by omega) hpar c) ?_)
          simp only [if_pos (B_inj.2 c2)]
          exact Ev.now _
        · refine Ev.step (f := fun _ => some ((d : Int), (f : Int), (l : Int), (r : Int), (p : Int), true)) (fun k => ?_) (Ev.now _)
          unfold il4
          rw [impl_ReadPhrase.l4, if_pos (by omega), if_pos c, implRain (tg t) (short t) r p hr (by omega), Option.bind_some, if_pos ?_]
          rw [B_inj]
          rw [hR] at c2
          unfold sayL at c2
          exact (List.append_cancel_left (List.append_cancel_left (List.append_cancel_left c2))).symm
        · rw [← c2]
          exact say_len t d f l r p hd hf hl hr (by omega)
      · refine hn.step (fun _ R h => ?_) (fun R h => ?_)
        · refine Ev.step (fun k => by unfold sl4; rw [spec_ReadPhrase.l4, if_pos (by omega), okVal d f l r p hd hf hl hr (by omega) hpar, Option.bind_some, if_pos c]) (Ev_bind _ (specSayF t d f l r p ht hd hf hl hr (by omega) hpar c) ?_)
          simp only [if_neg (fun h => c2 (B_inj.1 h)), nx p (by omega)]
          exact h
        · refine Ev.step (fun k => ?_) h
          unfold il4
          rw [impl_ReadPhrase.l4, if_pos (by omega), if_pos c, implRain (tg t) (short t) r p hr (by omega), Option.bind_some, if_neg ?_, nx p (by omega)]
          rw [B_inj]
          intro e
          apply c2
          rw [hR, e]
          rfl
    · refine hn.step (fun _ R h => ?_) (fun R h => ?_)
      · refine Ev.step (fun k => ?_) h
        unfold sl4
        rw [spec_ReadPhrase.l4, if_pos (by omega), okVal d f l r p hd hf hl hr (by omega) hpar, Option.bind_some, if_neg c, nx p (by omega)]
      · refine Ev.step (fun k => ?_) h
        unfold il4
        rw [impl_ReadPhrase.l4, if_pos (by omega), if_neg c, nx p (by omega)]
theorem both3 {L : List UInt8} {t : Nat} (ht : t = 1 ∨ t = 2 ∨ t = 3) {d f l : Nat} (hd : d ≤ 8) (hf : f ≤ 12) (hl : l ≤ 12) (hpar : Par d f) {R : List UInt8}
    (hR : L = windL (tg t) d f ++ (laterL (tg t) f l ++ ([46, 32] ++ R))) (h2 : Both L (sl2 L t d f (l + 1)) (il2 L (tg t) d f (l + 1))) :
    ∀ n r : Nat, r + n = 4 → Both L (sl3 L t d f l r) (il3 L (tg t) d f l R r) := by
  intro n
  induction n with
  | zero =>
    intro r hr
    refine h2.step (fun _ R h => ?_) (fun R h => ?_)
    · refine Ev.step (fun k => ?_) h
      unfold sl3 sl2
      rw [spec_ReadPhrase.l3, if_neg (by omega), nx l (by omega)]
    · refine Ev.step (fun k => ?_) h
      unfold il3 il2
      rw [impl_ReadPhrase.l3, if_neg (by omega), nx l (by omega)]
  | succ n ih =>
    intro r hr
    have h4 := both4 ht hd hf hl (show r ≤ 3 by omega) hpar hR (ih (r + 1) (by omega)) 101 0 (by omega)
    refine h4.step (fun _ R h => ?_) (fun R h => ?_)
    · refine Ev.step (fun k => ?_) h
      unfold sl3 sl4
      rw [spec_ReadPhrase.l3, if_pos (by omega)]
      rfl
    · refine Ev.step (fun k => ?_) h
      unfold il3 il4
      rw [impl_ReadPhrase.l3, if_pos (by omega)]
      rfl
theorem b32' : (⟨#[32]⟩ : ByteArray) = B [32] := rfl
theorem il2_cut {L : List UInt8} {t d f l : Nat} (hd : d ≤ 8) (hf : f ≤ 12) (hl : l ≤ 12) {R : Found}
    (h : Ev (fun k => (strings_CutPrefix.f (B L) (B (windL (tg t) d f ++ (laterL (tg t) f l ++ [46, 32])))).bind fun bt => (if bt.2 = true then (impl_ReadPhrase.l3 k (B L) (d : Int) (f : Int) (l : Int) bt.1 0 (B (tg t).calm) (B (tg t).before) (B (tg t).between) (B (tg t).up) (B (tg t).down) (B (tg t).dry) (B (tg t).inn) (B (tg t).one) (B (tg t).many) (B ((tg t).dirs.getD 0 [])) (B ((tg t).dirs.getD 1 [])) (B ((tg t).dirs.getD 2 [])) (B ((tg t).dirs.getD 3 [])) (B ((tg t).dirs.getD 4 [])) (B ((tg t).dirs.getD 5 [])) (B ((tg t).dirs.getD 6 [])) (B ((tg t).dirs.getD 7 [])) (B ((tg t).dirs.getD 8 [])) (B ((tg t).rains.getD 0 [])) (B ((tg t).rains.getD 1 [])) (B ((tg t).rains.getD 2 [])) (B ((tg t).rains.getD 3 []))) else (impl_ReadPhrase.l2 k (B L) (d : Int) (f : Int) (wrap64 ((l : Int) + 1)) (B (tg t).calm) (B (tg t).before) (B (tg t).between) (B (tg t).up) (B (tg t).down) (B (tg t).dry) (B (tg t).inn) (B (tg t).one) (B (tg t).many) (B ((tg t).dirs.getD 0 [])) (B ((tg t).dirs.getD 1 [])) (B ((tg t).dirs.getD 2 [])) (B ((tg t).dirs.getD 3 [])) (B ((tg t).dirs.getD 4 [])) (B ((tg t).dirs.getD 5 [])) (B ((tg t).dirs.getD 6 [])) (B ((tg t).dirs.getD 7 [])) (B ((tg t).dirs.getD 8 [])) (B ((tg t).rains.getD 0 [])) (B ((tg t).rains.getD 1 [])) (B ((tg t).rains.getD 2 [])) (B ((tg t).rains.getD 3 []))))) R) : Ev (il2 L (tg t) d f l) R := by
  have h1 := wind_len (tg t) (short t) d f hd (by omega)
  have h2 := later_len (tg t) (short t) f l (by omega)
  refine Ev.step (fun k => by unfold il2; rw [impl_ReadPhrase.l2, if_pos (by omega)]) (Ev_bind _ (implWind (tg t) (short t) d f l hd hf hl) ?_)
  simp only [b32', B_app, B_size, List.length_append, List.length_cons, List.length_nil, if_pos (show (windL (tg t) d f).length + ((laterL (tg t) f l).length + (0 + 1)) + 1 ≤ 9223372036854775807 by omega)]
  simp only [List.append_assoc, List.cons_append, List.nil_append] at h ⊢
  exact h
theorem skip2 {L : List UInt8} {t : Nat} {d f : Nat} (hd : d ≤ 8) (hf : f ≤ 12) (hno : ¬ ∃ R, L = windL (tg t) d f ++ R) {R : Found} (h : Ev (il1 L (tg t) d (f + 1)) R) : ∀ n l : Nat, l + n = 13 → Ev (il2 L (tg t) d f l) R := by
  intro n
  induction n with
  | zero =>
    intro l hl
    refine Ev.step (fun k => ?_) h
    unfold il2 il1
    rw [impl_ReadPhrase.l2, if_neg (by omega), nx f (by omega)]
  | succ n ih =>
    intro l hl
    have hn := ih (l + 1) (by omega)
    refine il2_cut hd hf (by omega) ?_
    rcases cut_val L (windL (tg t) d f ++ (laterL (tg t) f l ++ [46, 32])) with ⟨R2, e, _⟩ | ⟨_, e⟩
    · exact absurd ⟨_, by rw [e, List.append_assoc]⟩ hno
    · simp only [e, Option.bind_some, Bool.false_eq_true, if_false, nx l (by omega)]
      exact hn
theorem both2 {L : List UInt8} {t : Nat} (ht : t = 1 ∨ t = 2 ∨ t = 3) {d f : Nat} (hd : d ≤ 8) (hf : f ≤ 12) (hpar : Par d f) (h1 : Both L (sl1 L t d (f + 1)) (il1 L (tg t) d (f + 1))) :
    ∀ n l : Nat, l + n = 13 → Both L (sl2 L t d f l) (il2 L (tg t) d f l) := by
  intro n
  induction n with
  | zero =>
    intro l hl
    refine h1.step (fun _ R h => ?_) (fun R h => ?_)
    · refine Ev.step (fun k => ?_) h
      unfold sl2 sl1
      rw [spec_ReadPhrase.l2, if_neg (by omega), nx f (by omega)]
    · refine Ev.step (fun k => ?_) h
      unfold il2 il1
      rw [impl_ReadPhrase.l2, if_neg (by omega), nx f (by omega)]
  | succ n ih =>
    intro l hl
    have hn := ih (l + 1) (by omega)
    have g1 := wind_len (tg t) (short t) d f hd (by omega)
    have g2 := later_len (tg t) (short t) f l (by omega)
    obtain ⟨b, hb, hiff⟩ := ahead_val L (windL (tg t) d f ++ (laterL (tg t) f l ++ [46, 32]))
    have hs : ∀ R, Ev (fun k => (spec_l23Ahead.f (B L) (B (windL (tg t) d f ++ (laterL (tg t) f l ++ [46, 32])))).bind fun t176 => (if t176 = true then (spec_ReadPhrase.l3 k (B L) (t : Int) (d : Int) (f : Int) 0 (d : Int) (f : Int) (l : Int) 0 0) else (spec_ReadPhrase.l2 k (B L) (t : Int) (d : Int) (f : Int) (d : Int) (f : Int) (wrap64 ((l : Int) + 1)) 0 0))) R → Ev (sl2 L t d f l) R := by
      intro R h
      have w1 : Ev (fun k => spec_l23Wind.f k (d : Int) (f : Int) (l : Int) 0 0 (t : Int)) (B (windL (tg t) d f)) := specWind t d f l 0 0 ht hd hf
      have w2 : Ev (fun k => spec_l23Later.f k (d : Int) (f : Int) (l : Int) 0 0 (t : Int)) (B (laterL (tg t) f l)) := specLater t d f l 0 0 ht (by omega)
      refine Ev.step (fun k => by unfold sl2; rw [spec_ReadPhrase.l2, if_pos (by omega)]) (Ev_bind _ w1 (Ev_bind _ w2 ?_))
      simp only [b4632, B_app, B_size, List.length_append, if_pos (show (windL (tg t) d f).length + (laterL (tg t) f l).length ≤ 9223372036854775807 by omega), if_pos (show (windL (tg t) d f).length + (laterL (tg t) f l).length + 2 ≤ 9223372036854775807 by omega)]
      simp only [List.append_assoc] at h ⊢
      exact h
    cases b with
    | true =>
      obtain ⟨R2, e⟩ := hiff.1 rfl
      have e2 : L = windL (tg t) d f ++ (laterL (tg t) f l ++ ([46, 32] ++ R2)) := by rw [e]; simp only [List.append_assoc]
      have h3 := both3 ht hd hf (show l ≤ 12 by omega) hpar e2 hn 4 0 (by omega)
      refine h3.step (fun _ R h => ?_) (fun R h => ?_)
      · refine hs R ?_
        simp only [hb, Option.bind_some, if_true]
        exact h
      · refine il2_cut hd hf (by omega) ?_
        rcases cut_val L (windL (tg t) d f ++ (laterL (tg t) f l ++ [46, 32])) with ⟨R3, e3, e4⟩ | ⟨hno, _⟩
        · have : R3 = R2 := List.append_cancel_left (e3.symm.trans e)
          subst this
          simp only [e4, Option.bind_some, if_true]
          exact h
        · exact absurd ⟨R2, e⟩ hno
    | false =>
      refine hn.step (fun _ R h => ?_) (fun R h => ?_)
      · refine hs R ?_
        simp only [hb, Option.bind_some, Bool.false_eq_true, if_false, nx l (by omega)]
        exact h
      · refine il2_cut hd hf (by omega) ?_
        rcases cut_val L (windL (tg t) d f ++ (laterL (tg t) f l ++ [46, 32])) with ⟨R3, e3, _⟩ | ⟨_, e4⟩
        · exact absurd (hiff.2 ⟨R3, e3⟩) (by decide)
        · simp only [e4, Option.bind_some, Bool.false_eq_true, if_false, nx l (by omega)]
          exact h
theorem both1 {L : List UInt8} {t : Nat} (ht : t = 1 ∨ t = 2 ∨ t = 3) {d : Nat} (hd : d ≤ 8) (h0 : Both L (sl0 L t (d + 1)) (il0 L (tg t) (d + 1))) :
    ∀ n f : Nat, f + n = 13 → Both L (sl1 L t d f) (il1 L (tg t) d f) := by
  intro n
  induction n with
  | zero =>
    intro f hf
    refine h0.step (fun _ R h => ?_) (fun R h => ?_)
    · refine Ev.step (fun k => ?_) h
      unfold sl1 sl0
      rw [spec_ReadPhrase.l1, if_neg (by omega), nx d (by omega)]
    · refine Ev.step (fun k => ?_) h
      unfold il1 il0
      rw [impl_ReadPhrase.l1, if_neg (by omega), nx d (by omega)]
  | succ n ih =>
    intro f hf
    have hn := ih (f + 1) (by omega)
    by_cases c : (((f : Int) == 0) != ((d : Int) == 0)) = true
    · refine hn.step (fun _ R h => ?_) (fun R h => ?_)
      · refine Ev.step (fun k => by unfold sl1; rw [spec_ReadPhrase.l1, if_pos (by omega), if_pos c]) (Ev.step (fun k => ?_) h)
        rw [spec_ReadPhrase.j3, if_pos rfl, nx f (by omega)]
        rfl
      · refine Ev.step (fun k => ?_) h
        unfold il1
        rw [impl_ReadPhrase.l1, if_pos (by omega), if_pos c, nx f (by omega)]
    · have hpar : Par d f := by
        unfold Par
        revert c
        cases ((f : Int) == 0) <;> cases ((d : Int) == 0) <;> decide
      obtain ⟨b, hb, hiff⟩ := ahead_val L (windL (tg t) d f)
      have hs : ∀ R, Ev (fun k => spec_ReadPhrase.j3 k (B L) (t : Int) (d : Int) (f : Int) (!b) (d : Int) (f : Int) 0 0 0) R → Ev (sl1 L t d f) R := by
        intro R h
        have w1 : Ev (fun k => spec_l23Wind.f k (d : Int) (f : Int) 0 0 0 (t : Int)) (B (windL (tg t) d f)) := specWind t d f 0 0 0 ht hd (by omega)
        refine Ev.step (fun k => by unfold sl1; rw [spec_ReadPhrase.l1, if_pos (by omega), if_neg c]) (Ev_bind _ w1 ?_)
        simp only [hb, Option.bind_some]
        exact h
      have hi : ∀ R, Ev (il2 L (tg t) d f 0) R → Ev (il1 L (tg t) d f) R := by
        intro R h
        refine Ev.step (fun k => ?_) h
        unfold il1 il2
        rw [impl_ReadPhrase.l1, if_pos (by omega), if_neg c]
        rfl
      cases b with
      | true =>
        have h2 := both2 ht hd (show f ≤ 12 by omega) hpar hn 13 0 (by omega)
        refine h2.step (fun _ R h => hs R ?_) (fun R h => hi R h)
        refine Ev.step (fun k => ?_) h
        unfold sl2
        rw [spec_ReadPhrase.j3, if_neg (by decide)]
        rfl
      | false =>
        have hno : ¬ ∃ R, L = windL (tg t) d f ++ R := fun h => absurd (hiff.2 h) (by decide)
        refine hn.step (fun _ R h => hs R ?_) (fun R h => hi R (skip2 hd (by omega) hno h 13 0 (by omega)))
        refine Ev.step (fun k => ?_) h
        unfold sl1
        rw [spec_ReadPhrase.j3, if_pos (by decide), nx f (by omega)]
theorem both0 {L : List UInt8} {t : Nat} (ht : t = 1 ∨ t = 2 ∨ t = 3) : ∀ n d : Nat, d + n = 9 → Both L (sl0 L t d) (il0 L (tg t) d) := by
  intro n
  induction n with
  | zero =>
    intro d hd
    refine ⟨(0, 0, 0, 0, 0, false), Ev.step (f := fun _ => some (0, 0, 0, 0, 0, false)) (fun k => ?_) (Ev.now _), Ev.step (f := fun _ => some (0, 0, 0, 0, 0, false)) (fun k => ?_) (Ev.now _), Or.inl rfl⟩
    · unfold sl0
      rw [spec_ReadPhrase.l0, if_neg (by omega)]
    · unfold il0
      rw [impl_ReadPhrase.l0, if_neg (by omega)]
  | succ n ih =>
    intro d hd
    have h1 := both1 ht (show d ≤ 8 by omega) (ih (d + 1) (by omega)) 13 0 (by omega)
    refine h1.step (fun _ R h => ?_) (fun R h => ?_)
    · refine Ev.step (fun k => ?_) h
      unfold sl0 sl1
      rw [spec_ReadPhrase.l0, if_pos (by omega)]
      rfl
    · refine Ev.step (fun k => ?_) h
      unfold il0 il1
      rw [impl_ReadPhrase.l0, if_pos (by omega)]
      rfl
theorem bothF (s : ByteArray) (t : Int) : ∃ R, Ev (fun k => spec_ReadPhrase.f k s t) R ∧ Ev (fun k => impl_ReadPhrase.f k s t) R := by
  unfold spec_ReadPhrase.f impl_ReadPhrase.f
  simp only [in2, inI, Option.bind_some]
  have hfalse : Ev (fun k => spec_ReadPhrase.j0 k s t true) (0, 0, 0, 0, 0, false) := Ev.step (f := fun _ => some (0, 0, 0, 0, 0, false)) (fun k => by rw [spec_ReadPhrase.j0, if_pos rfl]) (Ev.now _)
  by_cases ht : 1 ≤ t ∧ t ≤ 3
  case neg =>
    rw [decide_eq_false ht]
    simp only [Bool.false_eq_true, if_false]
    exact ⟨_, hfalse, Ev.now _⟩
  rw [decide_eq_true ht]
  simp only [if_true]
  obtain ⟨t, rfl⟩ : ∃ n : Nat, t = (n : Int) := ⟨t.toNat, by omega⟩
  have ht3 : t = 1 ∨ t = 2 ∨ t = 3 := by omega
  rw [implAt t ht3]
  simp only [Option.bind_some]
  obtain ⟨R, h1, h2, h3⟩ := both0 (L := s.data.toList) ht3 9 0 (by omega)
  have hi : Ev (fun k => impl_ReadPhrase.l0 k s 0 (B (tg t).calm) (B (tg t).before) (B (tg t).between) (B (tg t).up) (B (tg t).down) (B (tg t).dry) (B (tg t).inn) (B (tg t).one) (B (tg t).many) (B ((tg t).dirs.getD 0 [])) (B ((tg t).dirs.getD 1 [])) (B ((tg t).dirs.getD 2 [])) (B ((tg t).dirs.getD 3 [])) (B ((tg t).dirs.getD 4 [])) (B ((tg t).dirs.getD 5 [])) (B ((tg t).dirs.getD 6 [])) (B ((tg t).dirs.getD 7 [])) (B ((tg t).dirs.getD 8 [])) (B ((tg t).rains.getD 0 [])) (B ((tg t).rains.getD 1 [])) (B ((tg t).rains.getD 2 [])) (B ((tg t).rains.getD 3 []))) R := by
    conv at h2 => unfold il0; rw [← B_of s]
    exact h2
  have hs1 : Ev (fun k => spec_ReadPhrase.j0 k s (t : Int) false) R := by
    refine Ev.step (fun k => by rw [spec_ReadPhrase.j0, if_neg (by decide)]) ?_
    conv at h1 => unfold sl0; rw [← B_of s]
    exact h1
  by_cases hz : (s.size : Int) > 200
  · rw [decide_eq_true hz]
    rcases h3 with rfl | h3
    · exact ⟨_, hfalse, hi⟩
    · have : s.data.toList.length = s.size := Array.length_toList
      omega
  · rw [decide_eq_false hz]
    exact ⟨_, hs1, hi⟩
theorem eqSay_self (a b c d e : Int) : laws_eqSay.f a b c d e a b c d e = some true := by
  unfold laws_eqSay.f
  rw [if_pos rfl, if_pos rfl, if_pos rfl, if_pos rfl, if_pos rfl]
theorem Pure.FnExactReadPhrase : FnExactReadPhrase_Pure := by
  intro s t _ _
  refine Ev.rounds (g := fun k => laws_FnExactReadPhrase.f k s t) ?_
  unfold laws_FnExactReadPhrase.f
  by_cases hz : (s.size : Int) > 1048576
  · simp only [if_pos hz]
    exact Ev.now _
  simp only [if_neg hz]
  obtain ⟨⟨a, b, c, d, e, x⟩, h1, h2⟩ := bothF s t
  refine Ev_bind _ h1 (Ev_bind _ h2 ?_)
  simp only [eqSay_self, Option.bind_some, if_true, bne_self_eq_false, Bool.false_eq_true, if_false]
  exact Ev.now _
end Go.Proofs.YtllkijlmjapleaaDoor.QFnExactReadPhrase
