/- What a text says is searched for, plainly: both tell the first say that has these words. Conditions: a tongue is 1 to 3. -/
import Derived.Test.YtllkijlmjapleaaDoorPTellLib
import Derived.Lib.Strings
set_option linter.unusedVariables false
set_option linter.unusedSimpArgs false
namespace Go.Proofs.YtllkijlmjapleaaDoor.QFnPhrases
open Go.RowKit Go.Proofs.YtllkijlmjapleaaDoorW.PrintWords Go.Proofs.YtllkijlmjapleaaDoor.Opn Go.Proofs.YtllkijlmjapleaaDoor.Pl

theorem B_toList (l : List UInt8) : (B l).toList = l := by rw [Lib.toList_data]; rfl
theorem B_inj {l m : List UInt8} : (B l).toList = (B m).toList ↔ l = m := by rw [B_toList, B_toList]
theorem B_of (s : ByteArray) : s = B s.data.toList := by cases s; rfl
theorem ahead_val (L M : List UInt8) : ∃ b, spec_l23Ahead.f (B L) (B M) = some b ∧ (b = true ↔ ∃ R, L = M ++ R) := by
  unfold spec_l23Ahead.f
  simp only [B_size]
  by_cases h : M.length ≤ L.length
  · rw [if_pos (by omega), if_pos (by omega), if_pos (by omega), Int.toNat_natCast]
    refine ⟨_, rfl, ?_⟩
    have e : ((B L).extract 0 M.length).toList = L.take M.length := by
      rw [Lib.toList_data, Lib.extract_data, List.drop_zero, Nat.sub_zero]; rfl
    rw [e, B_toList, beq_iff_eq]
    constructor
    · intro h2
      exact ⟨L.drop M.length, by conv => lhs; rw [← List.take_append_drop M.length L, h2]⟩
    · rintro ⟨R, rfl⟩
      simp
  · rw [if_neg (by omega)]
    refine ⟨false, rfl, ?_⟩
    constructor
    · intro h2; cases h2
    · rintro ⟨R, rfl⟩
      rw [List.length_append] at h
      omega
theorem hasPrefix_eq (a b : ByteArray) : stringslite_HasPrefix.f a b = spec_l23Ahead.f a b := rfl
theorem cut_val (L M : List UInt8) : (∃ R, L = M ++ R ∧ strings_CutPrefix.f (B L) (B M) = some (B R, true)) ∨ ((¬ ∃ R, L = M ++ R) ∧ strings_CutPrefix.f (B L) (B M) = some (B L, false)) := by
  obtain ⟨b, hb, hiff⟩ := ahead_val L M
  unfold strings_CutPrefix.f stringslite_CutPrefix.f
  rw [hasPrefix_eq, hb]
  simp only [Option.bind_some, B_size]
  cases b with
  | false =>
    right
    refine ⟨fun h => absurd (hiff.2 h) (by decide), ?_⟩
    simp
  | true =>
    left
    obtain ⟨R, rfl⟩ := hiff.1 rfl
    refine ⟨R, rfl, ?_⟩
    rw [if_pos rfl, if_pos (by omega), if_pos (by rw [List.length_append]; omega)]
    have e : (B (M ++ R)).extract (((M.length : Nat) : Int)).toNat (M ++ R).length = B R := by
      rw [Int.toNat_natCast]
      apply ByteArray.ext
      rw [← Array.toList_inj, Lib.extract_data]
      show ((M ++ R).drop M.length).take ((M ++ R).length - M.length) = R
      rw [List.drop_left, List.length_append, Nat.add_sub_cancel_left, List.take_length]
    rw [e]
    rfl

/-- What a search tells. -/
abbrev Found := Int × Int × Int × Int × Int × Bool
/-- Both tell the same: the first say among those to come that has these words, or that there is none. -/
def Both (t : Nat) (L : List UInt8) (S : Nat → Nat → Nat → Nat → Nat → Prop) (g h : Nat → Option Found) : Prop :=
  ∃ R, Ev g R ∧ Ev h R ∧ ((R = (0, 0, 0, 0, 0, false) ∧ ∀ d f l r p, S d f l r p → Valid d f l r p → sayL (tg t) d f l r p ≠ L) ∨ ∃ d f l r p : Nat, Valid d f l r p ∧ sayL (tg t) d f l r p = L ∧ R = ((d : Int), (f : Int), (l : Int), (r : Int), (p : Int), true))
theorem Both.step {t : Nat} {L : List UInt8} {S S' : Nat → Nat → Nat → Nat → Nat → Prop} {g h g' h' : Nat → Option Found} (b : Both t L S' g' h') (hS : ∀ d f l r p, S d f l r p → Valid d f l r p → S' d f l r p ∨ sayL (tg t) d f l r p ≠ L)
    (e1 : Ev g' = Ev g' → ∀ R, Ev g' R → Ev g R) (e2 : ∀ R, Ev h' R → Ev h R) : Both t L S g h := by
  obtain ⟨R, h1, h2, h3⟩ := b
  refine ⟨R, e1 rfl R h1, e2 R h2, ?_⟩
  rcases h3 with ⟨h3, h4⟩ | h3
  · refine Or.inl ⟨h3, fun d f l r p hs hv => ?_⟩
    rcases hS d f l r p hs hv with h5 | h5
    · exact h4 d f l r p h5 hv
    · exact h5
  · exact Or.inr h3
/-- The says from one on, in order. -/
def Gx (d f l r p d' f' l' r' p' : Nat) : Prop := d < d' ∨ d = d' ∧ (f < f' ∨ f = f' ∧ (l < l' ∨ l = l' ∧ (r < r' ∨ r = r' ∧ p ≤ p')))
theorem par_iff (d f : Nat) : ((((f : Int) == 0) == ((d : Int) == 0)) = true) ↔ (f = 0 ↔ d = 0) := by
  have h1 : ((f : Int) == 0) = decide (f = 0) := by by_cases c : f = 0 <;> simp [c]
  have h2 : ((d : Int) == 0) = decide (d = 0) := by by_cases c : d = 0 <;> simp [c]
  rw [h1, h2]
  by_cases c : f = 0 <;> by_cases c2 : d = 0 <;> simp [c, c2]
def sl0 (L : List UInt8) (t d : Nat) (k : Nat) := spec_ReadPhrase.l0 k (B L) (t : Int) (d : Int)
def sl1 (L : List UInt8) (t d f : Nat) (k : Nat) := spec_ReadPhrase.l1 k (B L) (t : Int) (d : Int) (f : Int)
def sl2 (L : List UInt8) (t d f l : Nat) (k : Nat) := spec_ReadPhrase.l2 k (B L) (t : Int) (d : Int) (f : Int) (d : Int) (f : Int) (l : Int) 0 0
def sl3 (L : List UInt8) (t d f l r : Nat) (k : Nat) := spec_ReadPhrase.l3 k (B L) (t : Int) (d : Int) (f : Int) (r : Int) (d : Int) (f : Int) (l : Int) 0 0
def sl4 (L : List UInt8) (t d f l r p : Nat) (k : Nat) := spec_ReadPhrase.l4 k (B L) (t : Int) (d : Int) (f : Int) (r : Int) (p : Int) (d : Int) (f : Int) (l : Int) 0 0
def il0 (L : List UInt8) (T : Tg) (d : Nat) (k : Nat) := impl_ReadPhrase.l0 k (B L) (d : Int) (B T.calm) (B T.before) (B T.between) (B T.up) (B T.down) (B T.dry) (B T.inn) (B T.one) (B T.many) (B (T.dirs.getD 0 [])) (B (T.dirs.getD 1 [])) (B (T.dirs.getD 2 [])) (B (T.dirs.getD 3 [])) (B (T.dirs.getD 4 [])) (B (T.dirs.getD 5 [])) (B (T.dirs.getD 6 [])) (B (T.dirs.getD 7 [])) (B (T.dirs.getD 8 [])) (B (T.rains.getD 0 [])) (B (T.rains.getD 1 [])) (B (T.rains.getD 2 [])) (B (T.rains.getD 3 []))
def il1 (L : List UInt8) (T : Tg) (d f : Nat) (k : Nat) := impl_ReadPhrase.l1 k (B L) (d : Int) (f : Int) (B T.calm) (B T.before) (B T.between) (B T.up) (B T.down) (B T.dry) (B T.inn) (B T.one) (B T.many) (B (T.dirs.getD 0 [])) (B (T.dirs.getD 1 [])) (B (T.dirs.getD 2 [])) (B (T.dirs.getD 3 [])) (B (T.dirs.getD 4 [])) (B (T.dirs.getD 5 [])) (B (T.dirs.getD 6 [])) (B (T.dirs.getD 7 [])) (B (T.dirs.getD 8 [])) (B (T.rains.getD 0 [])) (B (T.rains.getD 1 [])) (B (T.rains.getD 2 [])) (B (T.rains.getD 3 []))
def il2 (L : List UInt8) (T : Tg) (d f l : Nat) (k : Nat) := impl_ReadPhrase.l2 k (B L) (d : Int) (f : Int) (l : Int) (B T.calm) (B T.before) (B T.between) (B T.up) (B T.down) (B T.dry) (B T.inn) (B T.one) (B T.many) (B (T.dirs.getD 0 [])) (B (T.dirs.getD 1 [])) (B (T.dirs.getD 2 [])) (B (T.dirs.getD 3 [])) (B (T.dirs.getD 4 [])) (B (T.dirs.getD 5 [])) (B (T.dirs.getD 6 [])) (B (T.dirs.getD 7 [])) (B (T.dirs.getD 8 [])) (B (T.rains.getD 0 [])) (B (T.rains.getD 1 [])) (B (T.rains.getD 2 [])) (B (T.rains.getD 3 []))
def il3 (L : List UInt8) (T : Tg) (d f l : Nat) (R : List UInt8) (r : Nat) (k : Nat) := impl_ReadPhrase.l3 k (B L) (d : Int) (f : Int) (l : Int) (B R) (r : Int) (B T.calm) (B T.before) (B T.between) (B T.up) (B T.down) (B T.dry) (B T.inn) (B T.one) (B T.many) (B (T.dirs.getD 0 [])) (B (T.dirs.getD 1 [])) (B (T.dirs.getD 2 [])) (B (T.dirs.getD 3 [])) (B (T.dirs.getD 4 [])) (B (T.dirs.getD 5 [])) (B (T.dirs.getD 6 [])) (B (T.dirs.getD 7 [])) (B (T.dirs.getD 8 [])) (B (T.rains.getD 0 [])) (B (T.rains.getD 1 [])) (B (T.rains.getD 2 [])) (B (T.rains.getD 3 []))
def il4 (L : List UInt8) (T : Tg) (d f l : Nat) (R : List UInt8) (r p : Nat) (k : Nat) := impl_ReadPhrase.l4 k (B L) (d : Int) (f : Int) (l : Int) (B R) (r : Int) (p : Int) (B T.calm) (B T.before) (B T.between) (B T.up) (B T.down) (B T.dry) (B T.inn) (B T.one) (B T.many) (B (T.dirs.getD 0 [])) (B (T.dirs.getD 1 [])) (B (T.dirs.getD 2 [])) (B (T.dirs.getD 3 [])) (B (T.dirs.getD 4 [])) (B (T.dirs.getD 5 [])) (B (T.dirs.getD 6 [])) (B (T.dirs.getD 7 [])) (B (T.dirs.getD 8 [])) (B (T.rains.getD 0 [])) (B (T.rains.getD 1 [])) (B (T.rains.getD 2 [])) (B (T.rains.getD 3 []))
theorem nx (n : Nat) (h : n ≤ 1000) : wrap64 ((n : Int) + 1) = ((n + 1 : Nat) : Int) := by rw [w64 (by omega) (by omega)]; rfl
/-- The parity of a wind: no force, no direction. -/
def Par (d f : Nat) : Prop := (((f : Int) == 0) == ((d : Int) == 0)) = true

theorem both4 {L : List UInt8} {t : Nat} (ht : t = 1 ∨ t = 2 ∨ t = 3) {d f l r : Nat} (hd : d ≤ 8) (hf : f ≤ 12) (hl : l ≤ 12) (hr : r ≤ 3) (hpar : Par d f) {R : List UInt8}
    (hR : L = windL (tg t) d f ++ (laterL (tg t) f l ++ ([46, 32] ++ R))) (h3 : Both t L (Gx d f l (r + 1) 0) (sl3 L t d f l (r + 1)) (il3 L (tg t) d f l R (r + 1))) :
    ∀ n p : Nat, p + n = 101 → Both t L (Gx d f l r p) (sl4 L t d f l r p) (il4 L (tg t) d f l R r p) := by
  intro n
  induction n with
  | zero =>
    intro p hp
    refine h3.step (fun _ _ _ _ _ hs hv => by obtain ⟨q1, q2, q3, q4, q5, _, _⟩ := hv; left; unfold Gx at hs ⊢; omega) (fun _ R h => ?_) (fun R h => ?_)
    · refine Ev.step (fun k => ?_) h
      unfold sl4 sl3
      rw [spec_ReadPhrase.l4, if_neg (by omega), nx r (by omega)]
    · refine Ev.step (fun k => ?_) h
      unfold il4 il3
      rw [impl_ReadPhrase.l4, if_neg (by omega), nx r (by omega)]
  | succ n ih =>
    intro p hp
    have hn := ih (p + 1) (by omega)
    by_cases c : (((p : Int) == 0) == ((r : Int) == 0)) = true
    · by_cases c2 : sayL (tg t) d f l r p = L
      · refine ⟨((d : Int), (f : Int), (l : Int), (r : Int), (p : Int), true), ?_, ?_, Or.inr ⟨d, f, l, r, p, ⟨hd, hf, hl, hr, by omega, (par_iff d f).1 hpar, (par_iff r p).1 c⟩, c2, rfl⟩⟩
        · refine Ev.step (fun k => by unfold sl4; rw [spec_ReadPhrase.l4, if_pos (by omega), okVal d f l r p hd hf hl hr (by omega) hpar, Option.bind_some, if_pos c]) (Ev_bind _ (specSayF t d f l r p ht hd hf hl hr (by omega) hpar c) ?_)
          simp only [if_pos (B_inj.2 c2)]
          exact Ev.now _
        · refine Ev.step (f := fun _ => some ((d : Int), (f : Int), (l : Int), (r : Int), (p : Int), true)) (fun k => ?_) (Ev.now _)
          unfold il4
          rw [impl_ReadPhrase.l4, if_pos (by omega), if_pos c, implRain (tg t) (short t) r p hr (by omega), Option.bind_some, if_pos ?_]
          rw [B_inj]
          rw [hR] at c2
          unfold sayL at c2
          exact (List.append_cancel_left (List.append_cancel_left (List.append_cancel_left c2))).symm
      · refine hn.step (fun d' f' l' r' p' hs hv => by
          by_cases q : d' = d ∧ f' = f ∧ l' = l ∧ r' = r ∧ p' = p
          · obtain ⟨rfl, rfl, rfl, rfl, rfl⟩ := q; exact Or.inr c2
          · obtain ⟨q1, q2, q3, q4, q5, _, _⟩ := hv; left; unfold Gx at hs ⊢; omega) (fun _ R h => ?_) (fun R h => ?_)
        · refine Ev.step (fun k => by unfold sl4; rw [spec_ReadPhrase.l4, if_pos (by omega), okVal d f l r p hd hf hl hr (by omega) hpar, Option.bind_some, if_pos c]) (Ev_bind _ (specSayF t d f l r p ht hd hf hl hr (by omega) hpar c) ?_)
          simp only [if_neg (fun h => c2 (B_inj.1 h)), nx p (by omega)]
          exact h
        · refine Ev.step (fun k => ?_) h
          unfold il4
          rw [impl_ReadPhrase.l4, if_pos (by omega), if_pos c, implRain (tg t) (short t) r p hr (by omega), Option.bind_some, if_neg ?_, nx p (by omega)]
          rw [B_inj]
          intro e
          apply c2
          rw [hR, e]
          rfl
    · refine hn.step (fun d' f' l' r' p' hs hv => by
        by_cases q : d' = d ∧ f' = f ∧ l' = l ∧ r' = r ∧ p' = p
        · obtain ⟨rfl, rfl, rfl, rfl, rfl⟩ := q; exact absurd ((par_iff r' p').2 hv.2.2.2.2.2.2) c
        · obtain ⟨q1, q2, q3, q4, q5, _, _⟩ := hv; left; unfold Gx at hs ⊢; omega) (fun _ R h => ?_) (fun R h => ?_)
      · refine Ev.step (fun k => ?_) h
        unfold sl4
        rw [spec_ReadPhrase.l4, if_pos (by omega), okVal d f l r p hd hf hl hr (by omega) hpar, Option.bind_some, if_neg c, nx p (by omega)]
      · refine Ev.step (fun k => ?_) h
        unfold il4
        rw [impl_ReadPhrase.l4, if_pos (by omega), if_neg c, nx p (by omega)]
theorem both3 {L : List UInt8} {t : Nat} (ht : t = 1 ∨ t = 2 ∨ t = 3) {d f l : Nat} (hd : d ≤ 8) (hf : f ≤ 12) (hl : l ≤ 12) (hpar : Par d f) {R : List UInt8}
    (hR : L = windL (tg t) d f ++ (laterL (tg t) f l ++ ([46, 32] ++ R))) (h2 : Both t L (Gx d f (l + 1) 0 0) (sl2 L t d f (l + 1)) (il2 L (tg t) d f (l + 1))) :
    ∀ n r : Nat, r + n = 4 → Both t L (Gx d f l r 0) (sl3 L t d f l r) (il3 L (tg t) d f l R r) := by
  intro n
  induction n with
  | zero =>
    intro r hr
    refine h2.step (fun _ _ _ _ _ hs hv => by obtain ⟨q1, q2, q3, q4, q5, _, _⟩ := hv; left; unfold Gx at hs ⊢; omega) (fun _ R h => ?_) (fun R h => ?_)
    · refine Ev.step (fun k => ?_) h
      unfold sl3 sl2
      rw [spec_ReadPhrase.l3, if_neg (by omega), nx l (by omega)]
    · refine Ev.step (fun k => ?_) h
      unfold il3 il2
      rw [impl_ReadPhrase.l3, if_neg (by omega), nx l (by omega)]
  | succ n ih =>
    intro r hr
    have h4 := both4 ht hd hf hl (show r ≤ 3 by omega) hpar hR (ih (r + 1) (by omega)) 101 0 (by omega)
    refine h4.step (fun _ _ _ _ _ hs hv => by obtain ⟨q1, q2, q3, q4, q5, _, _⟩ := hv; left; unfold Gx at hs ⊢; omega) (fun _ R h => ?_) (fun R h => ?_)
    · refine Ev.step (fun k => ?_) h
      unfold sl3 sl4
      rw [spec_ReadPhrase.l3, if_pos (by omega)]
      rfl
    · refine Ev.step (fun k => ?_) h
      unfold il3 il4
      rw [impl_ReadPhrase.l3, if_pos (by omega)]
      rfl
theorem b32' : (⟨#[32]⟩ : ByteArray) = B [32] := rfl
theorem il2_cut {L : List UInt8} {t d f l : Nat} (hd : d ≤ 8) (hf : f ≤ 12) (hl : l ≤ 12) {R : Found}
    (h : Ev (fun k => (strings_CutPrefix.f (B L) (B (windL (tg t) d f ++ (laterL (tg t) f l ++ [46, 32])))).bind fun bt => (if bt.2 = true then (impl_ReadPhrase.l3 k (B L) (d : Int) (f : Int) (l : Int) bt.1 0 (B (tg t).calm) (B (tg t).before) (B (tg t).between) (B (tg t).up) (B (tg t).down) (B (tg t).dry) (B (tg t).inn) (B (tg t).one) (B (tg t).many) (B ((tg t).dirs.getD 0 [])) (B ((tg t).dirs.getD 1 [])) (B ((tg t).dirs.getD 2 [])) (B ((tg t).dirs.getD 3 [])) (B ((tg t).dirs.getD 4 [])) (B ((tg t).dirs.getD 5 [])) (B ((tg t).dirs.getD 6 [])) (B ((tg t).dirs.getD 7 [])) (B ((tg t).dirs.getD 8 [])) (B ((tg t).rains.getD 0 [])) (B ((tg t).rains.getD 1 [])) (B ((tg t).rains.getD 2 [])) (B ((tg t).rains.getD 3 []))) else (impl_ReadPhrase.l2 k (B L) (d : Int) (f : Int) (wrap64 ((l : Int) + 1)) (B (tg t).calm) (B (tg t).before) (B (tg t).between) (B (tg t).up) (B (tg t).down) (B (tg t).dry) (B (tg t).inn) (B (tg t).one) (B (tg t).many) (B ((tg t).dirs.getD 0 [])) (B ((tg t).dirs.getD 1 [])) (B ((tg t).dirs.getD 2 [])) (B ((tg t).dirs.getD 3 [])) (B ((tg t).dirs.getD 4 [])) (B ((tg t).dirs.getD 5 [])) (B ((tg t).dirs.getD 6 [])) (B ((tg t).dirs.getD 7 [])) (B ((tg t).dirs.getD 8 [])) (B ((tg t).rains.getD 0 [])) (B ((tg t).rains.getD 1 [])) (B ((tg t).rains.getD 2 [])) (B ((tg t).rains.getD 3 []))))) R) : Ev (il2 L (tg t) d f l) R := by
  have h1 := wind_len (tg t) (short t) d f hd (by omega)
  have h2 := later_len (tg t) (short t) f l (by omega)
  refine Ev.step (fun k => by unfold il2; rw [impl_ReadPhrase.l2, if_pos (by omega)]) (Ev_bind _ (implWind (tg t) (short t) d f l hd hf hl) ?_)
  simp only [b32', B_app, B_size, List.length_append, List.length_cons, List.length_nil, if_pos (show (windL (tg t) d f).length + ((laterL (tg t) f l).length + (0 + 1)) + 1 ≤ 9223372036854775807 by omega)]
  simp only [List.append_assoc, List.cons_append, List.nil_append] at h ⊢
  exact h
theorem skip2 {L : List UInt8} {t : Nat} {d f : Nat} (hd : d ≤ 8) (hf : f ≤ 12) (hno : ¬ ∃ R, L = windL (tg t) d f ++ R) {R : Found} (h : Ev (il1 L (tg t) d (f + 1)) R) : ∀ n l : Nat, l + n = 13 → Ev (il2 L (tg t) d f l) R := by
  intro n
  induction n with
  | zero =>
    intro l hl
    refine Ev.step (fun k => ?_) h
    unfold il2 il1
    rw [impl_ReadPhrase.l2, if_neg (by omega), nx f (by omega)]
  | succ n ih =>
    intro l hl
    have hn := ih (l + 1) (by omega)
    refine il2_cut hd hf (by omega) ?_
    rcases cut_val L (windL (tg t) d f ++ (laterL (tg t) f l ++ [46, 32])) with ⟨R2, e, _⟩ | ⟨_, e⟩
    · exact absurd ⟨_, by rw [e, List.append_assoc]⟩ hno
    · simp only [e, Option.bind_some, Bool.false_eq_true, if_false, nx l (by omega)]
      exact hn
theorem both2 {L : List UInt8} {t : Nat} (ht : t = 1 ∨ t = 2 ∨ t = 3) {d f : Nat} (hd : d ≤ 8) (hf : f ≤ 12) (hpar : Par d f) (h1 : Both t L (Gx d (f + 1) 0 0 0) (sl1 L t d (f + 1)) (il1 L (tg t) d (f + 1))) :
    ∀ n l : Nat, l + n = 13 → Both t L (Gx d f l 0 0) (sl2 L t d f l) (il2 L (tg t) d f l) := by
  intro n
  induction n with
  | zero =>
    intro l hl
    refine h1.step (fun _ _ _ _ _ hs hv => by obtain ⟨q1, q2, q3, q4, q5, _, _⟩ := hv; left; unfold Gx at hs ⊢; omega) (fun _ R h => ?_) (fun R h => ?_)
    · refine Ev.step (fun k => ?_) h
      unfold sl2 sl1
      rw [spec_ReadPhrase.l2, if_neg (by omega), nx f (by omega)]
    · refine Ev.step (fun k => ?_) h
      unfold il2 il1
      rw [impl_ReadPhrase.l2, if_neg (by omega), nx f (by omega)]
  | succ n ih =>
    intro l hl
    have hn := ih (l + 1) (by omega)
    have g1 := wind_len (tg t) (short t) d f hd (by omega)
    have g2 := later_len (tg t) (short t) f l (by omega)
    obtain ⟨b, hb, hiff⟩ := ahead_val L (windL (tg t) d f ++ (laterL (tg t) f l ++ [46, 32]))
    have hs : ∀ R, Ev (fun k => (spec_l23Ahead.f (B L) (B (windL (tg t) d f ++ (laterL (tg t) f l ++ [46, 32])))).bind fun t176 => (if t176 = true then (spec_ReadPhrase.l3 k (B L) (t : Int) (d : Int) (f : Int) 0 (d : Int) (f : Int) (l : Int) 0 0) else (spec_ReadPhrase.l2 k (B L) (t : Int) (d : Int) (f : Int) (d : Int) (f : Int) (wrap64 ((l : Int) + 1)) 0 0))) R → Ev (sl2 L t d f l) R := by
      intro R h
      have w1 : Ev (fun k => spec_l23Wind.f k (d : Int) (f : Int) (l : Int) 0 0 (t : Int)) (B (windL (tg t) d f)) := specWind t d f l 0 0 ht hd hf
      have w2 : Ev (fun k => spec_l23Later.f k (d : Int) (f : Int) (l : Int) 0 0 (t : Int)) (B (laterL (tg t) f l)) := specLater t d f l 0 0 ht (by omega)
      refine Ev.step (fun k => by unfold sl2; rw [spec_ReadPhrase.l2, if_pos (by omega)]) (Ev_bind _ w1 (Ev_bind _ w2 ?_))
      simp only [b4632, B_app, B_size, List.length_append, if_pos (show (windL (tg t) d f).length + (laterL (tg t) f l).length ≤ 9223372036854775807 by omega), if_pos (show (windL (tg t) d f).length + (laterL (tg t) f l).length + 2 ≤ 9223372036854775807 by omega)]
      simp only [List.append_assoc] at h ⊢
      exact h
    cases b with
    | true =>
      obtain ⟨R2, e⟩ := hiff.1 rfl
      have e2 : L = windL (tg t) d f ++ (laterL (tg t) f l ++ ([46, 32] ++ R2)) := by rw [e]; simp only [List.append_assoc]
      have h3 := both3 ht hd hf (show l ≤ 12 by omega) hpar e2 hn 4 0 (by omega)
      refine h3.step (fun _ _ _ _ _ hs hv => by obtain ⟨q1, q2, q3, q4, q5, _, _⟩ := hv; left; unfold Gx at hs ⊢; omega) (fun _ R h => ?_) (fun R h => ?_)
      · refine hs R ?_
        simp only [hb, Option.bind_some, if_true]
        exact h
      · refine il2_cut hd hf (by omega) ?_
        rcases cut_val L (windL (tg t) d f ++ (laterL (tg t) f l ++ [46, 32])) with ⟨R3, e3, e4⟩ | ⟨hno, _⟩
        · have : R3 = R2 := List.append_cancel_left (e3.symm.trans e)
          subst this
          simp only [e4, Option.bind_some, if_true]
          exact h
        · exact absurd ⟨R2, e⟩ hno
    | false =>
      refine hn.step (fun d' f' l' r' p' hs hv => by
        by_cases q : d' = d ∧ f' = f ∧ l' = l
        · obtain ⟨rfl, rfl, rfl⟩ := q
          refine Or.inr (fun e => absurd (hiff.2 ⟨rainL (tg t) r' p' ++ [46], ?_⟩) (by decide))
          rw [← e]; unfold sayL; simp only [List.append_assoc]
        · obtain ⟨q1, q2, q3, q4, q5, _, _⟩ := hv; left; unfold Gx at hs ⊢; omega) (fun _ R h => ?_) (fun R h => ?_)
      · refine hs R ?_
        simp only [hb, Option.bind_some, Bool.false_eq_true, if_false, nx l (by omega)]
        exact h
      · refine il2_cut hd hf (by omega) ?_
        rcases cut_val L (windL (tg t) d f ++ (laterL (tg t) f l ++ [46, 32])) with ⟨R3, e3, _⟩ | ⟨_, e4⟩
        · exact absurd (hiff.2 ⟨R3, e3⟩) (by decide)
        · simp only [e4, Option.bind_some, Bool.false_eq_true, if_false, nx l (by omega)]
          exact h
theorem both1 {L : List UInt8} {t : Nat} (ht : t = 1 ∨ t = 2 ∨ t = 3) {d : Nat} (hd : d ≤ 8) (h0 : Both t L (Gx (d + 1) 0 0 0 0) (sl0 L t (d + 1)) (il0 L (tg t) (d + 1))) :
    ∀ n f : Nat, f + n = 13 → Both t L (Gx d f 0 0 0) (sl1 L t d f) (il1 L (tg t) d f) := by
  intro n
  induction n with
  | zero =>
    intro f hf
    refine h0.step (fun _ _ _ _ _ hs hv => by obtain ⟨q1, q2, q3, q4, q5, _, _⟩ := hv; left; unfold Gx at hs ⊢; omega) (fun _ R h => ?_) (fun R h => ?_)
    · refine Ev.step (fun k => ?_) h
      unfold sl1 sl0
      rw [spec_ReadPhrase.l1, if_neg (by omega), nx d (by omega)]
    · refine Ev.step (fun k => ?_) h
      unfold il1 il0
      rw [impl_ReadPhrase.l1, if_neg (by omega), nx d (by omega)]
  | succ n ih =>
    intro f hf
    have hn := ih (f + 1) (by omega)
    by_cases c : (((f : Int) == 0) != ((d : Int) == 0)) = true
    · refine hn.step (fun d' f' l' r' p' hs hv => by
        by_cases q : d' = d ∧ f' = f
        · obtain ⟨rfl, rfl⟩ := q
          have := (par_iff d' f').2 hv.2.2.2.2.2.1
          exfalso
          revert c this
          cases ((f' : Int) == 0) <;> cases ((d' : Int) == 0) <;> decide
        · obtain ⟨q1, q2, q3, q4, q5, _, _⟩ := hv; left; unfold Gx at hs ⊢; omega) (fun _ R h => ?_) (fun R h => ?_)
      · refine Ev.step (fun k => by unfold sl1; rw [spec_ReadPhrase.l1, if_pos (by omega), if_pos c]) (Ev.step (fun k => ?_) h)
        rw [spec_ReadPhrase.j3, if_pos rfl, nx f (by omega)]
        rfl
      · refine Ev.step (fun k => ?_) h
        unfold il1
        rw [impl_ReadPhrase.l1, if_pos (by omega), if_pos c, nx f (by omega)]
    · have hpar : Par d f := by
        unfold Par
        revert c
        cases ((f : Int) == 0) <;> cases ((d : Int) == 0) <;> decide
      obtain ⟨b, hb, hiff⟩ := ahead_val L (windL (tg t) d f)
      have hs : ∀ R, Ev (fun k => spec_ReadPhrase.j3 k (B L) (t : Int) (d : Int) (f : Int) (!b) (d : Int) (f : Int) 0 0 0) R → Ev (sl1 L t d f) R := by
        intro R h
        have w1 : Ev (fun k => spec_l23Wind.f k (d : Int) (f : Int) 0 0 0 (t : Int)) (B (windL (tg t) d f)) := specWind t d f 0 0 0 ht hd (by omega)
        refine Ev.step (fun k => by unfold sl1; rw [spec_ReadPhrase.l1, if_pos (by omega), if_neg c]) (Ev_bind _ w1 ?_)
        simp only [hb, Option.bind_some]
        exact h
      have hi : ∀ R, Ev (il2 L (tg t) d f 0) R → Ev (il1 L (tg t) d f) R := by
        intro R h
        refine Ev.step (fun k => ?_) h
        unfold il1 il2
        rw [impl_ReadPhrase.l1, if_pos (by omega), if_neg c]
        rfl
      cases b with
      | true =>
        have h2 := both2 ht hd (show f ≤ 12 by omega) hpar hn 13 0 (by omega)
        refine h2.step (fun _ _ _ _ _ hs hv => by obtain ⟨q1, q2, q3, q4, q5, _, _⟩ := hv; left; unfold Gx at hs ⊢; omega) (fun _ R h => hs R ?_) (fun R h => hi R h)
        refine Ev.step (fun k => ?_) h
        unfold sl2
        rw [spec_ReadPhrase.j3, if_neg (by decide)]
        rfl
      | false =>
        have hno : ¬ ∃ R, L = windL (tg t) d f ++ R := fun h => absurd (hiff.2 h) (by decide)
        refine hn.step (fun d' f' l' r' p' hs hv => by
          by_cases q : d' = d ∧ f' = f
          · obtain ⟨rfl, rfl⟩ := q
            exact Or.inr (fun e => hno ⟨_, e.symm⟩)
          · obtain ⟨q1, q2, q3, q4, q5, _, _⟩ := hv; left; unfold Gx at hs ⊢; omega) (fun _ R h => hs R ?_) (fun R h => hi R (skip2 hd (by omega) hno h 13 0 (by omega)))
        refine Ev.step (fun k => ?_) h
        unfold sl1
        rw [spec_ReadPhrase.j3, if_pos (by decide), nx f (by omega)]
theorem both0 {L : List UInt8} {t : Nat} (ht : t = 1 ∨ t = 2 ∨ t = 3) : ∀ n d : Nat, d + n = 9 → Both t L (Gx d 0 0 0 0) (sl0 L t d) (il0 L (tg t) d) := by
  intro n
  induction n with
  | zero =>
    intro d hd
    refine ⟨(0, 0, 0, 0, 0, false), Ev.step (f := fun _ => some (0, 0, 0, 0, 0, false)) (fun k => ?_) (Ev.now _), Ev.step (f := fun _ => some (0, 0, 0, 0, 0, false)) (fun k => ?_) (Ev.now _), Or.inl ⟨rfl, fun d' f' l' r' p' hs hv => by obtain ⟨q1, q2, q3, q4, q5, _, _⟩ := hv; exfalso; unfold Gx at hs; omega⟩⟩
    · unfold sl0
      rw [spec_ReadPhrase.l0, if_neg (by omega)]
    · unfold il0
      rw [impl_ReadPhrase.l0, if_neg (by omega)]
  | succ n ih =>
    intro d hd
    have h1 := both1 ht (show d ≤ 8 by omega) (ih (d + 1) (by omega)) 13 0 (by omega)
    refine h1.step (fun _ _ _ _ _ hs hv => by obtain ⟨q1, q2, q3, q4, q5, _, _⟩ := hv; left; unfold Gx at hs ⊢; omega) (fun _ R h => ?_) (fun R h => ?_)
    · refine Ev.step (fun k => ?_) h
      unfold sl0 sl1
      rw [spec_ReadPhrase.l0, if_pos (by omega)]
      rfl
    · refine Ev.step (fun k => ?_) h
      unfold il0 il1
      rw [impl_ReadPhrase.l0, if_pos (by omega)]
      rfl

end Go.Proofs.YtllkijlmjapleaaDoor.QFnPhrases
