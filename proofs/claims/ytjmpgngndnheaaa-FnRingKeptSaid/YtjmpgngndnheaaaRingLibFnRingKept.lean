/- The rings' functions, plainly: RingOk, the winds' test, one step, over lists of whole numbers. No condition but those that are named. -/
import Derived.Test.YtjmpgngndnheaaaRingMath
import Derived.Test.YtjmpgngndnheaaaInLibFnRingKept
set_option linter.unusedVariables false
set_option linter.unusedSimpArgs false
set_option linter.unusedVariables false
set_option linter.unusedSimpArgs false
namespace Go.Proofs.Ytjmpgngndnheaaa.QFnRingKept
open Go.RowKit Go.Proofs.YtjmpgngndnheaaaW.PrintWords Go.Proofs.Ytjmpgngndnheaaa.Opn Go.Proofs.Ytjmpgngndnheaaa.Pl Go.Proofs.Ytjmpgngndnheaaa.Ring

def eachB (l : List Int) (n a b : Int) : Bool := decide ((l.length : Int) = n) && l.all (fun x => inB x a b)

theorem specAll_ev (l : List Int) (hl : l.length ≤ 1048576) (n a b : Int) : Ev (fun k => spec_l15All.f k l n a b) (eachB l n a b) := by
  unfold spec_l15All.f eachB
  by_cases h : (l.length : Int) = n
  · simp only [h, if_true, decide_true, Bool.true_and]
    have key := Ev_up (fun k i => spec_l15All.l0 k l a b (i : Int)) (fun i => (l.drop i).all (fun x => inB x a b)) l.length (by
        refine Ev.step (f := fun _ => some true) (fun k => ?_) (by simpa using Ev.now true)
        simp only [spec_l15All.l0]
        rw [if_neg (by omega)]) (by
        intro i hi ih
        refine Ev.step (f := fun k => if inB l[i] a b = true then spec_l15All.l0 k l a b ((i + 1 : Nat) : Int) else some false) (fun k => ?_) ?_
        · simp only [spec_l15All.l0]
          rw [if_pos (by omega), if_pos (by omega), specIn, rd_lt l i hi, w64 (by omega) (by omega)]
          rfl
        · rw [mem_range_get l _ i hi]
          cases hb : inB l[i] a b with
          | true => simpa using ih
          | false => simpa using Ev.now false) 0 (Nat.zero_le _)
    simpa using key
  · rw [decide_eq_false h, Bool.false_and]
    simp only [h, if_false]
    exact Ev.now false

theorem implEach_ev (l : List Int) (hl : l.length ≤ 1048576) (n a b : Int) : Ev (fun k => impl_each.f k l n a b) (eachB l n a b) := by
  unfold impl_each.f eachB
  by_cases h : (l.length : Int) = n
  · rw [decide_eq_true h, Bool.true_and]
    simp only [if_pos h]
    have key := Ev_up (fun k i => impl_each.l0 k a b l (l.length : Int) (i : Int)) (fun i => (l.drop i).all (fun x => inB x a b)) l.length (by
        refine Ev.step (f := fun _ => some true) (fun k => ?_) (by simpa using Ev.now true)
        simp only [impl_each.l0]
        rw [if_neg (by omega)]) (by
        intro i hi ih
        refine Ev.step (f := fun k => if inB l[i] a b = true then impl_each.l0 k a b l (l.length : Int) ((i + 1 : Nat) : Int) else some false) (fun k => ?_) ?_
        · simp only [impl_each.l0]
          rw [if_pos (by omega), if_pos (by omega), if_pos (by omega), implIn, rd_lt l i hi, w64 (by omega) (by omega)]
          rfl
        · rw [mem_range_get l _ i hi]
          cases hb : inB l[i] a b with
          | true => simpa using ih
          | false => simpa using Ev.now false) 0 (Nat.zero_le _)
    simpa using key
  · rw [decide_eq_false h, Bool.false_and]
    simp only [h, if_false]
    exact Ev.now false

theorem up_ind {P : Nat → Prop} (n : Nat) (hend : P n) (hstep : ∀ i, i < n → P (i + 1) → P i) : ∀ i, i ≤ n → P i := by
  have key : ∀ d i, i + d = n → P i := by
    intro d
    induction d with
    | zero => intro i hi; rw [show i = n by omega]; exact hend
    | succ d ih => intro i hi; exact hstep i (by omega) (ih (i + 1) (by omega))
  intro i hi
  exact key (n - i) i (by omega)

theorem rd_nat (l : List Int) (i : Nat) : rd l (i : Int) = l.getD i 0 := by unfold rd; rw [Int.toNat_natCast]
theorem rd_int (l : List Int) (i : Int) (n : Nat) (h : i = (n : Int)) : rd l i = l.getD n 0 := by rw [h, rd_nat]

/-- One cell is right. -/
def okc (M T : List Int) (j : Nat) : Prop := (0 ≤ M.getD j 0 ∧ M.getD j 0 ≤ 1000000000) ∧ 0 ≤ T.getD j 0 ∧ T.getD j 0 ≤ M.getD j 0
noncomputable def dec_ (p : Prop) : Bool := @decide p (Classical.propDecidable p)
theorem dec_iff {p q : Prop} (h : p ↔ q) : dec_ p = dec_ q := by rw [propext h]
theorem dec_true {p : Prop} (h : p) : dec_ p = true := by unfold dec_; exact @decide_eq_true p (Classical.propDecidable p) h
theorem dec_false {p : Prop} (h : ¬ p) : dec_ p = false := by unfold dec_; exact @decide_eq_false p (Classical.propDecidable p) h
theorem of_dec {p : Prop} (h : dec_ p = true) : p := by unfold dec_ at h; exact @of_decide_eq_true p (Classical.propDecidable p) h
def restP (M T : List Int) (i : Nat) : Prop := (∀ j, i ≤ j → j < M.length → okc M T j) ∧ M.sum ≤ 1000000000
theorem rest_end (M T : List Int) : dec_ (restP M T M.length) = decide (M.sum ≤ 1000000000) := by
  by_cases h : M.sum ≤ 1000000000
  · rw [decide_eq_true h]; exact dec_true ⟨fun j h1 h2 => by omega, h⟩
  · rw [decide_eq_false h]; exact dec_false fun c => h c.2
theorem rest_next {M T : List Int} {i : Nat} (hi : i < M.length) (h : okc M T i) : dec_ (restP M T i) = dec_ (restP M T (i + 1)) :=
  dec_iff ⟨fun c => ⟨fun j h1 h2 => c.1 j (by omega) h2, c.2⟩, fun c => ⟨fun j h1 h2 => by
    by_cases e : j = i
    · rw [e]; exact h
    · exact c.1 j (by omega) h2, c.2⟩⟩
theorem rest_bad {M T : List Int} {i : Nat} (hi : i < M.length) (h : ¬ okc M T i) : dec_ (restP M T i) = false := dec_false fun c => h (c.1 i (Nat.le_refl _) hi)
theorem take_sum (l : List Int) (i : Nat) (hi : i < l.length) : (l.take (i + 1)).sum = (l.take i).sum + l.getD i 0 := by
  rw [List.take_succ_eq_append_getElem hi, List.sum_append, List.getD_eq_getElem?_getD, List.getElem?_eq_getElem hi]; simp
theorem take_bd (M T : List Int) : ∀ i, i ≤ M.length → (∀ j, j < i → okc M T j) → 0 ≤ (M.take i).sum ∧ (M.take i).sum ≤ (i : Int) * 1000000000 := by
  intro i
  induction i with
  | zero => intro _ _; simp
  | succ i ih =>
    intro hi h
    have a := ih (by omega) (fun j hj => h j (by omega))
    have b := h i (by omega)
    unfold okc at b
    rw [take_sum M i (by omega)]
    omega
noncomputable def ringB (M T : List Int) : Bool := dec_ (RV M T)
theorem RV_iff (M T : List Int) : RV M T ↔ (1 ≤ M.length ∧ M.length ≤ 200 ∧ T.length = M.length ∧ restP M T 0) := by
  constructor
  · rintro ⟨h1, h2, h3, h4, h5⟩
    refine ⟨h1, h2, h3, fun j _ hj => ?_, h5⟩
    have a := h4 j hj
    have b := le_sum M (fun k hk => by have := h4 k hk; omega) j hj
    exact ⟨⟨by omega, by omega⟩, a.1, a.2⟩
  · rintro ⟨h1, h2, h3, h4, h5⟩
    exact ⟨h1, h2, h3, fun i hi => (h4 i (Nat.zero_le _) hi).2, h5⟩
theorem in1 (M T : List Int) (i : Nat) : (inB (M.getD i 0) 0 1000000000 = true ∧ inB (T.getD i 0) 0 (M.getD i 0) = true) ↔ okc M T i := by rw [inB_iff, inB_iff]; rfl

theorem specRingOk_ev (M T : List Int) (hl : M.length ≤ 1048576) (hl2 : T.length ≤ 1048576) : Ev (fun k => spec_RingOk.f k M T) (ringB M T) := by
  unfold spec_RingOk.f ringB
  by_cases h1 : (M.length : Int) < 1
  · simp only [if_pos h1]
    rw [dec_false (fun c => by have := c.1; omega)]
    exact Ev.step (f := fun _ => some false) (fun k => by simp only [spec_RingOk.j0, if_true]) (Ev.now _)
  simp only [if_neg h1]
  by_cases h2 : (M.length : Int) > 200
  · simp only [if_pos h2]
    rw [dec_false (fun c => by have := c.2.1; omega)]
    exact Ev.step (f := fun _ => some false) (fun k => by simp only [spec_RingOk.j0, if_true]) (Ev.now _)
  simp only [if_neg h2]
  by_cases h3 : (T.length : Int) = (M.length : Int)
  rotate_left
  · have e : ((T.length : Int) != (M.length : Int)) = true := bne_iff_ne.mpr h3
    rw [dec_false (fun c => h3 (by have := c.2.2.1; omega)), e]
    exact Ev.step (f := fun _ => some false) (fun k => by simp only [spec_RingOk.j0, if_true]) (Ev.now _)
  have e : ((T.length : Int) != (M.length : Int)) = false := by simp [h3]
  rw [e, dec_iff (RV_iff M T), dec_iff (show (1 ≤ M.length ∧ M.length ≤ 200 ∧ T.length = M.length ∧ restP M T 0) ↔ restP M T 0 from ⟨fun c => c.2.2.2, fun c => ⟨by omega, by omega, by omega, c⟩⟩)]
  refine Ev.step (f := fun k => spec_RingOk.l0 k (M.length : Int) 0 0 M T) (fun k => by simp only [spec_RingOk.j0]; rw [if_neg (by simp)]) ?_
  have key := up_ind (P := fun i => (∀ j, j < i → okc M T j) → Ev (fun k => spec_RingOk.l0 k (M.length : Int) ((M.take i).sum) (i : Int) M T) (dec_ (restP M T i))) M.length (by
      intro _
      refine Ev.step (f := fun _ => some (decide (M.sum ≤ 1000000000))) (fun k => ?_) ?_
      · simp only [spec_RingOk.l0]; rw [if_neg (by omega), List.take_length]
      · rw [rest_end]; exact Ev.now _) (by
      intro i hi ih h
      have tb := take_bd M T i (by omega) h
      by_cases ho : okc M T i
      · have hb := (in1 M T i).2 ho
        refine Ev.step (f := fun k => spec_RingOk.l0 k (M.length : Int) ((M.take (i + 1)).sum) ((i + 1 : Nat) : Int) M T) (fun k => ?_) ?_
        · simp only [spec_RingOk.l0]
          rw [if_pos (by omega), if_pos (by omega), if_pos (by omega), specIn, rd_nat, hb.1, Option.bind_some, if_pos rfl, if_pos (by omega), specIn, rd_nat, hb.2, Option.bind_some, if_pos rfl, take_sum M i hi]
          unfold okc at ho
          rw [w64 (by omega) (by omega), w64 (by omega) (by omega)]
          rfl
        · rw [rest_next hi ho]
          exact ih (fun j hj => by
            by_cases e : j = i
            · rw [e]; exact ho
            · exact h j (by omega))
      · rw [rest_bad hi ho]
        refine Ev.step (f := fun _ => some false) (fun k => ?_) (Ev.now _)
        simp only [spec_RingOk.l0]
        rw [if_pos (by omega), if_pos (by omega), if_pos (by omega), specIn, rd_nat]
        cases hb : inB (M.getD i 0) 0 1000000000 with
        | false => simp
        | true =>
          have hb2 : inB (T.getD i 0) 0 (M.getD i 0) = false := by
            cases h2 : inB (T.getD i 0) 0 (M.getD i 0) with
            | false => rfl
            | true => exact absurd ((in1 M T i).1 ⟨hb, h2⟩) ho
          rw [Option.bind_some, if_pos rfl, if_pos (by omega), specIn, rd_nat, hb2]
          simp) 0 (Nat.zero_le _)
  exact key (fun j hj => absurd hj (Nat.not_lt_zero _))

theorem implRingOk_ev (M T : List Int) (hl : M.length ≤ 1048576) (hl2 : T.length ≤ 1048576) : Ev (fun k => impl_RingOk.f k M T) (ringB M T) := by
  unfold impl_RingOk.f ringB
  rw [implIn]
  simp only [Option.bind_some]
  by_cases h1 : inB (M.length : Int) 1 200 = true
  rotate_left
  · simp only [if_neg h1]
    rw [dec_false (fun c => h1 ((inB_iff _ _ _).2 ⟨by have := c.1; omega, by have := c.2.1; omega⟩))]
    exact Ev.step (f := fun _ => some false) (fun k => by simp only [impl_RingOk.j0, if_true]) (Ev.now _)
  simp only [if_pos h1]
  have h1' := (inB_iff _ _ _).1 h1
  by_cases h3 : (T.length : Int) = (M.length : Int)
  rotate_left
  · have e : ((T.length : Int) != (M.length : Int)) = true := bne_iff_ne.mpr h3
    rw [dec_false (fun c => h3 (by have := c.2.2.1; omega)), e]
    exact Ev.step (f := fun _ => some false) (fun k => by simp only [impl_RingOk.j0, if_true]) (Ev.now _)
  have e : ((T.length : Int) != (M.length : Int)) = false := by simp [h3]
  rw [e, dec_iff (RV_iff M T), dec_iff (show (1 ≤ M.length ∧ M.length ≤ 200 ∧ T.length = M.length ∧ restP M T 0) ↔ restP M T 0 from ⟨fun c => c.2.2.2, fun c => ⟨by omega, by omega, by omega, c⟩⟩)]
  refine Ev.step (f := fun k => impl_RingOk.l0 k 0 M (M.length : Int) 0 M T) (fun k => by simp only [impl_RingOk.j0]; rw [if_neg (by simp)]) ?_
  have key := up_ind (P := fun i => (∀ j, j < i → okc M T j) → Ev (fun k => impl_RingOk.l0 k ((M.take i).sum) M (M.length : Int) (i : Int) M T) (dec_ (restP M T i))) M.length (by
      intro _
      refine Ev.step (f := fun _ => some (decide (M.sum ≤ 1000000000))) (fun k => ?_) ?_
      · simp only [impl_RingOk.l0]; rw [if_neg (by omega), List.take_length]
      · rw [rest_end]; exact Ev.now _) (by
      intro i hi ih h
      have tb := take_bd M T i (by omega) h
      by_cases ho : okc M T i
      · have hb := (in1 M T i).2 ho
        refine Ev.step (f := fun k => impl_RingOk.l0 k ((M.take (i + 1)).sum) M (M.length : Int) ((i + 1 : Nat) : Int) M T) (fun k => ?_) ?_
        · simp only [impl_RingOk.l0]
          rw [if_pos (by omega), if_pos (by omega), if_pos (by omega), implIn, rd_nat, hb.1, Option.bind_some, if_pos rfl, if_pos (by omega), implIn, rd_nat, hb.2, Option.bind_some, if_pos rfl, take_sum M i hi]
          unfold okc at ho
          rw [w64 (by omega) (by omega), w64 (by omega) (by omega)]
          rfl
        · rw [rest_next hi ho]
          exact ih (fun j hj => by
            by_cases e : j = i
            · rw [e]; exact ho
            · exact h j (by omega))
      · rw [rest_bad hi ho]
        refine Ev.step (f := fun _ => some false) (fun k => ?_) (Ev.now _)
        simp only [impl_RingOk.l0]
        rw [if_pos (by omega), if_pos (by omega), if_pos (by omega), implIn, rd_nat]
        cases hb : inB (M.getD i 0) 0 1000000000 with
        | false => simp
        | true =>
          have hb2 : inB (T.getD i 0) 0 (M.getD i 0) = false := by
            cases h2 : inB (T.getD i 0) 0 (M.getD i 0) with
            | false => rfl
            | true => exact absurd ((in1 M T i).1 ⟨hb, h2⟩) ho
          rw [Option.bind_some, if_pos rfl, if_pos (by omega), implIn, rd_nat, hb2]
          simp) 0 (Nat.zero_le _)
  exact key (fun j hj => absurd hj (Nat.not_lt_zero _))

/-- The ring and the winds are right. -/
noncomputable def windsB (M T W : List Int) : Bool := ringB M T && eachB W (M.length : Int) (-128) 128
theorem windsB_true {M T W : List Int} (h : windsB M T W = true) : RV M T ∧ WV W M.length := by
  unfold windsB ringB at h
  rw [Bool.and_eq_true] at h
  refine ⟨of_dec h.1, ?_⟩
  have h2 := h.2
  unfold eachB at h2
  rw [Bool.and_eq_true, decide_eq_true_eq, List.all_eq_true] at h2
  refine ⟨by omega, fun i hi => ?_⟩
  have hl : i < W.length := by omega
  have := (inB_iff _ _ _).1 (h2.2 W[i] (List.getElem_mem hl))
  rw [List.getD_eq_getElem?_getD, List.getElem?_eq_getElem hl]
  exact this
theorem windsB_mk {M T W : List Int} (r : RV M T) (v : WV W M.length) : windsB M T W = true := by
  unfold windsB ringB eachB
  rw [dec_true r, Bool.true_and, Bool.and_eq_true, decide_eq_true_eq, List.all_eq_true]
  refine ⟨by rw [v.1], fun x hx => ?_⟩
  obtain ⟨i, hi, rfl⟩ := List.getElem_of_mem hx
  have := v.2 i (by have := v.1; omega)
  rw [List.getD_eq_getElem?_getD, List.getElem?_eq_getElem hi] at this
  exact (inB_iff _ _ _).2 this
theorem specWinds_ev (M T W : List Int) (h1 : M.length ≤ 1048576) (h2 : T.length ≤ 1048576) (h3 : W.length ≤ 1048576) : Ev (fun k => spec_l17WindsOk.f k M T W) (windsB M T W) := by
  unfold spec_l17WindsOk.f windsB
  refine Ev_bind _ (specRingOk_ev M T h1 h2) ?_
  cases ringB M T with
  | false => simpa using Ev.now false
  | true => simp only [if_true, Bool.true_and]; exact Ev_bind _ (specAll_ev W h3 _ _ _) (Ev.now _)
theorem implWinds_ev (M T W : List Int) (h1 : M.length ≤ 1048576) (h2 : T.length ≤ 1048576) (h3 : W.length ≤ 1048576) : Ev (fun k => impl_windsOk.f k M T W) (windsB M T W) := by
  unfold impl_windsOk.f windsB
  refine Ev_bind _ (implRingOk_ev M T h1 h2) ?_
  cases ringB M T with
  | false => simpa using Ev.now false
  | true => simp only [if_true, Bool.true_and]; exact Ev_bind _ (implEach_ev W h3 _ _ _) (Ev.now _)

theorem fluxW {M w : Int} (h0 : 0 ≤ M) (h1 : M ≤ 1000000000) (h2 : 0 ≤ w) (h3 : w ≤ 128) : wrap64 (Int.tdiv (wrap64 (M * w)) 256) = M * w / 256 := by
  have a1 : 0 ≤ M * w := Int.mul_nonneg h0 h2
  have a2 : M * w ≤ M * 128 := Int.mul_le_mul_of_nonneg_left h3 h0
  rw [w64 (n := M * w) (by omega) (by omega), Int.tdiv_eq_ediv_of_nonneg a1, w64 (by omega) (by omega)]
theorem partW {t f m : Int} (h0 : 0 ≤ t) (h1 : t ≤ m) (h2 : 0 ≤ f) (h3 : f ≤ m) (h4 : m ≤ 1000000000) (h5 : ¬ m = 0) : wrap64 (Int.tdiv (wrap64 (t * f)) m) = tpart t f m := by
  have a0 : 0 ≤ t * f := Int.mul_nonneg h0 h2
  have a1 : t * f ≤ 1000000000 * 1000000000 := Int.mul_le_mul (by omega) (by omega) h2 (by omega)
  have pb := part_bd h0 h1 h2 h3
  rw [w64 (n := t * f) (by omega) (by omega), Int.tdiv_eq_ediv_of_nonneg a0]
  unfold tpart at pb ⊢
  rw [if_neg h5] at pb ⊢
  rw [w64 (by omega) (by omega)]
theorem specPart {t f m : Int} (h0 : 0 ≤ t) (h1 : t ≤ m) (h2 : 0 ≤ f) (h3 : f ≤ m) (h4 : m ≤ 1000000000) : spec_l17Part.f t f m = some (tpart t f m) := by
  unfold spec_l17Part.f
  by_cases h5 : m = 0
  · rw [if_pos h5]; unfold tpart; rw [if_pos h5]
  · rw [if_neg h5, partW h0 h1 h2 h3 h4 h5]

/-- What is taken from one cell and laid on another stays small. -/
theorem upd_bd {A : List Int} {n c z : Nat} {f : Int} (hA : A.length = n) (hb : ∀ i, i < n → 0 ≤ A.getD i 0 ∧ A.getD i 0 ≤ 1000000000) (hc : c < n) (hz : z < n) (h0 : 0 ≤ f) (h1 : f ≤ 1000000000) :
    wrap64 (A.getD c 0 - f) = A.getD c 0 - f ∧ wrap64 ((A.set c (A.getD c 0 - f)).getD z 0 + f) = (A.set c (A.getD c 0 - f)).getD z 0 + f := by
  have a := hb c hc
  have b := hb z hz
  clear hb
  refine ⟨w64 (by omega) (by omega), ?_⟩
  by_cases e : c = z
  · subst e
    rw [gdS_eq _ _ _ (by omega)]
    exact w64 (by omega) (by omega)
  · rw [gdS_ne _ _ _ _ e]
    exact w64 (by omega) (by omega)
theorem small_sub {a b : Int} (h0 : 0 ≤ a) (h1 : a ≤ 1000000000) (h2 : 0 ≤ b) (h3 : b ≤ 1000000000) : wrap64 (a - b) = a - b := w64 (by omega) (by omega)

/-- The closure's function is goesP. -/
theorem goesW {M T A B : List Int} {c z : Nat} {w m t : Int} (r : RV M T) (hc : c < M.length) (hz : z < M.length) (hw : w ≤ 128) (hm : 2 * (M.getD c 0 - m) ≤ M.getD c 0) (h : J M T c m t A B) :
    impl_advect_1.f w (z : Int) M T (c : Int) m t A B = some (goesP M c z w m t A B) := by
  unfold impl_advect_1.f goesP
  by_cases h0 : w ≤ 0
  · rw [if_pos h0, if_pos h0]
  rw [if_neg h0, if_neg h0]
  have hall := h.all r
  have hM := r.2.2.2.1 c hc
  obtain ⟨h1, h2, h3, h4, h5, h6, h7, h8, h9⟩ := h
  have hMb : M.getD c 0 ≤ 1000000000 := by
    have := le_sum M (fun k hk => by have := r.2.2.2.1 k hk; omega) c hc
    have := r.2.2.2.2
    omega
  have fb := flux_bd (M := M.getD c 0) (w := w) (by omega) (by omega) hw
  rw [if_pos (by omega), if_pos (by omega)]
  simp only [rd_nat, fluxW (M := M.getD c 0) (w := w) (by omega) hMb (by omega) hw, Int.toNat_natCast]
  generalize M.getD c 0 * w / 256 = f at fb ⊢
  have hAc := hall c hc
  have hAz := hall z hz
  have pb := part_bd (t := t) (f := f) (m := m) h5 h6 fb.1 (by omega)
  have px : (if m > 0 then tpart t f m else (0 : Int)) = tpart t f m := by
    by_cases e : m > 0
    · rw [if_pos e]
    · rw [if_neg e]; have : m = 0 := by omega
      unfold tpart; rw [if_pos this]
  have hbA : ∀ i, i < M.length → 0 ≤ A.getD i 0 ∧ A.getD i 0 ≤ 1000000000 := fun i hi => by have := hall i hi; omega
  have hbB : ∀ i, i < M.length → 0 ≤ B.getD i 0 ∧ B.getD i 0 ≤ 1000000000 := fun i hi => by have := hall i hi; omega
  have hf9 : f ≤ 1000000000 := by omega
  have hx9 : tpart t f m ≤ 1000000000 := by omega
  obtain ⟨u1, u2⟩ := upd_bd h1 hbA hc hz fb.1 hf9
  obtain ⟨u3, u4⟩ := upd_bd h2 hbB hc hz pb.1 hx9
  have u5 := small_sub (a := m) (b := f) (by omega) (by omega) (by omega) (by omega)
  have u6 := small_sub (a := t) (b := tpart t f m) (by omega) (by omega) (by omega) (by omega)
  have i1 : (c : Int) < (A.length : Int) := by omega
  have i2 : (c : Int) < (B.length : Int) := by omega
  have i3 : (z : Int) < (A.length : Int) := by omega
  have i4 : (z : Int) < (B.length : Int) := by omega
  have i5 : (0 : Int) ≤ (z : Int) := by omega
  by_cases e : m > 0
  · have e0 : ¬ m = 0 := by omega
    have pw := partW (t := t) (f := f) (m := m) h5 h6 fb.1 (by omega) (by omega) e0
    clear hall hbA hbB h7 h8 h9
    simp only [if_pos e, if_neg e0, if_pos i1, pw, Option.bind_some, if_pos i2, if_pos i3, if_pos i4, if_pos i5, u1, u2, u3, u4, u5, u6]
  · have e0 : m = 0 := by omega
    have ep : tpart t f m = 0 := by unfold tpart; rw [if_pos e0]
    clear hall hbA hbB h7 h8 h9
    rw [ep] at u3 u4 u6 ⊢
    simp only [if_neg e, if_pos i1, Option.bind_some, if_pos i2, if_pos i3, if_pos i4, if_pos i5, u1, u2, u3, u4, u5, u6]

theorem modL {c n : Nat} (h0 : c < n) (hn : n ≤ 200) : Int.tmod (wrap64 ((wrap64 ((c : Int) + (n : Int))) - 1)) (n : Int) = (((c + n - 1) % n : Nat) : Int) := by
  rw [w64 (n := (c : Int) + (n : Int)) (by omega) (by omega), w64 (by omega) (by omega), show (c : Int) + (n : Int) - 1 = ((c + n - 1 : Nat) : Int) by omega]
  first | rfl | exact (Int.ofNat_tmod _ _).symm
theorem modR {c n : Nat} (h0 : c < n) (hn : n ≤ 200) : Int.tmod (wrap64 ((c : Int) + 1)) (n : Int) = (((c + 1) % n : Nat) : Int) := by
  rw [w64 (n := (c : Int) + 1) (by omega) (by omega), show (c : Int) + 1 = ((c + 1 : Nat) : Int) by omega]
  first | rfl | exact (Int.ofNat_tmod _ _).symm

theorem implStep_ev {M T W : List Int} (r : RV M T) (v : WV W M.length) : ∀ d c A B, c + d = M.length → H M T c A B → Ev (fun k => impl_advect.l0 k W (M.length : Int) (c : Int) M T A B) (stepR M T W M.length d c A B) := by
  have hn := r.2.1
  have hn1 := r.1
  have hT := r.2.2.1
  intro d
  induction d with
  | zero =>
    intro c A B hd h
    refine Ev.step (f := fun _ => some (A, B)) (fun k => ?_) (Ev.now _)
    simp only [impl_advect.l0]
    rw [if_neg (by omega)]
  | succ d ih =>
    intro c A B hd h
    have hc : c < M.length := by omega
    refine Ev.step (f := fun k => impl_advect.l0 k W (M.length : Int) ((c + 1 : Nat) : Int) M T (roundP M T W M.length c A B).2.2.1 (roundP M T W M.length c A B).2.2.2) (fun k => ?_) (ih (c + 1) _ _ (by omega) (round_H r v hc h))
    simp only [impl_advect.l0]
    have hw := v.2 c hc
    have hz1 : (c + M.length - 1) % M.length < M.length := Nat.mod_lt _ (by omega)
    have hz2 : (c + 1) % M.length < M.length := Nat.mod_lt _ (by omega)
    have hw2 := v.2 _ hz2
    have hMc := r.2.2.2.1 c hc
    rw [if_pos (by omega), if_pos (by omega), if_pos (by omega), if_pos (by omega), if_pos (by have := v.1; omega), if_neg (by omega)]
    rw [modL hc hn, modR hc hn, rd_nat, rd_nat, rd_nat, rd_nat, w64 (n := -(W.getD c 0)) (by omega) (by omega),
      goesW r hc hz1 (by omega) (by omega) (h.toJ r hc)]
    rw [Option.bind_some, if_pos (by omega), if_pos (by have := v.1; omega)]
    have g2 := goesW r hc hz2 (w := W.getD ((c + 1) % M.length) 0) (by omega) (half_m (A := A) (B := B) r v hc) (half_J r v hc h)
    unfold halfP at g2
    rw [g2, Option.bind_some, w64 (n := (c : Int) + 1) (by omega) (by omega)]
    rfl
theorem implAdvect_ev {M T W : List Int} (r : RV M T) (v : WV W M.length) : Ev (fun k => impl_advect.f k M T W) (STEP W (M, T)) := by
  unfold impl_advect.f slices_Clone_int64_int64.f
  have := r.2.1
  have := r.2.2.1
  rw [if_pos (by omega), if_pos (by omega)]
  simp only [Option.bind_some]
  exact implStep_ev r v M.length 0 M T (by omega) (H_start r)

theorem half_bd {M T A B : List Int} {c z : Nat} {w m t : Int} (r : RV M T) (hc : c < M.length) (hz : z < M.length) (h0 : 0 ≤ w) (hw : w ≤ 128) (hm : 2 * (M.getD c 0 - m) ≤ M.getD c 0) (h : J M T c m t A B) :
    wrap64 (Int.tdiv (wrap64 (M.getD c 0 * w)) 256) = M.getD c 0 * w / 256 ∧ spec_l17Part.f t (M.getD c 0 * w / 256) m = some (tpart t (M.getD c 0 * w / 256) m) ∧
    wrap64 (A.getD c 0 - M.getD c 0 * w / 256) = A.getD c 0 - M.getD c 0 * w / 256 ∧ wrap64 (B.getD c 0 - tpart t (M.getD c 0 * w / 256) m) = B.getD c 0 - tpart t (M.getD c 0 * w / 256) m ∧
    wrap64 ((A.set c (A.getD c 0 - M.getD c 0 * w / 256)).getD z 0 + M.getD c 0 * w / 256) = (A.set c (A.getD c 0 - M.getD c 0 * w / 256)).getD z 0 + M.getD c 0 * w / 256 ∧
    wrap64 ((B.set c (B.getD c 0 - tpart t (M.getD c 0 * w / 256) m)).getD z 0 + tpart t (M.getD c 0 * w / 256) m) = (B.set c (B.getD c 0 - tpart t (M.getD c 0 * w / 256) m)).getD z 0 + tpart t (M.getD c 0 * w / 256) m ∧
    wrap64 (m - M.getD c 0 * w / 256) = m - M.getD c 0 * w / 256 ∧ wrap64 (t - tpart t (M.getD c 0 * w / 256) m) = t - tpart t (M.getD c 0 * w / 256) m := by
  have hall := h.all r
  have hM := r.2.2.2.1 c hc
  obtain ⟨h1, h2, h3, h4, h5, h6, h7, h8, h9⟩ := h
  clear h7 h9 h3 h4
  have hMb : M.getD c 0 ≤ 1000000000 := by
    have := le_sum M (fun k hk => by have := r.2.2.2.1 k hk; omega) c hc
    have := r.2.2.2.2
    omega
  have hbA : ∀ i, i < M.length → 0 ≤ A.getD i 0 ∧ A.getD i 0 ≤ 1000000000 := fun i hi => by have := hall i hi; omega
  have hbB : ∀ i, i < M.length → 0 ≤ B.getD i 0 ∧ B.getD i 0 ≤ 1000000000 := fun i hi => by have := hall i hi; omega
  have hAc := hall c hc
  clear hall
  have fb := flux_bd (M := M.getD c 0) (w := w) (by omega) h0 hw
  have fw := fluxW (M := M.getD c 0) (w := w) (by omega) hMb h0 hw
  refine ⟨fw, ?_⟩
  clear fw
  generalize M.getD c 0 * w / 256 = f at fb ⊢
  have pb := part_bd (t := t) (f := f) (m := m) h5 h6 fb.1 (by omega)
  have sp := specPart (t := t) (f := f) (m := m) h5 h6 fb.1 (by omega) (by omega)
  refine ⟨sp, ?_⟩
  clear sp
  generalize tpart t f m = x at pb ⊢
  obtain ⟨u1, u2⟩ := upd_bd h1 hbA hc hz fb.1 (by omega)
  obtain ⟨u3, u4⟩ := upd_bd h2 hbB hc hz pb.1 (by omega)
  exact ⟨u1, u3, u2, u4, small_sub (by omega) (by omega) (by omega) (by omega), small_sub (by omega) (by omega) (by omega) (by omega)⟩

theorem specRoundA {M T W A B : List Int} {c k : Nat} (r : RV M T) (v : WV W M.length) (hc : c < M.length) (h : H M T c A B) {L R : Nat} (hz1 : L < M.length)
    (mL : Int.tmod (wrap64 ((wrap64 ((c : Int) + (M.length : Int))) - 1)) (M.length : Int) = (L : Int)) (mR : Int.tmod (wrap64 ((c : Int) + 1)) (M.length : Int) = (R : Int)) (s : Int × Int × List Int × List Int) (hs : s = goesP M c L (-(W.getD c 0)) (M.getD c 0) (T.getD c 0) A B) :
    spec_l17Step.l0 (k + 1) W (M.length : Int) (c : Int) M T A B = spec_l17Step.j1 k W (M.length : Int) (c : Int) s.1 s.2.1 (R : Int) M T s.2.2.1 s.2.2.2 := by
  revert mL mR
  have hn := r.2.1
  have hT := r.2.2.1
  have hw := v.2 c hc
  have hMc := r.2.2.2.1 c hc
  have hWl := v.1
  have hJ := h.toJ r hc
  have hm1 : 2 * (M.getD c 0 - M.getD c 0) ≤ M.getD c 0 := by omega
  have hA := h.1
  have hB := h.2.1
  clear h
  have i0 : (c : Int) < (M.length : Int) := by omega
  have iT : (c : Int) < (T.length : Int) := by omega
  have iz : (0 : Int) ≤ (c : Int) := by omega
  have inn : ¬ (M.length : Int) = 0 := by omega
  have iW : (c : Int) < (W.length : Int) := by omega
  have i1 : (c : Int) < (A.length : Int) := by omega
  have i2 : (c : Int) < (B.length : Int) := by omega
  have i3 : (L : Int) < (A.length : Int) := by omega
  have i4 : (L : Int) < (B.length : Int) := by omega
  have i9 : (0 : Int) ≤ (L : Int) := by omega
  have en : wrap64 (-(W.getD c 0)) = -(W.getD c 0) := w64 (by omega) (by omega)
  have q1 : -(W.getD c 0) ≤ 128 := by omega
  intro mL mR
  simp only [spec_l17Step.l0, if_pos i0, if_pos iT, if_pos iz, if_neg inn, if_pos iW, mL, mR, rd_nat, Int.toNat_natCast]
  clear mL mR
  by_cases hneg : W.getD c 0 < 0
  · have q0 : 0 ≤ -(W.getD c 0) := Int.neg_nonneg_of_nonpos (Int.le_of_lt hneg)
    have q3 : ¬ -(W.getD c 0) ≤ 0 := Int.not_le.mpr (Int.neg_pos_of_neg hneg)
    obtain ⟨b1, b2, b3, b4, b5, b6, b7, b8⟩ := half_bd (z := L) (w := -(W.getD c 0)) r hc hz1 q0 q1 hm1 hJ
    unfold goesP at hs
    rw [if_neg q3] at hs
    simp only [if_pos hneg, en, b1, b2, Option.bind_some, if_pos i1, if_pos i2, if_pos i3, if_pos i4, if_pos i9, b3, b4, b5, b6, b7, b8]
    rw [hs]
  · have q3 : -(W.getD c 0) ≤ 0 := Int.neg_nonpos_of_nonneg (Int.not_lt.mp hneg)
    unfold goesP at hs
    rw [if_pos q3] at hs
    simp only [if_neg hneg]
    rw [hs]
theorem specRoundB {M T W A B : List Int} {c k R : Nat} {m t : Int} (r : RV M T) (v : WV W M.length) (hc : c < M.length) (hz2 : R < M.length) (hm2 : 2 * (M.getD c 0 - m) ≤ M.getD c 0) (hJ2 : J M T c m t A B) :
    spec_l17Step.j1 (k + 1) W (M.length : Int) (c : Int) m t (R : Int) M T A B = spec_l17Step.l0 k W (M.length : Int) ((c + 1 : Nat) : Int) M T (goesP M c R (W.getD R 0) m t A B).2.2.1 (goesP M c R (W.getD R 0) m t A B).2.2.2 := by
  have hn := r.2.1
  have hw2 := v.2 _ hz2
  have hWl := v.1
  have hA := hJ2.1
  have hB := hJ2.2.1
  have i0 : (c : Int) < (M.length : Int) := by omega
  have iz : (0 : Int) ≤ (c : Int) := by omega
  have i1 : (c : Int) < (A.length : Int) := by omega
  have i2 : (c : Int) < (B.length : Int) := by omega
  have i5 : (R : Int) < (A.length : Int) := by omega
  have i6 : (R : Int) < (B.length : Int) := by omega
  have i7 : (R : Int) < (W.length : Int) := by omega
  have i8 : (0 : Int) ≤ (R : Int) := by omega
  have q2 : W.getD R 0 ≤ 128 := by omega
  have e1 : wrap64 ((c : Int) + 1) = ((c + 1 : Nat) : Int) := (w64 (by omega) (by omega)).trans (by omega)
  simp only [spec_l17Step.j1, if_pos i0, if_pos iz, if_pos i7, if_pos i8, rd_nat, Int.toNat_natCast, e1]
  by_cases hp : W.getD R 0 > 0
  · obtain ⟨b1, b2, b3, b4, b5, b6, b7, b8⟩ := half_bd (z := R) (w := W.getD R 0) r hc hz2 (Int.le_of_lt hp) q2 hm2 hJ2
    unfold goesP
    simp only [if_pos hp, if_neg (show ¬ W.getD R 0 ≤ 0 from Int.not_le.mpr hp), b1, b2, Option.bind_some, if_pos i1, if_pos i2, if_pos i5, if_pos i6, b3, b4, b5, b6]
  · unfold goesP
    simp only [if_neg hp, if_pos (show W.getD R 0 ≤ 0 from Int.not_lt.mp hp)]
theorem specStepL_ev {M T W : List Int} (r : RV M T) (v : WV W M.length) : ∀ d c A B, c + d = M.length → H M T c A B → Ev (fun k => spec_l17Step.l0 k W (M.length : Int) (c : Int) M T A B) (stepR M T W M.length d c A B) := by
  intro d
  induction d with
  | zero =>
    intro c A B hd h
    refine Ev.step (f := fun _ => some (A, B)) (fun k => ?_) (Ev.now _)
    simp only [spec_l17Step.l0]
    rw [if_neg (by omega)]
  | succ d ih =>
    intro c A B hd h
    have hc : c < M.length := by omega
    refine Ev.step (fun k => specRoundA r v hc h (Nat.mod_lt _ (by omega)) (modL hc r.2.1) (modR hc r.2.1) _ rfl) ?_
    exact Ev.step (fun k => specRoundB r v hc (Nat.mod_lt _ (by omega)) (half_m (A := A) (B := B) r v hc) (half_J r v hc h)) (ih (c + 1) _ _ (by omega) (round_H r v (by omega) h))
theorem specStep_ev {M T W : List Int} (r : RV M T) (v : WV W M.length) : Ev (fun k => spec_l17Step.f k M T W) (STEP W (M, T)) := by
  unfold spec_l17Step.f
  have := r.2.1
  have := r.2.2.1
  simp only [Option.bind_some, List.nil_append, List.length_nil, if_pos (show 0 + M.length < 17592186044416 by omega), if_pos (show 0 + T.length < 17592186044416 by omega)]
  exact specStepL_ev r v M.length 0 M T (by omega) (H_start r)
end Go.Proofs.Ytjmpgngndnheaaa.QFnRingKept
