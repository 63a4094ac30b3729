/- Drawn water: a box, the ways down it, books and rains, told without a fault, whatever the bytes. Plain; the bytes are bytes. -/
import Derived.Test.YtopfdmodbhopiaaRdLibFnWaterBook
import Derived.Test.YtopfdmodbhopiaaFlowKeepFnWaterBook
import Derived.Test.YtopfdmodbhopiaaQFnWaterBookx11
set_option linter.unusedVariables false
set_option linter.unusedSimpArgs false
namespace Go.Proofs.Ytopfdmodbhopiaa.QFnWaterBook
open Go.RowKit Go.Proofs.YtopfdmodbhopiaaW.PrintWords Go.Proofs.Ytopfdmodbhopiaa.Opn Go.Proofs.Ytopfdmodbhopiaa.Pl Go.Proofs.Ytopfdmodbhopiaa.Wm

/-- Some answer of a kind. -/
def Tells {α : Type} (g : Nat → Option α) (P : α → Prop) : Prop := ∃ r, Ev g r ∧ P r
theorem Tells.now {α : Type} {P : α → Prop} (r : α) (h : P r) : Tells (fun _ => some r) P := ⟨r, Ev.now r, h⟩
theorem Tells.step {α : Type} {g f : Nat → Option α} {P : α → Prop} (h : ∀ k, g (k + 1) = f k) (t : Tells f P) : Tells g P := by
  obtain ⟨r, hr, hp⟩ := t
  exact ⟨r, Ev.step h hr, hp⟩
theorem Tells.bind {α β : Type} {g : Nat → Option α} {f : Nat → α → Option β} {P : α → Prop} {Q : β → Prop} (t : Tells g P) (h : ∀ r, P r → Tells (fun k => f k r) Q) : Tells (fun k => (g k).bind (f k)) Q := by
  obtain ⟨r, hr, hp⟩ := t
  obtain ⟨s, hs, hq⟩ := h r hp
  exact ⟨s, Ev_bind r hr hs, hq⟩
theorem Tells.mono {α : Type} {g : Nat → Option α} {P Q : α → Prop} (t : Tells g P) (h : ∀ r, P r → Q r) : Tells g Q := by
  obtain ⟨r, hr, hp⟩ := t
  exact ⟨r, hr, h r hp⟩

/-- a box: its cells fit -/
def BoxFits (R C : Int) (l : List Int) : Prop := 1 ≤ R ∧ R ≤ 24 ∧ 1 ≤ C ∧ C ≤ 24 ∧ (l.length : Int) = R * C

theorem boxOk_ev (R C : Int) (l : List Int) (hl : l.length ≤ 1048576) : Tells (fun k => spec_BoxOk.f k R C l) (fun b => b = true → BoxFits R C l) := by
  have jbad : Tells (fun k => spec_BoxOk.j0 k true R C l) (fun b => b = true → BoxFits R C l) :=
    Tells.step (f := fun _ => some false) (fun k => by simp only [spec_BoxOk.j0]; rfl) (Tells.now _ (fun h => by cases h))
  unfold spec_BoxOk.f
  simp only [specIn, Option.bind_some]
  cases h1 : inB R 1 24 with
  | false => simpa using jbad
  | true =>
    cases h2 : inB C 1 24 with
    | false => simpa using jbad
    | true =>
      have h1' := (inB_iff _ _ _).mp h1; have h2' := (inB_iff _ _ _).mp h2
      have hm := mul_bd (a := R) (b := C) (A := 24) (B := 24) (by omega) (by omega) (by omega) (by omega)
      simp only [if_true]
      rw [w64 (n := R * C) (by omega) (by omega)]
      by_cases he : (l.length : Int) = R * C
      · rw [show ((l.length : Int) != R * C) = false by simp [he]]
        refine Tells.step (f := fun k => spec_BoxOk.l0 k 0 R C l) (fun k => by simp only [spec_BoxOk.j0]; rfl) ?_
        refine Tells.mono (P := fun _ => True) ?_ (fun _ _ _ => ⟨h1'.1, h1'.2, h2'.1, h2'.2, he⟩)
        refine up_ind (P := fun i => Tells (fun k => spec_BoxOk.l0 k (i : Int) R C l) (fun _ => True)) l.length ?_ ?_ 0 (Nat.zero_le _)
        · exact Tells.step (f := fun _ => some true) (fun k => by simp only [spec_BoxOk.l0]; rw [if_neg (by omega)]) (Tells.now _ trivial)
        · intro i hi ih
          refine Tells.step (f := fun k => if inB (rd l (i : Int)) (-1000000000) 1000000000 = true then spec_BoxOk.l0 k ((i + 1 : Nat) : Int) R C l else some false) (fun k => ?_) ?_
          · simp only [spec_BoxOk.l0, specIn, Option.bind_some]
            rw [if_pos (by omega), if_pos (by omega), w64 (n := (i : Int) + 1) (by omega) (by omega)]
            rfl
          · cases inB (rd l (i : Int)) (-1000000000) 1000000000 with
            | false => exact Tells.now _ trivial
            | true => simpa using ih
      · rw [show ((l.length : Int) != R * C) = true by simp [he]]
        exact jbad

theorem sides_ev (R C : Int) (l : List Int) (h : BoxFits R C l) (c : Int) (h0 : 0 ≤ c) (h1 : c < (l.length : Int)) :
    Tells (fun k => spec_l13Sides.f k R C l c) (fun s => s.length ≤ 4 ∧ ∀ x ∈ s, 0 ≤ x ∧ x < (l.length : Int)) := by
  obtain ⟨hR0, hR1, hC0, hC1, hl⟩ := h
  have hq : Int.tdiv c C = c / C := Int.tdiv_eq_ediv_of_nonneg h0
  have hr : Int.tmod c C = c % C := Int.tmod_eq_emod_of_nonneg h0
  have hd := Int.emod_add_mul_ediv c C
  have hm0 := Int.emod_nonneg c (show C ≠ 0 by omega)
  have hm1 := Int.emod_lt_of_pos c (show 0 < C by omega)
  have hq0 : 0 ≤ c / C := Int.ediv_nonneg h0 (by omega)
  have hq1 : c / C < R := by rw [Int.ediv_lt_iff_lt_mul (by omega)]; omega
  have hlc : (l.length : Int) ≤ 576 := by
    have hm := mul_bd (a := R) (b := C) (A := 24) (B := 24) (by omega) (by omega) (by omega) (by omega)
    omega
  generalize c / C = i at hq hd hq0 hq1
  generalize c % C = j at hr hd hm0 hm1
  have hCi : C * i = i * C := Int.mul_comm _ _
  have hdown : i < R - 1 → c + C < (l.length : Int) := by
    intro hi
    have : (i + 1 + 1) * C ≤ R * C := Int.mul_le_mul_of_nonneg_right (by omega) (by omega)
    rw [Int.add_mul, Int.add_mul] at this
    omega
  have hup : i > 0 → 0 ≤ c - C := by
    intro hi
    have : 1 * C ≤ i * C := Int.mul_le_mul_of_nonneg_right (by omega) (by omega)
    omega
  have hright : j < C - 1 → c + 1 < (l.length : Int) := by
    intro hj
    have : (i + 1) * C ≤ R * C := Int.mul_le_mul_of_nonneg_right (by omega) (by omega)
    rw [Int.add_mul] at this
    omega
  have hleft : j > 0 → 0 ≤ c - 1 := by
    intro hj
    have : 0 ≤ i * C := Int.mul_nonneg hq0 (by omega)
    omega
  have f1 : ∀ s : List Int, s.length ≤ 2 → (∀ x ∈ s, 0 ≤ x ∧ x < (l.length : Int)) → Tells (fun k => spec_l13Sides.j1 k c s i j R C l) (fun s => s.length ≤ 4 ∧ ∀ x ∈ s, 0 ≤ x ∧ x < (l.length : Int)) := by
    intro s hs hx
    by_cases hi : i > 0
    · by_cases hj : j > 0
      · refine Tells.step (f := fun _ => some ((s ++ [c - C]) ++ [c - 1])) (fun k => ?_) (Tells.now _ ⟨by simp; omega, ?_⟩)
        · simp only [spec_l13Sides.j1, Option.bind_some]
          rw [if_pos hi, if_pos (by omega), if_pos hj, if_pos (by simp; omega), w64 (n := c - C) (by omega) (by omega), w64 (n := c - 1) (by omega) (by omega)]
        · intro x hx'
          simp only [List.mem_append, List.mem_singleton] at hx'
          have := hup hi; have := hleft hj
          rcases hx' with (hx' | rfl) | rfl
          · exact hx x hx'
          · omega
          · omega
      · refine Tells.step (f := fun _ => some (s ++ [c - C])) (fun k => ?_) (Tells.now _ ⟨by simp; omega, ?_⟩)
        · simp only [spec_l13Sides.j1, Option.bind_some]
          rw [if_pos hi, if_pos (by omega), if_neg hj, w64 (n := c - C) (by omega) (by omega)]
        · intro x hx'
          simp only [List.mem_append, List.mem_singleton] at hx'
          have := hup hi
          rcases hx' with hx' | rfl
          · exact hx x hx'
          · omega
    · by_cases hj : j > 0
      · refine Tells.step (f := fun _ => some (s ++ [c - 1])) (fun k => ?_) (Tells.now _ ⟨by simp; omega, ?_⟩)
        · simp only [spec_l13Sides.j1, Option.bind_some]
          rw [if_neg hi, if_pos hj, if_pos (by omega), w64 (n := c - 1) (by omega) (by omega)]
        · intro x hx'
          simp only [List.mem_append, List.mem_singleton] at hx'
          have := hleft hj
          rcases hx' with hx' | rfl
          · exact hx x hx'
          · omega
      · refine Tells.step (f := fun _ => some s) (fun k => ?_) (Tells.now _ ⟨by omega, hx⟩)
        simp only [spec_l13Sides.j1, Option.bind_some]
        rw [if_neg hi, if_neg hj]
  have f0 : ∀ s : List Int, s.length ≤ 1 → (∀ x ∈ s, 0 ≤ x ∧ x < (l.length : Int)) → Tells (fun k => spec_l13Sides.j0 k c s i j R C l) (fun s => s.length ≤ 4 ∧ ∀ x ∈ s, 0 ≤ x ∧ x < (l.length : Int)) := by
    intro s hs hx
    by_cases hj : j < C - 1
    · refine Tells.step (fun k => ?_) (f1 (s ++ [c + 1]) (by simp; omega) ?_)
      · simp only [spec_l13Sides.j0]
        rw [w64 (n := C - 1) (by omega) (by omega), if_pos hj, if_pos (by omega), w64 (n := c + 1) (by omega) (by omega)]
      · intro x hx'
        simp only [List.mem_append, List.mem_singleton] at hx'
        have := hright hj
        rcases hx' with hx' | rfl
        · exact hx x hx'
        · omega
    · refine Tells.step (fun k => ?_) (f1 s (by omega) hx)
      simp only [spec_l13Sides.j0]
      rw [w64 (n := C - 1) (by omega) (by omega), if_neg hj]
  unfold spec_l13Sides.f
  simp only [Option.bind_some, hq, hr, if_neg (show ¬ C = 0 by omega), w64 (n := i) (by omega) (by omega), w64 (n := R - 1) (by omega) (by omega)]
  by_cases hi : i < R - 1
  · simp only [if_pos hi, List.length_nil, if_pos (show 0 < 17592186044416 by omega), w64 (n := c + C) (by omega) (by omega)]
    refine f0 _ (by simp) ?_
    intro x hx'
    simp only [List.nil_append, List.mem_singleton] at hx'
    have := hdown hi
    omega
  · simp only [if_neg hi]
    exact f0 _ (by simp) (fun x hx => by cases hx)

/-- how many cells have not left the front yet -/
def w2 (x : Int) : Nat := if x = 2 then 0 else 1
def left2 : List Int → Nat
  | [] => 0
  | x :: xs => w2 x + left2 xs
theorem left2_set : ∀ (l : List Int) (i : Nat) (v : Int), i < l.length → left2 (l.set i v) + w2 (rd l (i : Int)) = left2 l + w2 v := by
  intro l
  induction l with
  | nil => intro i v h; simp at h
  | cons a l ih =>
    intro i v h
    cases i with
    | zero =>
      have : rd (a :: l) ((0 : Nat) : Int) = a := rfl
      rw [this]; simp only [List.set_cons_zero, left2]; omega
    | succ i =>
      have h' : i < l.length := by simpa using h
      have e := ih i v h'
      have : rd (a :: l) ((i + 1 : Nat) : Int) = rd l (i : Int) := by rw [rd_lt _ (i + 1) h, rd_lt l i h']; rfl
      rw [this]; simp only [List.set_cons_succ, left2]; omega

theorem drain1_ev (R C : Int) (l : List Int) (h : BoxFits R C l) : ∀ m (F N H : List Int), F.length = l.length → N.length = l.length → H.length = l.length → left2 H ≤ m →
    Tells (fun k => spec_Drain.l1 k F N H R C l) (fun r => r.1.length = l.length ∧ r.2.length = l.length) := by
  have hlc : (l.length : Int) ≤ 576 := by
    obtain ⟨hR0, hR1, hC0, hC1, hl⟩ := h
    have hm := mul_bd (a := R) (b := C) (A := 24) (B := 24) (by omega) (by omega) (by omega) (by omega)
    omega
  intro m
  induction m with
  | zero =>
    intro F N H hF hN hH hm
    refine Tells.step (f := fun k => spec_Drain.l2 k F N H (-1) 0 R C l) (fun k => by simp only [spec_Drain.l1]) ?_
    have key : ∀ i : Nat, i < H.length → rd H (i : Int) ≠ 1 := by
      intro i hi he
      have := left2_set H i 2 hi
      rw [he] at this
      simp [w2] at this
      omega
    refine up_ind (P := fun i => Tells (fun k => spec_Drain.l2 k F N H (-1) (i : Int) R C l) (fun r => r.1.length = l.length ∧ r.2.length = l.length)) H.length ?_ ?_ 0 (Nat.zero_le _)
    · exact Tells.step (f := fun _ => some (F, N)) (fun k => by simp only [spec_Drain.l2]; rw [if_neg (by omega), if_pos (by omega)]) (Tells.now _ ⟨hF, hN⟩)
    · intro i hi ih
      refine Tells.step (fun k => ?_) ih
      simp only [spec_Drain.l2]
      rw [if_pos (by omega), if_pos (by omega), if_neg (key i hi), w64 (n := (i : Int) + 1) (by omega) (by omega)]
      rfl
  | succ m im =>
    intro F N H hF hN hH hm
    refine Tells.step (f := fun k => spec_Drain.l2 k F N H (-1) 0 R C l) (fun k => by simp only [spec_Drain.l1]) ?_
    refine up_ind (P := fun i => ∀ x8 : Int, (x8 = -1 ∨ (0 ≤ x8 ∧ x8 < (H.length : Int) ∧ rd H x8 = 1)) → Tells (fun k => spec_Drain.l2 k F N H x8 (i : Int) R C l) (fun r => r.1.length = l.length ∧ r.2.length = l.length)) H.length ?_ ?_ 0 (Nat.zero_le _) (-1) (Or.inl rfl)
    · intro x8 h8
      rcases h8 with rfl | ⟨h0, h1, he⟩
      · exact Tells.step (f := fun _ => some (F, N)) (fun k => by simp only [spec_Drain.l2]; rw [if_neg (by omega), if_pos (by omega)]) (Tells.now _ ⟨hF, hN⟩)
      · obtain ⟨t, rfl⟩ : ∃ t : Nat, x8 = (t : Int) := ⟨x8.toNat, by omega⟩
        have hset := left2_set H t 2 (by omega)
        rw [he] at hset
        have hset' : left2 (H.set t 2) + 1 = left2 H := by simpa [w2] using hset
        have l3 : ∀ s : List Int, s.length ≤ 4 → (∀ x ∈ s, 0 ≤ x ∧ x < (l.length : Int)) → ∀ F N H : List Int, F.length = l.length → N.length = l.length → H.length = l.length → left2 H ≤ m →
            Tells (fun k => spec_Drain.l3 k F N H (t : Int) s 0 R C l) (fun r => r.1.length = l.length ∧ r.2.length = l.length) := by
          intro s hs hsx
          refine up_ind (P := fun i => ∀ F N H : List Int, F.length = l.length → N.length = l.length → H.length = l.length → left2 H ≤ m →
            Tells (fun k => spec_Drain.l3 k F N H (t : Int) s (i : Int) R C l) (fun r => r.1.length = l.length ∧ r.2.length = l.length)) s.length ?_ ?_ 0 (Nat.zero_le _)
          · intro F N H hF hN hH hm
            exact Tells.step (fun k => by simp only [spec_Drain.l3]; rw [if_neg (by omega)]) (im F N H hF hN hH hm)
          · intro i hi ih F N H hF hN hH hm
            have hx := hsx s[i] (List.getElem_mem hi)
            have hrd : rd s (i : Int) = s[i] := rd_lt s i hi
            obtain ⟨x, hxe⟩ : ∃ x : Nat, s[i] = (x : Int) := ⟨(s[i]).toNat, by omega⟩
            by_cases hz : rd H (x : Int) = 0
            · have hset2 := left2_set H x 1 (by omega)
              rw [hz] at hset2
              have hset2' : left2 (H.set x 1) = left2 H := by simpa [w2] using hset2
              refine Tells.step (fun k => ?_) (ih (F.set x (mx (rd l (x : Int)) (rd F (t : Int)))) (N.set x (t : Int)) (H.set x 1) (by simpa using hF) (by simpa using hN) (by simpa using hH) (by omega))
              simp only [spec_Drain.l3]
              rw [if_pos (by omega), if_pos (by omega), hrd, hxe, if_pos (by omega), if_pos (by omega), if_pos hz, if_pos (by omega), if_pos (by omega), if_pos (by omega), if_pos (by omega), if_pos (by omega), w64 (n := (i : Int) + 1) (by omega) (by omega), Int.toNat_natCast]
              rfl
            · refine Tells.step (fun k => ?_) (ih F N H hF hN hH hm)
              simp only [spec_Drain.l3]
              rw [if_pos (by omega), if_pos (by omega), hrd, hxe, if_pos (by omega), if_pos (by omega), if_neg hz, w64 (n := (i : Int) + 1) (by omega) (by omega)]
              rfl
        refine Tells.step (f := fun k => (spec_l13Sides.f k R C l (t : Int)).bind fun s => spec_Drain.l3 k F N (H.set t 2) (t : Int) s 0 R C l) (fun k => ?_) (Tells.bind (sides_ev R C l h (t : Int) (by omega) (by omega)) (fun s hs => l3 s hs.1 hs.2 F N (H.set t 2) hF hN (by simpa using hH) (by omega)))
        simp only [spec_Drain.l2]
        rw [if_neg (by omega), if_neg (by omega), if_pos (by omega), if_pos (by omega), Int.toNat_natCast]
    · intro i hi ih x8 h8
      by_cases h1 : rd H (i : Int) = 1
      · rcases h8 with rfl | ⟨h0, hlt, he⟩
        · refine Tells.step (fun k => ?_) (ih (i : Int) (Or.inr ⟨by omega, by omega, h1⟩))
          simp only [spec_Drain.l2]
          rw [if_pos (by omega), if_pos (by omega), if_pos h1, if_pos (by omega), w64 (n := (i : Int) + 1) (by omega) (by omega)]
          rfl
        · by_cases hc : rd F (i : Int) < rd F x8
          · refine Tells.step (fun k => ?_) (ih (i : Int) (Or.inr ⟨by omega, by omega, h1⟩))
            simp only [spec_Drain.l2]
            rw [if_pos (by omega), if_pos (by omega), if_pos h1, if_neg (by omega), if_pos (by omega), if_pos (by omega), if_pos (by omega), if_pos hc, w64 (n := (i : Int) + 1) (by omega) (by omega)]
            rfl
          · refine Tells.step (fun k => ?_) (ih x8 (Or.inr ⟨h0, hlt, he⟩))
            simp only [spec_Drain.l2]
            rw [if_pos (by omega), if_pos (by omega), if_pos h1, if_neg (by omega), if_pos (by omega), if_pos (by omega), if_pos (by omega), if_neg hc, w64 (n := (i : Int) + 1) (by omega) (by omega)]
            rfl
      · refine Tells.step (fun k => ?_) (ih x8 h8)
        simp only [spec_Drain.l2]
        rw [if_pos (by omega), if_pos (by omega), if_neg h1, w64 (n := (i : Int) + 1) (by omega) (by omega)]
        rfl

theorem edge_ev (R C : Int) (l : List Int) (h : BoxFits R C l) (c : Int) : ∃ b, spec_l13Edge.f R C l c = some b := by
  unfold spec_l13Edge.f
  rw [if_neg (by have := h.2.2.1; omega)]
  repeat' split
  all_goals exact ⟨_, rfl⟩

theorem drain_ev (R C : Int) (l : List Int) (hl : l.length ≤ 576) : Tells (fun k => spec_Drain.f k R C l) (fun r => r.1.length ≤ 576 ∧ r.2.length ≤ 576) := by
  unfold spec_Drain.f
  simp only [Option.bind_some]
  refine Tells.bind (boxOk_ev R C l (by omega)) (fun b hb => ?_)
  cases b with
  | false => exact Tells.now _ ⟨by simp, by simp⟩
  | true =>
    have h := hb rfl
    simp only [if_true]
    obtain ⟨hR0, hR1, hC0, hC1, hle⟩ := id h
    have hm := mul_bd (a := R) (b := C) (A := 24) (B := 24) (by omega) (by omega) (by omega) (by omega)
    refine Tells.mono (P := fun r => r.1.length = l.length ∧ r.2.length = l.length) ?_ (fun r hr => by omega)
    refine up_ind (P := fun i => ∀ F N H : List Int, F.length = i → N.length = i → H.length = i → Tells (fun k => spec_Drain.l0 k F N H (i : Int) R C l) (fun r => r.1.length = l.length ∧ r.2.length = l.length)) l.length ?_ ?_ 0 (Nat.zero_le _) [] [] [] rfl rfl rfl
    · intro F N H hF hN hH
      refine Tells.step (fun k => ?_) (drain1_ev R C l h (left2 H) F N H hF hN hH (Nat.le_refl _))
      simp only [spec_Drain.l0]
      rw [w64 (n := R * C) (by omega) (by omega), if_neg (by omega)]
    · intro i hi ih F N H hF hN hH
      obtain ⟨b, hb⟩ := edge_ev R C l h (i : Int)
      cases b with
      | true =>
        refine Tells.step (fun k => ?_) (ih (F ++ [rd l (i : Int)]) (N ++ [-1]) ((H ++ [0]).set i 1) (by simp; omega) (by simp; omega) (by simp; omega))
        simp only [spec_Drain.l0, Option.bind_some, hb, if_true]
        rw [w64 (n := R * C) (by omega) (by omega), if_pos (by omega), if_pos (by omega), if_pos (by omega), if_pos (by omega), if_pos (by omega), if_pos (by omega), if_pos (by simp; omega), w64 (n := (i : Int) + 1) (by omega) (by omega), Int.toNat_natCast]
        rfl
      | false =>
        refine Tells.step (fun k => ?_) (ih (F ++ [rd l (i : Int)]) (N ++ [-1]) (H ++ [0]) (by simp; omega) (by simp; omega) (by simp; omega))
        simp only [spec_Drain.l0, Option.bind_some, hb, Bool.false_eq_true, if_false]
        rw [w64 (n := R * C) (by omega) (by omega), if_pos (by omega), if_pos (by omega), if_pos (by omega), if_pos (by omega), if_pos (by omega), if_pos (by omega), w64 (n := (i : Int) + 1) (by omega) (by omega)]
        rfl

/-- the reader's own steps, as answers -/
theorem below_t {b : List Int} {p : Int} (h : RdOk b p) (n : Int) (hn : 1 ≤ n) : ∃ v p', spec_l1Rd_below.f b p n = some (v, p') ∧ 0 ≤ v ∧ v < n ∧ RdOk b p' := rdBelow h n hn

theorem box_ev {b : List Int} {p : Int} (h : RdOk b p) : Tells (fun k => spec_l1Rd_box.f k b p) (fun r => r.2.2.1.length ≤ 576 ∧ RdOk b r.2.2.2) := by
  have j1 : ∀ (R C p : Int), 1 ≤ R → R ≤ 24 → 1 ≤ C → C ≤ 24 → RdOk b p → Tells (fun k => spec_l1Rd_box.j1 k b p R C) (fun r => r.2.2.1.length ≤ 576 ∧ RdOk b r.2.2.2) := by
    intro R C p hR0 hR1 hC0 hC1 hp
    have hm := mul_bd (a := R) (b := C) (A := 24) (B := 24) (by omega) (by omega) (by omega) (by omega)
    have hm0 : 0 ≤ R * C := Int.mul_nonneg (by omega) (by omega)
    refine Tells.step (f := fun k => spec_l1Rd_box.l0 k b p R C []) (fun k => by simp only [spec_l1Rd_box.j1]) ?_
    have key : ∀ (d : Nat) (l : List Int) (p : Int), (l.length : Int) + (d : Int) = R * C → RdOk b p → Tells (fun k => spec_l1Rd_box.l0 k b p R C l) (fun r => r.2.2.1.length ≤ 576 ∧ RdOk b r.2.2.2) := by
      intro d
      induction d with
      | zero =>
        intro l p hl hp
        refine Tells.step (f := fun _ => some (R, C, l, p)) (fun k => ?_) (Tells.now _ ⟨by show l.length ≤ 576; omega, hp⟩)
        simp only [spec_l1Rd_box.l0]
        rw [w64 (n := R * C) (by omega) (by omega), if_neg (by omega)]
      | succ d ih =>
        intro l p hl hp
        obtain ⟨v, q, e, _, _, hq⟩ := rdBelow hp 9 (by omega)
        refine Tells.step (fun k => ?_) (ih (l ++ [v]) q (by simp; omega) hq)
        simp only [spec_l1Rd_box.l0]
        rw [w64 (n := R * C) (by omega) (by omega), if_pos (by omega), e]
        simp only [Option.bind_some]
        rw [if_pos (by omega)]
    exact key (R * C).toNat [] p (by simp; omega) hp
  have j0 : ∀ (f : Bool) (R C p : Int), 1 ≤ R → R ≤ 10 → 1 ≤ C → C ≤ 10 → RdOk b p → Tells (fun k => spec_l1Rd_box.j0 k f b p R C) (fun r => r.2.2.1.length ≤ 576 ∧ RdOk b r.2.2.2) := by
    intro f R C p hR0 hR1 hC0 hC1 hp
    cases f with
    | false => exact Tells.step (fun k => by simp only [spec_l1Rd_box.j0, Bool.false_eq_true, if_false]) (j1 R C p hR0 (by omega) hC0 (by omega) hp)
    | true =>
      obtain ⟨u, q, e1, u0, u1, hq⟩ := rdBelow hp 5 (by omega)
      obtain ⟨v, q2, e2, v0, v1, hq2⟩ := rdBelow hq 5 (by omega)
      refine Tells.step (fun k => ?_) (j1 (R + u) (C + v) q2 (by omega) (by omega) (by omega) (by omega) hq2)
      simp only [spec_l1Rd_box.j0, if_true, e1, e2, Option.bind_some]
      rw [w64 (n := R + u) (by omega) (by omega), w64 (n := C + v) (by omega) (by omega)]
  obtain ⟨u, p1, e1, u0, u1, h1⟩ := rdBelow h 5 (by omega)
  obtain ⟨v, p2, e2, v0, v1, h2⟩ := rdBelow h1 6 (by omega)
  unfold spec_l1Rd_box.f
  simp only [e1, e2, Option.bind_some, w64 (n := 1 + u) (by omega) (by omega), w64 (n := 1 + v) (by omega) (by omega)]
  by_cases hc : (b.length : Int) > 60
  · obtain ⟨f, p3, e3, h3⟩ := rdOnce h2 2 (by omega)
    simp only [if_pos hc, e3, Option.bind_some]
    exact j0 f _ _ _ (by omega) (by omega) (by omega) (by omega) h3
  · simp only [if_neg hc]
    exact j0 false _ _ _ (by omega) (by omega) (by omega) (by omega) h2

theorem drawNext_ev {b : List Int} {p : Int} (h : RdOk b p) : Tells (fun k => spec_l13DrawNext.f k b p) (fun r => r.1.length ≤ 577 ∧ RdOk b r.2) := by
  have j1 : ∀ (l : List Int) (p : Int), l.length ≤ 577 → RdOk b p → Tells (fun k => spec_l13DrawNext.j1 k l b p) (fun r => r.1.length ≤ 577 ∧ RdOk b r.2) := by
    intro l p hl hp
    obtain ⟨f, p1, e1, h1⟩ := rdOnce hp 40 (by omega)
    cases f with
    | false =>
      refine Tells.step (f := fun _ => some (l, p1)) (fun k => ?_) (Tells.now _ ⟨hl, h1⟩)
      simp only [spec_l13DrawNext.j1, e1, Option.bind_some, Bool.false_eq_true, if_false]
    | true =>
      obtain ⟨v, p2, e2, v0, v1, h2⟩ := rdBelow h1 2 (by omega)
      have key : ∀ (d : Nat) (l : List Int), (l.length : Int) + (d : Int) = 576 + v → Tells (fun k => spec_l13DrawNext.l0 k l (576 + v) (l.length : Int) b p2) (fun r => r.1.length ≤ 577 ∧ RdOk b r.2) := by
        intro d
        induction d with
        | zero =>
          intro l hl
          refine Tells.step (f := fun _ => some (l, p2)) (fun k => ?_) (Tells.now _ ⟨by show l.length ≤ 577; omega, h2⟩)
          simp only [spec_l13DrawNext.l0]
          rw [if_neg (by omega)]
        | succ d ih =>
          intro l hl
          have := ih (l ++ [wrap64 ((l.length : Int) - 1)]) (by simp; omega)
          refine Tells.step (fun k => ?_) this
          simp only [spec_l13DrawNext.l0]
          rw [if_pos (by omega), if_pos (by omega), w64 (n := (l.length : Int) + 1) (by omega) (by omega)]
          simp
      have k0 := key (576 + v).toNat [] (by simp; omega)
      refine Tells.step (fun k => ?_) k0
      simp only [spec_l13DrawNext.j1, e1, e2, Option.bind_some, if_true]
      rw [if_pos (by omega), w64 (n := 576 + v) (by omega) (by omega)]
      rfl
  unfold spec_l13DrawNext.f
  refine Tells.bind (box_ev h) (fun r hr => ?_)
  refine Tells.bind (drain_ev r.1 r.2.1 r.2.2.1 hr.1) (fun s hs => ?_)
  by_cases hc : (s.2.length : Int) > 0
  · obtain ⟨f, p1, e1, h1⟩ := rdOnce hr.2 6 (by omega)
    simp only [if_pos hc, e1, Option.bind_some]
    cases f with
    | false => exact Tells.step (fun k => by simp only [spec_l13DrawNext.j0, Bool.false_eq_true, if_false]) (j1 s.2 p1 (by omega) h1)
    | true =>
      obtain ⟨u, p2, e2, u0, u1, h2⟩ := rdBelow h1 (s.2.length : Int) (by omega)
      obtain ⟨v, p3, e3, v0, v1, h3⟩ := rdBelow h2 ((s.2.length : Int) + 2) (by omega)
      refine Tells.step (fun k => ?_) (j1 (s.2.set u.toNat (wrap64 (v - 1))) p3 (by simp; omega) h3)
      simp only [spec_l13DrawNext.j0, if_true, w64 (n := (s.2.length : Int) + 2) (by omega) (by omega), e2, e3, Option.bind_some]
      rw [if_pos (by omega), if_pos (by omega)]
  · simp only [if_neg hc]
    exact Tells.step (fun k => by simp only [spec_l13DrawNext.j0, Bool.false_eq_true, if_false]) (j1 s.2 r.2.2.2 (by omega) hr.2)

theorem drawRain_ev {b : List Int} {p : Int} (h : RdOk b p) (next : List Int) (hn : next.length ≤ 577) : Tells (fun k => spec_l13DrawRain.f k b p next) (fun r => r.1.length = next.length ∧ RdOk b r.2) := by
  unfold spec_l13DrawRain.f
  refine up_ind (P := fun i => ∀ (l : List Int) (p : Int), l.length = i → RdOk b p → Tells (fun k => spec_l13DrawRain.l0 k next l (i : Int) b p) (fun r => r.1.length = next.length ∧ RdOk b r.2)) next.length ?_ ?_ 0 (Nat.zero_le _) [] p rfl h
  · intro l p hl hp
    refine Tells.step (f := fun _ => some (l, p)) (fun k => ?_) (Tells.now _ ⟨hl, hp⟩)
    simp only [spec_l13DrawRain.l0]
    rw [if_neg (by omega)]
  · intro i hi ih l p hl hp
    obtain ⟨v, q, e, _, _, hq⟩ := rdBelow hp 30 (by omega)
    refine Tells.step (fun k => ?_) (ih (l ++ [v]) q (by simp; omega) hq)
    simp only [spec_l13DrawRain.l0]
    rw [if_pos (by omega), e]
    simp only [Option.bind_some]
    rw [if_pos (by omega), w64 (n := (i : Int) + 1) (by omega) (by omega)]
    rfl

theorem FS_wlen (next w : List Int) (o r : Int) (rain : List Int) (h : (FS next w o r rain).2.2.2 = true) : (FS next w o r rain).1.length = next.length := by
  cases hc : (inOk next w o r rain && sumsOk w o r rain) with
  | false => rw [FS_false _ _ _ _ _ hc] at h; cases h
  | true =>
    obtain ⟨w', o', e, hb, _⟩ := FS_ok next w o r rain hc
    rw [e]; exact hb.len

theorem drawBook_ev {b : List Int} {p : Int} (h : RdOk b p) (next : List Int) (hn : next.length ≤ 577) : Tells (fun k => spec_l13DrawBook.f k b p next) (fun r => r.1.length = next.length ∧ RdOk b r.2.2.2) := by
  unfold spec_l13DrawBook.f
  obtain ⟨v, p1, e1, v0, v1, h1⟩ := rdBelow h 4 (by omega)
  simp only [if_pos (show 0 ≤ (next.length : Int) by omega), Int.toNat_natCast, if_pos (show next.length ≤ 35184372088832 by omega), e1, Option.bind_some]
  have key : ∀ (d : Nat) (i : Nat) (w : List Int) (o r p : Int), (i : Int) + (d : Int) = v → w.length = next.length → RdOk b p → Tells (fun k => spec_l13DrawBook.l0 k next v (i : Int) b p w o r) (fun r => r.1.length = next.length ∧ RdOk b r.2.2.2) := by
    intro d
    induction d with
    | zero =>
      intro i w o r p hi hw hp
      refine Tells.step (f := fun _ => some (w, o, r, p)) (fun k => ?_) (Tells.now _ ⟨hw, hp⟩)
      simp only [spec_l13DrawBook.l0]
      rw [if_neg (by omega)]
    | succ d ih =>
      intro i w o r p hi hw hp
      refine Tells.step (f := fun k => (spec_l13DrawRain.f k b p next).bind fun bt => (spec_FlowStep.f k next w o r bt.1).bind fun c => if c.2.2.2 = true then spec_l13DrawBook.l0 k next v ((i + 1 : Nat) : Int) b bt.2 c.1 c.2.1 c.2.2.1 else spec_l13DrawBook.l0 k next v ((i + 1 : Nat) : Int) b bt.2 w o r) (fun k => ?_) ?_
      · simp only [spec_l13DrawBook.l0]
        rw [if_pos (by omega), w64 (n := (i : Int) + 1) (by omega) (by omega)]
        rfl
      · refine Tells.bind (drawRain_ev hp next hn) (fun rr hr => ?_)
        refine Tells.bind (P := fun c => c = FS next w o r rr.1) ⟨_, specStep_ev next w o r rr.1 (by omega) (by omega) (by omega), rfl⟩ (fun c hc => ?_)
        subst hc
        cases hb : (FS next w o r rr.1).2.2.2 with
        | true => simp only [if_true]; exact ih _ _ _ _ _ (by omega) (FS_wlen _ _ _ _ _ hb) hr.2
        | false => simp only [Bool.false_eq_true, if_false]; exact ih _ _ _ _ _ (by omega) hw hr.2
  exact key v.toNat 0 _ 0 0 p1 (by omega) (by simp) h1

theorem drawFlow_ev {b : List Int} (h : RdOk b 0) : Tells (fun k => spec_DrawFlowStep.f k b) (fun r => r.1.length ≤ 577 ∧ r.2.1.length ≤ 578 ∧ r.2.2.2.2.length ≤ 577) := by
  unfold spec_DrawFlowStep.f spec_l1Open.f
  simp only [Option.bind_some]
  refine Tells.bind (drawNext_ev h) (fun n hn => ?_)
  refine Tells.bind (drawBook_ev hn.2 n.1 hn.1) (fun k hk => ?_)
  refine Tells.bind (drawRain_ev hk.2 n.1 hn.1) (fun r hr => ?_)
  obtain ⟨hr1, hr2⟩ := hr
  obtain ⟨hk1, hk2⟩ := hk
  obtain ⟨hn1, hn2⟩ := hn
  by_cases h0 : (r.1.length : Int) = 0
  · simp only [if_pos h0]
    exact Tells.now _ ⟨hn1, by show k.1.length ≤ 578; omega, by show r.1.length ≤ 577; omega⟩
  simp only [if_neg h0]
  obtain ⟨v, p1, e1, v0, v1, h1⟩ := rdBelow hr2 20 (by omega)
  simp only [e1, Option.bind_some]
  by_cases c0 : v = 0
  · obtain ⟨u, p2, e2, u0, u1, h2⟩ := rdBelow h1 3 (by omega)
    simp only [if_pos c0, e2, Option.bind_some, if_pos (show (0 : Int) ≤ u by omega), if_pos (show u < (([-1, 1000000000000, 1000000000001] : List Int).length : Int) by simp; omega), if_pos (show 0 < (r.1.length : Int) by omega)]
    exact Tells.now _ ⟨hn1, by show k.1.length ≤ 578; omega, by show (r.1.set _ _).length ≤ 577; simp; omega⟩
  by_cases c1 : v = 1
  · obtain ⟨u, p2, e2, u0, u1, h2⟩ := rdBelow h1 2 (by omega)
    simp only [if_neg c0, if_pos c1, e2, Option.bind_some, if_pos (show (0 : Int) ≤ u by omega), if_pos (show u < (([wrap64 (k.2.1 + 1), -1] : List Int).length : Int) by simp; omega)]
    exact Tells.now _ ⟨hn1, by show k.1.length ≤ 578; omega, by show r.1.length ≤ 577; omega⟩
  by_cases c2 : v = 2
  · simp only [if_neg c0, if_neg c1, if_pos c2, if_pos (show 1 ≤ (r.1.length : Int) by omega)]
    refine Tells.now _ ?_
    exact ⟨hn1, by show k.1.length ≤ 578; omega, by show (r.1.drop _).length ≤ 577; simp; omega⟩
  by_cases c3 : v = 3
  · simp only [if_neg c0, if_neg c1, if_neg c2, if_pos c3, if_pos (show k.1.length < 17592186044416 by omega)]
    refine Tells.now _ ?_
    exact ⟨hn1, by show (k.1 ++ [0]).length ≤ 578; simp; omega, by show r.1.length ≤ 577; omega⟩
  by_cases c4 : v = 4
  · obtain ⟨u, p2, e2, u0, u1, h2⟩ := rdBelow h1 2 (by omega)
    simp only [if_neg c0, if_neg c1, if_neg c2, if_neg c3, if_pos c4, e2, Option.bind_some, if_pos (show 0 ≤ (n.1.length : Int) by omega), Int.toNat_natCast, if_pos (show n.1.length ≤ 35184372088832 by omega), if_pos (show 0 < ((List.replicate n.1.length (0 : Int)).length : Int) by simp; omega)]
    exact Tells.now _ ⟨hn1, by show (List.replicate _ _).length ≤ 578; simp; omega, by show (List.set _ _ _).length ≤ 577; simp; omega⟩
  · simp only [if_neg c0, if_neg c1, if_neg c2, if_neg c3, if_neg c4]
    exact Tells.now _ ⟨hn1, by show k.1.length ≤ 578; omega, by show r.1.length ≤ 577; omega⟩
theorem rdOpen (b : List Int) (hl : b.length ≤ 1048576) (hb : ∀ x ∈ b, WfI .u8 x) : RdOk b 0 := by
  refine ⟨hl, fun i hi => ?_, by omega, by omega⟩
  rw [rd_lt b i hi]
  exact wfU8_range (hb _ (List.getElem_mem hi))
end Go.Proofs.Ytopfdmodbhopiaa.QFnWaterBook
