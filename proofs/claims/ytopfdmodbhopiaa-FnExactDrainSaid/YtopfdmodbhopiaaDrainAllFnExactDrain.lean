/- Both Drain functions tell the same, for every box. -/
import Derived.Test.YtopfdmodbhopiaaDrainBothFnExactDrain
set_option linter.unusedVariables false
set_option linter.unusedSimpArgs false
namespace Go.Proofs.Ytopfdmodbhopiaa.QFnExactDrain
open Go.RowKit Go.Proofs.YtopfdmodbhopiaaW.PrintWords Go.Proofs.Ytopfdmodbhopiaa.Opn Go.Proofs.Ytopfdmodbhopiaa.Pl

/-- the reference's choice -/
def amin (F H : List Int) : Nat → Int
  | 0 => -1
  | i + 1 => if rd H (i : Int) = 1 ∧ (amin F H i < 0 ∨ rd F (i : Int) < rd F (amin F H i)) then (i : Int) else amin F H i
theorem amin_spec (F H : List Int) : ∀ i, (amin F H i = -1 ∧ ∀ c : Nat, c < i → rd H (c : Int) ≠ 1) ∨ ∃ a : Nat, a < i ∧ amin F H i = (a : Int) ∧ rd H (a : Int) = 1 ∧ ∀ c : Nat, c < i → rd H (c : Int) = 1 → rd F (a : Int) < rd F (c : Int) ∨ (rd F (a : Int) = rd F (c : Int) ∧ a ≤ c) := by
  intro i
  induction i with
  | zero => exact .inl ⟨rfl, fun c hc => absurd hc (by omega)⟩
  | succ i ih =>
    simp only [amin]
    by_cases h1 : rd H (i : Int) = 1
    · rcases ih with ⟨e, h⟩ | ⟨a, ha, e, ha1, h⟩
      · rw [if_pos ⟨h1, .inl (by omega)⟩]
        refine .inr ⟨i, by omega, rfl, h1, fun c hc hc1 => ?_⟩
        by_cases ec : c = i
        · subst ec; exact .inr ⟨rfl, Nat.le_refl _⟩
        · exact absurd hc1 (h c (by omega))
      · by_cases h2 : rd F (i : Int) < rd F (a : Int)
        · rw [if_pos ⟨h1, .inr (by rw [e]; exact h2)⟩]
          refine .inr ⟨i, by omega, rfl, h1, fun c hc hc1 => ?_⟩
          by_cases ec : c = i
          · subst ec; exact .inr ⟨rfl, Nat.le_refl _⟩
          · have := h c (by omega) hc1; exact .inl (by omega)
        · rw [if_neg (by rw [e]; rintro ⟨_, h3 | h3⟩ <;> omega)]
          refine .inr ⟨a, by omega, e, ha1, fun c hc hc1 => ?_⟩
          by_cases ec : c = i
          · subst ec; omega
          · exact h c (by omega) hc1
    · rw [if_neg (fun h => h1 h.1)]
      rcases ih with ⟨e, h⟩ | ⟨a, ha, e, ha1, h⟩
      · exact .inl ⟨e, fun c hc => by
          by_cases ec : c = i
          · subst ec; exact h1
          · exact h c (by omega)⟩
      · exact .inr ⟨a, by omega, e, ha1, fun c hc hc1 => by
          by_cases ec : c = i
          · subst ec; exact absurd hc1 h1
          · exact h c (by omega) hc1⟩

theorem specMin_ev {R C : Int} {l F N H : List Int} {r : List Int × List Int} (hn : H.length ≤ 576) (hF : F.length = H.length) (h : Ev (fun k => spec_Drain.l2 k F N H (amin F H H.length) (H.length : Int) R C l) r) : Ev (fun k => spec_Drain.l1 k F N H R C l) r := by
  have key := up_ind (P := fun i => Ev (fun k => spec_Drain.l2 k F N H (amin F H i) (i : Int) R C l) r) H.length h (by
    intro i hi ih
    refine Ev.step (fun k => ?_) ih
    simp only [spec_Drain.l2, amin]
    rw [if_pos (by omega), if_pos (by omega), w64 (n := (i : Int) + 1) (by omega) (by omega)]
    by_cases h1 : rd H (i : Int) = 1
    · rw [if_pos h1]
      by_cases h2 : amin F H i < 0
      · rw [if_pos h2, if_pos ⟨h1, .inl h2⟩]
        rfl
      · have hs := amin_spec F H i
        have h3 : 0 ≤ amin F H i ∧ amin F H i < (F.length : Int) := by
          rcases hs with ⟨e, _⟩ | ⟨a, ha, e, _⟩ <;> omega
        rw [if_neg h2, if_pos (by omega), if_pos (by omega), if_pos (by omega)]
        by_cases h4 : rd F (i : Int) < rd F (amin F H i)
        · rw [if_pos h4, if_pos ⟨h1, .inr h4⟩]
          rfl
        · rw [if_neg h4, if_neg (fun hh => hh.2.elim h2 h4)]
          rfl
    · rw [if_neg h1, if_neg (fun hh => h1 hh.1)]
      rfl) 0 (Nat.zero_le _)
  refine Ev.step (fun k => ?_) key
  simp only [spec_Drain.l1, amin]
  rfl

/-- the program's choice -/
def bmin (F fr : List Int) : Nat → Nat
  | 0 => 0
  | i + 1 => if rd F (rd fr (i : Int)) < rd F (rd fr (bmin F fr i : Int)) ∨ (rd F (rd fr (i : Int)) = rd F (rd fr (bmin F fr i : Int)) ∧ rd fr (i : Int) < rd fr (bmin F fr i : Int)) then i else bmin F fr i
theorem bmin_spec (F fr : List Int) (h0 : 0 < fr.length) : ∀ i, i ≤ fr.length → bmin F fr i < fr.length ∧ ∀ j : Nat, j < i → rd F (rd fr (bmin F fr i : Int)) < rd F (rd fr (j : Int)) ∨ (rd F (rd fr (bmin F fr i : Int)) = rd F (rd fr (j : Int)) ∧ rd fr (bmin F fr i : Int) ≤ rd fr (j : Int)) := by
  intro i
  induction i with
  | zero => intro _; exact ⟨h0, fun j hj => absurd hj (by omega)⟩
  | succ i ih =>
    intro hi
    obtain ⟨h1, h2⟩ := ih (by omega)
    simp only [bmin]
    by_cases hc : rd F (rd fr (i : Int)) < rd F (rd fr (bmin F fr i : Int)) ∨ (rd F (rd fr (i : Int)) = rd F (rd fr (bmin F fr i : Int)) ∧ rd fr (i : Int) < rd fr (bmin F fr i : Int))
    · rw [if_pos hc]
      refine ⟨by omega, fun j hj => ?_⟩
      by_cases ej : j = i
      · subst ej; exact .inr ⟨rfl, Int.le_refl _⟩
      · have := h2 j (by omega); omega
    · rw [if_neg hc]
      refine ⟨h1, fun j hj => ?_⟩
      by_cases ej : j = i
      · subst ej; omega
      · exact h2 j (by omega)

theorem implMin_ev {R C : Int} {l F N fr : List Int} {W : List Bool} {r : List Int × List Int} (n : Nat) (hn : n ≤ 576) (hF : F.length = n) (hfr : ∀ x ∈ fr, 0 ≤ x ∧ x < (n : Int)) (hl : fr.length ≤ n) (h0 : 0 < fr.length)
    (h : Ev (fun k => impl_Drain.l2 k F N W fr (bmin F fr fr.length : Int) fr (fr.length : Int) (fr.length : Int) R C l) r) : Ev (fun k => impl_Drain.l1 k F N W fr R C l) r := by
  have key := up_ind (P := fun i => Ev (fun k => impl_Drain.l2 k F N W fr (bmin F fr i : Int) fr (fr.length : Int) (i : Int) R C l) r) fr.length h (by
    intro i hi ih
    obtain ⟨hb, _⟩ := bmin_spec F fr h0 i (by omega)
    have e1 : rd fr (i : Int) = fr[i] := rd_lt fr i hi
    have e2 : rd fr (bmin F fr i : Int) = fr[bmin F fr i] := rd_lt fr _ hb
    have m1 := hfr fr[i] (List.getElem_mem hi)
    have m2 := hfr fr[bmin F fr i] (List.getElem_mem hb)
    refine Ev.step (fun k => ?_) ih
    simp only [impl_Drain.l2, bmin]
    rw [if_pos (by omega), if_pos (by omega), if_pos (by omega), if_pos (by omega), if_pos (by omega), if_pos (by omega), if_pos (by omega), if_pos (by omega), if_pos (by omega), w64 (n := (i : Int) + 1) (by omega) (by omega)]
    by_cases h1 : rd F (rd fr (i : Int)) < rd F (rd fr (bmin F fr i : Int))
    · rw [if_pos h1, if_pos (.inl h1)]
      rfl
    · rw [if_neg h1]
      by_cases h2 : rd F (rd fr (i : Int)) = rd F (rd fr (bmin F fr i : Int))
      · rw [if_pos h2]
        by_cases h3 : rd fr (i : Int) < rd fr (bmin F fr i : Int)
        · rw [if_pos h3, if_pos (.inr ⟨h2, h3⟩)]
          rfl
        · rw [if_neg h3, if_neg (by rintro (h | h) <;> omega)]
          rfl
      · rw [if_neg h2, if_neg (by rintro (h | h) <;> omega)]
        rfl) 0 (Nat.zero_le _)
  refine Ev.step (fun k => ?_) key
  simp only [impl_Drain.l1, bmin]
  rw [if_pos (by omega)]
  rfl

theorem both_ev {R C : Nat} {l : List Int} (hb : BoxR R C l) : ∀ m (s : St), Rel l.length s → cnt p2 s.H ≤ m → (∀ c : Nat, c < l.length → c < C → rd s.H (c : Int) ≠ 0) → (∀ c : Nat, c + C < l.length → rd s.H (c : Int) = 2 → rd s.H ((c + C : Nat) : Int) ≠ 0) →
    ∃ r, Ev (fun k => spec_Drain.l1 k s.F s.N s.H (R : Int) (C : Int) l) r ∧ Ev (fun k => impl_Drain.l1 k s.F' s.N' s.W s.fr (R : Int) (C : Int) l) r ∧ r.1.length = l.length ∧ r.2.length = l.length := by
  have hs := hb.small
  have hC0 := hb.c0; have hC1 := hb.c1; have hR0 := hb.r0; have hR1 := hb.r1
  intro m
  induction m with
  | zero =>
    intro s hr hc ht hd
    have no1 : ∀ c : Nat, c < l.length → rd s.H (c : Int) ≠ 1 := by
      intro c hcl h1
      have := cnt_set p2 s.H c 2 (by rw [hr.lH]; exact hcl)
      rw [h1] at this
      simp [p2] at this
      have hc' : cnt p2 s.H = 0 := by omega
      omega
    have hall : ∀ c : Nat, c < l.length → rd s.H (c : Int) ≠ 0 := by
      intro c
      induction c using Nat.strongRecOn with
      | _ c ih =>
        intro hcl
        by_cases h : c < C
        · exact ht c hcl h
        · have h1 := ih (c - C) (by omega) (by omega)
          have h2 := hr.h (c - C) (by omega)
          have h3 := no1 (c - C) (by omega)
          have := hd (c - C) (by omega) (by omega)
          rwa [show c - C + C = c by omega] at this
    have eF : s.F' = s.F := ext_rd _ _ (by rw [hr.lF, hr.lF']) fun c hcl => (hr.f c (by rw [← hr.lF']; exact hcl) (hall c (by rw [← hr.lF']; exact hcl))).1
    have eN : s.N' = s.N := ext_rd _ _ (by rw [hr.lN, hr.lN']) fun c hcl => (hr.f c (by rw [← hr.lN']; exact hcl) (hall c (by rw [← hr.lN']; exact hcl))).2
    have efr : s.fr = [] := List.eq_nil_iff_forall_not_mem.mpr fun x hx => by
      obtain ⟨c, _, hcl, h1⟩ := (hr.mem x).mp hx
      exact no1 c hcl h1
    refine ⟨(s.F, s.N), ?_, ?_, hr.lF, hr.lN⟩
    · refine specMin_ev (by rw [hr.lH]; exact hs) (by rw [hr.lF, hr.lH]) ?_
      rcases amin_spec s.F s.H s.H.length with ⟨e, _⟩ | ⟨a, ha, _, h1, _⟩
      · refine Ev.step (f := fun _ => some (s.F, s.N)) (fun k => ?_) (Ev.now _)
        simp only [spec_Drain.l2]
        rw [if_neg (by omega), if_pos (by omega)]
      · exact absurd h1 (no1 a (by rw [← hr.lH]; exact ha))
    · rw [eF, eN, efr]
      refine Ev.step (f := fun _ => some (s.F, s.N)) (fun k => ?_) (Ev.now _)
      simp only [impl_Drain.l1]
      rw [if_neg (by simp)]
  | succ m im =>
    intro s hr hc ht hd
    rcases amin_spec s.F s.H s.H.length with ⟨e, hno⟩ | ⟨a, ha, ea, ha1, hmin⟩
    · have no1 : ∀ c : Nat, c < l.length → rd s.H (c : Int) ≠ 1 := fun c hcl => hno c (by rw [hr.lH]; exact hcl)
      have hall : ∀ c : Nat, c < l.length → rd s.H (c : Int) ≠ 0 := by
        intro c
        induction c using Nat.strongRecOn with
        | _ c ih =>
          intro hcl
          by_cases h : c < C
          · exact ht c hcl h
          · have h1 := ih (c - C) (by omega) (by omega)
            have h2 := hr.h (c - C) (by omega)
            have h3 := no1 (c - C) (by omega)
            have := hd (c - C) (by omega) (by omega)
            rwa [show c - C + C = c by omega] at this
      have eF : s.F' = s.F := ext_rd _ _ (by rw [hr.lF, hr.lF']) fun c hcl => (hr.f c (by rw [← hr.lF']; exact hcl) (hall c (by rw [← hr.lF']; exact hcl))).1
      have eN : s.N' = s.N := ext_rd _ _ (by rw [hr.lN, hr.lN']) fun c hcl => (hr.f c (by rw [← hr.lN']; exact hcl) (hall c (by rw [← hr.lN']; exact hcl))).2
      have efr : s.fr = [] := List.eq_nil_iff_forall_not_mem.mpr fun x hx => by
        obtain ⟨c, _, hcl, h1⟩ := (hr.mem x).mp hx
        exact no1 c hcl h1
      refine ⟨(s.F, s.N), ?_, ?_, hr.lF, hr.lN⟩
      · refine specMin_ev (by rw [hr.lH]; exact hs) (by rw [hr.lF, hr.lH]) ?_
        refine Ev.step (f := fun _ => some (s.F, s.N)) (fun k => ?_) (Ev.now _)
        simp only [spec_Drain.l2]
        rw [if_neg (by omega), if_pos (by omega)]
      · rw [eF, eN, efr]
        refine Ev.step (f := fun _ => some (s.F, s.N)) (fun k => ?_) (Ev.now _)
        simp only [impl_Drain.l1]
        rw [if_neg (by simp)]
    · have hal : a < l.length := by rw [← hr.lH]; exact ha
      have hp := place hb a hal
      have hafr : (a : Int) ∈ s.fr := (hr.mem _).mpr ⟨a, rfl, hal, ha1⟩
      have h0 : 0 < s.fr.length := List.length_pos_of_mem hafr
      have hfrx : ∀ x ∈ s.fr, 0 ≤ x ∧ x < (l.length : Int) := fun x hx => by
        obtain ⟨c, rfl, hcl, _⟩ := (hr.mem x).mp hx
        omega
      have hfl := hr.len
      obtain ⟨hq, hqmin⟩ := bmin_spec s.F' s.fr h0 s.fr.length (Nat.le_refl _)
      obtain ⟨q, hqe⟩ : ∃ q, q = bmin s.F' s.fr s.fr.length := ⟨_, rfl⟩
      rw [← hqe] at hq hqmin
      have hrdq : rd s.fr (q : Int) = s.fr[q] := rd_lt s.fr q hq
      have hfq : s.fr[q] = (a : Int) := by
        obtain ⟨ja, hja, eja⟩ := List.mem_iff_getElem.1 hafr
        obtain ⟨c, ec, hcl, hc1⟩ := (hr.mem s.fr[q]).mp (List.getElem_mem hq)
        have h1 := hqmin ja hja
        rw [hrdq, rd_lt s.fr ja hja, eja, ec] at h1
        have h2 := hmin c (by rw [hr.lH]; exact hcl) hc1
        have f1 := (hr.f a hal (by omega)).1
        have f2 := (hr.f c hcl (by omega)).1
        rw [f1, f2] at h1
        rw [ec]
        omega
      have hr1 := pop_rel a q hr hq hfq hal ha1
      have hlH := hr.lH
      have hg1 : Good l.length C (pop a q s) a m := by
        refine ⟨hr1, ?_, rd_eq _ _ _ ha, ?_, ?_⟩
        · have := cnt_set p2 s.H a 2 ha
          rw [ha1] at this
          simp [p2] at this
          have e : cnt p2 (s.H.set a 2) + 1 = cnt p2 s.H := this
          show cnt p2 (s.H.set a 2) ≤ m
          omega
        · intro c hcl hcC
          show rd (s.H.set a 2) (c : Int) ≠ 0
          by_cases e : a = c
          · subst e; rw [rd_eq _ _ _ ha]; omega
          · rw [rd_ne _ _ _ _ (by omega) e]; exact ht c hcl hcC
        · intro c hca hcl h2
          have h2' : rd (s.H.set a 2) (c : Int) = 2 := h2
          rw [rd_ne _ _ _ _ (by omega) (fun e => hca e.symm)] at h2'
          show rd (s.H.set a 2) ((c + C : Nat) : Int) ≠ 0
          by_cases e : a = c + C
          · rw [← e, rd_eq _ _ _ ha]; omega
          · rw [rd_ne _ _ _ _ (by omega) e]; exact hd c hcl h2'
      have hin := sidesN_in hb hp hal
      obtain ⟨hg2, _, hside⟩ := visL_good l a m hal (sidesN R C a (a / C) (a % C)) (pop a q s) hin hg1
      obtain ⟨r, e1, e2, l1, l2⟩ := im (visL l a (sidesN R C a (a / C) (a % C)) (pop a q s)) hg2.rel hg2.cn hg2.top (by
        intro c hcl h2
        by_cases e : c = a
        · subst e
          refine hside _ ?_
          unfold sidesN
          rw [if_pos (hp.dn.mpr hcl)]
          simp
        · exact hg2.dn c e hcl h2)
      refine ⟨r, ?_, ?_, l1, l2⟩
      · have hL4 : (sidesN R C a (a / C) (a % C)).length ≤ 4 := by
          unfold sidesN
          simp only [List.length_append]
          have b1 : ∀ (b : Prop) [Decidable b] (x : Nat), (if b then [x] else ([] : List Nat)).length ≤ 1 := fun b _ x => by split <;> simp
          have := b1 (a / C < R - 1) (a + C); have := b1 (a % C < C - 1) (a + 1); have := b1 (a / C > 0) (a - C); have := b1 (a % C > 0) (a - 1)
          omega
        have e3 := specVis_ev (R := (R : Int)) (C := (C : Int)) hs a hal (sidesN R C a (a / C) (a % C)) hL4 hin (r := r) (sidesN R C a (a / C) (a % C)).length 0 (by omega) (pop a q s) hr1.lF hr1.lN hr1.lH (by rw [List.drop_zero]; exact e1)
        refine specMin_ev (by rw [hr.lH]; exact hs) (by rw [hr.lF, hr.lH]) ?_
        rw [ea]
        refine Ev.step (f := fun k => (spec_l13Sides.f k (R : Int) (C : Int) l (a : Int)).bind fun t => spec_Drain.l3 k s.F s.N (s.H.set a 2) (a : Int) t 0 (R : Int) (C : Int) l) (fun k => ?_) (Ev_bind _ (specSides_ev hb hp hal) e3)
        simp only [spec_Drain.l2]
        rw [if_neg (by omega), if_neg (by omega), if_pos (by omega), if_pos (by omega), Int.toNat_natCast]
      · have e3 := implVis_ev hb hp hal m (pop a q s) hg1 e2
        refine implMin_ev l.length hs hr.lF' hfrx (by omega) h0 ?_
        rw [← hqe]
        have hq' : Int.tdiv (a : Int) (C : Int) = ((a / C : Nat) : Int) := by rw [Int.tdiv_eq_ediv_of_nonneg (by omega)]; exact (Int.natCast_ediv a C).symm
        have hm' : Int.tmod (a : Int) (C : Int) = ((a % C : Nat) : Int) := by rw [Int.tmod_eq_emod_of_nonneg (by omega)]; exact (Int.natCast_emod a C).symm
        have hdl : a / C ≤ a := Nat.div_le_self a C
        have hwd : wrap64 ((a / C : Nat) : Int) = ((a / C : Nat) : Int) := by
          obtain ⟨x, hx⟩ : ∃ x, x = a / C := ⟨_, rfl⟩
          rw [← hx] at hdl ⊢
          exact w64 (by omega) (by omega)
        refine Ev.step (fun k => ?_) e3
        simp only [impl_Drain.l2, Option.bind_some]
        rw [if_neg (by omega), if_pos (by omega), if_pos (by omega), if_pos (by omega), w64 (n := (q : Int) + 1) (by omega) (by omega), if_pos (by omega), if_pos (by omega), if_neg (by omega), Int.toNat_natCast, hrdq, hfq, hq', hm', hwd]
        rfl
end Go.Proofs.Ytopfdmodbhopiaa.QFnExactDrain
