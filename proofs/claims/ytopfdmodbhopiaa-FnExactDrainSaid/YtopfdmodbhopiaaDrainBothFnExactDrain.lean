/- Both Drain functions tell the same: one walk over the reference's front and the program's. Conditions: the box is right. -/
import Derived.Test.YtopfdmodbhopiaaDrainRelFnExactDrain
import Derived.Test.YtopfdmodbhopiaaSumLib
import Derived.Test.YtopfdmodbhopiaaQFnExactDrainx5
set_option linter.unusedVariables false
set_option linter.unusedSimpArgs false
namespace Go.Proofs.Ytopfdmodbhopiaa.QFnExactDrain
open Go.RowKit Go.Proofs.YtopfdmodbhopiaaW.PrintWords Go.Proofs.Ytopfdmodbhopiaa.Opn Go.Proofs.Ytopfdmodbhopiaa.Pl

theorem up_ind {P : Nat → Prop} (n : Nat) (hend : P n) (hstep : ∀ i, i < n → P (i + 1) → P i) : ∀ i, i ≤ n → P i := by
  have key : ∀ d i, i + d = n → P i := by
    intro d
    induction d with
    | zero => intro i hi; rw [show i = n by omega]; exact hend
    | succ d ih => intro i hi; exact hstep i (by omega) (ih (i + 1) (by omega))
  intro i hi
  exact key (n - i) i (by omega)

structure BoxR (R C : Nat) (l : List Int) : Prop where
  r0 : 1 ≤ R
  r1 : R ≤ 24
  c0 : 1 ≤ C
  c1 : C ≤ 24
  n : l.length = R * C

theorem BoxR.small {R C : Nat} {l : List Int} (hb : BoxR R C l) : l.length ≤ 576 := by
  rw [hb.n]
  exact Nat.le_trans (Nat.mul_le_mul hb.r1 hb.c1) (by decide)

/-- a cell's place -/
structure Place (R C : Nat) (l : List Int) (a i j : Nat) : Prop where
  hi : i = a / C
  hj : j = a % C
  e : a = i * C + j
  jC : j < C
  iR : i < R
  dn : i < R - 1 ↔ a + C < l.length
theorem place {R C : Nat} {l : List Int} (hb : BoxR R C l) (a : Nat) (ha : a < l.length) : Place R C l a (a / C) (a % C) := by
  have hC : 0 < C := by have := hb.c0; omega
  have hn := hb.n
  have e := Nat.div_add_mod a C
  have hj := Nat.mod_lt a hC
  have hi : a / C < R := by rw [Nat.div_lt_iff_lt_mul hC]; omega
  refine ⟨rfl, rfl, by rw [Nat.mul_comm]; omega, hj, hi, ?_⟩
  generalize a / C = i at e hi
  generalize a % C = j at e hj
  constructor
  · intro h
    have : (i + 1 + 1) * C ≤ R * C := Nat.mul_le_mul_right C (by omega)
    rw [Nat.add_mul, Nat.add_mul, Nat.mul_comm i C] at this
    omega
  · intro h
    rcases Nat.lt_or_ge i (R - 1) with h1 | h1
    · exact h1
    · exfalso
      have hr : R = i + 1 := by omega
      rw [hr, Nat.add_mul, Nat.mul_comm i C] at hn
      omega

/-- all sides of a cell, in order -/
def sidesN (R C a i j : Nat) : List Nat := (if i < R - 1 then [a + C] else []) ++ ((if j < C - 1 then [a + 1] else []) ++ ((if i > 0 then [a - C] else []) ++ (if j > 0 then [a - 1] else [])))
theorem sidesN_in {R C : Nat} {l : List Int} (hb : BoxR R C l) {a i j : Nat} (hp : Place R C l a i j) (ha : a < l.length) : ∀ m ∈ sidesN R C a i j, m < l.length := by
  intro m hm
  have hn := hb.n
  unfold sidesN at hm
  simp only [List.mem_append] at hm
  rcases hm with hm | hm | hm | hm
  · split at hm
    · simp only [List.mem_singleton] at hm
      have := hp.dn.mp (by assumption)
      omega
    · cases hm
  · split at hm
    · rename_i h
      simp only [List.mem_singleton] at hm
      have h1 := hp.e; have h2 := hp.iR
      have : (i + 1) * C ≤ R * C := Nat.mul_le_mul_right C (by omega)
      rw [Nat.add_mul] at this
      omega
    · cases hm
  · split at hm
    · simp only [List.mem_singleton] at hm; omega
    · cases hm
  · split at hm
    · simp only [List.mem_singleton] at hm; omega
    · cases hm

theorem up_le {R C : Nat} {l : List Int} {a i j : Nat} (hp : Place R C l a i j) (h : i > 0) : C ≤ a := by
  have h1 := hp.e
  have : 1 * C ≤ i * C := Nat.mul_le_mul_right C h
  omega
theorem left_le {R C : Nat} {l : List Int} {a i j : Nat} (hp : Place R C l a i j) (h : j > 0) : 1 ≤ a := by
  have h1 := hp.e
  omega

def castL (L : List Nat) : List Int := L.map (fun m : Nat => (m : Int))

theorem specSides_ev {R C : Nat} {l : List Int} (hb : BoxR R C l) {a i j : Nat} (hp : Place R C l a i j) (ha : a < l.length) : Ev (fun k => spec_l13Sides.f k (R : Int) (C : Int) l (a : Int)) (castL (sidesN R C a i j)) := by
  have hs := hb.small
  have hr0 := hb.r0; have hr1 := hb.r1; have hc0 := hb.c0; have hc1 := hb.c1
  have hq : Int.tdiv (a : Int) (C : Int) = (i : Int) := by rw [Int.tdiv_eq_ediv_of_nonneg (by omega), hp.hi]; exact (Int.natCast_ediv a C).symm
  have hr : Int.tmod (a : Int) (C : Int) = (j : Int) := by rw [Int.tmod_eq_emod_of_nonneg (by omega), hp.hj]; exact (Int.natCast_emod a C).symm
  have hi := hp.iR; have hj := hp.jC
  have f1 : ∀ s : List Int, s.length ≤ 2 → Ev (fun k => spec_l13Sides.j1 k (a : Int) s (i : Int) (j : Int) (R : Int) (C : Int) l) (s ++ castL ((if i > 0 then [a - C] else []) ++ (if j > 0 then [a - 1] else []))) := by
    intro s hsl
    refine Ev.step (f := fun _ => some _) (fun k => ?_) (Ev.now _)
    simp only [spec_l13Sides.j1, Option.bind_some]
    by_cases h1 : i > 0
    · have hu := up_le hp h1
      rw [if_pos (by omega), if_pos (by omega), if_pos h1, w64 (n := (a : Int) - (C : Int)) (by omega) (by omega)]
      by_cases h2 : j > 0
      · have hv := left_le hp h2
        rw [if_pos (by omega), if_pos (by simp; omega), if_pos h2, w64 (n := (a : Int) - 1) (by omega) (by omega)]
        simp only [castL, List.map_append, List.map_cons, List.map_nil, List.append_assoc, List.cons_append, List.nil_append]
        rw [show ((a - C : Nat) : Int) = (a : Int) - (C : Int) by omega, show ((a - 1 : Nat) : Int) = (a : Int) - 1 by omega]
      · rw [if_neg (by omega), if_neg h2]
        simp only [castL, List.append_nil, List.map_cons, List.map_nil]
        rw [show ((a - C : Nat) : Int) = (a : Int) - (C : Int) by omega]
    · rw [if_neg (by omega), if_neg h1]
      by_cases h2 : j > 0
      · have hv := left_le hp h2
        rw [if_pos (by omega), if_pos (by omega), if_pos h2, w64 (n := (a : Int) - 1) (by omega) (by omega)]
        simp only [castL, List.nil_append, List.map_cons, List.map_nil]
        rw [show ((a - 1 : Nat) : Int) = (a : Int) - 1 by omega]
      · rw [if_neg (by omega), if_neg h2]
        simp [castL]
  have f0 : ∀ s : List Int, s.length ≤ 1 → Ev (fun k => spec_l13Sides.j0 k (a : Int) s (i : Int) (j : Int) (R : Int) (C : Int) l) (s ++ castL ((if j < C - 1 then [a + 1] else []) ++ ((if i > 0 then [a - C] else []) ++ (if j > 0 then [a - 1] else [])))) := by
    intro s hsl
    by_cases h1 : j < C - 1
    · have := f1 (s ++ [(a : Int) + 1]) (by simp; omega)
      rw [if_pos h1]
      refine Ev.step (fun k => ?_) (by simpa [castL] using this)
      simp only [spec_l13Sides.j0]
      rw [w64 (n := (C : Int) - 1) (by omega) (by omega), if_pos (by omega), if_pos (by omega), w64 (n := (a : Int) + 1) (by omega) (by omega)]
    · have := f1 s (by omega)
      rw [if_neg h1]
      refine Ev.step (fun k => ?_) (by simpa [castL] using this)
      simp only [spec_l13Sides.j0]
      rw [w64 (n := (C : Int) - 1) (by omega) (by omega), if_neg (by omega)]
  unfold spec_l13Sides.f sidesN
  simp only [Option.bind_some, hq, hr, if_neg (show ¬ (C : Int) = 0 by omega), w64 (n := (i : Int)) (by omega) (by omega), w64 (n := (R : Int) - 1) (by omega) (by omega)]
  by_cases h1 : i < R - 1
  · have := f0 [(a : Int) + (C : Int)] (by simp)
    simp only [if_pos (show (i : Int) < (R : Int) - 1 by omega), List.length_nil, if_pos (show 0 < 17592186044416 by omega), w64 (n := (a : Int) + (C : Int)) (by omega) (by omega), if_pos h1]
    simpa [castL] using this
  · have := f0 [] (by simp)
    simp only [if_neg (show ¬ (i : Int) < (R : Int) - 1 by omega), if_neg h1]
    simpa [castL] using this

/-- The reference's visits. -/
theorem specVis_ev {R C : Int} {l : List Int} (hl : l.length ≤ 576) (a : Nat) (ha : a < l.length) (L : List Nat) (hL4 : L.length ≤ 4) (hL : ∀ m ∈ L, m < l.length) {r : List Int × List Int} :
    ∀ d p, p + d = L.length → ∀ s : St, s.F.length = l.length → s.N.length = l.length → s.H.length = l.length →
      Ev (fun k => spec_Drain.l1 k (visL l a (L.drop p) s).F (visL l a (L.drop p) s).N (visL l a (L.drop p) s).H R C l) r → Ev (fun k => spec_Drain.l3 k s.F s.N s.H (a : Int) (castL L) (p : Int) R C l) r := by
  intro d
  induction d with
  | zero =>
    intro p hp s hF hN hH h
    rw [List.drop_of_length_le (by omega)] at h
    refine Ev.step (fun k => ?_) h
    simp only [spec_Drain.l3]
    rw [if_neg (by simp [castL]; omega)]
    rfl
  | succ d ih =>
    intro p hp s hF hN hH h
    have hpl : p < L.length := by omega
    have hm := hL L[p] (List.getElem_mem hpl)
    have hcl : p < (castL L).length := by simpa [castL] using hpl
    have hrd : rd (castL L) (p : Int) = (L[p] : Int) := by rw [rd_lt _ p hcl]; simp [castL]
    rw [List.drop_eq_getElem_cons hpl] at h
    have h' := ih (p + 1) (by omega) (vis l a L[p] s) (by unfold vis; split <;> simpa using hF) (by unfold vis; split <;> simpa using hN) (by unfold vis; split <;> simpa using hH) h
    refine Ev.step (fun k => ?_) h'
    simp only [spec_Drain.l3]
    rw [if_pos (by simpa [castL] using hpl), if_pos (by omega), hrd, if_pos (by omega), if_pos (by omega), w64 (n := (p : Int) + 1) (by omega) (by omega)]
    unfold vis
    by_cases h0 : rd s.H (L[p] : Int) = 0
    · rw [if_pos h0, if_pos h0, if_pos (by omega), if_pos (by omega), if_pos (by omega), if_pos (by omega), if_pos (by omega), Int.toNat_natCast]
      rfl
    · rw [if_neg h0, if_neg h0]
      rfl

def dirs : List S88 := [(⟨1, 0⟩ : S88), (⟨0, 1⟩ : S88), (⟨(-1), 0⟩ : S88), (⟨0, (-1)⟩ : S88)]

/-- One direction of the program's. -/
theorem implDir_ev {R C : Nat} {l : List Int} (hb : BoxR R C l) {a i j : Nat} (hp : Place R C l a i j) (ha : a < l.length) {r : List Int × List Int} (d : Nat) (hd : d < 4) (dy dx : Int) (hdd : rd_T88 dirs (d : Int) = ⟨dy, dx⟩) (hdy : -1 ≤ dy ∧ dy ≤ 1) (hdx : -1 ≤ dx ∧ dx ≤ 1)
    (b : Prop) [Decidable b] (m : Nat) (hbm : b → m < l.length ∧ ((i : Int) + dy) * (C : Int) + ((j : Int) + dx) = (m : Int)) (hb1 : b ↔ (0 ≤ (i : Int) + dy ∧ (i : Int) + dy ≤ (R : Int) - 1) ∧ (0 ≤ (j : Int) + dx ∧ (j : Int) + dx ≤ (C : Int) - 1))
    (s : St) (hr : Rel l.length s) (hHa : rd s.H (a : Int) = 2)
    (h : Ev (fun k => impl_Drain.l3 k (visL l a (if b then [m] else []) s).F' (visL l a (if b then [m] else []) s).N' (visL l a (if b then [m] else []) s).W (visL l a (if b then [m] else []) s).fr (a : Int) (i : Int) (j : Int) dirs 4 ((d + 1 : Nat) : Int) (R : Int) (C : Int) l) r) :
    Ev (fun k => impl_Drain.l3 k s.F' s.N' s.W s.fr (a : Int) (i : Int) (j : Int) dirs 4 (d : Int) (R : Int) (C : Int) l) r := by
  have hs := hb.small
  have hr0 := hb.r0; have hr1 := hb.r1; have hc0 := hb.c0; have hc1 := hb.c1
  have hi := hp.iR; have hj := hp.jC
  have hlen : (dirs.length : Int) = 4 := rfl
  have jskip : ∀ y x : Int, Ev (fun k => impl_Drain.l3 k s.F' s.N' s.W s.fr (a : Int) (i : Int) (j : Int) dirs 4 ((d + 1 : Nat) : Int) (R : Int) (C : Int) l) r → Ev (fun k => impl_Drain.j4 k s.F' s.N' s.W s.fr (a : Int) (i : Int) (j : Int) y x dirs 4 (d : Int) true (R : Int) (C : Int) l) r := by
    intro y x h
    refine Ev.step (fun k => ?_) h
    simp only [impl_Drain.j4, if_true]
    rw [w64 (n := (d : Int) + 1) (by omega) (by omega)]
    rfl
  have hstep : Ev (fun k => impl_Drain.j4 k s.F' s.N' s.W s.fr (a : Int) (i : Int) (j : Int) ((i : Int) + dy) ((j : Int) + dx) dirs 4 (d : Int) (!(inB ((i : Int) + dy) 0 ((R : Int) - 1) && inB ((j : Int) + dx) 0 ((C : Int) - 1))) (R : Int) (C : Int) l) r → Ev (fun k => impl_Drain.l3 k s.F' s.N' s.W s.fr (a : Int) (i : Int) (j : Int) dirs 4 (d : Int) (R : Int) (C : Int) l) r := by
    intro h
    refine Ev.step (fun k => ?_) h
    simp only [impl_Drain.l3, implIn, Option.bind_some, hdd]
    rw [if_pos (by omega), if_pos (by omega), if_pos (by omega), w64 (n := (i : Int) + dy) (by omega) (by omega), w64 (n := (j : Int) + dx) (by omega) (by omega), w64 (n := (R : Int) - 1) (by omega) (by omega), w64 (n := (C : Int) - 1) (by omega) (by omega)]
    cases inB ((i : Int) + dy) 0 ((R : Int) - 1) <;> simp
  refine hstep ?_
  by_cases hbb : b
  · obtain ⟨hm, hme⟩ := hbm hbb
    obtain ⟨⟨y0, y1⟩, x0, x1⟩ := hb1.mp hbb
    rw [(inB_iff _ _ _).mpr ⟨y0, y1⟩, (inB_iff _ _ _).mpr ⟨x0, x1⟩]
    simp only [if_pos hbb, visL, List.foldl_cons, List.foldl_nil] at h
    have hw := hr.w m hm
    have hlF' := hr.lF'; have hlN' := hr.lN'; have hlW := hr.lW; have hlfr := hr.len
    have hyb := mul_bd (a := (i : Int) + dy) (b := (C : Int)) (A := 24) (B := 24) (by omega) (by omega) (by omega) (by omega)
    refine Ev.step (fun k => ?_) h
    simp only [impl_Drain.j4]
    rw [if_neg (by simp), w64 (n := ((i : Int) + dy) * (C : Int)) (by omega) (by omega), hme, w64 (n := (m : Int)) (by omega) (by omega), if_pos (by omega), if_pos (by omega), w64 (n := (d : Int) + 1) (by omega) (by omega)]
    unfold vis
    by_cases h0 : rd s.H (m : Int) = 0
    · rw [if_pos h0, if_neg (by rw [hw]; simp [h0]), if_pos (by omega), if_pos (by omega), if_pos (by omega), if_pos (by omega), if_pos (by omega), if_pos (by omega), Int.toNat_natCast]
      rfl
    · rw [if_neg h0, if_pos (by rw [hw]; simp [h0])]
      rfl
  · have hnot : (!(inB ((i : Int) + dy) 0 ((R : Int) - 1) && inB ((j : Int) + dx) 0 ((C : Int) - 1))) = true := by
      cases hq : (inB ((i : Int) + dy) 0 ((R : Int) - 1) && inB ((j : Int) + dx) 0 ((C : Int) - 1)) with
      | false => rfl
      | true =>
        rw [Bool.and_eq_true] at hq
        exact absurd (hb1.mpr ⟨(inB_iff _ _ _).mp hq.1, (inB_iff _ _ _).mp hq.2⟩) hbb
    rw [hnot]
    simp only [if_neg hbb, visL, List.foldl_nil] at h
    exact jskip _ _ h

theorem implVis_ev {R C : Nat} {l : List Int} (hb : BoxR R C l) {a i j : Nat} (hp : Place R C l a i j) (ha : a < l.length) {r : List Int × List Int} (k0 : Nat) (s : St) (hg : Good l.length C s a k0)
    (h : Ev (fun k => impl_Drain.l1 k (visL l a (sidesN R C a i j) s).F' (visL l a (sidesN R C a i j) s).N' (visL l a (sidesN R C a i j) s).W (visL l a (sidesN R C a i j) s).fr (R : Int) (C : Int) l) r) :
    Ev (fun k => impl_Drain.l3 k s.F' s.N' s.W s.fr (a : Int) (i : Int) (j : Int) dirs 4 0 (R : Int) (C : Int) l) r := by
  have hin := sidesN_in hb hp ha
  have hi := hp.iR; have hj := hp.jC
  have hr0 := hb.r0; have hc0 := hb.c0; have hn := hb.n
  have hC1 : ∀ x : Int, x * (C : Int) + (C : Int) = (x + 1) * (C : Int) := fun x => by rw [Int.add_mul, Int.one_mul]
  have hae : (a : Int) = (i : Int) * (C : Int) + (j : Int) := by have := hp.e; rw [← Int.natCast_mul]; omega
  unfold sidesN at h hin
  simp only [List.mem_append] at hin
  simp only [visL, List.foldl_append] at h
  have q0 : ∀ m ∈ (if i < R - 1 then [a + C] else []), m < l.length := fun m hm => hin m (.inl hm)
  have q1 : ∀ m ∈ (if j < C - 1 then [a + 1] else []), m < l.length := fun m hm => hin m (.inr (.inl hm))
  have q2 : ∀ m ∈ (if i > 0 then [a - C] else []), m < l.length := fun m hm => hin m (.inr (.inr (.inl hm)))
  have q3 : ∀ m ∈ (if j > 0 then [a - 1] else []), m < l.length := fun m hm => hin m (.inr (.inr (.inr hm)))
  have g1 := (visL_good l a k0 ha _ s q0 hg).1
  have g2 := (visL_good l a k0 ha _ _ q1 g1).1
  have g3 := (visL_good l a k0 ha _ _ q2 g2).1
  refine implDir_ev hb hp ha 0 (by omega) 1 0 rfl (by omega) (by omega) (i < R - 1) (a + C) (fun hb0 => ⟨q0 _ (by rw [if_pos hb0]; simp), by rw [Int.add_mul, Int.one_mul]; omega⟩) (by constructor <;> intro hh <;> omega) s hg.rel hg.ha ?_
  refine implDir_ev hb hp ha 1 (by omega) 0 1 rfl (by omega) (by omega) (j < C - 1) (a + 1) (fun hb0 => ⟨q1 _ (by rw [if_pos hb0]; simp), by rw [Int.add_zero]; omega⟩) (by constructor <;> intro hh <;> omega) _ g1.rel g1.ha ?_
  refine implDir_ev hb hp ha 2 (by omega) (-1) 0 rfl (by omega) (by omega) (i > 0) (a - C) (fun hb0 => ⟨q2 _ (by rw [if_pos hb0]; simp), by have := up_le hp hb0; rw [Int.add_mul, Int.neg_mul, Int.one_mul]; omega⟩) (by constructor <;> intro hh <;> omega) _ g2.rel g2.ha ?_
  refine implDir_ev hb hp ha 3 (by omega) 0 (-1) rfl (by omega) (by omega) (j > 0) (a - 1) (fun hb0 => ⟨q3 _ (by rw [if_pos hb0]; simp), by have := left_le hp hb0; rw [Int.add_zero]; omega⟩) (by constructor <;> intro hh <;> omega) _ g3.rel g3.ha ?_
  refine Ev.step (fun k => ?_) h
  simp only [impl_Drain.l3]
  rw [if_neg (by omega)]
  rfl
end Go.Proofs.Ytopfdmodbhopiaa.QFnExactDrain
