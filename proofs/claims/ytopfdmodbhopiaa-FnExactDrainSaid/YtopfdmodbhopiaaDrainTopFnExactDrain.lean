/- Both Drain functions from the start: the edge cells are the front. No condition but a list's size. -/
import Derived.Test.YtopfdmodbhopiaaDrainAllFnExactDrain
set_option linter.unusedVariables false
set_option linter.unusedSimpArgs false
namespace Go.Proofs.Ytopfdmodbhopiaa.QFnExactDrain
open Go.RowKit Go.Proofs.YtopfdmodbhopiaaW.PrintWords Go.Proofs.Ytopfdmodbhopiaa.Opn Go.Proofs.Ytopfdmodbhopiaa.Pl

def edgeN (R C c : Nat) : Prop := c / C = 0 ∨ c % C = 0 ∨ c / C = R - 1 ∨ c % C = C - 1
instance (R C c : Nat) : Decidable (edgeN R C c) := by unfold edgeN; infer_instance

structure Cell (R C c : Nat) : Prop where
  q : Int.tdiv (c : Int) (C : Int) = ((c / C : Nat) : Int)
  m : Int.tmod (c : Int) (C : Int) = ((c % C : Nat) : Int)
  w : wrap64 ((c / C : Nat) : Int) = ((c / C : Nat) : Int)
theorem cell_of (R C c : Nat) (hc : c ≤ 576) : Cell R C c := by
  have hdl : c / C ≤ c := Nat.div_le_self c C
  refine ⟨by rw [Int.tdiv_eq_ediv_of_nonneg (by omega)]; exact (Int.natCast_ediv c C).symm, by rw [Int.tmod_eq_emod_of_nonneg (by omega)]; exact (Int.natCast_emod c C).symm, ?_⟩
  obtain ⟨x, hx⟩ : ∃ x, x = c / C := ⟨_, rfl⟩
  rw [← hx] at hdl ⊢
  exact w64 (by omega) (by omega)

theorem specEdge {R C : Nat} {l : List Int} (hb : BoxR R C l) (c : Nat) (hc : c < l.length) : spec_l13Edge.f (R : Int) (C : Int) l (c : Int) = some (decide (edgeN R C c)) := by
  have hs := hb.small
  have hr0 := hb.r0; have hr1 := hb.r1; have hc0 := hb.c0; have hc1 := hb.c1
  obtain ⟨q, m, w⟩ := cell_of R C c (by omega)
  unfold spec_l13Edge.f
  rw [if_neg (by omega), q, m, w, w64 (n := (R : Int) - 1) (by omega) (by omega), w64 (n := (C : Int) - 1) (by omega) (by omega)]
  by_cases h1 : c / C = 0
  · rw [if_pos (by omega), decide_eq_true (.inl h1)]
  rw [if_neg (by omega)]
  by_cases h2 : c % C = 0
  · rw [if_pos (by omega), decide_eq_true (.inr (.inl h2))]
  rw [if_neg (by omega)]
  by_cases h3 : c / C = R - 1
  · rw [if_pos (by omega), decide_eq_true (.inr (.inr (.inl h3)))]
  rw [if_neg (by omega)]
  congr 1
  rw [Bool.eq_iff_iff, beq_iff_eq, decide_eq_true_eq]
  unfold edgeN
  omega

/-- where both stand at cell i of the first loop -/
structure Ini (R C : Nat) (l : List Int) (i : Nat) (s : St) : Prop where
  lF : s.F.length = i
  lN : s.N.length = i
  lH : s.H.length = i
  lF' : s.F'.length = l.length
  lN' : s.N'.length = l.length
  lW : s.W.length = l.length
  a : ∀ c : Nat, c < i → rd s.F (c : Int) = rd l (c : Int) ∧ rd s.N (c : Int) = -1 ∧ rd s.H (c : Int) = if edgeN R C c then 1 else 0
  w : ∀ c : Nat, c < l.length → rdOf false s.W (c : Int) = decide (c < i ∧ edgeN R C c)
  b : ∀ c : Nat, c < i → edgeN R C c → rd s.F' (c : Int) = rd l (c : Int) ∧ rd s.N' (c : Int) = -1
  nd : s.fr.Nodup
  mem : ∀ x : Int, x ∈ s.fr ↔ ∃ c : Nat, x = (c : Int) ∧ c < i ∧ edgeN R C c
  len : s.fr.length + cnt p0 s.H ≤ i

theorem rd_snoc_lt (l : List Int) (v : Int) (c : Nat) (h : c < l.length) : rd (l ++ [v]) (c : Int) = rd l (c : Int) := by
  rw [rd_lt _ c (by simp; omega), rd_lt l c h, List.getElem_append_left h]
theorem rd_snoc_eq (l : List Int) (v : Int) (c : Nat) (h : c = l.length) : rd (l ++ [v]) (c : Int) = v := by
  subst h
  rw [rd_lt _ _ (by simp)]
  simp
theorem set_snoc (l : List Int) (u v : Int) (i : Nat) (h : i = l.length) : (l ++ [u]).set i v = l ++ [v] := by
  subst h
  simp

def yes (l : List Int) (i : Nat) (s : St) : St := ⟨s.F ++ [rd l (i : Int)], s.N ++ [-1], s.H ++ [1], s.F'.set i (rd l (i : Int)), s.N'.set i (-1), s.W.set i true, s.fr ++ [(i : Int)]⟩
def no (l : List Int) (i : Nat) (s : St) : St := ⟨s.F ++ [rd l (i : Int)], s.N ++ [-1], s.H ++ [0], s.F', s.N', s.W, s.fr⟩

theorem ini_yes {R C : Nat} {l : List Int} {i : Nat} {s : St} (h : Ini R C l i s) (hi : i < l.length) (he : edgeN R C i) : Ini R C l (i + 1) (yes l i s) := by
  have h1 := h.lF; have h2 := h.lN; have h3 := h.lH; have h4 := h.lF'; have h5 := h.lN'; have h6 := h.lW
  refine ⟨by simp [yes]; omega, by simp [yes]; omega, by simp [yes]; omega, by simp [yes]; omega, by simp [yes]; omega, by simp [yes]; omega, ?_, ?_, ?_, ?_, ?_, ?_⟩
  · intro c hc
    show rd (s.F ++ [_]) (c : Int) = _ ∧ rd (s.N ++ [_]) (c : Int) = _ ∧ rd (s.H ++ [_]) (c : Int) = _
    by_cases e : c = i
    · subst e; rw [rd_snoc_eq _ _ _ (by omega), rd_snoc_eq _ _ _ (by omega), rd_snoc_eq _ _ _ (by omega), if_pos he]; exact ⟨rfl, rfl, rfl⟩
    · rw [rd_snoc_lt _ _ _ (by omega), rd_snoc_lt _ _ _ (by omega), rd_snoc_lt _ _ _ (by omega)]; exact h.a c (by omega)
  · intro c hc
    show rdOf false (s.W.set i true) (c : Int) = _
    by_cases e : i = c
    · subst e; rw [rdB_eq _ _ _ (by omega)]; exact (decide_eq_true ⟨by omega, he⟩).symm
    · rw [rdB_ne _ _ _ _ (by omega) e, h.w c hc]
      exact decide_eq_decide.mpr ⟨fun q => ⟨by omega, q.2⟩, fun q => ⟨by omega, q.2⟩⟩
  · intro c hc hce
    show rd (s.F'.set i _) (c : Int) = _ ∧ rd (s.N'.set i _) (c : Int) = _
    by_cases e : i = c
    · subst e; rw [rd_eq _ _ _ (by omega), rd_eq _ _ _ (by omega)]; exact ⟨rfl, rfl⟩
    · rw [rd_ne _ _ _ _ (by omega) e, rd_ne _ _ _ _ (by omega) e]; exact h.b c (by omega) hce
  · show (s.fr ++ [(i : Int)]).Nodup
    rw [List.nodup_append]
    refine ⟨h.nd, by simp, ?_⟩
    intro x hx y hy hxy
    simp only [List.mem_singleton] at hy
    obtain ⟨c, hc, hci, _⟩ := (h.mem x).mp hx
    omega
  · intro x
    show x ∈ s.fr ++ [(i : Int)] ↔ _
    rw [List.mem_append, List.mem_singleton]
    constructor
    · rintro (hx | rfl)
      · obtain ⟨c, hc, hci, hce⟩ := (h.mem x).mp hx
        exact ⟨c, hc, by omega, hce⟩
      · exact ⟨i, rfl, by omega, he⟩
    · rintro ⟨c, hc, hci, hce⟩
      by_cases e : c = i
      · subst e; exact .inr hc
      · exact .inl ((h.mem x).mpr ⟨c, hc, by omega, hce⟩)
  · show (s.fr ++ [(i : Int)]).length + cnt p0 (s.H ++ [1]) ≤ i + 1
    rw [cnt_app]
    have := h.len
    simp [p0]
    omega

theorem ini_no {R C : Nat} {l : List Int} {i : Nat} {s : St} (h : Ini R C l i s) (hi : i < l.length) (he : ¬ edgeN R C i) : Ini R C l (i + 1) (no l i s) := by
  have h1 := h.lF; have h2 := h.lN; have h3 := h.lH; have h4 := h.lF'; have h5 := h.lN'; have h6 := h.lW
  refine ⟨by simp [no]; omega, by simp [no]; omega, by simp [no]; omega, h4, h5, h6, ?_, ?_, ?_, h.nd, ?_, ?_⟩
  · intro c hc
    show rd (s.F ++ [_]) (c : Int) = _ ∧ rd (s.N ++ [_]) (c : Int) = _ ∧ rd (s.H ++ [_]) (c : Int) = _
    by_cases e : c = i
    · subst e; rw [rd_snoc_eq _ _ _ (by omega), rd_snoc_eq _ _ _ (by omega), rd_snoc_eq _ _ _ (by omega), if_neg he]; exact ⟨rfl, rfl, rfl⟩
    · rw [rd_snoc_lt _ _ _ (by omega), rd_snoc_lt _ _ _ (by omega), rd_snoc_lt _ _ _ (by omega)]; exact h.a c (by omega)
  · intro c hc
    show rdOf false s.W (c : Int) = _
    rw [h.w c hc]
    refine decide_eq_decide.mpr ⟨fun q => ⟨by omega, q.2⟩, fun q => ⟨?_, q.2⟩⟩
    by_cases e : c = i
    · subst e; exact absurd q.2 he
    · omega
  · intro c hc hce
    have e : c ≠ i := fun e => by subst e; exact he hce
    exact h.b c (by omega) hce
  · intro x
    show x ∈ s.fr ↔ _
    rw [h.mem x]
    constructor
    · rintro ⟨c, hc, hci, hce⟩; exact ⟨c, hc, by omega, hce⟩
    · rintro ⟨c, hc, hci, hce⟩
      have e : c ≠ i := fun e => by subst e; exact he hce
      exact ⟨c, hc, by omega, hce⟩
  · show s.fr.length + cnt p0 (s.H ++ [0]) ≤ i + 1
    rw [cnt_app]
    have := h.len
    simp [p0]
    omega

theorem ini_rel {R C : Nat} {l : List Int} (hb : BoxR R C l) {s : St} (h : Ini R C l l.length s) : Rel l.length s ∧ (∀ c : Nat, c < l.length → c < C → rd s.H (c : Int) ≠ 0) ∧ (∀ c : Nat, c + C < l.length → rd s.H (c : Int) = 2 → rd s.H ((c + C : Nat) : Int) ≠ 0) := by
  refine ⟨⟨h.lF, h.lN, h.lH, h.lF', h.lN', h.lW, ?_, ?_, ?_, h.nd, ?_, h.len⟩, ?_, ?_⟩
  · intro c hc
    rw [h.w c hc, (h.a c hc).2.2]
    refine decide_eq_decide.mpr ?_
    split
    · rename_i he; exact ⟨fun _ => by omega, fun _ => ⟨hc, he⟩⟩
    · rename_i he; exact ⟨fun q => absurd q.2 he, fun q => absurd rfl q⟩
  · intro c hc
    rw [(h.a c hc).2.2]
    split
    · exact .inr (.inl rfl)
    · exact .inl rfl
  · intro c hc hne
    rw [(h.a c hc).2.2] at hne
    by_cases he : edgeN R C c
    · have h1 := h.a c hc; have h2 := h.b c hc he
      exact ⟨by rw [h2.1, h1.1], by rw [h2.2, h1.2.1]⟩
    · rw [if_neg he] at hne; exact absurd rfl hne
  · intro x
    rw [h.mem x]
    constructor
    · rintro ⟨c, hc, hci, hce⟩; exact ⟨c, hc, hci, by rw [(h.a c hci).2.2, if_pos hce]⟩
    · rintro ⟨c, hc, hci, h1⟩
      refine ⟨c, hc, hci, ?_⟩
      rw [(h.a c hci).2.2] at h1
      by_cases he : edgeN R C c
      · exact he
      · rw [if_neg he] at h1; omega
  · intro c hc hcC
    rw [(h.a c hc).2.2, if_pos (.inl (Nat.div_eq_of_lt hcC))]; omega
  · intro c hc h2
    rw [(h.a c (by omega)).2.2] at h2
    split at h2 <;> omega

theorem start_ev {R C : Nat} {l : List Int} (hb : BoxR R C l) : ∀ i, i ≤ l.length → ∀ s : St, Ini R C l i s →
    ∃ r, Ev (fun k => spec_Drain.l0 k s.F s.N s.H (i : Int) (R : Int) (C : Int) l) r ∧ Ev (fun k => impl_Drain.l0 k (l.length : Int) s.F' s.N' s.W s.fr (i : Int) (R : Int) (C : Int) l) r ∧ r.1.length = l.length ∧ r.2.length = l.length := by
  have hs := hb.small
  have hr0 := hb.r0; have hr1 := hb.r1; have hc0 := hb.c0; have hc1 := hb.c1
  have hRC : (R : Int) * (C : Int) = (l.length : Int) := by rw [← Int.natCast_mul, hb.n]
  refine up_ind (P := fun i => ∀ s : St, Ini R C l i s → ∃ r, Ev (fun k => spec_Drain.l0 k s.F s.N s.H (i : Int) (R : Int) (C : Int) l) r ∧ Ev (fun k => impl_Drain.l0 k (l.length : Int) s.F' s.N' s.W s.fr (i : Int) (R : Int) (C : Int) l) r ∧ r.1.length = l.length ∧ r.2.length = l.length) l.length ?_ ?_
  · intro s h
    obtain ⟨hr, ht, hd⟩ := ini_rel hb h
    obtain ⟨r, e1, e2, l1, l2⟩ := both_ev hb (cnt p2 s.H) s hr (Nat.le_refl _) ht hd
    refine ⟨r, Ev.step (fun k => ?_) e1, Ev.step (fun k => ?_) e2, l1, l2⟩
    · simp only [spec_Drain.l0]
      rw [hRC, w64 (n := (l.length : Int)) (by omega) (by omega), if_neg (by omega)]
    · simp only [impl_Drain.l0]
      rw [if_neg (by omega)]
  · intro i hi ih s h
    obtain ⟨q, m, w⟩ := cell_of R C i (by omega)
    have h1 := h.lF; have h2 := h.lN; have h3 := h.lH; have h4 := h.lF'; have h5 := h.lN'; have h6 := h.lW; have h7 := h.len
    by_cases he : edgeN R C i
    · obtain ⟨r, e1, e2, l1, l2⟩ := ih (yes l i s) (ini_yes h hi he)
      refine ⟨r, Ev.step (fun k => ?_) e1, Ev.step (fun k => ?_) e2, l1, l2⟩
      · simp only [spec_Drain.l0, Option.bind_some, specEdge hb i hi, decide_eq_true he, if_true]
        rw [hRC, w64 (n := (l.length : Int)) (by omega) (by omega), if_pos (by omega), if_pos (by omega), if_pos (by omega), if_pos (by omega), if_pos (by omega), if_pos (by omega), if_pos (by simp; omega), w64 (n := (i : Int) + 1) (by omega) (by omega), Int.toNat_natCast, set_snoc _ _ _ _ (by omega)]
        rfl
      · have go : ∀ k, (if s.fr.length < 17592186044416 then (if 0 ≤ (i : Int) then (if (i : Int) < (l.length : Int) then (if (i : Int) < (s.W.length : Int) then (if (i : Int) < (s.F'.length : Int) then (if (i : Int) < (s.N'.length : Int) then (impl_Drain.l0 k (l.length : Int) (s.F'.set (i : Int).toNat (rd l (i : Int))) (s.N'.set (i : Int).toNat (-1)) (s.W.set (i : Int).toNat true) (s.fr ++ [(i : Int)]) (wrap64 ((i : Int) + 1)) (R : Int) (C : Int) l) else (none)) else (none)) else (none)) else (none)) else (none)) else (none)) = impl_Drain.l0 k (l.length : Int) (yes l i s).F' (yes l i s).N' (yes l i s).W (yes l i s).fr ((i + 1 : Nat) : Int) (R : Int) (C : Int) l := by
          intro k
          rw [if_pos (by omega), if_pos (by omega), if_pos (by omega), if_pos (by omega), if_pos (by omega), if_pos (by omega), w64 (n := (i : Int) + 1) (by omega) (by omega), Int.toNat_natCast]
          rfl
        simp only [impl_Drain.l0]
        rw [if_pos (by omega), if_neg (by omega), q, m, w, w64 (n := (R : Int) - 1) (by omega) (by omega), w64 (n := (C : Int) - 1) (by omega) (by omega), go k]
        unfold edgeN at he
        generalize i / C = x at he
        generalize i % C = y at he
        by_cases g1 : x = 0
        · rw [if_pos (by omega)]
        rw [if_neg (by omega)]
        by_cases g2 : y = 0
        · rw [if_pos (by omega)]
        rw [if_neg (by omega)]
        by_cases g3 : x = R - 1
        · rw [if_pos (by omega)]
        rw [if_neg (by omega), if_pos (by omega)]
    · obtain ⟨r, e1, e2, l1, l2⟩ := ih (no l i s) (ini_no h hi he)
      refine ⟨r, Ev.step (fun k => ?_) e1, Ev.step (fun k => ?_) e2, l1, l2⟩
      · simp only [spec_Drain.l0, Option.bind_some, specEdge hb i hi, decide_eq_false he, Bool.false_eq_true, if_false]
        rw [hRC, w64 (n := (l.length : Int)) (by omega) (by omega), if_pos (by omega), if_pos (by omega), if_pos (by omega), if_pos (by omega), if_pos (by omega), if_pos (by omega), w64 (n := (i : Int) + 1) (by omega) (by omega)]
        rfl
      · simp only [impl_Drain.l0]
        rw [if_pos (by omega), if_neg (by omega), q, m, w, w64 (n := (R : Int) - 1) (by omega) (by omega), w64 (n := (C : Int) - 1) (by omega) (by omega), w64 (n := (i : Int) + 1) (by omega) (by omega)]
        unfold edgeN at he
        generalize i / C = x at he
        generalize i % C = y at he
        rw [if_neg (by omega), if_neg (by omega), if_neg (by omega), if_neg (by omega)]
        rfl

/-- whether a box is right -/
def boxB (R C : Int) (l : List Int) : Bool := (inB R 1 24 && inB C 1 24) && (decide ((l.length : Int) = R * C) && l.all (fun x => inB x (-1000000000) 1000000000))

theorem specBox_ev (R C : Int) (l : List Int) (hl : l.length ≤ 1048576) : Ev (fun k => spec_BoxOk.f k R C l) (boxB R C l) := by
  have jbad : Ev (fun k => spec_BoxOk.j0 k true R C l) false := Ev.step (f := fun _ => some false) (fun k => by simp only [spec_BoxOk.j0, if_true]) (Ev.now _)
  unfold spec_BoxOk.f boxB
  simp only [specIn, Option.bind_some]
  cases h1 : inB R 1 24 with
  | false => simpa using jbad
  | true =>
    cases h2 : inB C 1 24 with
    | false => simpa using jbad
    | true =>
      have h1' := (inB_iff _ _ _).mp h1; have h2' := (inB_iff _ _ _).mp h2
      have hm := mul_bd (a := R) (b := C) (A := 24) (B := 24) (by omega) (by omega) (by omega) (by omega)
      simp only [if_true, Bool.true_and, w64 (n := R * C) (show -9223372036854775808 ≤ R * C by omega) (show R * C ≤ 9223372036854775807 by omega)]
      by_cases he : (l.length : Int) = R * C
      · rw [decide_eq_true he, Bool.true_and, show ((l.length : Int) != R * C) = false by simp [he]]
        refine Ev.step (f := fun k => spec_BoxOk.l0 k 0 R C l) (fun k => by simp only [spec_BoxOk.j0]; rfl) ?_
        have key := Ev_up (fun k i => spec_BoxOk.l0 k (i : Int) R C l) (fun i => (l.drop i).all (fun x => inB x (-1000000000) 1000000000)) l.length (by
          refine Ev.step (f := fun _ => some true) (fun k => ?_) (by simpa using Ev.now true)
          simp only [spec_BoxOk.l0]
          rw [if_neg (by omega)]) (by
          intro i hi ih
          refine Ev.step (f := fun k => if inB l[i] (-1000000000) 1000000000 = true then spec_BoxOk.l0 k ((i + 1 : Nat) : Int) R C l else some false) (fun k => ?_) ?_
          · simp only [spec_BoxOk.l0, specIn, Option.bind_some]
            rw [if_pos (by omega), if_pos (by omega), rd_lt l i hi, w64 (n := (i : Int) + 1) (by omega) (by omega)]
            rfl
          · rw [mem_range_get l _ i hi]
            cases hb : inB l[i] (-1000000000) 1000000000 with
            | true => simpa using ih
            | false => simpa using Ev.now false) 0 (Nat.zero_le _)
        simpa using key
      · rw [decide_eq_false he, Bool.false_and, show ((l.length : Int) != R * C) = true by simp [he]]
        exact jbad

theorem implBox_ev (R C : Int) (l : List Int) (hl : l.length ≤ 1048576) : Ev (fun k => impl_BoxOk.f k R C l) (boxB R C l) := by
  have jbad : Ev (fun k => impl_BoxOk.j0 k true R C l) false := Ev.step (f := fun _ => some false) (fun k => by simp only [impl_BoxOk.j0, if_true]) (Ev.now _)
  unfold impl_BoxOk.f boxB
  simp only [implIn, Option.bind_some]
  cases h1 : inB R 1 24 with
  | false => simpa using jbad
  | true =>
    cases h2 : inB C 1 24 with
    | false => simpa using jbad
    | true =>
      have h1' := (inB_iff _ _ _).mp h1; have h2' := (inB_iff _ _ _).mp h2
      have hm := mul_bd (a := R) (b := C) (A := 24) (B := 24) (by omega) (by omega) (by omega) (by omega)
      simp only [if_true, Bool.true_and, w64 (n := R * C) (show -9223372036854775808 ≤ R * C by omega) (show R * C ≤ 9223372036854775807 by omega)]
      by_cases he : (l.length : Int) = R * C
      · rw [decide_eq_true he, Bool.true_and, show ((l.length : Int) != R * C) = false by simp [he]]
        refine Ev.step (f := fun k => impl_BoxOk.l0 k l (l.length : Int) 0) (fun k => by simp only [impl_BoxOk.j0]; rfl) ?_
        have key := Ev_up (fun k i => impl_BoxOk.l0 k l (l.length : Int) (i : Int)) (fun i => (l.drop i).all (fun x => inB x (-1000000000) 1000000000)) l.length (by
          refine Ev.step (f := fun _ => some true) (fun k => ?_) (by simpa using Ev.now true)
          simp only [impl_BoxOk.l0]
          rw [if_neg (by omega)]) (by
          intro i hi ih
          refine Ev.step (f := fun k => if inB l[i] (-1000000000) 1000000000 = true then impl_BoxOk.l0 k l (l.length : Int) ((i + 1 : Nat) : Int) else some false) (fun k => ?_) ?_
          · simp only [impl_BoxOk.l0, implIn, Option.bind_some]
            rw [if_pos (by omega), if_pos (by omega), if_pos (by omega), rd_lt l i hi, w64 (n := (i : Int) + 1) (by omega) (by omega)]
            rfl
          · rw [mem_range_get l _ i hi]
            cases hb : inB l[i] (-1000000000) 1000000000 with
            | true => simpa using ih
            | false => simpa using Ev.now false) 0 (Nat.zero_le _)
        simpa using key
      · rw [decide_eq_false he, Bool.false_and, show ((l.length : Int) != R * C) = true by simp [he]]
        exact jbad

theorem drain_both (R C : Int) (l : List Int) (hl : l.length ≤ 1048576) : ∃ r, Ev (fun k => spec_Drain.f k R C l) r ∧ Ev (fun k => impl_Drain.f k R C l) r ∧ r.1.length ≤ 1048576 ∧ r.2.length ≤ 1048576 := by
  cases hb : boxB R C l with
  | false =>
    refine ⟨([], []), ?_, ?_, by simp, by simp⟩
    · unfold spec_Drain.f
      simp only [Option.bind_some]
      refine Ev_bind _ (specBox_ev R C l hl) ?_
      rw [hb]
      simpa using Ev.now (([], []) : List Int × List Int)
    · unfold impl_Drain.f
      refine Ev_bind _ (implBox_ev R C l hl) ?_
      rw [hb]
      simpa using Ev.now (([], []) : List Int × List Int)
  | true =>
    have hb' := hb
    unfold boxB at hb'
    simp only [Bool.and_eq_true, decide_eq_true_eq] at hb'
    obtain ⟨⟨h1, h2⟩, he, _⟩ := hb'
    have h1' := (inB_iff _ _ _).mp h1; have h2' := (inB_iff _ _ _).mp h2
    obtain ⟨R', rfl⟩ : ∃ R' : Nat, R = (R' : Int) := ⟨R.toNat, by omega⟩
    obtain ⟨C', rfl⟩ : ∃ C' : Nat, C = (C' : Int) := ⟨C.toNat, by omega⟩
    have hbx : BoxR R' C' l := ⟨by omega, by omega, by omega, by omega, by rw [← Int.natCast_mul] at he; omega⟩
    have hs := hbx.small
    obtain ⟨r, e1, e2, l1, l2⟩ := start_ev hbx 0 (Nat.zero_le _) ⟨[], [], [], List.replicate l.length 0, List.replicate l.length 0, List.replicate l.length false, []⟩ (by
      refine ⟨rfl, rfl, rfl, by simp, by simp, by simp, fun c hc => absurd hc (by omega), ?_, fun c hc => absurd hc (by omega), by simp, ?_, by simp [cnt]⟩
      · intro c hc
        show rdOf false (List.replicate l.length false) (c : Int) = _
        rw [rdB _ c (by simpa using hc)]
        simp
      · intro x
        constructor
        · intro hx; cases hx
        · rintro ⟨c, _, hc, _⟩; omega)
    refine ⟨r, ?_, ?_, by omega, by omega⟩
    · unfold spec_Drain.f
      simp only [Option.bind_some]
      refine Ev_bind _ (specBox_ev _ _ l hl) ?_
      rw [hb]
      simpa using e1
    · unfold impl_Drain.f
      refine Ev_bind _ (implBox_ev _ _ l hl) ?_
      rw [hb]
      simp only [if_true, ← he, w64 (n := (l.length : Int)) (show -9223372036854775808 ≤ (l.length : Int) by omega) (show (l.length : Int) ≤ 9223372036854775807 by omega), Int.toNat_natCast, if_pos (show 0 ≤ (l.length : Int) by omega), if_pos (show l.length ≤ 35184372088832 by omega), if_pos (show l.length ≤ 281474976710656 by omega)]
      exact e2
end Go.Proofs.Ytopfdmodbhopiaa.QFnExactDrain
