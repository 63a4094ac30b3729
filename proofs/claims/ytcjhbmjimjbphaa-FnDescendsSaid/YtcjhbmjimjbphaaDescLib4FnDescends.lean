/- The descent: from each point that costs no more than what a first point can cost, the program and the reference make the same moves. Conditions: the problem is right. -/
import Derived.Test.YtcjhbmjimjbphaaDescLib3FnDescends
set_option linter.unusedVariables false
set_option linter.unusedSimpArgs false
namespace Go.Proofs.Ytcjhbmjimjbphaa.QFnDescends
open Go.RowKit Go.Proofs.YtcjhbmjimjbphaaW.PrintWords Go.Proofs.Ytcjhbmjimjbphaa.Opn Go.Proofs.Ytcjhbmjimjbphaa.Pl

def C0 : Int := 24100000000

structure Right (n : Nat) (g t : List Int) (rows : List S52) : Prop where
  n1 : 1 ≤ n
  n6 : n ≤ 6
  r20 : rows.length ≤ 20
  lg : g.length = n
  lt : t.length = n
  lh : ∀ q, q ∈ rows → (S52.f0 q).length = n
  g : ∀ i : Nat, i < n → -500 ≤ rd g (i : Int) ∧ rd g (i : Int) ≤ 500
  t : ∀ i : Nat, i < n → 1 ≤ rd t (i : Int) ∧ rd t (i : Int) ≤ 5
  h : ∀ k : Nat, k < rows.length → ∀ i : Nat, i < n → -5 ≤ rd (rd_T52 rows (k : Int)).f0 (i : Int) ∧ rd (rd_T52 rows (k : Int)).f0 (i : Int) ≤ 5
  y : ∀ k : Nat, k < rows.length → -500 ≤ (rd_T52 rows (k : Int)).f1 ∧ (rd_T52 rows (k : Int)).f1 ≤ 500
  w : ∀ k : Nat, k < rows.length → 1 ≤ (rd_T52 rows (k : Int)).f2 ∧ (rd_T52 rows (k : Int)).f2 ≤ 5

theorem right_of (n : Int) (g t : List Int) (rows : List S52) (h : okB n g t rows = true) : Right n.toNat g t rows ∧ (n.toNat : Int) = n := by
  simp only [okB, eachB, rowB, inB, Bool.and_eq_true, decide_eq_true_eq, List.all_eq_true] at h
  obtain ⟨⟨h1, h2⟩, ⟨h3, h3'⟩, ⟨h4, h4'⟩, h5, h6⟩ := h
  refine ⟨⟨by omega, by omega, h5, by omega, by omega, fun q hq => by have := (h6 q hq).1.1; omega, ?_, ?_, ?_, ?_, ?_⟩, by omega⟩
  · intro i hi
    rw [rd_lt g i (by omega)]
    exact h3' _ (List.getElem_mem _)
  · intro i hi
    rw [rd_lt t i (by omega)]
    exact h4' _ (List.getElem_mem _)
  · intro k hk i hi
    have hr := h6 _ (List.getElem_mem hk)
    rw [rdT52 rows k hk, rd_lt _ i (by have := hr.1.1; omega)]
    exact hr.1.2 _ (List.getElem_mem _)
  · intro k hk
    have hr := h6 _ (List.getElem_mem hk)
    rw [rdT52 rows k hk]
    exact hr.2.1
  · intro k hk
    have hr := h6 _ (List.getElem_mem hk)
    rw [rdT52 rows k hk]
    exact hr.2.2

structure OnWay (n : Nat) (x g t : List Int) (rows : List S52) : Prop where
  len : x.length = n
  c : costZ x g t rows n ≤ C0

theorem costZ_nn {n : Nat} {g t : List Int} {rows : List S52} (hr : Right n g t rows) (x : List Int) : 0 ≤ offZ x g t n ∧ 0 ≤ rowsZ x rows n := by
  constructor
  · refine sumZ_nn n (fun i hi => ?_)
    have := hr.t i hi
    rw [Int.mul_assoc]
    exact mul_nn (by omega) (sq_nn _)
  · refine sumZ_nn rows.length (fun k hk => ?_)
    have := hr.w k hk
    rw [Int.mul_assoc]
    exact mul_nn (by omega) (sq_nn _)

theorem sq_lt {q : Int} (h : q * q ≤ 24100000000) : -155242 < q ∧ q < 155242 := by
  constructor
  · rcases Int.lt_or_le (-155242) q with h' | h'
    · exact h'
    · have := Int.mul_le_mul (a := 155242) (b := 155242) (c := -q) (d := -q) (by omega) (by omega) (by omega) (by omega)
      rw [Int.neg_mul_neg] at this
      omega
  · rcases Int.lt_or_le q 155242 with h' | h'
    · exact h'
    · have := Int.mul_le_mul (a := 155242) (b := 155242) (c := q) (d := q) (by omega) (by omega) (by omega) (by omega)
      omega

theorem onway_near {n : Nat} {x g t : List Int} {rows : List S52} (hr : Right n g t rows) (ho : OnWay n x g t rows) : ∀ i : Nat, i < n → -155742 ≤ rd x (i : Int) ∧ rd x (i : Int) ≤ 155742 := by
  intro i hi
  have hnn := costZ_nn hr x
  have hc := ho.c
  unfold costZ C0 at hc
  have ht := hr.t i hi
  have hg := hr.g i hi
  have h1 := sumZ_le (f := fun i : Nat => rd t (i : Int) * (rd x (i : Int) - rd g (i : Int)) * (rd x (i : Int) - rd g (i : Int))) n i (fun j hj => by
    have := hr.t j hj
    rw [Int.mul_assoc]
    exact mul_nn (by omega) (sq_nn _)) hi
  have h2 : rd t (i : Int) * (rd x (i : Int) - rd g (i : Int)) * (rd x (i : Int) - rd g (i : Int)) ≤ offZ x g t n := h1
  obtain ⟨q, hq⟩ : ∃ q, q = rd x (i : Int) - rd g (i : Int) := ⟨_, rfl⟩
  rw [← hq, Int.mul_assoc] at h2
  have h3 := Int.mul_le_mul_of_nonneg_right (a := 1) (b := rd t (i : Int)) (c := q * q) (by omega) (sq_nn q)
  have h4 := sq_lt (q := q) (by omega)
  omega

theorem ready_of {n : Nat} {x g t : List Int} {rows : List S52} (hr : Right n g t rows) (ho : OnWay n x g t rows) (i : Nat) (hi : i < n) : Ready n x g t rows i := by
  have hx := onway_near hr ho
  have hl := ho.len
  have ha : 1 ≤ aZ t rows i ∧ aZ t rows i ≤ 2505 := by
    have hb : ∀ k : Nat, k < rows.length → 0 ≤ (rd_T52 rows (k : Int)).f2 * rd (rd_T52 rows (k : Int)).f0 (i : Int) * rd (rd_T52 rows (k : Int)).f0 (i : Int) ∧ (rd_T52 rows (k : Int)).f2 * rd (rd_T52 rows (k : Int)).f0 (i : Int) * rd (rd_T52 rows (k : Int)).f0 (i : Int) ≤ 125 := by
      intro k hk
      have h1 := hr.w k hk
      have h2 := hr.h k hk i hi
      have m := term_bd (a := (rd_T52 rows (k : Int)).f2) (q := rd (rd_T52 rows (k : Int)).f0 (i : Int)) (A := 5) (Q := 5) (by omega) (by omega) h2.1 h2.2
      omega
    have h0 := sumZ_nn rows.length (fun k hk => (hb k hk).1)
    have h1 := sumZ_bd 125 rows.length (fun k hk => ⟨by have := (hb k hk).1; omega, (hb k hk).2⟩)
    have hm := mulb rows.length 125 20 hr.r20 (by omega)
    have ht := hr.t i hi
    unfold aZ
    omega
  have move : ∀ u : Int, 0 ≤ costZ x g t rows n + (aZ t rows i * u * u + 2 * bZ x g t rows n i * u) := by
    intro u
    rw [← cost_set x g t rows n i hi hl u]
    have := costZ_nn hr (x.set i (rd x (i : Int) + u))
    unfold costZ
    omega
  have hc := ho.c
  unfold C0 at hc
  refine ⟨⟨by have := hr.n6; omega, hl, hr.lg, hr.lt, by have := hr.r20; omega, hr.lh⟩, ⟨hr.n6, hr.r20, fun j hj => by have := hx j hj; omega, hr.g, hr.t, hr.h, hr.y, hr.w⟩, fun j hj => by have := hx j hj; omega, hi, ha, ?_, ?_⟩
  · have := move 155242
    rcases Int.lt_or_le (-(155242 * aZ t rows i)) (bZ x g t rows n i) with h | h
    · exact h
    · exfalso; omega
  · have := move (-155242)
    rcases Int.lt_or_le (bZ x g t rows n i) (155242 * aZ t rows i) with h | h
    · exact h
    · exfalso; omega

inductive Run (n most : Nat) (g t : List Int) (rows : List S52) : List Int → List S50 → Bool → Nat → List S50 → Prop
  | done (x : List Int) (out : List S50) : Run n most g t rows x out false n out
  | again (x : List Int) (out r : List S50) : Run n most g t rows x out false 0 r → Run n most g t rows x out true n r
  | full (x : List Int) (out : List S50) (on : Bool) (i : Nat) : i < n → out.length = most → Run n most g t rows x out on i out
  | skip (x : List Int) (out r : List S50) (on : Bool) (i : Nat) : i < n → out.length < most → Best (aZ t rows i) (bZ x g t rows n i) 0 → Run n most g t rows x out on (i + 1) r → Run n most g t rows x out on i r
  | move (x : List Int) (out r : List S50) (on : Bool) (i : Nat) (u : Int) : i < n → out.length < most → u ≠ 0 → Best (aZ t rows i) (bZ x g t rows n i) u →
      Run n most g t rows (x.set i (rd x (i : Int) + u)) (out ++ [(⟨(i : Int), u, costZ (x.set i (rd x (i : Int) + u)) g t rows n⟩ : S50)]) true (i + 1) r → Run n most g t rows x out on i r

theorem onway_move {n : Nat} {x g t : List Int} {rows : List S52} (hr : Right n g t rows) (ho : OnWay n x g t rows) (i : Nat) (hi : i < n) {u : Int} (hb : Best (aZ t rows i) (bZ x g t rows n i) u) (hu : u ≠ 0) :
    OnWay n (x.set i (rd x (i : Int) + u)) g t rows ∧ costZ (x.set i (rd x (i : Int) + u)) g t rows n < costZ x g t rows n := by
  have hd := ready_of hr ho i hi
  have h1 := cost_set x g t rows n i hi ho.len u
  have h2 := best_lower (by have := hd.ha; omega) hb hu
  have hc := ho.c
  exact ⟨⟨by rw [List.length_set]; exact ho.len, by omega⟩, by omega⟩

theorem run_total {n most : Nat} {g t : List Int} {rows : List S52} (hr : Right n g t rows) (hm : most ≤ 500) :
    ∀ d, ∀ (x : List Int) (out : List S50), out.length + d = most → OnWay n x g t rows → ∀ on i, i ≤ n → ∃ r, Run n most g t rows x out on i r := by
  intro d
  induction d with
  | zero =>
    intro x out hd ho
    have hfull : ∀ on i, i < n → ∃ r, Run n most g t rows x out on i r := fun on i hi => ⟨out, .full x out on i hi (by omega)⟩
    intro on i hi
    by_cases h : i < n
    · exact hfull on i h
    · have : i = n := by omega
      subst this
      cases on
      · exact ⟨out, .done x out⟩
      · obtain ⟨r, h⟩ := hfull false 0 hr.n1
        exact ⟨r, .again x out r h⟩
  | succ d ih =>
    intro x out hd ho
    have phase : ∀ on, (∃ r, Run n most g t rows x out on n r) → ∀ e i, i + e = n → ∃ r, Run n most g t rows x out on i r := by
      intro on hend e
      induction e with
      | zero => intro i hi; rw [show i = n by omega]; exact hend
      | succ e ihe =>
        intro i hi
        obtain ⟨u, hb, _, _⟩ := bothBest (ready_of hr ho i (by omega)) 0
        by_cases hu : u = 0
        · subst hu
          obtain ⟨r, h⟩ := ihe (i + 1) (by omega)
          exact ⟨r, .skip x out r on i (by omega) (by omega) hb h⟩
        · obtain ⟨ho', _⟩ := onway_move hr ho i (by omega) hb hu
          obtain ⟨r, h⟩ := ih _ (out ++ [(⟨(i : Int), u, costZ (x.set i (rd x (i : Int) + u)) g t rows n⟩ : S50)]) (by rw [List.length_append]; simp; omega) ho' true (i + 1) (by omega)
          exact ⟨r, .move x out r on i u (by omega) (by omega) hu hb h⟩
    have hf := phase false ⟨out, .done x out⟩
    intro on i hi
    cases on
    · exact hf (n - i) i (by omega)
    · obtain ⟨r, h⟩ := hf n 0 (by omega)
      exact phase true ⟨r, .again x out r h⟩ (n - i) i (by omega)

theorem best_unique {n : Nat} {x g t : List Int} {rows : List S52} {i : Nat} (hd : Ready n x g t rows i) {u v : Int} (hu : Best (aZ t rows i) (bZ x g t rows n i) u) (hv : Best (aZ t rows i) (bZ x g t rows n i) v) : u = v :=
  best_eq (by have := hd.ha; omega) hu hv

theorem run_impl {n most : Nat} {g t : List Int} {rows : List S52} (hr : Right n g t rows) (hm : most ≤ 500) {x : List Int} {out : List S50} {on : Bool} {i : Nat} {r : List S50} (h : Run n most g t rows x out on i r) :
    OnWay n x g t rows → out.length ≤ most → Ev (fun k => impl_Descend.l1 k x (most : Int) out on (x.length : Int) (i : Int) (n : Int) g t rows) (r, true) := by
  induction h with
  | done x out =>
    intro ho hl
    refine Ev.step (f := fun _ => some (out, true)) (fun k => ?_) (Ev.now _)
    simp only [impl_Descend.l1]
    rw [if_neg (by rw [ho.len]; omega), if_neg (by simp)]
  | again x out r _ ih =>
    intro ho hl
    refine Ev.step (f := fun k => impl_Descend.l0 k x (most : Int) out (n : Int) g t rows) (fun k => ?_) ?_
    · simp only [impl_Descend.l1]
      rw [if_neg (by rw [ho.len]; omega), if_pos True.intro]
    · exact Ev.step (fun k => by simp only [impl_Descend.l0]; rfl) (ih ho hl)
  | full x out on i hi hl' =>
    intro ho hl
    refine Ev.step (f := fun _ => some (out, true)) (fun k => ?_) (Ev.now _)
    simp only [impl_Descend.l1]
    rw [if_pos (by rw [ho.len]; omega), if_pos (by omega)]
  | skip x out r on i hi hl' hb _ ih =>
    intro ho hl
    have hd := ready_of hr ho i hi
    obtain ⟨u, hu, _, eu⟩ := bothBest hd (n : Int)
    have := best_unique hd hu hb
    subst this
    have hn6 := hr.n6
    refine Ev.step (f := fun k => (impl_best.f k (n : Int) g t rows x (i : Int)).bind fun t265 => if t265 = 0 then impl_Descend.l1 k x (most : Int) out on (x.length : Int) ((i + 1 : Nat) : Int) (n : Int) g t rows else (if 0 ≤ (i : Int) then (if (i : Int) < (x.length : Int) then ((some (x.set i (wrap64 ((rd x (i : Int)) + t265)) : List Int)).bind fun y267 => ((impl_cost.f k (n : Int) g t rows y267).bind fun t268 => (if out.length < 5864062014805 then (impl_Descend.l1 k y267 (most : Int) (out ++ [(⟨(i : Int), t265, t268⟩ : S50)]) true (x.length : Int) ((i + 1 : Nat) : Int) (n : Int) g t rows) else (none)))) else (none)) else (none))) (fun k => ?_) (Ev_bind _ eu (by simpa using ih ho hl))
    simp only [impl_Descend.l1]
    rw [if_pos (by rw [ho.len]; omega), if_neg (by omega), w64 (n := (i : Int) + 1) (by omega) (by omega)]
    rfl
  | move x out r on i u hi hl' hu0 hb _ ih =>
    intro ho hl
    have hd := ready_of hr ho i hi
    obtain ⟨v, hv, _, ev⟩ := bothBest hd (n : Int)
    have := best_unique hd hv hb
    subst this
    have hn6 := hr.n6
    obtain ⟨ho', _⟩ := onway_move hr ho i hi hb hu0
    have hlen := ho.len
    refine Ev.step (f := fun k => (impl_best.f k (n : Int) g t rows x (i : Int)).bind fun t265 => if t265 = 0 then impl_Descend.l1 k x (most : Int) out on (x.length : Int) ((i + 1 : Nat) : Int) (n : Int) g t rows else (if 0 ≤ (i : Int) then (if (i : Int) < (x.length : Int) then ((some (x.set i (wrap64 ((rd x (i : Int)) + t265)) : List Int)).bind fun y267 => ((impl_cost.f k (n : Int) g t rows y267).bind fun t268 => (if out.length < 5864062014805 then (impl_Descend.l1 k y267 (most : Int) (out ++ [(⟨(i : Int), t265, t268⟩ : S50)]) true (x.length : Int) ((i + 1 : Nat) : Int) (n : Int) g t rows) else (none)))) else (none)) else (none))) (fun k => ?_) (Ev_bind _ ev ?_)
    · simp only [impl_Descend.l1]
      rw [if_pos (by omega), if_neg (by omega), w64 (n := (i : Int) + 1) (by omega) (by omega)]
      rfl
    · have hx' := onway_near hr ho' i hi
      rw [rd_set_same x i (by omega)] at hx'
      simp only [if_neg hu0, if_pos (show 0 ≤ (i : Int) by omega), if_pos (show (i : Int) < (x.length : Int) by omega), Option.bind_some, if_pos (show out.length < 5864062014805 by omega)]
      rw [w64 (n := rd x (i : Int) + v) (by omega) (by omega)]
      have hd' := ready_of hr ho' i hi
      refine Ev_bind _ (implCost_ev n _ g t rows hd'.hf (n : Int)) ?_
      rw [(cost_eq hd'.hn).1]
      have h2 := ih ho' (by rw [List.length_append]; simp; omega)
      rw [List.length_set] at h2
      exact h2

theorem spec_full {n most : Nat} {g t : List Int} {rows : List S52} (hr : Right n g t rows) {x : List Int} {out : List S50} (ho : OnWay n x g t rows) (hl : out.length = most) :
    ∀ on i, i ≤ n → Ev (fun k => spec_Descend.l1 k x (most : Int) out on (i : Int) (n : Int) g t rows) (out, true) := by
  have hn6 := hr.n6
  have phase : ∀ on, Ev (fun k => spec_Descend.l0 k x (most : Int) out on (n : Int) g t rows) (out, true) → ∀ e i, i + e = n → Ev (fun k => spec_Descend.l1 k x (most : Int) out on (i : Int) (n : Int) g t rows) (out, true) := by
    intro on hend e
    induction e with
    | zero =>
      intro i hi
      refine Ev.step (fun k => ?_) hend
      simp only [spec_Descend.l1]
      rw [if_neg (by omega)]
    | succ e ihe =>
      intro i hi
      obtain ⟨u, hb, eu, _⟩ := bothBest (ready_of hr ho i (by omega)) 0
      have ih := ihe (i + 1) (by omega)
      have hlen := ho.len
      refine Ev.step (f := fun k => (spec_l15Best.f k (n : Int) g t rows x (i : Int)).bind fun t212 => if t212 = 0 then spec_Descend.l1 k x (most : Int) out on ((i + 1 : Nat) : Int) (n : Int) g t rows else some (out, true)) (fun k => ?_) (Ev_bind _ eu ?_)
      · simp only [spec_Descend.l1]
        rw [if_pos (by omega), w64 (n := (i : Int) + 1) (by omega) (by omega)]
        simp only [if_pos (show (out.length : Int) = (most : Int) by omega)]
        rfl
      · by_cases hu : u = 0
        · simp only [if_pos hu]; exact ih
        · simp only [if_neg hu]; exact Ev.now _
  have hf : Ev (fun k => spec_Descend.l0 k x (most : Int) out false (n : Int) g t rows) (out, true) := by
    refine Ev.step (f := fun _ => some (out, true)) (fun k => ?_) (Ev.now _)
    simp only [spec_Descend.l0]
    rw [if_neg (by simp)]
  have h0 := phase false hf n 0 (by omega)
  intro on i hi
  cases on
  · exact phase false hf (n - i) i (by omega)
  · refine phase true (Ev.step (fun k => ?_) h0) (n - i) i (by omega)
    simp only [spec_Descend.l0]
    rw [if_pos True.intro]
    rfl

theorem run_spec {n most : Nat} {g t : List Int} {rows : List S52} (hr : Right n g t rows) (hm : most ≤ 500) {x : List Int} {out : List S50} {on : Bool} {i : Nat} {r : List S50} (h : Run n most g t rows x out on i r) :
    OnWay n x g t rows → out.length ≤ most → Ev (fun k => spec_Descend.l1 k x (most : Int) out on (i : Int) (n : Int) g t rows) (r, true) := by
  induction h with
  | done x out =>
    intro ho hl
    refine Ev.step (f := fun k => spec_Descend.l0 k x (most : Int) out false (n : Int) g t rows) (fun k => ?_) (Ev.step (f := fun _ => some (out, true)) (fun k => ?_) (Ev.now _))
    · simp only [spec_Descend.l1]
      rw [if_neg (by omega)]
    · simp only [spec_Descend.l0]
      rw [if_neg (by simp)]
  | again x out r _ ih =>
    intro ho hl
    refine Ev.step (f := fun k => spec_Descend.l0 k x (most : Int) out true (n : Int) g t rows) (fun k => ?_) ?_
    · simp only [spec_Descend.l1]
      rw [if_neg (by omega)]
    · refine Ev.step (fun k => ?_) (ih ho hl)
      simp only [spec_Descend.l0]
      rw [if_pos True.intro]
      rfl
  | full x out on i hi hl' =>
    intro ho hl
    exact spec_full hr ho hl' on i (by omega)
  | skip x out r on i hi hl' hb _ ih =>
    intro ho hl
    have hd := ready_of hr ho i hi
    obtain ⟨u, hu, eu, _⟩ := bothBest hd (n : Int)
    have := best_unique hd hu hb
    subst this
    have hn6 := hr.n6
    refine Ev.step (f := fun k => (spec_l15Best.f k (n : Int) g t rows x (i : Int)).bind fun t212 => if t212 = 0 then spec_Descend.l1 k x (most : Int) out on ((i + 1 : Nat) : Int) (n : Int) g t rows else (if (out.length : Int) = (most : Int) then (some (out, true)) else (if 0 ≤ (i : Int) then (if (i : Int) < (x.length : Int) then ((some (x.set i (wrap64 ((rd x (i : Int)) + t212)) : List Int)).bind fun y214 => ((spec_l15Cost.f k (n : Int) g t rows y214).bind fun t215 => (if out.length < 5864062014805 then (spec_Descend.l1 k y214 (most : Int) (out ++ [(⟨(i : Int), t212, t215⟩ : S50)]) true ((i + 1 : Nat) : Int) (n : Int) g t rows) else (none)))) else (none)) else (none)))) (fun k => ?_) (Ev_bind _ eu (by simpa using ih ho hl))
    simp only [spec_Descend.l1]
    rw [if_pos (by omega), w64 (n := (i : Int) + 1) (by omega) (by omega)]
    rfl
  | move x out r on i u hi hl' hu0 hb _ ih =>
    intro ho hl
    have hd := ready_of hr ho i hi
    obtain ⟨v, hv, ev, _⟩ := bothBest hd (n : Int)
    have := best_unique hd hv hb
    subst this
    have hn6 := hr.n6
    obtain ⟨ho', _⟩ := onway_move hr ho i hi hb hu0
    have hlen := ho.len
    refine Ev.step (f := fun k => (spec_l15Best.f k (n : Int) g t rows x (i : Int)).bind fun t212 => if t212 = 0 then spec_Descend.l1 k x (most : Int) out on ((i + 1 : Nat) : Int) (n : Int) g t rows else (if (out.length : Int) = (most : Int) then (some (out, true)) else (if 0 ≤ (i : Int) then (if (i : Int) < (x.length : Int) then ((some (x.set i (wrap64 ((rd x (i : Int)) + t212)) : List Int)).bind fun y214 => ((spec_l15Cost.f k (n : Int) g t rows y214).bind fun t215 => (if out.length < 5864062014805 then (spec_Descend.l1 k y214 (most : Int) (out ++ [(⟨(i : Int), t212, t215⟩ : S50)]) true ((i + 1 : Nat) : Int) (n : Int) g t rows) else (none)))) else (none)) else (none)))) (fun k => ?_) (Ev_bind _ ev ?_)
    · simp only [spec_Descend.l1]
      rw [if_pos (by omega), w64 (n := (i : Int) + 1) (by omega) (by omega)]
      rfl
    · have hx' := onway_near hr ho' i hi
      rw [rd_set_same x i (by omega)] at hx'
      simp only [if_neg hu0, if_neg (show ¬ (out.length : Int) = (most : Int) by omega), if_pos (show 0 ≤ (i : Int) by omega), if_pos (show (i : Int) < (x.length : Int) by omega), Option.bind_some, if_pos (show out.length < 5864062014805 by omega)]
      rw [w64 (n := rd x (i : Int) + v) (by omega) (by omega)]
      have hd' := ready_of hr ho' i hi
      refine Ev_bind _ (specCost_ev n _ g t rows hd'.hf) ?_
      rw [(cost_eq hd'.hn).1]
      exact ih ho' (by rw [List.length_append]; simp; omega)

theorem onway_first {n : Nat} {x g t : List Int} {rows : List S52} (hr : Right n g t rows) (hl : x.length = n) (hx : ∀ i : Nat, i < n → -500 ≤ rd x (i : Int) ∧ rd x (i : Int) ≤ 500) : OnWay n x g t rows := by
  refine ⟨hl, ?_⟩
  have h1 : ∀ i : Nat, i < n → -5000000 ≤ rd t (i : Int) * (rd x (i : Int) - rd g (i : Int)) * (rd x (i : Int) - rd g (i : Int)) ∧ rd t (i : Int) * (rd x (i : Int) - rd g (i : Int)) * (rd x (i : Int) - rd g (i : Int)) ≤ 5000000 := by
    intro i hi
    have a1 := hr.t i hi
    have a2 := hr.g i hi
    have a3 := hx i hi
    have m := term_bd (a := rd t (i : Int)) (q := rd x (i : Int) - rd g (i : Int)) (A := 5) (Q := 1000) (by omega) (by omega) (by omega) (by omega)
    omega
  have h2 : ∀ k : Nat, k < rows.length → -1201250000 ≤ (rd_T52 rows (k : Int)).f2 * missZ x n (rd_T52 rows (k : Int)) * missZ x n (rd_T52 rows (k : Int)) ∧ (rd_T52 rows (k : Int)).f2 * missZ x n (rd_T52 rows (k : Int)) * missZ x n (rd_T52 rows (k : Int)) ≤ 1201250000 := by
    intro k hk
    have a1 := hr.w k hk
    have a2 := hr.y k hk
    have hb : ∀ i, i < n → -2500 ≤ rd (rd_T52 rows (k : Int)).f0 (i : Int) * rd x (i : Int) ∧ rd (rd_T52 rows (k : Int)).f0 (i : Int) * rd x (i : Int) ≤ 2500 := by
      intro i hi
      have b1 := hr.h k hk i hi
      have b2 := hx i hi
      have := mul_bd (A := 5) (B := 500) b1.1 b1.2 b2.1 b2.2
      omega
    have hs := sumZ_bd 2500 n hb
    have hm := mulb n 2500 6 hr.n6 (by omega)
    have hq : -15500 ≤ missZ x n (rd_T52 rows (k : Int)) ∧ missZ x n (rd_T52 rows (k : Int)) ≤ 15500 := by unfold missZ; omega
    have m := term_bd (a := (rd_T52 rows (k : Int)).f2) (q := missZ x n (rd_T52 rows (k : Int))) (A := 5) (Q := 15500) (by omega) (by omega) (by omega) (by omega)
    omega
  have s1 := sumZ_bd 5000000 n h1
  have s2 := sumZ_bd 1201250000 rows.length h2
  have m1 := mulb n 5000000 6 hr.n6 (by omega)
  have m2 := mulb rows.length 1201250000 20 hr.r20 (by omega)
  unfold costZ offZ rowsZ C0
  omega

end Go.Proofs.Ytcjhbmjimjbphaa.QFnDescends
