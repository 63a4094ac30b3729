/- FnDescends, plainly: the moves are a way on which each lowers the cost; the last point is certified; with the rows in the other order the moves are the same. No condition. -/
import Derived.Test.YtcjhbmjimjbphaaDescFullFnDescends
import Derived.Test.YtcjhbmjimjbphaaDescDrawFnDescends
import Derived.Test.YtcjhbmjimjbphaaStatFnDescends
set_option linter.unusedVariables false
set_option linter.unusedSimpArgs false
namespace Go.Proofs.Ytcjhbmjimjbphaa.QFnDescends
open Go.RowKit Go.Proofs.YtcjhbmjimjbphaaW.PrintWords Go.Proofs.Ytcjhbmjimjbphaa.Opn Go.Proofs.Ytcjhbmjimjbphaa.Pl

theorem rdT50 (l : List S50) (i : Nat) (h : i < l.length) : rd_T50 l (i : Int) = l[i] := getD_lt l _ i h

/-- The moves are compared with themselves. -/
theorem same_ev (r : List S50) (hl : r.length ≤ 1048576) : Ev (fun k => laws_FnDescends.l2 k r r 0) true := by
  have key := Ev_up (fun k i => laws_FnDescends.l2 k r r (i : Int)) (fun _ => true) r.length (by
      refine Ev.step (f := fun _ => some true) (fun k => ?_) (Ev.now _)
      simp only [laws_FnDescends.l2]
      rw [if_neg (by omega)]) (by
      intro i hi ih
      refine Ev.step (fun k => ?_) ih
      simp only [laws_FnDescends.l2]
      rw [if_pos (by omega), if_pos (by omega), if_pos (by omega), if_neg (by simp), w64 (n := (i : Int) + 1) (by omega) (by omega)]
      rfl) 0 (Nat.zero_le _)
  exact key

/-- The rows are turned; the moves are the same. -/
theorem turn_ev {n : Int} {g t : List Int} {rows : List S52} {x : List Int} {most : Int} {m : Nat} {r : List S50} (h : Call n g t rows x most m r) (hs : Small g t rows) (hx : x.length ≤ 1048576) :
    ∀ (d : Nat) (acc : List S52), d ≤ rows.length → acc = (rows.drop d).reverse → Ev (fun k => laws_FnDescends.l1 k x most r ((d : Int) - 1) n g t rows n g t acc) true := by
  obtain ⟨s1, s2, s3, s4⟩ := hs
  have hlr := h.len
  have hm5 := h.m5
  intro d
  induction d with
  | zero =>
    intro acc _ ha
    have hc : Call n g t rows.reverse x most m r := ⟨h.hm, h.m5, by rw [okB_rev]; exact h.ok, h.each, run_rev h.run, ⟨h.way.len, by rw [costZ_rev]; exact h.way.c⟩, h.len⟩
    have ei := impl_call hc ⟨s1, s2, by rw [List.length_reverse]; exact s3, fun q hq => s4 q (List.mem_reverse.1 hq)⟩ hx
    subst ha
    refine Ev.step (f := fun k => (impl_Descend.f k n g t (rows.drop 0).reverse x most).bind fun bt440 => if bt440.2 = true then laws_FnDescends.j5 k r bt440.1 ((bt440.1.length : Int) != (r.length : Int)) else laws_FnDescends.j5 k r bt440.1 true) (fun k => ?_) ?_
    · simp only [laws_FnDescends.l1]
      rw [if_neg (by omega)]
    · rw [List.drop_zero]
      refine Ev_bind _ ei ?_
      simp only [if_true, bne_self_eq_false]
      refine Ev.step (fun k => ?_) (same_ev r (by omega))
      simp only [laws_FnDescends.j5]
      rw [if_neg (by simp)]
  | succ d ih =>
    intro acc hd ha
    have hi := ih (acc ++ [rows[d]]) (by omega) (by rw [ha, ← List.reverse_cons, ← List.drop_eq_getElem_cons (by omega)])
    refine Ev.step (fun k => ?_) hi
    have hac : acc.length ≤ 1048576 := by rw [ha, List.length_reverse, List.length_drop]; omega
    have e0 : ((d + 1 : Nat) : Int) - 1 = (d : Int) := by omega
    simp only [laws_FnDescends.l1]
    rw [e0, if_pos (by omega), if_pos (by omega), if_pos (by omega), if_pos (by omega), rdT52 rows d (by omega), w64 (n := (d : Int) - 1) (by omega) (by omega)]

/-- Behind the last move. -/
theorem last_ev {n : Int} {g t : List Int} {rows : List S52} {x : List Int} {most : Int} {m : Nat} {r : List S50} (h : Call n g t rows x most m r) (hs : Small g t rows) (hx : x.length ≤ 1048576) {e : List Int} (ho : OnWay n.toNat e g t rows)
    (hb : r.length < m → ∀ j : Nat, j < n.toNat → Best (aZ t rows j) (bZ e g t rows n.toNat j) 0) (c : Int) : Ev (fun k => laws_FnDescends.l0 k x most r e c (r.length : Int) n g t rows) true := by
  have hm := h.hm
  have hj : Ev (fun k => laws_FnDescends.j3 k x most r false n g t rows) true := by
    have ht := turn_ev h hs hx rows.length [] (Nat.le_refl _) (by rw [List.drop_length]; rfl)
    refine Ev.step (fun k => ?_) ht
    have := hs.2.2.1
    simp only [laws_FnDescends.j3]
    rw [if_neg (by simp), w64 (n := (rows.length : Int) - 1) (by omega) (by omega)]
  obtain ⟨hr, hn⟩ := right_of n g t rows h.ok
  have h6 := hr.n6
  by_cases hlt : (r.length : Int) < most
  · have hc := implCert_ev n g t rows e hs (by have := ho.len; omega) (wf_near hr ho)
    rw [cert_true h.ok ho (hb (by omega))] at hc
    refine Ev.step (f := fun k => (impl_Certified.f k n g t rows e).bind fun t431 => laws_FnDescends.j3 k x most r (!t431) n g t rows) (fun k => ?_) (Ev_bind _ hc hj)
    simp only [laws_FnDescends.l0]
    rw [if_neg (by omega), if_pos hlt]
  · refine Ev.step (fun k => ?_) hj
    simp only [laws_FnDescends.l0]
    rw [if_neg (by omega), if_neg hlt]

/-- The moves, one by one. -/
theorem path_ev {n : Int} {g t : List Int} {rows : List S52} {x : List Int} {most : Int} {m : Nat} {r : List S50} (h : Call n g t rows x most m r) (hs : Small g t rows) (hx : x.length ≤ 1048576) : ∀ (ms pre : List S50) (a : List Int), r = pre ++ ms → OnWay n.toNat a g t rows → Path n.toNat g t rows a ms →
    OnWay n.toNat (endP a ms) g t rows → (r.length < m → ∀ j : Nat, j < n.toNat → Best (aZ t rows j) (bZ (endP a ms) g t rows n.toNat j) 0) → Ev (fun k => laws_FnDescends.l0 k x most r a (costZ a g t rows n.toNat) (pre.length : Int) n g t rows) true := by
  have hlr := h.len
  have hm5 := h.m5
  obtain ⟨hr, hn⟩ := right_of n g t rows h.ok
  have h6 := hr.n6
  intro ms
  induction ms with
  | nil =>
    intro pre a hp ho _ he hb
    have e : r = pre := by rw [hp, List.append_nil]
    have := last_ev h hs hx (e := endP a []) he hb (costZ a g t rows n.toNat)
    rw [← e]
    exact this
  | cons mv ms ih =>
    intro pre a hp ho hpa he hb
    obtain ⟨i, u, hi, rfl, hlt, ho', hpa'⟩ := hpa
    have hlen : pre.length < r.length := by rw [hp]; simp
    have hget : rd_T50 r (pre.length : Int) = (⟨(i : Int), u, costZ (a.set i (rd a (i : Int) + u)) g t rows n.toNat⟩ : S50) := by
      rw [rdT50 r pre.length hlen]
      simp [hp]
    have hal := ho.len
    have hw := onway_near hr ho' i hi
    rw [rd_set_same a i (by omega)] at hw
    obtain ⟨c0, _⟩ := cost_at h.ok ho'
    have hset : a.set ((i : Int)).toNat (wrap64 (rd a (i : Int) + u)) = a.set i (rd a (i : Int) + u) := by rw [w64 (n := rd a (i : Int) + u) (by omega) (by omega), Int.toNat_natCast]
    have hnext := ih (pre ++ [(⟨(i : Int), u, costZ (a.set i (rd a (i : Int) + u)) g t rows n.toNat⟩ : S50)]) (a.set i (rd a (i : Int) + u)) (by rw [hp, List.append_assoc]; rfl) ho' hpa' (by simpa [endP] using he) (by simpa [endP] using hb)
    have hl' : (a.set i (rd a (i : Int) + u)).length ≤ 1048576 := by rw [List.length_set]; omega
    have ei := implCostTop_ev n g t rows (a.set i (rd a (i : Int) + u)) hs hl'
    have es := specCostTop_ev n g t rows (a.set i (rd a (i : Int) + u)) hs hl'
    rw [c0] at ei es
    have hj2 : Ev (fun k => laws_FnDescends.j2 k x most r a (costZ a g t rows n.toNat) (pre.length : Int) false n g t rows (i : Int) u (costZ (a.set i (rd a (i : Int) + u)) g t rows n.toNat)) true := by
      refine Ev.step (f := fun k => (impl_Cost.f k n g t rows (a.set i (rd a (i : Int) + u))).bind fun t429 => (if costZ (a.set i (rd a (i : Int) + u)) g t rows n.toNat = t429 then ((spec_Cost.f k n g t rows (a.set i (rd a (i : Int) + u))).bind fun t430 => (if costZ (a.set i (rd a (i : Int) + u)) g t rows n.toNat = t430 then (laws_FnDescends.l0 k x most r (a.set i (rd a (i : Int) + u)) (costZ (a.set i (rd a (i : Int) + u)) g t rows n.toNat) ((pre.length : Int) + 1) n g t rows) else (some false))) else (some false))) (fun k => ?_) ?_
      · simp only [laws_FnDescends.j2]
        rw [if_neg (by simp), if_pos (by omega), if_pos (by omega)]
        simp only [Option.bind_some]
        rw [hset, w64 (n := (pre.length : Int) + 1) (by omega) (by omega)]
        simp only [if_neg (show ¬ costZ (a.set i (rd a (i : Int) + u)) g t rows n.toNat ≥ costZ a g t rows n.toNat by omega)]
      · refine Ev_bind _ ei ?_
        simp only [if_true]
        refine Ev_bind _ es ?_
        simp only [if_true]
        rw [List.length_append] at hnext
        exact hnext
    refine Ev.step (fun k => ?_) hj2
    simp only [laws_FnDescends.l0]
    rw [if_pos (by omega), if_pos (by omega), hget]
    dsimp only
    rw [if_neg (by omega), decide_eq_false (by omega)]
end Go.Proofs.Ytcjhbmjimjbphaa.QFnDescends
namespace Go.Proofs.Ytcjhbmjimjbphaa.Pure
open Go.RowKit Go.Proofs.YtcjhbmjimjbphaaW.PrintWords Go.Proofs.Ytcjhbmjimjbphaa.Opn Go.Proofs.Ytcjhbmjimjbphaa.Pl Go.Proofs.Ytcjhbmjimjbphaa.QFnDescends

theorem FnDescends : FnDescends_Pure := by
  intro l0 w1
  refine Ev.rounds (g := fun k => laws_FnDescends.f k l0) ?_
  unfold laws_FnDescends.f laws_big.f
  simp only [Option.bind_some]
  by_cases hl : (l0.length : Int) > 1048576
  · simp only [decide_eq_true hl, if_true]
    exact Ev.now _
  simp only [decide_eq_false hl, Bool.false_eq_true, if_false]
  obtain ⟨n, g, t, rows, x, most, e0, hs, hx⟩ := desc_ev l0 ⟨by omega, fun i hi => by rw [rd_lt l0 i hi]; exact wfU8_range (wfL_get w1 i hi), by omega, by omega⟩
  refine Ev_bind _ e0 ?_
  dsimp only
  rcases descend_full n g t rows x most hs hx with ⟨m, r, h⟩ | ⟨es, ei⟩
  · have es := spec_call h hs hx
    have ei := impl_call h hs hx
    refine Ev_bind _ es (Ev_bind _ ei ?_)
    simp only [bne_self_eq_false, Bool.false_eq_true, if_false]
    obtain ⟨hr, hn⟩ := right_of n g t rows h.ok
    obtain ⟨ms, hms, hp, hoe, hb⟩ := run_path hr h.run h.way (fun _ j hj => absurd hj (by omega))
    rw [List.nil_append] at hms
    subst hms
    have hp := path_ev h hs hx r [] x rfl h.way hp hoe hb
    have ec := specCostTop_ev n g t rows x hs hx
    rw [(cost_at h.ok h.way).1] at ec
    refine Ev.step (f := fun k => (spec_Cost.f k n g t rows x).bind fun t424 => laws_FnDescends.l0 k x most r x t424 0 n g t rows) (fun k => ?_) (Ev_bind _ ec hp)
    simp only [laws_FnDescends.j0]
    rw [if_neg (by simp), if_pos True.intro]
    simp only [Option.bind_some, List.nil_append, List.length_nil, Nat.zero_add]
    rw [if_pos (by omega)]
  · refine Ev_bind _ es (Ev_bind _ ei ?_)
    simp only [bne_self_eq_false, Bool.false_eq_true, if_false]
    refine Ev.step (f := fun _ => some true) (fun k => ?_) (Ev.now _)
    simp only [laws_FnDescends.j0]
    rw [if_neg (by simp), if_neg (by simp)]
end Go.Proofs.Ytcjhbmjimjbphaa.Pure
