-- Written by a program of this session out of the printer's texts and contracts of its own.
import Derived.Test.YtllkijlmjapleaaDoorQFnPhrasesx0
namespace Go.Proofs.YtllkijlmjapleaaDoor.QFnPhrases
open Go.RowKit Go.Proofs.YtllkijlmjapleaaDoorW.PrintWords Go.Proofs.YtllkijlmjapleaaDoorW.PrintLast Go.Proofs.YtllkijlmjapleaaDoorW.PrintMore
attribute [local go_sem] max2_int min2_int max_two min_two max_three min_three max_four min_four   -- for this text's walks alone
set_option linter.unusedVariables false
set_option linter.unusedSimpArgs false

/-! ### laws_big: function 12 -/
def laws_big.f (l0 : List Int) : Option (Bool) := some (decide ((l0.length : Int) > 1048576))
set_option maxHeartbeats 8000000 in
set_option maxRecDepth 100000 in
theorem laws_big.calls (A0 : Option Addr) (c0 : Nat) (l0 : List Int) (r : Bool) (w : World) (hr0 : Kd.C (Kd.int .u8) w A0 l0.length l0) (hc0 : l0.length ≤ c0) (h : laws_big.f l0 = some r) :
    Calls Tryd.prog 12 #[.slice A0 l0.length c0] w fun e w' => e = .returned (.bool r) ∧ Drawn0 w w' := by
  have HR0 := Aside0.mk hr0
  have HC0 := Aside0.mk hc0
  clear hr0 hc0
  have H : (some (decide ((l0.length : Int) > 1048576))) = some r := h
  clear h
  obtain rfl := Option.some.inj H
  go_enter Tryd.func12, Tryd.ntmps12
  go_wp2
  go_ret
  exact ⟨by first | rfl | (simp; done) | (simp [*]; done), by repeat (first | exact Drawn0.refl _ | apply Drawn0.step)⟩

/-- A state of type 60 at block g of W; what its slices lead to came in by w0. -/
def IsS60 (w0 W : World) (g : Nat) (f0 : List Int) (f1 : Int) : Prop := ∃ A0 c0, W.heap[g]? = some (.cells #[.slice A0 f0.length c0, .int .i64 f1] 60 (0, 0)) ∧ w0.heap.size ≤ g ∧ Kd.C (Kd.int .u8) w0 A0 f0.length f0
theorem IsS60.grown {w0 W : World} {g : Nat} {f0 : List Int} {f1 : Int} {W1 : World} {row : Option Nat} (h : IsS60 w0 W g f0 f1) (hw : W.grownBy W1 row) (hne : some g ≠ row) : IsS60 w0 W1 g f0 f1 := by
  obtain ⟨A0, c0, hb, hg, hr0⟩ := h
  exact ⟨A0, c0, blk_grown hb hw hne, hg, hr0⟩
theorem IsS60.own_neN {w0 W : World} {g : Nat} {f0 : List Int} {f1 : Int} {α : Type} {d : Kd α} {e : Nat} {base : Nat} {ok : Nat → Prop} {v : Value} {xs : List α} (h : IsS60 w0 W g f0 f1) (ho : Kd.N d e W base ok v xs) (ht : e ≠ 60) : some g ≠ v.ownBlock := by
  obtain ⟨A0, c0, hb, hg, hr0⟩ := h
  exact Kd.N_ne ho hb ht
theorem IsS60.fresh {w0 W : World} {g : Nat} {f0 : List Int} {f1 : Int} (h : IsS60 w0 W g f0 f1) : ∀ k, W.heap.size ≤ k → k ≠ g := by
  obtain ⟨A0, c0, hb, hg, hr0⟩ := h
  exact Kd.freshB hb
theorem IsS60.kept {w0 W : World} {g : Nat} {f0 : List Int} {f1 : Int} {W1 : World} {S : Nat → Prop} (h : IsS60 w0 W g f0 f1) (hk : Kept W W1 S) (hne : ¬ S g) : IsS60 w0 W1 g f0 f1 := by
  obtain ⟨A0, c0, hb, hg, hr0⟩ := h
  exact ⟨A0, c0, blk_kept hb hk hne, hg, hr0⟩
theorem IsS60.below {w0 W : World} {g : Nat} {f0 : List Int} {f1 : Int} {W1 : World} (h : IsS60 w0 W g f0 f1) (hw : Below W.heap.size W W1) : IsS60 w0 W1 g f0 f1 := h.grown (grown_of_below hw none) (by simp)
theorem IsS60.alloc {w0 W : World} {g : Nat} {f0 : List Int} {f1 : Int} (h : IsS60 w0 W g f0 f1) (o : Obj) : IsS60 w0 (W.alloc o) g f0 f1 := h.below (below_alloc (Below.refl _ _) o)
theorem IsS60.drewN {w0 W : World} {g : Nat} {f0 : List Int} {f1 : Int} (h : IsS60 w0 W g f0 f1) (m : Nat) : IsS60 w0 (W.drewN m) g f0 f1 := h
theorem IsS60.drew {w0 W : World} {g : Nat} {f0 : List Int} {f1 : Int} (h : IsS60 w0 W g f0 f1) : IsS60 w0 W.drew g f0 f1 := h
theorem IsS60.at_ {w0 W : World} {g : Nat} {f0 : List Int} {f1 : Int} {w' : World} {m : Nat} (hq : W.drewN m = w') (h : IsS60 w0 W g f0 f1) : IsS60 w0 w' g f0 f1 := by subst hq; exact IsS60.drewN h m
theorem IsS60.apart {w0 W : World} {g : Nat} {f0 : List Int} {f1 : Int} {α : Type} {d : Kd α} {e : Nat} {base : Nat} {ok : Nat → Prop} {v : Value} {xs : List α} (h : IsS60 w0 W g f0 f1) (ho : d.R e W base ok v xs) (ht : ∀ q, q ∈ e :: d.E → q ≠ 60) : d.R e W base (fun k => ok k ∧ k ≠ g) v xs := by
  obtain ⟨A0, c0, hb, hg, hr0⟩ := h
  exact Kd.R_types ho hb ht
theorem IsS60.own_ne {w0 W : World} {g : Nat} {f0 : List Int} {f1 : Int} {α : Type} {d : Kd α} {e : Nat} {base : Nat} {ok : Nat → Prop} {v : Value} {xs : List α} (h : IsS60 w0 W g f0 f1) (ho : d.R e W base ok v xs) (ht : e ≠ 60) : some g ≠ v.ownBlock := by
  obtain ⟨A0, c0, hb, hg, hr0⟩ := h
  exact Kd.R_ne ho hb ht
theorem IsS60.apartQ {w0 W : World} {g : Nat} {f0 : List Int} {f1 : Int} {α : Type} {d : Kd α} {e : Nat} {base : Nat} {ok : Nat → Prop} {v : Value} {xs : List α} (h : IsS60 w0 W g f0 f1) (ho : d.Q e W base ok v xs) (ht : ∀ q, q ∈ e :: d.E → q ≠ 60) : d.Q e W base (fun k => ok k ∧ k ≠ g) v xs := by
  obtain ⟨A0, c0, hb, hg, hr0⟩ := h
  exact Kd.Q_types ho hb ht
theorem IsS60.own_neQ {w0 W : World} {g : Nat} {f0 : List Int} {f1 : Int} {α : Type} {d : Kd α} {e : Nat} {base : Nat} {ok : Nat → Prop} {v : Value} {xs : List α} (h : IsS60 w0 W g f0 f1) (ho : d.Q e W base ok v xs) (ht : e ≠ 60) : some g ≠ v.ownBlock := by
  obtain ⟨A0, c0, hb, hg, hr0⟩ := h
  exact Kd.Q_ne ho hb ht
theorem IsS60.apartS {w0 W : World} {g : Nat} {f0 : List Int} {f1 : Int} {α : Type} {d : Kd α} {e : Nat} {base : Nat} {ok : Nat → Prop} {v : Value} {xs : List α} (h : IsS60 w0 W g f0 f1) (ho : d.S e W base ok v xs) (ht : ∀ q, q ∈ e :: d.E → q ≠ 60) : d.S e W base (fun k => ok k ∧ k ≠ g) v xs := by
  obtain ⟨A0, c0, hb, hg, hr0⟩ := h
  exact Kd.S_types ho hb ht
theorem IsS60.own_neS {w0 W : World} {g : Nat} {f0 : List Int} {f1 : Int} {α : Type} {d : Kd α} {e : Nat} {base : Nat} {ok : Nat → Prop} {v : Value} {xs : List α} (h : IsS60 w0 W g f0 f1) (ho : d.S e W base ok v xs) (ht : e ≠ 60) : some g ≠ v.ownBlock := by
  obtain ⟨A0, c0, hb, hg, hr0⟩ := h
  exact Kd.S_ne ho hb ht
theorem IsS60.lt {w0 W : World} {g : Nat} {f0 : List Int} {f1 : Int} (h : IsS60 w0 W g f0 f1) : g < W.heap.size := by
  obtain ⟨A0, c0, hb, hg, hr0⟩ := h
  exact blk_lt hb
theorem IsS60.ge {w0 W : World} {g : Nat} {f0 : List Int} {f1 : Int} (h : IsS60 w0 W g f0 f1) : w0.heap.size ≤ g := by
  obtain ⟨A0, c0, hb, hg, hr0⟩ := h
  exact hg
theorem IsS60.ne_blk {w0 W : World} {g : Nat} {f0 : List Int} {f1 : Int} {a : Nat} {cs : Array Value} {t : TypeId} {fr : Nat × Nat} (h : IsS60 w0 W g f0 f1) (hb2 : W.heap[a]? = some (.cells cs t fr)) (ht : t ≠ 60) : g ≠ a := by
  obtain ⟨A0, c0, hb, hg, hr0⟩ := h
  rintro rfl
  rw [hb] at hb2
  injection hb2 with hb2
  injection hb2 with _ ht2
  exact ht ht2.symm
theorem IsS60.far {w0 W : World} {g : Nat} {f0 : List Int} {f1 : Int} {p : Addr} (h : IsS60 w0 W g f0 f1) (hne : g ≠ p.block) (u : Value) : IsS60 w0 (W.setCell p u) g f0 f1 := by
  obtain ⟨A0, c0, hb, hg, hr0⟩ := h
  exact ⟨A0, c0, blk_far hb hne u, hg, hr0⟩
theorem cellS60_0 {W : World} {g : Nat} {A0 : Option Addr} {c0 : Nat} {f0 : List Int} {f1 : Int} (h : W.heap[g]? = some (.cells #[.slice A0 f0.length c0, .int .i64 f1] 60 (0, 0))) : W.cell? ⟨g, 0, none⟩ = some (.slice A0 f0.length c0) := (blk_cell h 0).trans rfl
theorem cellS60_1 {W : World} {g : Nat} {A0 : Option Addr} {c0 : Nat} {f0 : List Int} {f1 : Int} (h : W.heap[g]? = some (.cells #[.slice A0 f0.length c0, .int .i64 f1] 60 (0, 0))) : W.cell? ⟨g, 1, none⟩ = some (.int .i64 f1) := (blk_cell h 1).trans rfl
theorem IsS60.set_1 {w0 W : World} {g : Nat} {f0 : List Int} {f1 : Int} (h : IsS60 w0 W g f0 f1) (x : Int) : IsS60 w0 (W.setCell ⟨g, 1, none⟩ (.int .i64 x)) g f0 x := by
  obtain ⟨A0, c0, hb, hg, hr0⟩ := h
  exact ⟨A0, c0, by simpa using blk_set hb 1 (.int .i64 x), hg, hr0⟩
theorem IsS60.new (w0 W : World) (A0 : Option Addr) (c0 : Nat) (f0 : List Int) (f1 : Int) (hB : Below w0.heap.size w0 W) (hr0 : Kd.C (Kd.int .u8) w0 A0 f0.length f0) : IsS60 w0 (W.alloc (.cells #[.slice A0 f0.length c0, .int .i64 f1] 60)) W.heap.size f0 f1 := ⟨A0, c0, by simpa using heap_alloc_new W _, hB.size, hr0⟩

/-! ### spec_l1Open: function 26 -/
def spec_l1Open.f (l0 : List Int) : Option (List Int × Int) := some (l0, 0)
set_option maxHeartbeats 8000000 in
set_option maxRecDepth 100000 in
theorem spec_l1Open.calls (A0 : Option Addr) (c0 : Nat) (l0 : List Int) (r1 : List Int) (r2 : Int) (w0 w : World) (hB : Below w0.heap.size w0 w) (hr0 : Kd.C (Kd.int .u8) w0 A0 l0.length l0) (hc0 : l0.length ≤ c0) (h : spec_l1Open.f l0 = some (r1, r2)) :
    Calls Tryd.prog 26 #[.slice A0 l0.length c0] w fun e w' => ∃ g_ : Nat, e = .returned (.pointer (some ⟨g_, 0, none⟩)) ∧ IsS60 w0 w' g_ r1 r2 ∧ Below w0.heap.size w0 w' ∧ Below w.heap.size w w' := by
  have hu60 := Tryd.underlying60
  have HR0 := Aside0.mk hr0
  have HC0 := Aside0.mk hc0
  clear hr0 hc0
  have HBW := Aside0.mk (Below.refl w.heap.size w)
  have HW0 := Aside0.mk hB.size
  have HB := Aside0.mk hB
  clear hB
  have H : (some (l0, 0)) = some (r1, r2) := h
  clear h
  simp only [Option.some.injEq, Prod.mk.injEq] at H
  obtain ⟨rfl, rfl⟩ := H
  go_enter Tryd.func26, Tryd.ntmps26
  go_wp2_with (first | ((with_reducible refine gate_dst (N := 5) rfl ?_); refine box_event ?hg (N := 5) ?hd (cs := #[.slice A0 l0.length c0, .int .i64 0]) (t := 60) ?hr ?_; (case hd => rfl); (case hg => rfl); (case hr => first | (go_simp; done) | (go_simp; rfl)); intro gb253 hg w2 hbox hb; have n0_ := Aside0.mk (below_step HBW.out hb); have n1_ := Aside0.mk (below_step (by repeat (first | (with_reducible first | exact HB.out | apply below_alloc | apply pw_below_drewN | apply below_drew1) | exact HB.out)) hb); have n2_ := Aside0.mk (hbox); have n3_ := Aside0.mk ((by rw [hg]; exact (below_size (by repeat (first | (with_reducible first | exact HBW.out | apply below_alloc | apply pw_below_drewN | apply below_drew1) | exact HBW.out))) : w.heap.size ≤ gb253)); have n4_ := Aside0.mk ((Nat.le_trans HW0.out (by rw [hg]; exact (below_size (by repeat (first | (with_reducible first | exact HBW.out | apply below_alloc | apply pw_below_drewN | apply below_drew1) | exact HBW.out))) : w.heap.size ≤ gb253) : w0.heap.size ≤ gb253)); clear HBW; clear HB; have HBW := n0_; have HB := n1_; have BK253 := n2_; have GW253 := n3_; have GE253 := n4_; clear n0_ n1_ n2_ n3_ n4_; clear hb hbox hg))
  go_ret
  exact ⟨_, rfl, (show IsS60 w0 _ gb253 l0 0 from ⟨_, _, by (with_reducible repeat (first | refine blk_drewN ?_ _ | refine blk_drew ?_ | refine blk_alloc ?_ _)); exact BK253.out, GE253.out, HR0.out⟩), by repeat (first | (with_reducible first | exact HB.out | apply below_alloc | apply pw_below_drewN | apply below_drew1 | refine below_set ?_ GE253.out) | exact HB.out), by repeat (first | (with_reducible first | exact HBW.out | apply below_alloc | apply pw_below_drewN | apply below_drew1 | refine below_set ?_ GW253.out) | exact HBW.out)⟩

/-! ### spec_l1Rd_next: function 34 -/
def spec_l1Rd_next.f (s0_0 : List Int) (s0_1 : Int) : Option (Int × Int) := if s0_1 ≥ (s0_0.length : Int) then (some (0, s0_1)) else (if 0 ≤ (wrap64 ((wrap64 (s0_1 + 1)) - 1)) then (if (wrap64 ((wrap64 (s0_1 + 1)) - 1)) < (s0_0.length : Int) then (some (wrap64 (rd s0_0 (wrap64 ((wrap64 (s0_1 + 1)) - 1))), wrap64 (s0_1 + 1))) else (none)) else (none))
set_option maxHeartbeats 8000000 in
set_option maxRecDepth 100000 in
theorem spec_l1Rd_next.calls (g : Nat) (s0_0 : List Int) (s0_1 : Int) (r1 : Int) (r2 : Int) (w0 w : World) (hI : IsS60 w0 w g s0_0 s0_1) (hB : Below w0.heap.size w0 w) (h : spec_l1Rd_next.f s0_0 s0_1 = some (r1, r2)) :
    Calls Tryd.prog 34 #[.pointer (some ⟨g, 0, none⟩)] w fun e w' => e = .returned (.int .i64 r1) ∧ IsS60 w0 w' g s0_0 r2 ∧ Below w0.heap.size w0 w' ∧ KeepBut w w' g none := by
  have HI0 := Aside0.mk hI
  have HK := Aside0.mk (KeepBut.refl w g none)
  have HL := Aside0.mk hB.size
  clear hI
  have HW0 := Aside0.mk hB.size
  have HB := Aside0.mk hB
  clear hB
  have H : (if s0_1 ≥ (s0_0.length : Int) then (some (0, s0_1)) else (if 0 ≤ (wrap64 ((wrap64 (s0_1 + 1)) - 1)) then (if (wrap64 ((wrap64 (s0_1 + 1)) - 1)) < (s0_0.length : Int) then (some (wrap64 (rd s0_0 (wrap64 ((wrap64 (s0_1 + 1)) - 1))), wrap64 (s0_1 + 1))) else (none)) else (none))) = some (r1, r2) := h
  clear h
  by_cases c2 : s0_1 ≥ (s0_0.length : Int)
  · rw [if_pos c2] at H
    have c2b0 : decide ((s0_0.length : Int) ≤ s0_1) = true := decide_eq_true c2
    clear c2
    simp only [Option.some.injEq, Prod.mk.injEq] at H
    obtain ⟨rfl, rfl⟩ := H
    obtain ⟨ASz3_0, cSz3_0, HGz3, hgz3, HSz3_0⟩ := HI0.out
    have hcz3_0 := cellS60_0 HGz3
    have hcz3_1 := cellS60_1 HGz3
    have hfz3_1 := blk_frozen HGz3 1
    clear HGz3 hgz3
    go_enter Tryd.func34, Tryd.ntmps34
    go_wp2
    repeat (go_quiet (fail); try go_wp2)
    go_ret
    exact ⟨by first | rfl | (simp [errW_none, errW_some] <;> rfl) | (simp [*, errW_none, errW_some] <;> rfl), by repeat (first | (with_reducible first | exact HI0.out | apply IsS60.alloc | apply IsS60.drewN | apply IsS60.drew | apply IsS60.set_1) | exact HI0.out), by repeat (first | (with_reducible first | exact HB.out | apply below_alloc | apply pw_below_drewN | apply below_drew1 | refine below_set ?_ (IsS60.ge HI0.out)) | exact HB.out), by repeat (first | (with_reducible first | exact HK.out | apply KeepBut.set_ | apply keep_drewN | apply keep_drew | apply keep_alloc) | exact HK.out)⟩
  · rw [if_neg c2] at H
    have c2b0 : decide ((s0_0.length : Int) ≤ s0_1) = false := decide_eq_false c2
    clear c2
    obtain ⟨ji4, hji4⟩ : ∃ j_ : Int, (wrap64 ((wrap64 (s0_1 + 1)) - 1)) = j_ := ⟨_, rfl⟩
    replace H : (if 0 ≤ (ji4) then (if (ji4) < (s0_0.length : Int) then (some (wrap64 (rd s0_0 (ji4)), wrap64 (s0_1 + 1))) else (none)) else (none)) = some (r1, r2) := by first | (rw [hji4] at H; exact H) | (simp only [hji4] at H ⊢; exact H)
    have hji4w : (IntKind.i64.wrap ((wrap64 (s0_1 + 1)) - 1)) = ji4 := (i64_w _).trans hji4
    by_cases c5 : 0 ≤ (ji4)
    · rw [if_pos c5] at H
      have c5b0 : decide (0 ≤ (ji4)) = true := decide_eq_true c5
      clear c5
      by_cases c6 : (ji4) < (s0_0.length : Int)
      · rw [if_pos c6] at H
        have c6b0 : decide ((ji4) < (s0_0.length : Int)) = true := decide_eq_true c6
        clear c6
        simp only [Option.some.injEq, Prod.mk.injEq] at H
        obtain ⟨rfl, rfl⟩ := H
        obtain ⟨ASz7_0, cSz7_0, HGz7, hgz7, HSz7_0⟩ := HI0.out
        have hcz7_0 := cellS60_0 HGz7
        have hcz7_1 := cellS60_1 HGz7
        have hfz7_1 := blk_frozen HGz7 1
        clear HGz7 hgz7
        have p254 : 0 ≤ ((ji4) : Int) := of_decide_eq_true (by first | (with_reducible assumption) | assumption)
        have q254 : (ji4) < (s0_0.length : Int) := of_decide_eq_true (by first | (with_reducible assumption) | assumption)
        obtain ⟨ad254, e254, hx254_0⟩ := Kd.at_int HSz7_0 (ji4) p254 q254
        cases e254
        have hn254_0 : ad254.block ≠ g := Nat.ne_of_lt (Nat.lt_of_lt_of_le (by have := World.block_lt_of_cell? _ _ hx254_0; first | rwa [add_block] at this | exact this) (IsS60.ge HI0.out))
        replace hx254_0 := pw_cell_below HB.out hx254_0
        replace hx254_0 := (cell_far (p := ⟨g, 1, none⟩) (by first | (rw [add_block]; exact hn254_0) | (show (Addr.add _ _).block ≠ _; rw [add_block]; exact hn254_0) | exact hn254_0) (.int .i64 (wrap64 (s0_1 + 1)))).trans hx254_0
        (try have hy254_0 := fun (n_ : Nat) => (show (((w.drewN n_).setCell ⟨g, 1, none⟩ (.int .i64 (wrap64 (s0_1 + 1))))).cell? _ = some _ from hx254_0))
        clear hn254_0
        replace p254 := eq_true p254
        replace q254 := eq_true q254
        go_enter Tryd.func34, Tryd.ntmps34
        go_wp2
        repeat (go_quiet (fail); try go_wp2)
        go_ret
        exact ⟨by first | rfl | (simp [errW_none, errW_some] <;> rfl) | (simp only [← hji4]; first | rfl | (simp [errW_none, errW_some] <;> rfl)) | (simp [*, errW_none, errW_some] <;> rfl), by repeat (first | (with_reducible first | exact HI0.out | apply IsS60.alloc | apply IsS60.drewN | apply IsS60.drew | apply IsS60.set_1) | exact HI0.out), by repeat (first | (with_reducible first | exact HB.out | apply below_alloc | apply pw_below_drewN | apply below_drew1 | refine below_set ?_ (IsS60.ge HI0.out)) | exact HB.out), by repeat (first | (with_reducible first | exact HK.out | apply KeepBut.set_ | apply keep_drewN | apply keep_drew | apply keep_alloc) | exact HK.out)⟩
      · rw [if_neg c6] at H
        exact absurd H (by simp)
    · rw [if_neg c5] at H
      exact absurd H (by simp)

/-! ### spec_l1Rd_below: function 28 -/
def spec_l1Rd_below.f (s0_0 : List Int) (s0_1 : Int) (a1 : Int) : Option (Int × Int) := if a1 ≤ 1 then (some (0, s0_1)) else (if a1 ≤ 256 then ((spec_l1Rd_next.f s0_0 s0_1).bind fun bt255 => (if a1 = 0 then (none) else (some (Int.tmod bt255.1 a1, bt255.2)))) else ((spec_l1Rd_next.f s0_0 s0_1).bind fun bt257 => ((spec_l1Rd_next.f s0_0 bt257.2).bind fun bt259 => (if a1 = 0 then (none) else (some (Int.tmod (wrap64 ((wrap64 (bt257.1 * 256)) + bt259.1)) a1, bt259.2))))))
set_option maxHeartbeats 8000000 in
set_option maxRecDepth 100000 in
theorem spec_l1Rd_below.calls (g : Nat) (s0_0 : List Int) (s0_1 : Int) (a1 : Int) (r1 : Int) (r2 : Int) (w0 w : World) (hI : IsS60 w0 w g s0_0 s0_1) (hB : Below w0.heap.size w0 w) (h : spec_l1Rd_below.f s0_0 s0_1 a1 = some (r1, r2)) :
    Calls Tryd.prog 28 #[.pointer (some ⟨g, 0, none⟩), .int .i64 a1] w fun e w' => e = .returned (.int .i64 r1) ∧ IsS60 w0 w' g s0_0 r2 ∧ Below w0.heap.size w0 w' ∧ KeepBut w w' g none := by
  have HI0 := Aside0.mk hI
  have HK := Aside0.mk (KeepBut.refl w g none)
  have HL := Aside0.mk hB.size
  clear hI
  have HW0 := Aside0.mk hB.size
  have HB := Aside0.mk hB
  clear hB
  have H : (if a1 ≤ 1 then (some (0, s0_1)) else (if a1 ≤ 256 then ((spec_l1Rd_next.f s0_0 s0_1).bind fun bt255 => (if a1 = 0 then (none) else (some (Int.tmod bt255.1 a1, bt255.2)))) else ((spec_l1Rd_next.f s0_0 s0_1).bind fun bt257 => ((spec_l1Rd_next.f s0_0 bt257.2).bind fun bt259 => (if a1 = 0 then (none) else (some (Int.tmod (wrap64 ((wrap64 (bt257.1 * 256)) + bt259.1)) a1, bt259.2))))))) = some (r1, r2) := h
  clear h
  by_cases c3 : a1 ≤ 1
  · rw [if_pos c3] at H
    have c3b0 : decide (a1 ≤ 1) = true := decide_eq_true c3
    clear c3
    simp only [Option.some.injEq, Prod.mk.injEq] at H
    obtain ⟨rfl, rfl⟩ := H
    go_enter Tryd.func28, Tryd.ntmps28
    go_wp2
    go_ret
    exact ⟨by first | rfl | (simp [errW_none, errW_some] <;> rfl) | (simp [*, errW_none, errW_some] <;> rfl), by repeat (first | (with_reducible first | exact HI0.out | apply IsS60.alloc | apply IsS60.drewN | apply IsS60.drew | apply IsS60.set_1) | exact HI0.out), by repeat (first | (with_reducible first | exact HB.out | apply below_alloc | apply pw_below_drewN | apply below_drew1 | refine below_set ?_ (IsS60.ge HI0.out)) | exact HB.out), by repeat (first | (with_reducible first | exact HK.out | apply KeepBut.set_ | apply keep_drewN | apply keep_drew | apply keep_alloc) | exact HK.out)⟩
  · rw [if_neg c3] at H
    have c3b0 : decide (a1 ≤ 1) = false := decide_eq_false c3
    clear c3
    by_cases c4 : a1 ≤ 256
    · rw [if_pos c4] at H
      have c4b0 : decide (a1 ≤ 256) = true := decide_eq_true c4
      clear c4
      replace H := Option.bind_eq_some_iff.mp H
      obtain ⟨⟨t255, t256⟩, A50, H⟩ := H
      replace H : (if a1 = 0 then (none) else (some (Int.tmod t255 a1, t256))) = some (r1, r2) := H
      have A5 := Aside0.mk A50
      clear A50
      by_cases c6 : a1 = 0
      · rw [if_pos c6] at H
        exact absurd H (by simp)
      · rw [if_neg c6] at H
        have c6b0 : (a1 == 0) = false := beq_eq_false_iff_ne.mpr c6
        have c6b1 : (a1 != 0) = true := bne_iff_ne.mpr c6
        simp only [Option.some.injEq, Prod.mk.injEq] at H
        obtain ⟨rfl, rfl⟩ := H
        go_enter Tryd.func28, Tryd.ntmps28
        go_wp2_with (first | ((with_reducible refine gate_callee (f := 34) rfl ?_); refine goesL_ (some 11) rfl rfl Tryd.func34 (by kernel_rfl) rfl #[.pointer (some ⟨g, 0, none⟩)] rfl (by (try simp only [List.map_toArray, List.map_cons, List.map_nil]); first | done | rfl | (simp only [List.length_drop, List.length_take]; rfl)) ?_; (with_reducible refine (spec_l1Rd_next.calls g s0_0 s0_1 t255 t256 w0 _ ?side1 ?side2 A5.out).mono ?_); (case side1 => repeat (first | (with_reducible first | exact HI0.out | apply IsS60.alloc | apply IsS60.drewN | apply IsS60.drew | apply IsS60.set_1) | exact HI0.out)); (case side2 => repeat (first | (with_reducible first | exact HB.out | apply below_alloc | apply pw_below_drewN | apply below_drew1 | refine below_set ?_ (IsS60.ge HI0.out)) | exact HB.out)); rintro e w7 ⟨rfl, hi, hb, hk⟩; refine ⟨_, rfl, ?_⟩; have n0_ := Aside0.mk (KeepBut.trans (by repeat (first | (with_reducible first | exact HK.out | apply KeepBut.set_ | apply keep_drewN | apply keep_drew | apply keep_alloc) | exact HK.out)) hk (.inl rfl)); have n1_ := Aside0.mk (hb); have n2_ := Aside0.mk (hi); clear HK; clear HB; clear HI0; have HK := n0_; have HB := n1_; have HI0 := n2_; clear n0_ n1_ n2_; (try clear hb); (try clear hb2); (try clear hk); (try clear hi)))
        go_ret
        exact ⟨by first | rfl | (simp [errW_none, errW_some] <;> rfl) | (simp [*, errW_none, errW_some] <;> rfl), by repeat (first | (with_reducible first | exact HI0.out | apply IsS60.alloc | apply IsS60.drewN | apply IsS60.drew | apply IsS60.set_1) | exact HI0.out), by repeat (first | (with_reducible first | exact HB.out | apply below_alloc | apply pw_below_drewN | apply below_drew1 | refine below_set ?_ (IsS60.ge HI0.out)) | exact HB.out), by repeat (first | (with_reducible first | exact HK.out | apply KeepBut.set_ | apply keep_drewN | apply keep_drew | apply keep_alloc) | exact HK.out)⟩
    · rw [if_neg c4] at H
      have c4b0 : decide (a1 ≤ 256) = false := decide_eq_false c4
      clear c4
      replace H := Option.bind_eq_some_iff.mp H
      obtain ⟨⟨t257, t258⟩, A80, H⟩ := H
      replace H : ((spec_l1Rd_next.f s0_0 t258).bind fun bt259 => (if a1 = 0 then (none) else (some (Int.tmod (wrap64 ((wrap64 (t257 * 256)) + bt259.1)) a1, bt259.2)))) = some (r1, r2) := H
      have A8 := Aside0.mk A80
      clear A80
      replace H := Option.bind_eq_some_iff.mp H
      obtain ⟨⟨t259, t260⟩, A90, H⟩ := H
      replace H : (if a1 = 0 then (none) else (some (Int.tmod (wrap64 ((wrap64 (t257 * 256)) + t259)) a1, t260))) = some (r1, r2) := H
      have A9 := Aside0.mk A90
      clear A90
      by_cases c10 : a1 = 0
      · rw [if_pos c10] at H
        exact absurd H (by simp)
      · rw [if_neg c10] at H
        have c10b0 : (a1 == 0) = false := beq_eq_false_iff_ne.mpr c10
        have c10b1 : (a1 != 0) = true := bne_iff_ne.mpr c10
        simp only [Option.some.injEq, Prod.mk.injEq] at H
        obtain ⟨rfl, rfl⟩ := H
        go_enter Tryd.func28, Tryd.ntmps28
        go_wp2_with (first | ((with_reducible refine gate_callee (f := 34) rfl ?_); refine goesL_ (some 15) rfl rfl Tryd.func34 (by kernel_rfl) rfl #[.pointer (some ⟨g, 0, none⟩)] rfl (by (try simp only [List.map_toArray, List.map_cons, List.map_nil]); first | done | rfl | (simp only [List.length_drop, List.length_take]; rfl)) ?_; (with_reducible refine (spec_l1Rd_next.calls g s0_0 s0_1 t257 t258 w0 _ ?side1 ?side2 A8.out).mono ?_); (case side1 => repeat (first | (with_reducible first | exact HI0.out | apply IsS60.alloc | apply IsS60.drewN | apply IsS60.drew | apply IsS60.set_1) | exact HI0.out)); (case side2 => repeat (first | (with_reducible first | exact HB.out | apply below_alloc | apply pw_below_drewN | apply below_drew1 | refine below_set ?_ (IsS60.ge HI0.out)) | exact HB.out)); rintro e w11 ⟨rfl, hi, hb, hk⟩; refine ⟨_, rfl, ?_⟩; have n0_ := Aside0.mk (KeepBut.trans (by repeat (first | (with_reducible first | exact HK.out | apply KeepBut.set_ | apply keep_drewN | apply keep_drew | apply keep_alloc) | exact HK.out)) hk (.inl rfl)); have n1_ := Aside0.mk (hb); have n2_ := Aside0.mk (hi); clear HK; clear HB; clear HI0; have HK := n0_; have HB := n1_; have HI0 := n2_; clear n0_ n1_ n2_; (try clear hb); (try clear hb2); (try clear hk); (try clear hi)) | ((with_reducible refine gate_callee (f := 34) rfl ?_); refine goesL_ (some 19) rfl rfl Tryd.func34 (by kernel_rfl) rfl #[.pointer (some ⟨g, 0, none⟩)] rfl (by (try simp only [List.map_toArray, List.map_cons, List.map_nil]); first | done | rfl | (simp only [List.length_drop, List.length_take]; rfl)) ?_; (with_reducible refine (spec_l1Rd_next.calls g s0_0 t258 t259 t260 w0 _ ?side1 ?side2 A9.out).mono ?_); (case side1 => repeat (first | (with_reducible first | exact HI0.out | apply IsS60.alloc | apply IsS60.drewN | apply IsS60.drew | apply IsS60.set_1) | exact HI0.out)); (case side2 => repeat (first | (with_reducible first | exact HB.out | apply below_alloc | apply pw_below_drewN | apply below_drew1 | refine below_set ?_ (IsS60.ge HI0.out)) | exact HB.out)); rintro e w12 ⟨rfl, hi, hb, hk⟩; refine ⟨_, rfl, ?_⟩; have n0_ := Aside0.mk (KeepBut.trans (by repeat (first | (with_reducible first | exact HK.out | apply KeepBut.set_ | apply keep_drewN | apply keep_drew | apply keep_alloc) | exact HK.out)) hk (.inl rfl)); have n1_ := Aside0.mk (hb); have n2_ := Aside0.mk (hi); clear HK; clear HB; clear HI0; have HK := n0_; have HB := n1_; have HI0 := n2_; clear n0_ n1_ n2_; (try clear hb); (try clear hb2); (try clear hk); (try clear hi)))
        go_ret
        exact ⟨by first | rfl | (simp [errW_none, errW_some] <;> rfl) | (simp [*, errW_none, errW_some] <;> rfl), by repeat (first | (with_reducible first | exact HI0.out | apply IsS60.alloc | apply IsS60.drewN | apply IsS60.drew | apply IsS60.set_1) | exact HI0.out), by repeat (first | (with_reducible first | exact HB.out | apply below_alloc | apply pw_below_drewN | apply below_drew1 | refine below_set ?_ (IsS60.ge HI0.out)) | exact HB.out), by repeat (first | (with_reducible first | exact HK.out | apply KeepBut.set_ | apply keep_drewN | apply keep_drew | apply keep_alloc) | exact HK.out)⟩

/-! ### spec_l1Rd_once: function 29 -/
def spec_l1Rd_once.f (s0_0 : List Int) (s0_1 : Int) (a1 : Int) : Option (Bool × Int) := (spec_l1Rd_below.f s0_0 s0_1 a1).bind fun bt261 => (some ((bt261.1 == (wrap64 (a1 - 1))), bt261.2))
set_option maxHeartbeats 8000000 in
set_option maxRecDepth 100000 in
theorem spec_l1Rd_once.calls (g : Nat) (s0_0 : List Int) (s0_1 : Int) (a1 : Int) (r1 : Bool) (r2 : Int) (w0 w : World) (hI : IsS60 w0 w g s0_0 s0_1) (hB : Below w0.heap.size w0 w) (h : spec_l1Rd_once.f s0_0 s0_1 a1 = some (r1, r2)) :
    Calls Tryd.prog 29 #[.pointer (some ⟨g, 0, none⟩), .int .i64 a1] w fun e w' => e = .returned (.bool r1) ∧ IsS60 w0 w' g s0_0 r2 ∧ Below w0.heap.size w0 w' ∧ KeepBut w w' g none := by
  have HI0 := Aside0.mk hI
  have HK := Aside0.mk (KeepBut.refl w g none)
  have HL := Aside0.mk hB.size
  clear hI
  have HW0 := Aside0.mk hB.size
  have HB := Aside0.mk hB
  clear hB
  have H : ((spec_l1Rd_below.f s0_0 s0_1 a1).bind fun bt261 => (some ((bt261.1 == (wrap64 (a1 - 1))), bt261.2))) = some (r1, r2) := h
  clear h
  replace H := Option.bind_eq_some_iff.mp H
  obtain ⟨⟨t261, t262⟩, A30, H⟩ := H
  replace H : (some ((t261 == (wrap64 (a1 - 1))), t262)) = some (r1, r2) := H
  have A3 := Aside0.mk A30
  clear A30
  simp only [Option.some.injEq, Prod.mk.injEq] at H
  obtain ⟨rfl, rfl⟩ := H
  go_enter Tryd.func29, Tryd.ntmps29
  go_wp2_with (first | ((with_reducible refine gate_callee (f := 28) rfl ?_); refine goesL_ (some 7) rfl rfl Tryd.func28 (by kernel_rfl) rfl #[.pointer (some ⟨g, 0, none⟩), .int .i64 a1] rfl (by (try simp only [List.map_toArray, List.map_cons, List.map_nil]); first | done | rfl | (simp only [List.length_drop, List.length_take]; rfl)) ?_; (with_reducible refine (spec_l1Rd_below.calls g s0_0 s0_1 a1 t261 t262 w0 _ ?side1 ?side2 A3.out).mono ?_); (case side1 => repeat (first | (with_reducible first | exact HI0.out | apply IsS60.alloc | apply IsS60.drewN | apply IsS60.drew | apply IsS60.set_1) | exact HI0.out)); (case side2 => repeat (first | (with_reducible first | exact HB.out | apply below_alloc | apply pw_below_drewN | apply below_drew1 | refine below_set ?_ (IsS60.ge HI0.out)) | exact HB.out)); rintro e w4 ⟨rfl, hi, hb, hk⟩; refine ⟨_, rfl, ?_⟩; have n0_ := Aside0.mk (KeepBut.trans (by repeat (first | (with_reducible first | exact HK.out | apply KeepBut.set_ | apply keep_drewN | apply keep_drew | apply keep_alloc) | exact HK.out)) hk (.inl rfl)); have n1_ := Aside0.mk (hb); have n2_ := Aside0.mk (hi); clear HK; clear HB; clear HI0; have HK := n0_; have HB := n1_; have HI0 := n2_; clear n0_ n1_ n2_; (try clear hb); (try clear hb2); (try clear hk); (try clear hi)))
  go_ret
  exact ⟨by first | rfl | (simp [errW_none, errW_some] <;> rfl) | (simp [*, errW_none, errW_some] <;> rfl), by repeat (first | (with_reducible first | exact HI0.out | apply IsS60.alloc | apply IsS60.drewN | apply IsS60.drew | apply IsS60.set_1) | exact HI0.out), by repeat (first | (with_reducible first | exact HB.out | apply below_alloc | apply pw_below_drewN | apply below_drew1 | refine below_set ?_ (IsS60.ge HI0.out)) | exact HB.out), by repeat (first | (with_reducible first | exact HK.out | apply KeepBut.set_ | apply keep_drewN | apply keep_drew | apply keep_alloc) | exact HK.out)⟩

/-! ### spec_l1Rd_say: function 27 -/
mutual
def spec_l1Rd_say.j0 : Nat → List Int → Int → Int → Int → Int → Int → Int → Option (Int × Int × Int × Int × Int × Int)
  | 0, _, _, _, _, _, _, _ => none
  | k + 1, x1000, x1001, x275000, x275001, x275002, x275003, x275004 => (spec_l1Rd_once.f x1000 x1001 3).bind fun bt277 => (if bt277.1 = true then (spec_l1Rd_say.j1 k x1000 bt277.2 x275000 x275001 x275001 x275003 x275004) else (spec_l1Rd_say.j1 k x1000 bt277.2 x275000 x275001 x275002 x275003 x275004))
def spec_l1Rd_say.j1 : Nat → List Int → Int → Int → Int → Int → Int → Int → Option (Int × Int × Int × Int × Int × Int)
  | 0, _, _, _, _, _, _, _ => none
  | k + 1, x1000, x1001, x275000, x275001, x275002, x275003, x275004 => if x275000 = 0 then (if x275003 = 0 then (some (x275000, 0, x275002, x275003, 0, x1001)) else (some (x275000, 0, x275002, x275003, x275004, x1001))) else (if x275003 = 0 then (some (x275000, x275001, x275002, x275003, 0, x1001)) else (some (x275000, x275001, x275002, x275003, x275004, x1001)))
end
def spec_l1Rd_say.f (k : Nat) (s0_0 : List Int) (s0_1 : Int) : Option (Int × Int × Int × Int × Int × Int) := (spec_l1Rd_below.f s0_0 s0_1 9).bind fun bt264 => ((spec_l1Rd_below.f s0_0 bt264.2 12).bind fun bt266 => ((spec_l1Rd_below.f s0_0 bt266.2 13).bind fun bt268 => ((spec_l1Rd_below.f s0_0 bt268.2 4).bind fun bt270 => ((spec_l1Rd_below.f s0_0 bt270.2 100).bind fun bt272 => ((spec_l1Rd_once.f s0_0 bt272.2 3).bind fun bt275 => (if bt275.1 = true then (spec_l1Rd_say.j0 k s0_0 bt275.2 bt264.1 (wrap64 (1 + bt266.1)) bt268.1 bt270.1 1) else (spec_l1Rd_say.j0 k s0_0 bt275.2 bt264.1 (wrap64 (1 + bt266.1)) bt268.1 bt270.1 (wrap64 (1 + bt272.1)))))))))
theorem spec_l1Rd_say.mono_l : ∀ k, (∀ y0 y1 y2 y3 y4 y5 y6, LeO (spec_l1Rd_say.j0 k y0 y1 y2 y3 y4 y5 y6) (spec_l1Rd_say.j0 (k + 1) y0 y1 y2 y3 y4 y5 y6)) ∧ (∀ y0 y1 y2 y3 y4 y5 y6, LeO (spec_l1Rd_say.j1 k y0 y1 y2 y3 y4 y5 y6) (spec_l1Rd_say.j1 (k + 1) y0 y1 y2 y3 y4 y5 y6))
  | 0 => ⟨fun _ _ _ _ _ _ _ r h => by simp [spec_l1Rd_say.j0] at h, fun _ _ _ _ _ _ _ r h => by simp [spec_l1Rd_say.j1] at h⟩
  | k + 1 => by
    obtain ⟨ih0, ih1⟩ := spec_l1Rd_say.mono_l k
    refine ⟨?_, ?_⟩
    · intro y0 y1 y2 y3 y4 y5 y6
      unfold spec_l1Rd_say.j0
      repeat' first
      | (with_reducible exact ih0 _ _ _ _ _ _ _)
      | (with_reducible exact ih1 _ _ _ _ _ _ _)
      | (with_reducible exact LeO.refl _)
      | (with_reducible exact LeO.none _)
      | (with_reducible refine LeO.ite ?_ ?_)
      | (with_reducible refine LeO.bind ?_ (fun _ => ?_))
      | exact ih0 _ _ _ _ _ _ _
      | exact ih1 _ _ _ _ _ _ _
      | exact LeO.none _
      | refine LeO.ite ?_ ?_
      | refine LeO.bind ?_ (fun _ => ?_)
    · intro y0 y1 y2 y3 y4 y5 y6
      unfold spec_l1Rd_say.j1
      repeat' first
      | (with_reducible exact ih0 _ _ _ _ _ _ _)
      | (with_reducible exact ih1 _ _ _ _ _ _ _)
      | (with_reducible exact LeO.refl _)
      | (with_reducible exact LeO.none _)
      | (with_reducible refine LeO.ite ?_ ?_)
      | (with_reducible refine LeO.bind ?_ (fun _ => ?_))
      | exact ih0 _ _ _ _ _ _ _
      | exact ih1 _ _ _ _ _ _ _
      | exact LeO.none _
      | refine LeO.ite ?_ ?_
      | refine LeO.bind ?_ (fun _ => ?_)
theorem spec_l1Rd_say.mono : ∀ a0 a1 k, LeO (spec_l1Rd_say.f k a0 a1) (spec_l1Rd_say.f (k + 1) a0 a1) := by
  intro a0 a1 k
  obtain ⟨ih0, ih1⟩ := spec_l1Rd_say.mono_l k
  unfold spec_l1Rd_say.f
  repeat' first
      | (with_reducible exact ih0 _ _ _ _ _ _ _)
      | (with_reducible exact ih1 _ _ _ _ _ _ _)
      | (with_reducible exact LeO.refl _)
      | (with_reducible exact LeO.none _)
      | (with_reducible refine LeO.ite ?_ ?_)
      | (with_reducible refine LeO.bind ?_ (fun _ => ?_))
      | exact ih0 _ _ _ _ _ _ _
      | exact ih1 _ _ _ _ _ _ _
      | exact LeO.none _
      | refine LeO.ite ?_ ?_
      | refine LeO.bind ?_ (fun _ => ?_)
set_option maxHeartbeats 8000000 in
set_option maxRecDepth 100000 in
theorem spec_l1Rd_say.calls (k : Nat) (g : Nat) (s0_0 : List Int) (s0_1 : Int) (r1 : Int) (r2 : Int) (r3 : Int) (r4 : Int) (r5 : Int) (r6 : Int) (w0 w : World) (hI : IsS60 w0 w g s0_0 s0_1) (hB : Below w0.heap.size w0 w) (h : spec_l1Rd_say.f k s0_0 s0_1 = some (r1, r2, r3, r4, r5, r6)) :
    Calls Tryd.prog 27 #[.pointer (some ⟨g, 0, none⟩)] w fun e w' => e = .returned (.agg #[.int .i64 r1, .int .i64 r2, .int .i64 r3, .int .i64 r4, .int .i64 r5]) ∧ IsS60 w0 w' g s0_0 r6 ∧ Below w0.heap.size w0 w' ∧ KeepBut w w' g none := by
  have hu25 := Tryd.underlying25
  have HI0 := Aside0.mk hI
  have HK := Aside0.mk (KeepBut.refl w g none)
  have HL := Aside0.mk hB.size
  clear hI
  have HW0 := Aside0.mk hB.size
  have HB := Aside0.mk hB
  clear hB
  have H : ((spec_l1Rd_below.f s0_0 s0_1 9).bind fun bt264 => ((spec_l1Rd_below.f s0_0 bt264.2 12).bind fun bt266 => ((spec_l1Rd_below.f s0_0 bt266.2 13).bind fun bt268 => ((spec_l1Rd_below.f s0_0 bt268.2 4).bind fun bt270 => ((spec_l1Rd_below.f s0_0 bt270.2 100).bind fun bt272 => ((spec_l1Rd_once.f s0_0 bt272.2 3).bind fun bt275 => (if bt275.1 = true then (spec_l1Rd_say.j0 k s0_0 bt275.2 bt264.1 (wrap64 (1 + bt266.1)) bt268.1 bt270.1 1) else (spec_l1Rd_say.j0 k s0_0 bt275.2 bt264.1 (wrap64 (1 + bt266.1)) bt268.1 bt270.1 (wrap64 (1 + bt272.1)))))))))) = some (r1, r2, r3, r4, r5, r6) := h
  clear h
  replace H := Option.bind_eq_some_iff.mp H
  obtain ⟨⟨t264, t265⟩, A20, H⟩ := H
  replace H : ((spec_l1Rd_below.f s0_0 t265 12).bind fun bt266 => ((spec_l1Rd_below.f s0_0 bt266.2 13).bind fun bt268 => ((spec_l1Rd_below.f s0_0 bt268.2 4).bind fun bt270 => ((spec_l1Rd_below.f s0_0 bt270.2 100).bind fun bt272 => ((spec_l1Rd_once.f s0_0 bt272.2 3).bind fun bt275 => (if bt275.1 = true then (spec_l1Rd_say.j0 k s0_0 bt275.2 t264 (wrap64 (1 + bt266.1)) bt268.1 bt270.1 1) else (spec_l1Rd_say.j0 k s0_0 bt275.2 t264 (wrap64 (1 + bt266.1)) bt268.1 bt270.1 (wrap64 (1 + bt272.1))))))))) = some (r1, r2, r3, r4, r5, r6) := H
  have A2 := Aside0.mk A20
  clear A20
  replace H := Option.bind_eq_some_iff.mp H
  obtain ⟨⟨t266, t267⟩, A30, H⟩ := H
  replace H : ((spec_l1Rd_below.f s0_0 t267 13).bind fun bt268 => ((spec_l1Rd_below.f s0_0 bt268.2 4).bind fun bt270 => ((spec_l1Rd_below.f s0_0 bt270.2 100).bind fun bt272 => ((spec_l1Rd_once.f s0_0 bt272.2 3).bind fun bt275 => (if bt275.1 = true then (spec_l1Rd_say.j0 k s0_0 bt275.2 t264 (wrap64 (1 + t266)) bt268.1 bt270.1 1) else (spec_l1Rd_say.j0 k s0_0 bt275.2 t264 (wrap64 (1 + t266)) bt268.1 bt270.1 (wrap64 (1 + bt272.1)))))))) = some (r1, r2, r3, r4, r5, r6) := H
  have A3 := Aside0.mk A30
  clear A30
  replace H := Option.bind_eq_some_iff.mp H
  obtain ⟨⟨t268, t269⟩, A40, H⟩ := H
  replace H : ((spec_l1Rd_below.f s0_0 t269 4).bind fun bt270 => ((spec_l1Rd_below.f s0_0 bt270.2 100).bind fun bt272 => ((spec_l1Rd_once.f s0_0 bt272.2 3).bind fun bt275 => (if bt275.1 = true then (spec_l1Rd_say.j0 k s0_0 bt275.2 t264 (wrap64 (1 + t266)) t268 bt270.1 1) else (spec_l1Rd_say.j0 k s0_0 bt275.2 t264 (wrap64 (1 + t266)) t268 bt270.1 (wrap64 (1 + bt272.1))))))) = some (r1, r2, r3, r4, r5, r6) := H
  have A4 := Aside0.mk A40
  clear A40
  replace H := Option.bind_eq_some_iff.mp H
  obtain ⟨⟨t270, t271⟩, A50, H⟩ := H
  replace H : ((spec_l1Rd_below.f s0_0 t271 100).bind fun bt272 => ((spec_l1Rd_once.f s0_0 bt272.2 3).bind fun bt275 => (if bt275.1 = true then (spec_l1Rd_say.j0 k s0_0 bt275.2 t264 (wrap64 (1 + t266)) t268 t270 1) else (spec_l1Rd_say.j0 k s0_0 bt275.2 t264 (wrap64 (1 + t266)) t268 t270 (wrap64 (1 + bt272.1)))))) = some (r1, r2, r3, r4, r5, r6) := H
  have A5 := Aside0.mk A50
  clear A50
  replace H := Option.bind_eq_some_iff.mp H
  obtain ⟨⟨t272, t273⟩, A60, H⟩ := H
  replace H : ((spec_l1Rd_once.f s0_0 t273 3).bind fun bt275 => (if bt275.1 = true then (spec_l1Rd_say.j0 k s0_0 bt275.2 t264 (wrap64 (1 + t266)) t268 t270 1) else (spec_l1Rd_say.j0 k s0_0 bt275.2 t264 (wrap64 (1 + t266)) t268 t270 (wrap64 (1 + t272))))) = some (r1, r2, r3, r4, r5, r6) := H
  have A6 := Aside0.mk A60
  clear A60
  replace H := Option.bind_eq_some_iff.mp H
  obtain ⟨⟨t275, t276⟩, A70, H⟩ := H
  replace H : (if t275 = true then (spec_l1Rd_say.j0 k s0_0 t276 t264 (wrap64 (1 + t266)) t268 t270 1) else (spec_l1Rd_say.j0 k s0_0 t276 t264 (wrap64 (1 + t266)) t268 t270 (wrap64 (1 + t272)))) = some (r1, r2, r3, r4, r5, r6) := H
  have A7 := Aside0.mk A70
  clear A70
  have HC8 := Aside0.mk H
  clear H
  go_enter Tryd.func27, Tryd.ntmps27
  go_upto_if 18 with (first | ((with_reducible refine gate_dst (N := 2) rfl ?_); refine box_event ?hg (N := 2) ?hd (cs := #[.int .i64 0, .int .i64 0, .int .i64 0, .int .i64 0, .int .i64 0]) (t := 25) ?hr ?_; (case hd => rfl); (case hg => rfl); (case hr => first | (go_simp; done) | (go_simp; rfl)); intro gb263 hg w9 hbox hb; have n0_ := Aside0.mk (IsS60.below (by repeat (first | (with_reducible first | exact HI0.out | apply IsS60.alloc | apply IsS60.drewN | apply IsS60.drew | apply IsS60.set_1) | exact HI0.out)) hb); have n1_ := Aside0.mk (KeepBut.trans (by repeat (first | (with_reducible first | exact HK.out | apply KeepBut.set_ | apply keep_drewN | apply keep_drew | apply keep_alloc) | exact HK.out)) (KeepBut.of_below hb g none) (.inl rfl)); have n2_ := Aside0.mk (below_step (by repeat (first | (with_reducible first | exact HB.out | apply below_alloc | apply pw_below_drewN | apply below_drew1 | refine below_set ?_ (IsS60.ge HI0.out)) | exact HB.out)) hb); have n3_ := Aside0.mk (hbox); have n4_ := Aside0.mk ((by rw [hg]; exact (keep_size (w := w) (g := g) (row := none) (by repeat (first | (with_reducible first | exact HK.out | apply KeepBut.set_ | apply keep_drewN | apply keep_drew | apply keep_alloc) | exact HK.out))) : w.heap.size ≤ gb263)); have n5_ := Aside0.mk ((Nat.le_trans HW0.out (by rw [hg]; exact (keep_size (w := w) (g := g) (row := none) (by repeat (first | (with_reducible first | exact HK.out | apply KeepBut.set_ | apply keep_drewN | apply keep_drew | apply keep_alloc) | exact HK.out))) : w.heap.size ≤ gb263) : w0.heap.size ≤ gb263)); have n6_ := Aside0.mk ((by rw [hg]; exact Nat.ne_of_lt (IsS60.lt (show IsS60 w0 _ g s0_0 s0_1 from by repeat (first | (with_reducible first | exact HI0.out | apply IsS60.alloc | apply IsS60.drewN | apply IsS60.drew | apply IsS60.set_1) | exact HI0.out))) : g ≠ gb263)); have n7_ := Aside0.mk ((by rw [hg]; exact Nat.ne_of_gt (IsS60.lt (show IsS60 w0 _ g s0_0 s0_1 from by repeat (first | (with_reducible first | exact HI0.out | apply IsS60.alloc | apply IsS60.drewN | apply IsS60.drew | apply IsS60.set_1) | exact HI0.out))) : gb263 ≠ g)); clear HI0; clear HK; clear HB; have HI0 := n0_; have HK := n1_; have HB := n2_; have BK263 := n3_; have GW263 := n4_; have GE263 := n5_; have NB0_263 := n6_; have NB263_0 := n7_; clear n0_ n1_ n2_ n3_ n4_ n5_ n6_ n7_; clear hb hbox hg) | ((with_reducible refine gate_callee (f := 28) rfl ?_); refine goesL_ (some 5) rfl rfl Tryd.func28 (by kernel_rfl) rfl #[.pointer (some ⟨g, 0, none⟩), .int .i64 9] rfl (by (try simp only [List.map_toArray, List.map_cons, List.map_nil]); first | done | rfl | (simp only [List.length_drop, List.length_take]; rfl)) ?_; (with_reducible refine (spec_l1Rd_below.calls g s0_0 s0_1 9 t264 t265 w0 _ ?side1 ?side2 A2.out).mono ?_); (case side1 => repeat (first | (with_reducible first | exact HI0.out | apply IsS60.alloc | apply IsS60.drewN | apply IsS60.drew | apply IsS60.set_1 | refine IsS60.far ?_ NB0_263.out _) | exact HI0.out)); (case side2 => repeat (first | (with_reducible first | exact HB.out | apply below_alloc | apply pw_below_drewN | apply below_drew1 | refine below_set ?_ (IsS60.ge HI0.out) | refine below_set ?_ GE263.out) | exact HB.out)); rintro e w10 ⟨rfl, hi, hb, hk⟩; refine ⟨_, rfl, ?_⟩; have n0_ := Aside0.mk (KeepBut.blk hk (g' := gb263) (o := .cells #[.int .i64 0, .int .i64 0, .int .i64 0, .int .i64 0, .int .i64 0] 25 (0, 0)) (by (with_reducible repeat (first | refine blk_drewN ?_ _ | refine blk_drew ?_ | refine blk_alloc ?_ _)); exact BK263.out) NB263_0.out (by simp)); have n1_ := Aside0.mk (KeepBut.trans (by repeat (first | (with_reducible first | exact HK.out | apply KeepBut.set_ | apply keep_drewN | apply keep_drew | apply keep_alloc | refine keep_far ?_ GW263.out _) | exact HK.out)) hk (.inl rfl)); have n2_ := Aside0.mk (hb); have n3_ := Aside0.mk (hi); clear BK263; clear HK; clear HB; clear HI0; have BK263 := n0_; have HK := n1_; have HB := n2_; have HI0 := n3_; clear n0_ n1_ n2_ n3_; (try clear hb); (try clear hb2); (try clear hk); (try clear hi)) | ((with_reducible refine gate_callee (f := 28) rfl ?_); refine goesL_ (some 7) rfl rfl Tryd.func28 (by kernel_rfl) rfl #[.pointer (some ⟨g, 0, none⟩), .int .i64 12] rfl (by (try simp only [List.map_toArray, List.map_cons, List.map_nil]); first | done | rfl | (simp only [List.length_drop, List.length_take]; rfl)) ?_; (with_reducible refine (spec_l1Rd_below.calls g s0_0 t265 12 t266 t267 w0 _ ?side1 ?side2 A3.out).mono ?_); (case side1 => repeat (first | (with_reducible first | exact HI0.out | apply IsS60.alloc | apply IsS60.drewN | apply IsS60.drew | apply IsS60.set_1 | refine IsS60.far ?_ NB0_263.out _) | exact HI0.out)); (case side2 => repeat (first | (with_reducible first | exact HB.out | apply below_alloc | apply pw_below_drewN | apply below_drew1 | refine below_set ?_ (IsS60.ge HI0.out) | refine below_set ?_ GE263.out) | exact HB.out)); rintro e w11 ⟨rfl, hi, hb, hk⟩; refine ⟨_, rfl, ?_⟩; have n0_ := Aside0.mk (KeepBut.blk hk (g' := gb263) (o := .cells #[.int .i64 0, .int .i64 0, .int .i64 0, .int .i64 0, .int .i64 0] 25 (0, 0)) (by (with_reducible repeat (first | refine blk_drewN ?_ _ | refine blk_drew ?_ | refine blk_alloc ?_ _)); exact BK263.out) NB263_0.out (by simp)); have n1_ := Aside0.mk (KeepBut.trans (by repeat (first | (with_reducible first | exact HK.out | apply KeepBut.set_ | apply keep_drewN | apply keep_drew | apply keep_alloc | refine keep_far ?_ GW263.out _) | exact HK.out)) hk (.inl rfl)); have n2_ := Aside0.mk (hb); have n3_ := Aside0.mk (hi); clear BK263; clear HK; clear HB; clear HI0; have BK263 := n0_; have HK := n1_; have HB := n2_; have HI0 := n3_; clear n0_ n1_ n2_ n3_; (try clear hb); (try clear hb2); (try clear hk); (try clear hi)) | ((with_reducible refine gate_callee (f := 28) rfl ?_); refine goesL_ (some 10) rfl rfl Tryd.func28 (by kernel_rfl) rfl #[.pointer (some ⟨g, 0, none⟩), .int .i64 13] rfl (by (try simp only [List.map_toArray, List.map_cons, List.map_nil]); first | done | rfl | (simp only [List.length_drop, List.length_take]; rfl)) ?_; (with_reducible refine (spec_l1Rd_below.calls g s0_0 t267 13 t268 t269 w0 _ ?side1 ?side2 A4.out).mono ?_); (case side1 => repeat (first | (with_reducible first | exact HI0.out | apply IsS60.alloc | apply IsS60.drewN | apply IsS60.drew | apply IsS60.set_1 | refine IsS60.far ?_ NB0_263.out _) | exact HI0.out)); (case side2 => repeat (first | (with_reducible first | exact HB.out | apply below_alloc | apply pw_below_drewN | apply below_drew1 | refine below_set ?_ (IsS60.ge HI0.out) | refine below_set ?_ GE263.out) | exact HB.out)); rintro e w12 ⟨rfl, hi, hb, hk⟩; refine ⟨_, rfl, ?_⟩; have n0_ := Aside0.mk (KeepBut.blk hk (g' := gb263) (o := .cells #[.int .i64 0, .int .i64 0, .int .i64 0, .int .i64 0, .int .i64 0] 25 (0, 0)) (by (with_reducible repeat (first | refine blk_drewN ?_ _ | refine blk_drew ?_ | refine blk_alloc ?_ _)); exact BK263.out) NB263_0.out (by simp)); have n1_ := Aside0.mk (KeepBut.trans (by repeat (first | (with_reducible first | exact HK.out | apply KeepBut.set_ | apply keep_drewN | apply keep_drew | apply keep_alloc | refine keep_far ?_ GW263.out _) | exact HK.out)) hk (.inl rfl)); have n2_ := Aside0.mk (hb); have n3_ := Aside0.mk (hi); clear BK263; clear HK; clear HB; clear HI0; have BK263 := n0_; have HK := n1_; have HB := n2_; have HI0 := n3_; clear n0_ n1_ n2_ n3_; (try clear hb); (try clear hb2); (try clear hk); (try clear hi)) | ((with_reducible refine gate_callee (f := 28) rfl ?_); refine goesL_ (some 12) rfl rfl Tryd.func28 (by kernel_rfl) rfl #[.pointer (some ⟨g, 0, none⟩), .int .i64 4] rfl (by (try simp only [List.map_toArray, List.map_cons, List.map_nil]); first | done | rfl | (simp only [List.length_drop, List.length_take]; rfl)) ?_; (with_reducible refine (spec_l1Rd_below.calls g s0_0 t269 4 t270 t271 w0 _ ?side1 ?side2 A5.out).mono ?_); (case side1 => repeat (first | (with_reducible first | exact HI0.out | apply IsS60.alloc | apply IsS60.drewN | apply IsS60.drew | apply IsS60.set_1 | refine IsS60.far ?_ NB0_263.out _) | exact HI0.out)); (case side2 => repeat (first | (with_reducible first | exact HB.out | apply below_alloc | apply pw_below_drewN | apply below_drew1 | refine below_set ?_ (IsS60.ge HI0.out) | refine below_set ?_ GE263.out) | exact HB.out)); rintro e w13 ⟨rfl, hi, hb, hk⟩; refine ⟨_, rfl, ?_⟩; have n0_ := Aside0.mk (KeepBut.blk hk (g' := gb263) (o := .cells #[.int .i64 0, .int .i64 0, .int .i64 0, .int .i64 0, .int .i64 0] 25 (0, 0)) (by (with_reducible repeat (first | refine blk_drewN ?_ _ | refine blk_drew ?_ | refine blk_alloc ?_ _)); exact BK263.out) NB263_0.out (by simp)); have n1_ := Aside0.mk (KeepBut.trans (by repeat (first | (with_reducible first | exact HK.out | apply KeepBut.set_ | apply keep_drewN | apply keep_drew | apply keep_alloc | refine keep_far ?_ GW263.out _) | exact HK.out)) hk (.inl rfl)); have n2_ := Aside0.mk (hb); have n3_ := Aside0.mk (hi); clear BK263; clear HK; clear HB; clear HI0; have BK263 := n0_; have HK := n1_; have HB := n2_; have HI0 := n3_; clear n0_ n1_ n2_ n3_; (try clear hb); (try clear hb2); (try clear hk); (try clear hi)) | ((with_reducible refine gate_callee (f := 28) rfl ?_); refine goesL_ (some 14) rfl rfl Tryd.func28 (by kernel_rfl) rfl #[.pointer (some ⟨g, 0, none⟩), .int .i64 100] rfl (by (try simp only [List.map_toArray, List.map_cons, List.map_nil]); first | done | rfl | (simp only [List.length_drop, List.length_take]; rfl)) ?_; (with_reducible refine (spec_l1Rd_below.calls g s0_0 t271 100 t272 t273 w0 _ ?side1 ?side2 A6.out).mono ?_); (case side1 => repeat (first | (with_reducible first | exact HI0.out | apply IsS60.alloc | apply IsS60.drewN | apply IsS60.drew | apply IsS60.set_1 | refine IsS60.far ?_ NB0_263.out _) | exact HI0.out)); (case side2 => repeat (first | (with_reducible first | exact HB.out | apply below_alloc | apply pw_below_drewN | apply below_drew1 | refine below_set ?_ (IsS60.ge HI0.out) | refine below_set ?_ GE263.out) | exact HB.out)); rintro e w14 ⟨rfl, hi, hb, hk⟩; refine ⟨_, rfl, ?_⟩; have n0_ := Aside0.mk (KeepBut.blk hk (g' := gb263) (o := .cells #[.int .i64 0, .int .i64 0, .int .i64 0, .int .i64 0, .int .i64 0] 25 (0, 0)) (by (with_reducible repeat (first | refine blk_drewN ?_ _ | refine blk_drew ?_ | refine blk_alloc ?_ _)); exact BK263.out) NB263_0.out (by simp)); have n1_ := Aside0.mk (KeepBut.trans (by repeat (first | (with_reducible first | exact HK.out | apply KeepBut.set_ | apply keep_drewN | apply keep_drew | apply keep_alloc | refine keep_far ?_ GW263.out _) | exact HK.out)) hk (.inl rfl)); have n2_ := Aside0.mk (hb); have n3_ := Aside0.mk (hi); clear BK263; clear HK; clear HB; clear HI0; have BK263 := n0_; have HK := n1_; have HB := n2_; have HI0 := n3_; clear n0_ n1_ n2_ n3_; (try clear hb); (try clear hb2); (try clear hk); (try clear hi)) | ((with_reducible refine gate_dst (N := 3) rfl ?_); refine box_event ?hg (N := 3) ?hd (cs := #[.int .i64 0, .int .i64 0, .int .i64 0, .int .i64 0, .int .i64 0]) (t := 25) ?hr ?_; (case hd => rfl); (case hg => rfl); (case hr => first | (go_simp; done) | (go_simp; rfl)); intro gb274 hg w15 hbox hb; have n0_ := Aside0.mk (IsS60.below (by repeat (first | (with_reducible first | exact HI0.out | apply IsS60.alloc | apply IsS60.drewN | apply IsS60.drew | apply IsS60.set_1 | refine IsS60.far ?_ NB0_263.out _) | exact HI0.out)) hb); have n1_ := Aside0.mk (blk_below (g := gb263) (o := .cells #[.int .i64 0, .int .i64 0, .int .i64 0, .int .i64 0, .int .i64 0] 25 (0, 0)) (by (with_reducible repeat (first | refine blk_drewN ?_ _ | refine blk_drew ?_ | refine blk_alloc ?_ _)); exact BK263.out) hb); have n2_ := Aside0.mk (KeepBut.trans (by repeat (first | (with_reducible first | exact HK.out | apply KeepBut.set_ | apply keep_drewN | apply keep_drew | apply keep_alloc | refine keep_far ?_ GW263.out _) | exact HK.out)) (KeepBut.of_below hb g none) (.inl rfl)); have n3_ := Aside0.mk (below_step (by repeat (first | (with_reducible first | exact HB.out | apply below_alloc | apply pw_below_drewN | apply below_drew1 | refine below_set ?_ (IsS60.ge HI0.out) | refine below_set ?_ GE263.out) | exact HB.out)) hb); have n4_ := Aside0.mk (hbox); have n5_ := Aside0.mk ((by rw [hg]; exact (keep_size (w := w) (g := g) (row := none) (by repeat (first | (with_reducible first | exact HK.out | apply KeepBut.set_ | apply keep_drewN | apply keep_drew | apply keep_alloc | refine keep_far ?_ GW263.out _) | exact HK.out))) : w.heap.size ≤ gb274)); have n6_ := Aside0.mk ((Nat.le_trans HW0.out (by rw [hg]; exact (keep_size (w := w) (g := g) (row := none) (by repeat (first | (with_reducible first | exact HK.out | apply KeepBut.set_ | apply keep_drewN | apply keep_drew | apply keep_alloc | refine keep_far ?_ GW263.out _) | exact HK.out))) : w.heap.size ≤ gb274) : w0.heap.size ≤ gb274)); have n7_ := Aside0.mk ((by rw [hg]; exact Nat.ne_of_lt (blk_lt (g := gb263) (o := .cells #[.int .i64 0, .int .i64 0, .int .i64 0, .int .i64 0, .int .i64 0] 25 (0, 0)) (by (with_reducible repeat (first | refine blk_drewN ?_ _ | refine blk_drew ?_ | refine blk_alloc ?_ _)); exact BK263.out)) : gb263 ≠ gb274)); have n8_ := Aside0.mk ((by rw [hg]; exact Nat.ne_of_gt (blk_lt (g := gb263) (o := .cells #[.int .i64 0, .int .i64 0, .int .i64 0, .int .i64 0, .int .i64 0] 25 (0, 0)) (by (with_reducible repeat (first | refine blk_drewN ?_ _ | refine blk_drew ?_ | refine blk_alloc ?_ _)); exact BK263.out)) : gb274 ≠ gb263)); have n9_ := Aside0.mk ((by rw [hg]; exact Nat.ne_of_lt (IsS60.lt (show IsS60 w0 _ g s0_0 t273 from by repeat (first | (with_reducible first | exact HI0.out | apply IsS60.alloc | apply IsS60.drewN | apply IsS60.drew | apply IsS60.set_1 | refine IsS60.far ?_ NB0_263.out _) | exact HI0.out))) : g ≠ gb274)); have n10_ := Aside0.mk ((by rw [hg]; exact Nat.ne_of_gt (IsS60.lt (show IsS60 w0 _ g s0_0 t273 from by repeat (first | (with_reducible first | exact HI0.out | apply IsS60.alloc | apply IsS60.drewN | apply IsS60.drew | apply IsS60.set_1 | refine IsS60.far ?_ NB0_263.out _) | exact HI0.out))) : gb274 ≠ g)); clear HI0; clear BK263; clear HK; clear HB; have HI0 := n0_; have BK263 := n1_; have HK := n2_; have HB := n3_; have BK274 := n4_; have GW274 := n5_; have GE274 := n6_; have NB263_274 := n7_; have NB274_263 := n8_; have NB0_274 := n9_; have NB274_0 := n10_; clear n0_ n1_ n2_ n3_ n4_ n5_ n6_ n7_ n8_ n9_ n10_; clear hb hbox hg; have hnb16 := NB274_263.out; have hnc16 := NB263_274.out; have hnb17 := NB274_0.out; have hnc17 := NB0_274.out; have hcz18_0 : w15.cell? ⟨gb274, 0, none⟩ = some (.int .i64 0) := (blk_cell BK274.out 0).trans rfl; have hcz18_1 : w15.cell? ⟨gb274, 1, none⟩ = some (.int .i64 0) := (blk_cell BK274.out 1).trans rfl; have hcz18_2 : w15.cell? ⟨gb274, 2, none⟩ = some (.int .i64 0) := (blk_cell BK274.out 2).trans rfl; have hcz18_3 : w15.cell? ⟨gb274, 3, none⟩ = some (.int .i64 0) := (blk_cell BK274.out 3).trans rfl; have hcz18_4 : w15.cell? ⟨gb274, 4, none⟩ = some (.int .i64 0) := (blk_cell BK274.out 4).trans rfl; have hfz18_0 := blk_frozen BK274.out 0; have hfz18_1 := blk_frozen BK274.out 1; have hfz18_2 := blk_frozen BK274.out 2; have hfz18_3 := blk_frozen BK274.out 3; have hfz18_4 := blk_frozen BK274.out 4) | ((with_reducible refine gate_callee (f := 29) rfl ?_); refine goesL_ (some 18) rfl rfl Tryd.func29 (by kernel_rfl) rfl #[.pointer (some ⟨g, 0, none⟩), .int .i64 3] rfl (by (try simp only [List.map_toArray, List.map_cons, List.map_nil]); first | done | rfl | (simp only [List.length_drop, List.length_take]; rfl)) ?_; (with_reducible refine (spec_l1Rd_once.calls g s0_0 t273 3 t275 t276 w0 _ ?side1 ?side2 A7.out).mono ?_); (case side1 => repeat (first | (with_reducible first | exact HI0.out | apply IsS60.alloc | apply IsS60.drewN | apply IsS60.drew | apply IsS60.set_1 | refine IsS60.far ?_ NB0_263.out _ | refine IsS60.far ?_ NB0_274.out _) | exact HI0.out)); (case side2 => repeat (first | (with_reducible first | exact HB.out | apply below_alloc | apply pw_below_drewN | apply below_drew1 | refine below_set ?_ (IsS60.ge HI0.out) | refine below_set ?_ GE263.out | refine below_set ?_ GE274.out) | exact HB.out)); rintro e w19 ⟨rfl, hi, hb, hk⟩; refine ⟨_, rfl, ?_⟩; have n0_ := Aside0.mk (KeepBut.blk hk (g' := gb263) (o := .cells #[.int .i64 0, .int .i64 0, .int .i64 0, .int .i64 0, .int .i64 0] 25 (0, 0)) (by (with_reducible repeat (first | refine blk_drewN ?_ _ | refine blk_drew ?_ | refine blk_alloc ?_ _)); refine blk_far ?_ NB263_274.out _; (with_reducible repeat (first | refine blk_drewN ?_ _ | refine blk_drew ?_ | refine blk_alloc ?_ _)); refine blk_far ?_ NB263_274.out _; (with_reducible repeat (first | refine blk_drewN ?_ _ | refine blk_drew ?_ | refine blk_alloc ?_ _)); refine blk_far ?_ NB263_274.out _; (with_reducible repeat (first | refine blk_drewN ?_ _ | refine blk_drew ?_ | refine blk_alloc ?_ _)); refine blk_far ?_ NB263_274.out _; (with_reducible repeat (first | refine blk_drewN ?_ _ | refine blk_drew ?_ | refine blk_alloc ?_ _)); refine blk_far ?_ NB263_274.out _; (with_reducible repeat (first | refine blk_drewN ?_ _ | refine blk_drew ?_ | refine blk_alloc ?_ _)); exact BK263.out) NB263_0.out (by simp)); have n1_ := Aside0.mk (KeepBut.blk hk (g' := gb274) (o := .cells #[.int .i64 t264, .int .i64 (wrap64 (1 + t266)), .int .i64 t268, .int .i64 t270, .int .i64 (wrap64 (1 + t272))] 25 (0, 0)) (by (with_reducible repeat (first | refine blk_drewN ?_ _ | refine blk_drew ?_ | refine blk_alloc ?_ _)); refine blk_put (cs := #[.int .i64 t264, .int .i64 (wrap64 (1 + t266)), .int .i64 t268, .int .i64 t270, .int .i64 0]) ?_ 4 _ rfl; (with_reducible repeat (first | refine blk_drewN ?_ _ | refine blk_drew ?_ | refine blk_alloc ?_ _)); refine blk_put (cs := #[.int .i64 t264, .int .i64 (wrap64 (1 + t266)), .int .i64 t268, .int .i64 0, .int .i64 0]) ?_ 3 _ rfl; (with_reducible repeat (first | refine blk_drewN ?_ _ | refine blk_drew ?_ | refine blk_alloc ?_ _)); refine blk_put (cs := #[.int .i64 t264, .int .i64 (wrap64 (1 + t266)), .int .i64 0, .int .i64 0, .int .i64 0]) ?_ 2 _ rfl; (with_reducible repeat (first | refine blk_drewN ?_ _ | refine blk_drew ?_ | refine blk_alloc ?_ _)); refine blk_put (cs := #[.int .i64 t264, .int .i64 0, .int .i64 0, .int .i64 0, .int .i64 0]) ?_ 1 _ rfl; (with_reducible repeat (first | refine blk_drewN ?_ _ | refine blk_drew ?_ | refine blk_alloc ?_ _)); refine blk_put (cs := #[.int .i64 0, .int .i64 0, .int .i64 0, .int .i64 0, .int .i64 0]) ?_ 0 _ rfl; (with_reducible repeat (first | refine blk_drewN ?_ _ | refine blk_drew ?_ | refine blk_alloc ?_ _)); exact BK274.out) NB274_0.out (by simp)); have n2_ := Aside0.mk (KeepBut.trans (by repeat (first | (with_reducible first | exact HK.out | apply KeepBut.set_ | apply keep_drewN | apply keep_drew | apply keep_alloc | refine keep_far ?_ GW263.out _ | refine keep_far ?_ GW274.out _) | exact HK.out)) hk (.inl rfl)); have n3_ := Aside0.mk (hb); have n4_ := Aside0.mk (hi); clear BK263; clear BK274; clear HK; clear HB; clear HI0; have BK263 := n0_; have BK274 := n1_; have HK := n2_; have HB := n3_; have HI0 := n4_; clear n0_ n1_ n2_ n3_ n4_; (try clear hb); (try clear hb2); (try clear hk); (try clear hi)))
  (try simp only [Act.put, List.setIfInBounds_toArray, List.set_cons_zero, List.set_cons_succ])
  go_cut [] (fun wc => ∃ (kq : Nat) (x275004_7 : Int), Aside0 (spec_l1Rd_say.j0 kq s0_0 t276 t264 (wrap64 (1 + t266)) t268 t270 x275004_7 = some (r1, r2, r3, r4, r5, r6)) ∧ Aside0 (kq ≤ k) ∧ Aside0 (wc.heap[gb263]? = some (.cells #[.int .i64 0, .int .i64 0, .int .i64 0, .int .i64 0, .int .i64 0] 25 (0, 0))) ∧ Aside0 (wc.heap[gb274]? = some (.cells #[.int .i64 t264, .int .i64 (wrap64 (1 + t266)), .int .i64 t268, .int .i64 t270, .int .i64 x275004_7] 25 (0, 0))) ∧ Aside0 (IsS60 w0 wc g s0_0 t276) ∧ Aside0 (KeepBut w wc g none) ∧ Aside0 (Below w0.heap.size w0 wc))
  case first =>
    have H := HC8.out
    clear HC8
    by_cases c20 : t275 = true
    · subst c20
      have H1 : (spec_l1Rd_say.j0 k s0_0 t276 t264 (wrap64 (1 + t266)) t268 t270 1) = some (r1, r2, r3, r4, r5, r6) := by rw [if_pos rfl] at H; exact H
      clear H
      have H := H1
      clear H1
      have H' := Aside0.mk H
      clear H
      have hnb21 := NB274_263.out
      have hnc21 := NB263_274.out
      have hnb22 := NB274_0.out
      have hnc22 := NB0_274.out
      have hcz23_0 : w19.cell? ⟨gb274, 0, none⟩ = some (.int .i64 t264) := (blk_cell BK274.out 0).trans rfl
      have hcz23_1 : w19.cell? ⟨gb274, 1, none⟩ = some (.int .i64 (wrap64 (1 + t266))) := (blk_cell BK274.out 1).trans rfl
      have hcz23_2 : w19.cell? ⟨gb274, 2, none⟩ = some (.int .i64 t268) := (blk_cell BK274.out 2).trans rfl
      have hcz23_3 : w19.cell? ⟨gb274, 3, none⟩ = some (.int .i64 t270) := (blk_cell BK274.out 3).trans rfl
      have hcz23_4 : w19.cell? ⟨gb274, 4, none⟩ = some (.int .i64 (wrap64 (1 + t272))) := (blk_cell BK274.out 4).trans rfl
      have hfz23_0 := blk_frozen BK274.out 0
      have hfz23_1 := blk_frozen BK274.out 1
      have hfz23_2 := blk_frozen BK274.out 2
      have hfz23_3 := blk_frozen BK274.out 3
      have hfz23_4 := blk_frozen BK274.out 4
      go_wp2
      go_meet
      case rel => exact ⟨_, (1), H', ⟨by first | omega | exact Nat.le_refl _⟩, ⟨by (with_reducible repeat (first | refine blk_drewN ?_ _ | refine blk_drew ?_ | refine blk_alloc ?_ _)); refine blk_far ?_ NB263_274.out _; (with_reducible repeat (first | refine blk_drewN ?_ _ | refine blk_drew ?_ | refine blk_alloc ?_ _)); exact BK263.out⟩, ⟨by (with_reducible repeat (first | refine blk_drewN ?_ _ | refine blk_drew ?_ | refine blk_alloc ?_ _)); refine blk_put (cs := #[.int .i64 t264, .int .i64 (wrap64 (1 + t266)), .int .i64 t268, .int .i64 t270, .int .i64 (wrap64 (1 + t272))]) ?_ 4 _ rfl; (with_reducible repeat (first | refine blk_drewN ?_ _ | refine blk_drew ?_ | refine blk_alloc ?_ _)); exact BK274.out⟩, ⟨by repeat (first | (with_reducible first | exact HI0.out | apply IsS60.alloc | apply IsS60.drewN | apply IsS60.drew | apply IsS60.set_1 | refine IsS60.far ?_ NB0_263.out _ | refine IsS60.far ?_ NB0_274.out _) | exact HI0.out)⟩, ⟨by repeat (first | (with_reducible first | exact HK.out | apply KeepBut.set_ | apply keep_drewN | apply keep_drew | apply keep_alloc | refine keep_far ?_ GW263.out _ | refine keep_far ?_ GW274.out _) | exact HK.out)⟩, ⟨by repeat (first | (with_reducible first | exact HB.out | apply below_alloc | apply pw_below_drewN | apply below_drew1 | refine below_set ?_ (IsS60.ge HI0.out) | refine below_set ?_ GE263.out | refine below_set ?_ GE274.out) | exact HB.out)⟩⟩
    · replace c20 := Bool.eq_false_iff.mpr c20
      subst c20
      have H1 : (spec_l1Rd_say.j0 k s0_0 t276 t264 (wrap64 (1 + t266)) t268 t270 (wrap64 (1 + t272))) = some (r1, r2, r3, r4, r5, r6) := by rw [if_neg (show ¬ (false = true) by decide)] at H; exact H
      clear H
      have H := H1
      clear H1
      have H' := Aside0.mk H
      clear H
      go_wp2
      go_meet
      case rel => exact ⟨_, (wrap64 (1 + t272)), H', ⟨by first | omega | exact Nat.le_refl _⟩, ⟨by (with_reducible repeat (first | refine blk_drewN ?_ _ | refine blk_drew ?_ | refine blk_alloc ?_ _)); exact BK263.out⟩, ⟨by (with_reducible repeat (first | refine blk_drewN ?_ _ | refine blk_drew ?_ | refine blk_alloc ?_ _)); exact BK274.out⟩, ⟨by repeat (first | (with_reducible first | exact HI0.out | apply IsS60.alloc | apply IsS60.drewN | apply IsS60.drew | apply IsS60.set_1 | refine IsS60.far ?_ NB0_263.out _ | refine IsS60.far ?_ NB0_274.out _) | exact HI0.out)⟩, ⟨by repeat (first | (with_reducible first | exact HK.out | apply KeepBut.set_ | apply keep_drewN | apply keep_drew | apply keep_alloc | refine keep_far ?_ GW263.out _ | refine keep_far ?_ GW274.out _) | exact HK.out)⟩, ⟨by repeat (first | (with_reducible first | exact HB.out | apply below_alloc | apply pw_below_drewN | apply below_drew1 | refine below_set ?_ (IsS60.ge HI0.out) | refine below_set ?_ GE263.out | refine below_set ?_ GE274.out) | exact HB.out)⟩⟩
  case rest =>
    clear HC8
    try clear c1
    try clear c2
    try clear p2
    try clear p6
    try clear c16
    try clear c17
    try clear c20
    try clear c21
    try clear c22
    try clear hcz18_0
    try clear hcz18_1
    try clear hcz18_2
    try clear hcz18_3
    try clear hcz18_4
    try clear hcz23_0
    try clear hcz23_1
    try clear hcz23_2
    try clear hcz23_3
    try clear hcz23_4
    try clear hfz18_0
    try clear hfz18_1
    try clear hfz18_2
    try clear hfz18_3
    try clear hfz18_4
    try clear hfz23_0
    try clear hfz23_1
    try clear hfz23_2
    try clear hfz23_3
    try clear hfz23_4
    obtain ⟨kq, x275004_7, HA, HJ7, BK263, BK274, HI0, HK, HB⟩ := hcut
    cases kq with
    | zero => exact absurd HA.out (by simp [spec_l1Rd_say.j0])
    | succ kj7 =>
      have H := HA.out
      clear HA
      simp only [spec_l1Rd_say.j0] at H
      replace H := Option.bind_eq_some_iff.mp H
      obtain ⟨⟨t277, t278⟩, A240, H⟩ := H
      replace H : (if t277 = true then (spec_l1Rd_say.j1 kj7 s0_0 t278 t264 (wrap64 (1 + t266)) (wrap64 (1 + t266)) t270 x275004_7) else (spec_l1Rd_say.j1 kj7 s0_0 t278 t264 (wrap64 (1 + t266)) t268 t270 x275004_7)) = some (r1, r2, r3, r4, r5, r6) := H
      have A24 := Aside0.mk A240
      clear A240
      have HC25 := Aside0.mk H
      clear H
      go_upto_if 21 with (first | ((with_reducible refine gate_callee (f := 29) rfl ?_); refine goesL_ (some 21) rfl rfl Tryd.func29 (by kernel_rfl) rfl #[.pointer (some ⟨g, 0, none⟩), .int .i64 3] rfl (by (try simp only [List.map_toArray, List.map_cons, List.map_nil]); first | done | rfl | (simp only [List.length_drop, List.length_take]; rfl)) ?_; (with_reducible refine (spec_l1Rd_once.calls g s0_0 t276 3 t277 t278 w0 _ ?side1 ?side2 A24.out).mono ?_); (case side1 => repeat (first | (with_reducible first | exact HI0.out | apply IsS60.alloc | apply IsS60.drewN | apply IsS60.drew | apply IsS60.set_1 | refine IsS60.far ?_ NB0_263.out _ | refine IsS60.far ?_ NB0_274.out _) | exact HI0.out)); (case side2 => repeat (first | (with_reducible first | exact HB.out | apply below_alloc | apply pw_below_drewN | apply below_drew1 | refine below_set ?_ (IsS60.ge HI0.out) | refine below_set ?_ GE263.out | refine below_set ?_ GE274.out) | exact HB.out)); rintro e w26 ⟨rfl, hi, hb, hk⟩; refine ⟨_, rfl, ?_⟩; have n0_ := Aside0.mk (KeepBut.blk hk (g' := gb263) (o := .cells #[.int .i64 0, .int .i64 0, .int .i64 0, .int .i64 0, .int .i64 0] 25 (0, 0)) (by (with_reducible repeat (first | refine blk_drewN ?_ _ | refine blk_drew ?_ | refine blk_alloc ?_ _)); exact BK263.out) NB263_0.out (by simp)); have n1_ := Aside0.mk (KeepBut.blk hk (g' := gb274) (o := .cells #[.int .i64 t264, .int .i64 (wrap64 (1 + t266)), .int .i64 t268, .int .i64 t270, .int .i64 x275004_7] 25 (0, 0)) (by (with_reducible repeat (first | refine blk_drewN ?_ _ | refine blk_drew ?_ | refine blk_alloc ?_ _)); exact BK274.out) NB274_0.out (by simp)); have n2_ := Aside0.mk (KeepBut.trans (by repeat (first | (with_reducible first | exact HK.out | apply KeepBut.set_ | apply keep_drewN | apply keep_drew | apply keep_alloc | refine keep_far ?_ GW263.out _ | refine keep_far ?_ GW274.out _) | exact HK.out)) hk (.inl rfl)); have n3_ := Aside0.mk (hb); have n4_ := Aside0.mk (hi); clear BK263; clear BK274; clear HK; clear HB; clear HI0; have BK263 := n0_; have BK274 := n1_; have HK := n2_; have HB := n3_; have HI0 := n4_; clear n0_ n1_ n2_ n3_ n4_; (try clear hb); (try clear hb2); (try clear hk); (try clear hi)))
      (try simp only [Act.put, List.setIfInBounds_toArray, List.set_cons_zero, List.set_cons_succ])
      go_cut [] (fun wc => ∃ (kq : Nat) (x275002_24 : Int), Aside0 (spec_l1Rd_say.j1 kq s0_0 t278 t264 (wrap64 (1 + t266)) x275002_24 t270 x275004_7 = some (r1, r2, r3, r4, r5, r6)) ∧ Aside0 (kq ≤ kj7) ∧ Aside0 (wc.heap[gb263]? = some (.cells #[.int .i64 0, .int .i64 0, .int .i64 0, .int .i64 0, .int .i64 0] 25 (0, 0))) ∧ Aside0 (wc.heap[gb274]? = some (.cells #[.int .i64 t264, .int .i64 (wrap64 (1 + t266)), .int .i64 x275002_24, .int .i64 t270, .int .i64 x275004_7] 25 (0, 0))) ∧ Aside0 (IsS60 w0 wc g s0_0 t278) ∧ Aside0 (KeepBut w wc g none) ∧ Aside0 (Below w0.heap.size w0 wc))
      case first =>
        have H := HC25.out
        clear HC25
        by_cases c27 : t277 = true
        · subst c27
          have H1 : (spec_l1Rd_say.j1 kj7 s0_0 t278 t264 (wrap64 (1 + t266)) (wrap64 (1 + t266)) t270 x275004_7) = some (r1, r2, r3, r4, r5, r6) := by rw [if_pos rfl] at H; exact H
          clear H
          have H := H1
          clear H1
          have H' := Aside0.mk H
          clear H
          have hnb28 := NB274_263.out
          have hnc28 := NB263_274.out
          have hnb29 := NB274_0.out
          have hnc29 := NB0_274.out
          have hcz30_0 : w26.cell? ⟨gb274, 0, none⟩ = some (.int .i64 t264) := (blk_cell BK274.out 0).trans rfl
          have hcz30_1 : w26.cell? ⟨gb274, 1, none⟩ = some (.int .i64 (wrap64 (1 + t266))) := (blk_cell BK274.out 1).trans rfl
          have hcz30_2 : w26.cell? ⟨gb274, 2, none⟩ = some (.int .i64 t268) := (blk_cell BK274.out 2).trans rfl
          have hcz30_3 : w26.cell? ⟨gb274, 3, none⟩ = some (.int .i64 t270) := (blk_cell BK274.out 3).trans rfl
          have hcz30_4 : w26.cell? ⟨gb274, 4, none⟩ = some (.int .i64 x275004_7) := (blk_cell BK274.out 4).trans rfl
          have hfz30_0 := blk_frozen BK274.out 0
          have hfz30_1 := blk_frozen BK274.out 1
          have hfz30_2 := blk_frozen BK274.out 2
          have hfz30_3 := blk_frozen BK274.out 3
          have hfz30_4 := blk_frozen BK274.out 4
          go_wp2
          go_meet
          case rel => exact ⟨_, ((wrap64 (1 + t266))), H', ⟨by have := HJ7.out; first | omega | exact Nat.le_refl _⟩, ⟨by (with_reducible repeat (first | refine blk_drewN ?_ _ | refine blk_drew ?_ | refine blk_alloc ?_ _)); refine blk_far ?_ NB263_274.out _; (with_reducible repeat (first | refine blk_drewN ?_ _ | refine blk_drew ?_ | refine blk_alloc ?_ _)); exact BK263.out⟩, ⟨by (with_reducible repeat (first | refine blk_drewN ?_ _ | refine blk_drew ?_ | refine blk_alloc ?_ _)); refine blk_put (cs := #[.int .i64 t264, .int .i64 (wrap64 (1 + t266)), .int .i64 t268, .int .i64 t270, .int .i64 x275004_7]) ?_ 2 _ rfl; (with_reducible repeat (first | refine blk_drewN ?_ _ | refine blk_drew ?_ | refine blk_alloc ?_ _)); exact BK274.out⟩, ⟨by repeat (first | (with_reducible first | exact HI0.out | apply IsS60.alloc | apply IsS60.drewN | apply IsS60.drew | apply IsS60.set_1 | refine IsS60.far ?_ NB0_263.out _ | refine IsS60.far ?_ NB0_274.out _) | exact HI0.out)⟩, ⟨by repeat (first | (with_reducible first | exact HK.out | apply KeepBut.set_ | apply keep_drewN | apply keep_drew | apply keep_alloc | refine keep_far ?_ GW263.out _ | refine keep_far ?_ GW274.out _) | exact HK.out)⟩, ⟨by repeat (first | (with_reducible first | exact HB.out | apply below_alloc | apply pw_below_drewN | apply below_drew1 | refine below_set ?_ (IsS60.ge HI0.out) | refine below_set ?_ GE263.out | refine below_set ?_ GE274.out) | exact HB.out)⟩⟩
        · replace c27 := Bool.eq_false_iff.mpr c27
          subst c27
          have H1 : (spec_l1Rd_say.j1 kj7 s0_0 t278 t264 (wrap64 (1 + t266)) t268 t270 x275004_7) = some (r1, r2, r3, r4, r5, r6) := by rw [if_neg (show ¬ (false = true) by decide)] at H; exact H
          clear H
          have H := H1
          clear H1
          have H' := Aside0.mk H
          clear H
          go_wp2
          go_meet
          case rel => exact ⟨_, (t268), H', ⟨by have := HJ7.out; first | omega | exact Nat.le_refl _⟩, ⟨by (with_reducible repeat (first | refine blk_drewN ?_ _ | refine blk_drew ?_ | refine blk_alloc ?_ _)); exact BK263.out⟩, ⟨by (with_reducible repeat (first | refine blk_drewN ?_ _ | refine blk_drew ?_ | refine blk_alloc ?_ _)); exact BK274.out⟩, ⟨by repeat (first | (with_reducible first | exact HI0.out | apply IsS60.alloc | apply IsS60.drewN | apply IsS60.drew | apply IsS60.set_1 | refine IsS60.far ?_ NB0_263.out _ | refine IsS60.far ?_ NB0_274.out _) | exact HI0.out)⟩, ⟨by repeat (first | (with_reducible first | exact HK.out | apply KeepBut.set_ | apply keep_drewN | apply keep_drew | apply keep_alloc | refine keep_far ?_ GW263.out _ | refine keep_far ?_ GW274.out _) | exact HK.out)⟩, ⟨by repeat (first | (with_reducible first | exact HB.out | apply below_alloc | apply pw_below_drewN | apply below_drew1 | refine below_set ?_ (IsS60.ge HI0.out) | refine below_set ?_ GE263.out | refine below_set ?_ GE274.out) | exact HB.out)⟩⟩
      case rest =>
        clear HC25
        try clear c1
        try clear c2
        try clear p2
        try clear p6
        try clear c16
        try clear c17
        try clear c20
        try clear c21
        try clear c22
        try clear c27
        try clear c28
        try clear c29
        try clear hcz18_0
        try clear hcz18_1
        try clear hcz18_2
        try clear hcz18_3
        try clear hcz18_4
        try clear hcz23_0
        try clear hcz23_1
        try clear hcz23_2
        try clear hcz23_3
        try clear hcz23_4
        try clear hcz30_0
        try clear hcz30_1
        try clear hcz30_2
        try clear hcz30_3
        try clear hcz30_4
        try clear hfz18_0
        try clear hfz18_1
        try clear hfz18_2
        try clear hfz18_3
        try clear hfz18_4
        try clear hfz23_0
        try clear hfz23_1
        try clear hfz23_2
        try clear hfz23_3
        try clear hfz23_4
        try clear hfz30_0
        try clear hfz30_1
        try clear hfz30_2
        try clear hfz30_3
        try clear hfz30_4
        try clear p2
        try clear p6
        obtain ⟨kq, x275002_24, HA, HJ24, BK263, BK274, HI0, HK, HB⟩ := hcut
        cases kq with
        | zero => exact absurd HA.out (by simp [spec_l1Rd_say.j1])
        | succ kj24 =>
          have H := HA.out
          clear HA
          simp only [spec_l1Rd_say.j1] at H
          by_cases c31 : t264 = 0
          · rw [if_pos c31] at H
            have c31b0 : (t264 == 0) = true := beq_iff_eq.mpr c31
            have c31b1 : (t264 != 0) = false := bne_eq_false_iff_eq.mpr c31
            clear c31
            by_cases c32 : t270 = 0
            · rw [if_pos c32] at H
              have c32b0 : (t270 == 0) = true := beq_iff_eq.mpr c32
              have c32b1 : (t270 != 0) = false := bne_eq_false_iff_eq.mpr c32
              clear c32
              simp only [Option.some.injEq, Prod.mk.injEq] at H
              obtain ⟨rfl, rfl, rfl, rfl, rfl, rfl⟩ := H
              have hnb33 := NB274_263.out
              have hnc33 := NB263_274.out
              have hnb34 := NB274_0.out
              have hnc34 := NB0_274.out
              have hcz35_0 : wc.cell? ⟨gb274, 0, none⟩ = some (.int .i64 t264) := (blk_cell BK274.out 0).trans rfl
              have hcz35_1 : wc.cell? ⟨gb274, 1, none⟩ = some (.int .i64 (wrap64 (1 + t266))) := (blk_cell BK274.out 1).trans rfl
              have hcz35_2 : wc.cell? ⟨gb274, 2, none⟩ = some (.int .i64 x275002_24) := (blk_cell BK274.out 2).trans rfl
              have hcz35_3 : wc.cell? ⟨gb274, 3, none⟩ = some (.int .i64 t270) := (blk_cell BK274.out 3).trans rfl
              have hcz35_4 : wc.cell? ⟨gb274, 4, none⟩ = some (.int .i64 x275004_7) := (blk_cell BK274.out 4).trans rfl
              have hfz35_0 := blk_frozen BK274.out 0
              have hfz35_1 := blk_frozen BK274.out 1
              have hfz35_2 := blk_frozen BK274.out 2
              have hfz35_3 := blk_frozen BK274.out 3
              have hfz35_4 := blk_frozen BK274.out 4
              have hnb36 := NB263_0.out
              have hnc36 := NB0_263.out
              have hcz37_0 : wc.cell? ⟨gb263, 0, none⟩ = some (.int .i64 0) := (blk_cell BK263.out 0).trans rfl
              have hcz37_1 : wc.cell? ⟨gb263, 1, none⟩ = some (.int .i64 0) := (blk_cell BK263.out 1).trans rfl
              have hcz37_2 : wc.cell? ⟨gb263, 2, none⟩ = some (.int .i64 0) := (blk_cell BK263.out 2).trans rfl
              have hcz37_3 : wc.cell? ⟨gb263, 3, none⟩ = some (.int .i64 0) := (blk_cell BK263.out 3).trans rfl
              have hcz37_4 : wc.cell? ⟨gb263, 4, none⟩ = some (.int .i64 0) := (blk_cell BK263.out 4).trans rfl
              have hfz37_0 := blk_frozen BK263.out 0
              have hfz37_1 := blk_frozen BK263.out 1
              have hfz37_2 := blk_frozen BK263.out 2
              have hfz37_3 := blk_frozen BK263.out 3
              have hfz37_4 := blk_frozen BK263.out 4
              go_wp2
              refine bodyPost_ret (results_cell_row rfl _ _ gb263 25 #[.int .i64 t264, .int .i64 0, .int .i64 x275002_24, .int .i64 t270, .int .i64 0] (0, 0) _ rfl (by (with_reducible repeat (first | refine blk_drewN ?_ _ | refine blk_drew ?_ | refine blk_alloc ?_ _)); refine blk_put (cs := #[.int .i64 t264, .int .i64 0, .int .i64 x275002_24, .int .i64 t270, .int .i64 0]) ?_ 4 _ rfl; (with_reducible repeat (first | refine blk_drewN ?_ _ | refine blk_drew ?_ | refine blk_alloc ?_ _)); refine blk_put (cs := #[.int .i64 t264, .int .i64 0, .int .i64 x275002_24, .int .i64 0, .int .i64 0]) ?_ 3 _ rfl; (with_reducible repeat (first | refine blk_drewN ?_ _ | refine blk_drew ?_ | refine blk_alloc ?_ _)); refine blk_put (cs := #[.int .i64 t264, .int .i64 0, .int .i64 0, .int .i64 0, .int .i64 0]) ?_ 2 _ rfl; (with_reducible repeat (first | refine blk_drewN ?_ _ | refine blk_drew ?_ | refine blk_alloc ?_ _)); refine blk_put (cs := #[.int .i64 t264, .int .i64 0, .int .i64 0, .int .i64 0, .int .i64 0]) ?_ 1 _ rfl; (with_reducible repeat (first | refine blk_drewN ?_ _ | refine blk_drew ?_ | refine blk_alloc ?_ _)); refine blk_put (cs := #[.int .i64 0, .int .i64 0, .int .i64 0, .int .i64 0, .int .i64 0]) ?_ 0 _ rfl; (with_reducible repeat (first | refine blk_drewN ?_ _ | refine blk_drew ?_ | refine blk_alloc ?_ _)); refine blk_far ?_ NB263_274.out _; (with_reducible repeat (first | refine blk_drewN ?_ _ | refine blk_drew ?_ | refine blk_alloc ?_ _)); refine blk_far ?_ NB263_274.out _; (with_reducible repeat (first | refine blk_drewN ?_ _ | refine blk_drew ?_ | refine blk_alloc ?_ _)); exact BK263.out) Tryd.underlying25 rfl (by kernel_rfl)) rfl ?_
              exact ⟨by first | rfl | (simp [errW_none, errW_some] <;> rfl) | (simp [*, errW_none, errW_some] <;> rfl), by repeat (first | (with_reducible first | exact HI0.out | apply IsS60.alloc | apply IsS60.drewN | apply IsS60.drew | apply IsS60.set_1 | refine IsS60.far ?_ NB0_263.out _ | refine IsS60.far ?_ NB0_274.out _) | exact HI0.out), by repeat (first | (with_reducible first | exact HB.out | apply below_alloc | apply pw_below_drewN | apply below_drew1 | refine below_set ?_ (IsS60.ge HI0.out) | refine below_set ?_ GE263.out | refine below_set ?_ GE274.out) | exact HB.out), by repeat (first | (with_reducible first | exact HK.out | apply KeepBut.set_ | apply keep_drewN | apply keep_drew | apply keep_alloc | refine keep_far ?_ GW263.out _ | refine keep_far ?_ GW274.out _) | exact HK.out)⟩
            · rw [if_neg c32] at H
              have c32b0 : (t270 == 0) = false := beq_eq_false_iff_ne.mpr c32
              have c32b1 : (t270 != 0) = true := bne_iff_ne.mpr c32
              simp only [Option.some.injEq, Prod.mk.injEq] at H
              obtain ⟨rfl, rfl, rfl, rfl, rfl, rfl⟩ := H
              have hnb38 := NB274_263.out
              have hnc38 := NB263_274.out
              have hnb39 := NB274_0.out
              have hnc39 := NB0_274.out
              have hcz40_0 : wc.cell? ⟨gb274, 0, none⟩ = some (.int .i64 t264) := (blk_cell BK274.out 0).trans rfl
              have hcz40_1 : wc.cell? ⟨gb274, 1, none⟩ = some (.int .i64 (wrap64 (1 + t266))) := (blk_cell BK274.out 1).trans rfl
              have hcz40_2 : wc.cell? ⟨gb274, 2, none⟩ = some (.int .i64 x275002_24) := (blk_cell BK274.out 2).trans rfl
              have hcz40_3 : wc.cell? ⟨gb274, 3, none⟩ = some (.int .i64 t270) := (blk_cell BK274.out 3).trans rfl
              have hcz40_4 : wc.cell? ⟨gb274, 4, none⟩ = some (.int .i64 x275004_7) := (blk_cell BK274.out 4).trans rfl
              have hfz40_0 := blk_frozen BK274.out 0
              have hfz40_1 := blk_frozen BK274.out 1
              have hfz40_2 := blk_frozen BK274.out 2
              have hfz40_3 := blk_frozen BK274.out 3
              have hfz40_4 := blk_frozen BK274.out 4
              have hnb41 := NB263_0.out
              have hnc41 := NB0_263.out
              have hcz42_0 : wc.cell? ⟨gb263, 0, none⟩ = some (.int .i64 0) := (blk_cell BK263.out 0).trans rfl
              have hcz42_1 : wc.cell? ⟨gb263, 1, none⟩ = some (.int .i64 0) := (blk_cell BK263.out 1).trans rfl
              have hcz42_2 : wc.cell? ⟨gb263, 2, none⟩ = some (.int .i64 0) := (blk_cell BK263.out 2).trans rfl
              have hcz42_3 : wc.cell? ⟨gb263, 3, none⟩ = some (.int .i64 0) := (blk_cell BK263.out 3).trans rfl
              have hcz42_4 : wc.cell? ⟨gb263, 4, none⟩ = some (.int .i64 0) := (blk_cell BK263.out 4).trans rfl
              have hfz42_0 := blk_frozen BK263.out 0
              have hfz42_1 := blk_frozen BK263.out 1
              have hfz42_2 := blk_frozen BK263.out 2
              have hfz42_3 := blk_frozen BK263.out 3
              have hfz42_4 := blk_frozen BK263.out 4
              go_wp2
              refine bodyPost_ret (results_cell_row rfl _ _ gb263 25 #[.int .i64 t264, .int .i64 0, .int .i64 x275002_24, .int .i64 t270, .int .i64 x275004_7] (0, 0) _ rfl (by (with_reducible repeat (first | refine blk_drewN ?_ _ | refine blk_drew ?_ | refine blk_alloc ?_ _)); refine blk_put (cs := #[.int .i64 t264, .int .i64 0, .int .i64 x275002_24, .int .i64 t270, .int .i64 0]) ?_ 4 _ rfl; (with_reducible repeat (first | refine blk_drewN ?_ _ | refine blk_drew ?_ | refine blk_alloc ?_ _)); refine blk_put (cs := #[.int .i64 t264, .int .i64 0, .int .i64 x275002_24, .int .i64 0, .int .i64 0]) ?_ 3 _ rfl; (with_reducible repeat (first | refine blk_drewN ?_ _ | refine blk_drew ?_ | refine blk_alloc ?_ _)); refine blk_put (cs := #[.int .i64 t264, .int .i64 0, .int .i64 0, .int .i64 0, .int .i64 0]) ?_ 2 _ rfl; (with_reducible repeat (first | refine blk_drewN ?_ _ | refine blk_drew ?_ | refine blk_alloc ?_ _)); refine blk_put (cs := #[.int .i64 t264, .int .i64 0, .int .i64 0, .int .i64 0, .int .i64 0]) ?_ 1 _ rfl; (with_reducible repeat (first | refine blk_drewN ?_ _ | refine blk_drew ?_ | refine blk_alloc ?_ _)); refine blk_put (cs := #[.int .i64 0, .int .i64 0, .int .i64 0, .int .i64 0, .int .i64 0]) ?_ 0 _ rfl; (with_reducible repeat (first | refine blk_drewN ?_ _ | refine blk_drew ?_ | refine blk_alloc ?_ _)); refine blk_far ?_ NB263_274.out _; (with_reducible repeat (first | refine blk_drewN ?_ _ | refine blk_drew ?_ | refine blk_alloc ?_ _)); exact BK263.out) Tryd.underlying25 rfl (by kernel_rfl)) rfl ?_
              exact ⟨by first | rfl | (simp [errW_none, errW_some] <;> rfl) | (simp [*, errW_none, errW_some] <;> rfl), by repeat (first | (with_reducible first | exact HI0.out | apply IsS60.alloc | apply IsS60.drewN | apply IsS60.drew | apply IsS60.set_1 | refine IsS60.far ?_ NB0_263.out _ | refine IsS60.far ?_ NB0_274.out _) | exact HI0.out), by repeat (first | (with_reducible first | exact HB.out | apply below_alloc | apply pw_below_drewN | apply below_drew1 | refine below_set ?_ (IsS60.ge HI0.out) | refine below_set ?_ GE263.out | refine below_set ?_ GE274.out) | exact HB.out), by repeat (first | (with_reducible first | exact HK.out | apply KeepBut.set_ | apply keep_drewN | apply keep_drew | apply keep_alloc | refine keep_far ?_ GW263.out _ | refine keep_far ?_ GW274.out _) | exact HK.out)⟩
          · rw [if_neg c31] at H
            have c31b0 : (t264 == 0) = false := beq_eq_false_iff_ne.mpr c31
            have c31b1 : (t264 != 0) = true := bne_iff_ne.mpr c31
            by_cases c43 : t270 = 0
            · rw [if_pos c43] at H
              have c43b0 : (t270 == 0) = true := beq_iff_eq.mpr c43
              have c43b1 : (t270 != 0) = false := bne_eq_false_iff_eq.mpr c43
              clear c43
              simp only [Option.some.injEq, Prod.mk.injEq] at H
              obtain ⟨rfl, rfl, rfl, rfl, rfl, rfl⟩ := H
              have hnb44 := NB274_263.out
              have hnc44 := NB263_274.out
              have hnb45 := NB274_0.out
              have hnc45 := NB0_274.out
              have hcz46_0 : wc.cell? ⟨gb274, 0, none⟩ = some (.int .i64 t264) := (blk_cell BK274.out 0).trans rfl
              have hcz46_1 : wc.cell? ⟨gb274, 1, none⟩ = some (.int .i64 (wrap64 (1 + t266))) := (blk_cell BK274.out 1).trans rfl
              have hcz46_2 : wc.cell? ⟨gb274, 2, none⟩ = some (.int .i64 x275002_24) := (blk_cell BK274.out 2).trans rfl
              have hcz46_3 : wc.cell? ⟨gb274, 3, none⟩ = some (.int .i64 t270) := (blk_cell BK274.out 3).trans rfl
              have hcz46_4 : wc.cell? ⟨gb274, 4, none⟩ = some (.int .i64 x275004_7) := (blk_cell BK274.out 4).trans rfl
              have hfz46_0 := blk_frozen BK274.out 0
              have hfz46_1 := blk_frozen BK274.out 1
              have hfz46_2 := blk_frozen BK274.out 2
              have hfz46_3 := blk_frozen BK274.out 3
              have hfz46_4 := blk_frozen BK274.out 4
              have hnb47 := NB263_0.out
              have hnc47 := NB0_263.out
              have hcz48_0 : wc.cell? ⟨gb263, 0, none⟩ = some (.int .i64 0) := (blk_cell BK263.out 0).trans rfl
              have hcz48_1 : wc.cell? ⟨gb263, 1, none⟩ = some (.int .i64 0) := (blk_cell BK263.out 1).trans rfl
              have hcz48_2 : wc.cell? ⟨gb263, 2, none⟩ = some (.int .i64 0) := (blk_cell BK263.out 2).trans rfl
              have hcz48_3 : wc.cell? ⟨gb263, 3, none⟩ = some (.int .i64 0) := (blk_cell BK263.out 3).trans rfl
              have hcz48_4 : wc.cell? ⟨gb263, 4, none⟩ = some (.int .i64 0) := (blk_cell BK263.out 4).trans rfl
              have hfz48_0 := blk_frozen BK263.out 0
              have hfz48_1 := blk_frozen BK263.out 1
              have hfz48_2 := blk_frozen BK263.out 2
              have hfz48_3 := blk_frozen BK263.out 3
              have hfz48_4 := blk_frozen BK263.out 4
              go_wp2
              refine bodyPost_ret (results_cell_row rfl _ _ gb263 25 #[.int .i64 t264, .int .i64 (wrap64 (1 + t266)), .int .i64 x275002_24, .int .i64 t270, .int .i64 0] (0, 0) _ rfl (by (with_reducible repeat (first | refine blk_drewN ?_ _ | refine blk_drew ?_ | refine blk_alloc ?_ _)); refine blk_put (cs := #[.int .i64 t264, .int .i64 (wrap64 (1 + t266)), .int .i64 x275002_24, .int .i64 t270, .int .i64 0]) ?_ 4 _ rfl; (with_reducible repeat (first | refine blk_drewN ?_ _ | refine blk_drew ?_ | refine blk_alloc ?_ _)); refine blk_put (cs := #[.int .i64 t264, .int .i64 (wrap64 (1 + t266)), .int .i64 x275002_24, .int .i64 0, .int .i64 0]) ?_ 3 _ rfl; (with_reducible repeat (first | refine blk_drewN ?_ _ | refine blk_drew ?_ | refine blk_alloc ?_ _)); refine blk_put (cs := #[.int .i64 t264, .int .i64 (wrap64 (1 + t266)), .int .i64 0, .int .i64 0, .int .i64 0]) ?_ 2 _ rfl; (with_reducible repeat (first | refine blk_drewN ?_ _ | refine blk_drew ?_ | refine blk_alloc ?_ _)); refine blk_put (cs := #[.int .i64 t264, .int .i64 0, .int .i64 0, .int .i64 0, .int .i64 0]) ?_ 1 _ rfl; (with_reducible repeat (first | refine blk_drewN ?_ _ | refine blk_drew ?_ | refine blk_alloc ?_ _)); refine blk_put (cs := #[.int .i64 0, .int .i64 0, .int .i64 0, .int .i64 0, .int .i64 0]) ?_ 0 _ rfl; (with_reducible repeat (first | refine blk_drewN ?_ _ | refine blk_drew ?_ | refine blk_alloc ?_ _)); refine blk_far ?_ NB263_274.out _; (with_reducible repeat (first | refine blk_drewN ?_ _ | refine blk_drew ?_ | refine blk_alloc ?_ _)); exact BK263.out) Tryd.underlying25 rfl (by kernel_rfl)) rfl ?_
              exact ⟨by first | rfl | (simp [errW_none, errW_some] <;> rfl) | (simp [*, errW_none, errW_some] <;> rfl), by repeat (first | (with_reducible first | exact HI0.out | apply IsS60.alloc | apply IsS60.drewN | apply IsS60.drew | apply IsS60.set_1 | refine IsS60.far ?_ NB0_263.out _ | refine IsS60.far ?_ NB0_274.out _) | exact HI0.out), by repeat (first | (with_reducible first | exact HB.out | apply below_alloc | apply pw_below_drewN | apply below_drew1 | refine below_set ?_ (IsS60.ge HI0.out) | refine below_set ?_ GE263.out | refine below_set ?_ GE274.out) | exact HB.out), by repeat (first | (with_reducible first | exact HK.out | apply KeepBut.set_ | apply keep_drewN | apply keep_drew | apply keep_alloc | refine keep_far ?_ GW263.out _ | refine keep_far ?_ GW274.out _) | exact HK.out)⟩
            · rw [if_neg c43] at H
              have c43b0 : (t270 == 0) = false := beq_eq_false_iff_ne.mpr c43
              have c43b1 : (t270 != 0) = true := bne_iff_ne.mpr c43
              simp only [Option.some.injEq, Prod.mk.injEq] at H
              obtain ⟨rfl, rfl, rfl, rfl, rfl, rfl⟩ := H
              have hnb49 := NB274_263.out
              have hnc49 := NB263_274.out
              have hnb50 := NB274_0.out
              have hnc50 := NB0_274.out
              have hcz51_0 : wc.cell? ⟨gb274, 0, none⟩ = some (.int .i64 t264) := (blk_cell BK274.out 0).trans rfl
              have hcz51_1 : wc.cell? ⟨gb274, 1, none⟩ = some (.int .i64 (wrap64 (1 + t266))) := (blk_cell BK274.out 1).trans rfl
              have hcz51_2 : wc.cell? ⟨gb274, 2, none⟩ = some (.int .i64 x275002_24) := (blk_cell BK274.out 2).trans rfl
              have hcz51_3 : wc.cell? ⟨gb274, 3, none⟩ = some (.int .i64 t270) := (blk_cell BK274.out 3).trans rfl
              have hcz51_4 : wc.cell? ⟨gb274, 4, none⟩ = some (.int .i64 x275004_7) := (blk_cell BK274.out 4).trans rfl
              have hfz51_0 := blk_frozen BK274.out 0
              have hfz51_1 := blk_frozen BK274.out 1
              have hfz51_2 := blk_frozen BK274.out 2
              have hfz51_3 := blk_frozen BK274.out 3
              have hfz51_4 := blk_frozen BK274.out 4
              have hnb52 := NB263_0.out
              have hnc52 := NB0_263.out
              have hcz53_0 : wc.cell? ⟨gb263, 0, none⟩ = some (.int .i64 0) := (blk_cell BK263.out 0).trans rfl
              have hcz53_1 : wc.cell? ⟨gb263, 1, none⟩ = some (.int .i64 0) := (blk_cell BK263.out 1).trans rfl
              have hcz53_2 : wc.cell? ⟨gb263, 2, none⟩ = some (.int .i64 0) := (blk_cell BK263.out 2).trans rfl
              have hcz53_3 : wc.cell? ⟨gb263, 3, none⟩ = some (.int .i64 0) := (blk_cell BK263.out 3).trans rfl
              have hcz53_4 : wc.cell? ⟨gb263, 4, none⟩ = some (.int .i64 0) := (blk_cell BK263.out 4).trans rfl
              have hfz53_0 := blk_frozen BK263.out 0
              have hfz53_1 := blk_frozen BK263.out 1
              have hfz53_2 := blk_frozen BK263.out 2
              have hfz53_3 := blk_frozen BK263.out 3
              have hfz53_4 := blk_frozen BK263.out 4
              go_wp2
              refine bodyPost_ret (results_cell_row rfl _ _ gb263 25 #[.int .i64 t264, .int .i64 (wrap64 (1 + t266)), .int .i64 x275002_24, .int .i64 t270, .int .i64 x275004_7] (0, 0) _ rfl (by (with_reducible repeat (first | refine blk_drewN ?_ _ | refine blk_drew ?_ | refine blk_alloc ?_ _)); refine blk_put (cs := #[.int .i64 t264, .int .i64 (wrap64 (1 + t266)), .int .i64 x275002_24, .int .i64 t270, .int .i64 0]) ?_ 4 _ rfl; (with_reducible repeat (first | refine blk_drewN ?_ _ | refine blk_drew ?_ | refine blk_alloc ?_ _)); refine blk_put (cs := #[.int .i64 t264, .int .i64 (wrap64 (1 + t266)), .int .i64 x275002_24, .int .i64 0, .int .i64 0]) ?_ 3 _ rfl; (with_reducible repeat (first | refine blk_drewN ?_ _ | refine blk_drew ?_ | refine blk_alloc ?_ _)); refine blk_put (cs := #[.int .i64 t264, .int .i64 (wrap64 (1 + t266)), .int .i64 0, .int .i64 0, .int .i64 0]) ?_ 2 _ rfl; (with_reducible repeat (first | refine blk_drewN ?_ _ | refine blk_drew ?_ | refine blk_alloc ?_ _)); refine blk_put (cs := #[.int .i64 t264, .int .i64 0, .int .i64 0, .int .i64 0, .int .i64 0]) ?_ 1 _ rfl; (with_reducible repeat (first | refine blk_drewN ?_ _ | refine blk_drew ?_ | refine blk_alloc ?_ _)); refine blk_put (cs := #[.int .i64 0, .int .i64 0, .int .i64 0, .int .i64 0, .int .i64 0]) ?_ 0 _ rfl; (with_reducible repeat (first | refine blk_drewN ?_ _ | refine blk_drew ?_ | refine blk_alloc ?_ _)); exact BK263.out) Tryd.underlying25 rfl (by kernel_rfl)) rfl ?_
              exact ⟨by first | rfl | (simp [errW_none, errW_some] <;> rfl) | (simp [*, errW_none, errW_some] <;> rfl), by repeat (first | (with_reducible first | exact HI0.out | apply IsS60.alloc | apply IsS60.drewN | apply IsS60.drew | apply IsS60.set_1 | refine IsS60.far ?_ NB0_263.out _ | refine IsS60.far ?_ NB0_274.out _) | exact HI0.out), by repeat (first | (with_reducible first | exact HB.out | apply below_alloc | apply pw_below_drewN | apply below_drew1 | refine below_set ?_ (IsS60.ge HI0.out) | refine below_set ?_ GE263.out | refine below_set ?_ GE274.out) | exact HB.out), by repeat (first | (with_reducible first | exact HK.out | apply KeepBut.set_ | apply keep_drewN | apply keep_drew | apply keep_alloc | refine keep_far ?_ GW263.out _ | refine keep_far ?_ GW274.out _) | exact HK.out)⟩

end Go.Proofs.YtllkijlmjapleaaDoor.QFnPhrases
