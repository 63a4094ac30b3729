-- Written by a program of this session out of the printer's texts and contracts of its own.
import Derived.Test.YtcjhbmjimjbphaaSq
import Derived.Test.YtcjhbmjimjbphaaQFnDescendsx0
import Derived.Test.YtcjhbmjimjbphaaQFnDescendsx10
import Derived.Test.YtcjhbmjimjbphaaQFnDescendsx11
import Derived.Test.YtcjhbmjimjbphaaQFnDescendsx12
namespace Go.Proofs.Ytcjhbmjimjbphaa.QFnDescends
open Go.RowKit Go.Proofs.YtcjhbmjimjbphaaW.PrintWords Go.Proofs.YtcjhbmjimjbphaaW.PrintLast Go.Proofs.YtcjhbmjimjbphaaW.PrintMore Go.Proofs.Ytcjhbmjimjbphaa.Sq
attribute [local go_sem] max2_int min2_int max_two min_two max_three min_three max_four min_four   -- for this text's walks alone
set_option linter.unusedVariables false
set_option linter.unusedSimpArgs false
theorem sAKeep_15 {w W : World} {g : Nat} {row : Option Nat} (h : KeepBut w W g row := by repeat (first | (with_reducible first | exact Aside0.out (by assumption) | apply KeepBut.set_ | apply keep_drewN | apply keep_drew | apply keep_alloc | refine keep_far ?_ (Aside0.out (by assumption)) _) | exact Aside0.out (by assumption))) : KeepBut w W g row := h
theorem sABelo_15 {b : Nat} {w W : World} (h : Below b w W := by repeat (first | (with_reducible first | exact Aside0.out (by assumption) | apply below_alloc | apply pw_below_drewN | apply below_drew1 | refine below_set ?_ (IsS77.ge (Aside0.out (by assumption))) | refine below_set ?_ (Aside0.out (by assumption))) | exact Aside0.out (by assumption))) : Below b w W := h
theorem sAIsS77_15 {w0 W : World} {g : Nat} {f0 : List Int} {f1 : Int} (h : IsS77 w0 W g f0 f1 := by repeat (first | (with_reducible first | exact Aside0.out (by assumption) | apply IsS77.alloc | apply IsS77.drewN | apply IsS77.drew | apply IsS77.set_1 | refine IsS77.far ?_ (Aside0.out (by assumption)) _) | exact Aside0.out (by assumption))) : IsS77 w0 W g f0 f1 := h

/-! ### spec_l15Draw4: case 4 of function 44 -/
def spec_l15Draw4.l0 : Nat → List Int → Int → List Int → Int → Int → List Int → List Int → List (S52) → Option (Int × List Int × List Int × (List (S52)) × List Int × Int)
 | 0, _, _, _, _, _, _, _, _ => none
 | k + 1, x5, x6, x1000, x1001, x300000, x300001, x300002, x300003 => if x6 < x300000 then ((spec_l1Rd_below.f x1000 x1001 600).bind fun bt303 => (if x5.length < 17592186044416 then (spec_l15Draw4.l0 k (x5 ++ [wrap64 (bt303.1 - 300)]) (wrap64 (x6 + 1)) x1000 bt303.2 x300000 x300001 x300002 x300003) else (none))) else ((spec_l1Rd_below.f x1000 x1001 30).bind fun bt308 => (if bt308.1 = 0 then (none) else (if bt308.1 = 1 then (none) else (if bt308.1 = 2 then (none) else (if bt308.1 = 3 then (none) else (if bt308.1 = 4 then (if 0 < (x300003.length : Int) then ((some (([5, 6, (-6)] : List Int) : List Int)).bind fun y338 => ((spec_l1Rd_below.f x1000 bt308.2 3).bind fun bt341 => (if 0 ≤ bt341.1 then (if bt341.1 < (y338.length : Int) then (if 0 < (((rd_T52 x300003 0).f0).length : Int) then (some (x300000, x300001, x300002, (x300003.set (0 : Int).toNat (⟨((rd_T52 x300003 0).f0.set (0 : Int).toNat (rd y338 bt341.1)), (rd_T52 x300003 0).f1, (rd_T52 x300003 0).f2⟩ : S52)), x5, bt341.2)) else (none)) else (none)) else (none)))) else (none)) else (none)))))))
def spec_l15Draw4.f (k : Nat) (s0_0 : List Int) (s0_1 : Int) : Option (Int × List Int × List Int × (List (S52)) × List Int × Int) := (spec_l1Rd_problem.f k s0_0 s0_1).bind fun bt288 => (spec_l15Draw4.l0 k (([] : List Int)) 0 s0_0 bt288.2.2.2.2 bt288.1 bt288.2.1 bt288.2.2.1 bt288.2.2.2.1)
def spec_l15Draw4.T17 : Bool × List (List Nat × List Nat) := (true, [([], []), ([0], [0]), ([1], [1]), ([2], [2]), ([3], [3]), ([], []), ([], []), ([6], [6]), ([5, 7], [5, 7]), ([8], [8]), ([4, 0, 1, 2, 3, 4, 5, 6, 7, 8, 9], [4]), ([10, 9, 7, 0, 1, 2, 3, 4, 5, 6, 7, 8, 9], [9, 10])])
def spec_l15Draw4.B17 : List Nat := [0, 1, 3, 7, 15, 0, 0, 64, 224, 480, 1023, 2047]
theorem spec_l15Draw4.tab17 : rtab .any (opsOf Try.f44 17) = spec_l15Draw4.T17 := by kernel_rfl
theorem spec_l15Draw4.bits17 : waitsOk spec_l15Draw4.T17.2 spec_l15Draw4.B17 = true := by kernel_rfl
/-- A row of numbers is none of this block's. -/
theorem R_but {W : World} {base a : Nat} {ok : Nat → Prop} {v : Value} {xs : List Int} (h : Kd.R (Kd.int .i64) 2 W base ok v xs) (hn : some a ≠ v.ownBlock) : Kd.R (Kd.int .i64) 2 W base (fun k_ => ok k_ ∧ k_ ≠ a) v xs :=
 ⟨fun k_ hk => ⟨h.1 k_ hk, fun e => hn (by rw [hk, e])⟩, h.2⟩
theorem R_ge {W : World} {base : Nat} {ok : Nat → Prop} {v : Value} {xs : List Int} (h : Kd.R (Kd.int .i64) 2 W base ok v xs) : Kd.R (Kd.int .i64) 2 W base (fun k_ => base ≤ k_ ∧ ok k_) v xs :=
 ⟨fun k_ hk => ⟨Kd.R_base h k_ hk, h.1 k_ hk⟩, h.2⟩
/-- A number of element 0's row is written: the rows stand apart as before. -/
theorem S52_put {W : World} {base n cap cc m go : Nat} {ok : Nat → Prop} {ad : Addr} {xs : List S52} (h : Kd.S k52 52 W base ok (.slice (some ad) n cap) xs) (c1 : decide (0 < (xs.length : Int)) = true) (c2 : decide (0 < (((rd_T52 xs 0).f0).length : Int)) = true)
  (hx : W.cell? ad = some (.slice (some ⟨go, 0, none⟩) m cc)) (x : Int) :
  Kd.S k52 52 (W.setCell ⟨go, 0, none⟩ (.int .i64 x)) base ok (.slice (some ad) n cap) (xs.set (0 : Int).toNat (⟨((rd_T52 xs 0).f0.set (0 : Int).toNat x), (rd_T52 xs 0).f1, (rd_T52 xs 0).f2⟩ : S52)) := by
 have p1 := of_decide_eq_true c1; have p2 := of_decide_eq_true c2
 obtain ⟨g, cp, e, _, _, _, _⟩ := Kd.R_form (Kd.S_R h) (by omega)
 injection e with ea en ec
 injection ea with ea
 subst ea
 have hn : n = xs.length := (Kd.S_reads' h).1
 obtain ⟨oki, c, hc, hM, hcell, hoki, hH⟩ := Kd.S_lend h z52 0 (by omega) (by omega)
 obtain ⟨v0, rfl, hR⟩ := k52_openM hM
 have hv : W.cell? ⟨g, 0, none⟩ = some v0 := by simpa using hcell 0 v0 rfl
 rw [hx] at hv
 have hv0 := Option.some.inj hv
 subst hv0
 have hR' : Kd.R (Kd.int .i64) 2 W base oki (.slice (some ⟨go, 0, none⟩) m cc) (rd_T52 xs 0).f0 := hR
 obtain ⟨h1, hg⟩ := Kd.R_putg hR' (0 : Int) x
 have hgo : oki go := hR'.1 go rfl
 have hH' := Kd.H_grown hH hg (fun k_ hk => by cases hk; exact hgo)
 exact Kd.H_back hH' (k52_mkM _ _ _ (⟨((rd_T52 xs 0).f0.set (0 : Int).toNat x), (rd_T52 xs 0).f1, (rd_T52 xs 0).f2⟩ : S52) h1) (fun _ hk => hk)
/-- Either case 4 is drawn, or it is not. -/
theorem spec_l15Draw.parts_l : ∀ (k : Nat) (y0 : List Int) (y1 : Int) (y2 : List Int) (y3 y4 : Int) (y5 y6 : List Int) (y7 : List S52) r, spec_l15Draw.l0 k y0 y1 y2 y3 y4 y5 y6 y7 = some r →
  spec_l15DrawA.l0 k y0 y1 y2 y3 y4 y5 y6 y7 = some r ∨ spec_l15Draw4.l0 k y0 y1 y2 y3 y4 y5 y6 y7 = some r
 | 0 => fun _ _ _ _ _ _ _ _ _ h => by simp [spec_l15Draw.l0] at h
 | k + 1 => by
  intro y0 y1 y2 y3 y4 y5 y6 y7 r h
  simp only [spec_l15Draw.l0] at h
  simp only [spec_l15DrawA.l0, spec_l15Draw4.l0]
  by_cases c : y1 < y4
  ·rw [if_pos c] at h
   rw [if_pos c, if_pos c]
   obtain ⟨b, hb, h⟩ := Option.bind_eq_some_iff.mp h
   rw [hb]
   simp only [Option.bind_some]
   by_cases c2 : y0.length < 17592186044416
   ·rw [if_pos c2] at h
    rw [if_pos c2, if_pos c2]
    exact spec_l15Draw.parts_l k _ _ _ _ _ _ _ _ r h
   ·rw [if_neg c2] at h; cases h
  ·rw [if_neg c] at h
   rw [if_neg c, if_neg c]
   obtain ⟨b, hb, h⟩ := Option.bind_eq_some_iff.mp h
   rw [hb]
   (try dsimp only at h)
   (try dsimp only [Option.bind_some])
   by_cases c4 : b.1 = 4
   ·right
    rw [if_neg (show ¬ b.1 = 0 by omega), if_neg (show ¬ b.1 = 1 by omega), if_neg (show ¬ b.1 = 2 by omega), if_neg (show ¬ b.1 = 3 by omega), if_pos c4] at h
    rw [if_neg (show ¬ b.1 = 0 by omega), if_neg (show ¬ b.1 = 1 by omega), if_neg (show ¬ b.1 = 2 by omega), if_neg (show ¬ b.1 = 3 by omega), if_pos c4]
    exact h
   ·left
    simp only [if_neg c4] at h ⊢
    exact h
theorem spec_l15Draw.parts (k : Nat) (s0_0 : List Int) (s0_1 : Int) (r) (h : spec_l15Draw.f k s0_0 s0_1 = some r) : spec_l15DrawA.f k s0_0 s0_1 = some r ∨ spec_l15Draw4.f k s0_0 s0_1 = some r := by
 unfold spec_l15Draw.f at h
 unfold spec_l15DrawA.f spec_l15Draw4.f
 obtain ⟨b, hb, h⟩ := Option.bind_eq_some_iff.mp h
 rw [hb]
 exact spec_l15Draw.parts_l k _ _ _ _ _ _ _ _ r h
set_option maxHeartbeats 8000000 in
set_option maxRecDepth 100000 in
theorem spec_l15Draw4.calls (k : Nat) (g : Nat) (s0_0 : List Int) (s0_1 : Int) (r1 : Int) (r2 : List Int) (r3 : List Int) (r4 : List (S52)) (r5 : List Int) (r6 : Int) (w0 w : World) (hI : IsS77 w0 w g s0_0 s0_1) (hB : Below w0.heap.size w0 w) (h : spec_l15Draw4.f k s0_0 s0_1 = some (r1, r2, r3, r4, r5, r6)) :
  Calls Try.prog 44 #[.pointer (some ⟨g, 0, none⟩)] w fun e w' => ∃ v1_ v2_ v3_ v4_ : Value, e = .returned (.tuple #[.agg #[.int .i64 r1, v1_, v2_, v3_], v4_]) ∧ Kd.R (Kd.int .i64) 2 w' w.heap.size (fun k_ => some k_ ≠ (v2_ : Value).ownBlock ∧ some k_ ≠ (v4_ : Value).ownBlock) v1_ r2 ∧ Kd.R (Kd.int .i64) 2 w' w.heap.size (fun k_ => some k_ ≠ (v1_ : Value).ownBlock ∧ some k_ ≠ (v4_ : Value).ownBlock) v2_ r3 ∧ Kd.S k52 52 w' w.heap.size (fun k_ => some k_ ≠ (v1_ : Value).ownBlock ∧ some k_ ≠ (v2_ : Value).ownBlock ∧ some k_ ≠ (v4_ : Value).ownBlock) v3_ r4 ∧ Kd.R (Kd.int .i64) 2 w' w.heap.size (fun k_ => some k_ ≠ (v1_ : Value).ownBlock ∧ some k_ ≠ (v2_ : Value).ownBlock) v4_ r5 ∧ IsS77 w0 w' g s0_0 r6 ∧ Below w0.heap.size w0 w' ∧ KeepBut w w' g none := by
 have hu30 := Try.underlying30; have hu52 := Try.underlying52; have HI0 := Aside0.mk hI
 have HK := Aside0.mk (KeepBut.refl w g none)
 have HL := Aside0.mk hB.size; clear hI; have HW0 := Aside0.mk hB.size; have HB := Aside0.mk hB; clear hB
 have H : ((spec_l1Rd_problem.f k s0_0 s0_1).bind fun bt288 => (spec_l15Draw4.l0 k (([] : List Int)) 0 s0_0 bt288.2.2.2.2 bt288.1 bt288.2.1 bt288.2.2.1 bt288.2.2.2.1)) = some (r1, r2, r3, r4, r5, r6) := h
 clear h; replace H := Option.bind_eq_some_iff.mp H
 obtain ⟨⟨t288, t289, t292, t295, t298⟩, A20, H⟩ := H
 replace H : (spec_l15Draw4.l0 k (([] : List Int)) 0 s0_0 t298 t288 t289 t292 t295) = some (r1, r2, r3, r4, r5, r6) := H
 have A2 := Aside0.mk A20; clear A20
 obtain ⟨y300, hy300⟩ : ∃ y_ : List Int, y_ = (([] : List Int)) := ⟨_, rfl⟩
 replace H : (spec_l15Draw4.l0 k y300 0 s0_0 t298 t288 t289 t292 t295) = some (r1, r2, r3, r4, r5, r6) := by first | (rw [hy300]; with_reducible exact H) | (have H2_ := (Option.bind_some _ _).symm.trans H; rw [hy300]; with_reducible exact H2_) | (have H2_ := (Option.bind_some _ _).symm.trans H; with_reducible exact H2_) | with_reducible exact H | (rw [hy300]; exact H) | exact H
 have Ny300 := Aside0.mk hy300; clear hy300; have H' := Aside0.mk H; clear H
 go_enter Try.func44, Try.ntmps44
 go_wp2_with (first | ((with_reducible refine gate_dst (N := 2) rfl ?_); refine box_event ?hg (N := 2) ?hd (cs := #[.int .i64 0, .slice none 0 0, .slice none 0 0, .slice none 0 0]) (t := 30) ?hr ?_; (case hd => rfl); (case hg => rfl); (case hr => first | (go_simp; done) | (go_simp; rfl)); intro gb287 hg w3 hbox hb; replace HB := Aside0.mk (below_step sABelo_15 hb); have BK287 := Aside0.mk (hbox); have GW287 := Aside0.mk ((by rw [hg]; exact (keep_size (w := w) (g := g) (row := none) sAKeep_15) : w.heap.size ≤ gb287)); have GE287 := Aside0.mk ((Nat.le_trans HW0.out (by rw [hg]; exact (keep_size (w := w) (g := g) (row := none) sAKeep_15) : w.heap.size ≤ gb287) : w0.heap.size ≤ gb287)); replace HK := Aside0.mk (KeepBut.trans (w := w) (row := none) sAKeep_15 (KeepBut.of_below hb g none) (.inl rfl)); have NB0_287 := Aside0.mk ((by rw [hg]; exact Nat.ne_of_lt (IsS77.lt (show IsS77 w0 _ g s0_0 s0_1 from sAIsS77_15)) : g ≠ gb287)); have NB287_0 := Aside0.mk ((by rw [hg]; exact Nat.ne_of_gt (IsS77.lt (show IsS77 w0 _ g s0_0 s0_1 from sAIsS77_15)) : gb287 ≠ g)); replace HI0 := Aside0.mk (IsS77.below sAIsS77_15 hb); clear hb hbox hg) | ((with_reducible refine gate_callee (f := 51) rfl ?_); refine gL_ (some 9) Try.func51 #[.pointer (some ⟨g, 0, none⟩)] ?_; (with_reducible refine (spec_l1Rd_problem.calls k g s0_0 s0_1 t288 t289 t292 t295 t298 w0 _ ?side1 ?side2 A2.out).mono ?_); (case side1 => repeat (first | (with_reducible first | exact HI0.out | apply IsS77.alloc | apply IsS77.drewN | apply IsS77.drew | apply IsS77.set_1 | refine IsS77.far ?_ NB0_287.out _) | exact HI0.out)); (case side2 => repeat (first | (with_reducible first | exact HB.out | apply below_alloc | apply pw_below_drewN | apply below_drew1 | refine below_set ?_ (IsS77.ge HI0.out) | refine below_set ?_ GE287.out) | exact HB.out)); rintro e w4 ⟨v290, v293, v296, rfl, ho0, ho1, ho2, hi, hb, hk⟩; refine ⟨_, rfl, ?_⟩; replace BK287 := Aside0.mk (KeepBut.blk hk (g' := gb287) (o := .cells #[.int .i64 0, .slice none 0 0, .slice none 0 0, .slice none 0 0] 30 (0, 0)) (bT_ BK287) NB287_0.out (by simp)); have HO291 := Aside0.mk (Kd.R_lower ho0 (keep_size (w := w) (g := g) (row := none) sAKeep_15)); have HO294 := Aside0.mk (Kd.R_lower ho1 (keep_size (w := w) (g := g) (row := none) sAKeep_15)); have HO297 := Aside0.mk (Kd.S_lower ho2 (keep_size (w := w) (g := g) (row := none) sAKeep_15)); replace HK := Aside0.mk (KeepBut.trans (w := w) (row := none) sAKeep_15 hk (.inl rfl)); replace HB := Aside0.mk (hb); replace HI0 := Aside0.mk (hi); (try clear hb); (try clear hk); (try clear hi); (try clear ho0); (try clear ho1); (try clear ho2)) | ((with_reducible refine gate_dst (N := 4) rfl ?_); refine box_event ?hg (N := 4) ?hd (cs := #[.int .i64 0, .slice none 0 0, .slice none 0 0, .slice none 0 0]) (t := 30) ?hr ?_; (case hd => rfl); (case hg => rfl); (case hr => first | (go_simp; done) | (go_simp; rfl)); intro gb299 hg w5 hbox hb; replace HO291 := rB_ HO291 hb; replace HO294 := rB_ HO294 hb; replace HO297 := sB_ HO297 hb; replace HB := Aside0.mk (below_step sABelo_15 hb); have BK299 := Aside0.mk (hbox); have GW299 := Aside0.mk ((by rw [hg]; exact (keep_size (w := w) (g := g) (row := none) sAKeep_15) : w.heap.size ≤ gb299)); have GE299 := Aside0.mk ((Nat.le_trans HW0.out (by rw [hg]; exact (keep_size (w := w) (g := g) (row := none) sAKeep_15) : w.heap.size ≤ gb299) : w0.heap.size ≤ gb299)); replace HK := Aside0.mk (KeepBut.trans (w := w) (row := none) sAKeep_15 (KeepBut.of_below hb g none) (.inl rfl)); have NB287_299 := nL_ BK287 hg; have NB299_287 := nG_ BK287 hg; replace BK287 := bB_ BK287 hb; have NB0_299 := Aside0.mk ((by rw [hg]; exact Nat.ne_of_lt (IsS77.lt (show IsS77 w0 _ g s0_0 t298 from sAIsS77_15)) : g ≠ gb299)); have NB299_0 := Aside0.mk ((by rw [hg]; exact Nat.ne_of_gt (IsS77.lt (show IsS77 w0 _ g s0_0 t298 from sAIsS77_15)) : gb299 ≠ g)); replace HI0 := Aside0.mk (IsS77.below sAIsS77_15 hb); clear hb hbox hg; have hnb6 := NB299_287.out; have hnc6 := NB287_299.out; have hnb7 := NB299_0.out; have hnc7 := NB0_299.out; obtain ⟨hcz8_0, hcz8_1, hcz8_2, hcz8_3, hfz8_0, hfz8_1, hfz8_2, hfz8_3⟩ := cf4_ BK299; obtain ⟨Ao9, co9, eo9⟩ := Kd.R_slice HO291.out; subst eo9; obtain ⟨Ao10, co10, eo10⟩ := Kd.R_slice HO294.out; subst eo10; obtain ⟨Ao11, co11, eo11⟩ := Kd.S_slice HO297.out; subst eo11) | ((with_reducible refine gate_dst (N := 10) rfl ?_); refine Kd.R_lit (Kd.int .i64) _ 2 ?hg (N := 10) ?hd (xs := ([] : List Int)) (inner := []) (ok := fun _ => True) (okp := fun _ => True) ?hr ?hp (fun _ hk => hk) trivial (Below.refl _ _) (Nat.le_refl _) (by simp) ?_; (case hd => rfl); (case hg => rfl); (case hr => first | (go_simp; done) | (go_simp; rfl)); (case hp => exact (Reps.none _ _)); intro v301 w12 ho13 hb hg_ hnew_; clear hg_ hnew_; (first | rw [← Ny300.out] at ho13 | (simp only [Int.reduceToNat] at ho13; rw [← Ny300.out] at ho13)); replace HO297 := Aside0.mk (Kd.S_elder' (sF_ HO297 BK299) (Kd.R_base ho13) hb); have HO302 := Aside0.mk (Kd.R_lower (rN_ (rN_ ho13 HO291) HO294) (keep_size (w := w) (g := g) (row := none) sAKeep_15)); replace HO291 := rEF_ HO291 BK299 ho13 hb; replace HO294 := rEF_ HO294 BK299 ho13 hb; replace BK287 := bBF_ BK287 NB287_299 hb; replace BK299 := Aside0.mk (blk_below (g := gb299) (o := .cells #[.int .i64 t288, .slice Ao9 t289.length co9, .slice Ao10 t292.length co10, .slice Ao11 t295.length co11] 30 (0, 0)) (bP_ BK299) hb); replace HK := Aside0.mk (KeepBut.trans (w := w) (row := none) sAKeep_15 (KeepBut.of_below hb g none) (.inl rfl)); replace HB := Aside0.mk (below_step sABelo_15 hb); replace HI0 := Aside0.mk (IsS77.below (show IsS77 w0 ((((w5.setCell ⟨gb299, 0, none⟩ (.int .i64 t288)).setCell ⟨gb299, 1, none⟩ (.slice Ao9 t289.length co9)).setCell ⟨gb299, 2, none⟩ (.slice Ao10 t292.length co10)).setCell ⟨gb299, 3, none⟩ (.slice Ao11 t295.length co11)) g s0_0 t298 from sAIsS77_15) hb); clear hb ho13))
 go_loopg [5, 6] k (fun kq v5 v6 w' => ∃ (x5_1 : List Int) (x6_1 : Int) (x1001_1 : Int), v6 = .int .i64 x6_1 ∧ Aside0 (spec_l15Draw4.l0 kq x5_1 x6_1 s0_0 x1001_1 t288 t289 t292 t295 = some (r1, r2, r3, r4, r5, r6)) ∧ Aside0 (kq ≤ k) ∧ Aside0 (Kd.R (Kd.int .i64) 2 w' w.heap.size (fun k_ => some k_ ≠ ((.slice Ao9 t289.length co9) : Value).ownBlock ∧ some k_ ≠ ((.slice Ao10 t292.length co10) : Value).ownBlock) v5 x5_1) ∧ Aside0 (Kd.R (Kd.int .i64) 2 w' w.heap.size (fun k_ => some k_ ≠ (v5 : Value).ownBlock ∧ some k_ ≠ ((.slice Ao10 t292.length co10) : Value).ownBlock) (.slice Ao9 t289.length co9) t289) ∧ Aside0 (Kd.R (Kd.int .i64) 2 w' w.heap.size (fun k_ => some k_ ≠ (v5 : Value).ownBlock ∧ some k_ ≠ ((.slice Ao9 t289.length co9) : Value).ownBlock) (.slice Ao10 t292.length co10) t292) ∧ Aside0 (Kd.S k52 52 w' w.heap.size (fun k_ => some k_ ≠ (v5 : Value).ownBlock ∧ some k_ ≠ ((.slice Ao9 t289.length co9) : Value).ownBlock ∧ some k_ ≠ ((.slice Ao10 t292.length co10) : Value).ownBlock) (.slice Ao11 t295.length co11) t295) ∧ Aside0 (w'.heap[gb287]? = some (.cells #[.int .i64 0, (.slice none 0 0), (.slice none 0 0), (.slice none 0 0)] 30 (0, 0))) ∧ Aside0 (w'.heap[gb299]? = some (.cells #[.int .i64 t288, (.slice Ao9 t289.length co9), (.slice Ao10 t292.length co10), (.slice Ao11 t295.length co11)] 30 (0, 0))) ∧ Aside0 (IsS77 w0 w' g s0_0 x1001_1) ∧ Aside0 (KeepBut w w' g none) ∧ Aside0 (Below w0.heap.size w0 w'))
 case atStart => exact ⟨(y300), (0), (t298), (by first | rfl | (simp; done) | (simp [*]; done)), H', ⟨Nat.le_refl _⟩, ⟨rM2_ HO302⟩, ⟨rM2_ HO291⟩, ⟨rM2_ HO294⟩, ⟨sM2_ HO297⟩, ⟨bT_ BK287⟩, ⟨bT_ BK299⟩, ⟨sAIsS77_15⟩, ⟨sAKeep_15⟩, ⟨sABelo_15⟩⟩
 case round =>
  clear H'; (try clear hcz8_0); (try clear hcz8_1); (try clear hcz8_2); (try clear hcz8_3); (try clear hfz8_0); (try clear hfz8_1); (try clear hfz8_2); (try clear hfz8_3)
  obtain ⟨x5_1, x6_1, x1001_1, rfl, HA, HK1, HO_5, HO_300001, HO_300002, HO_300003, BK287, BK299, HI0, HK, HB⟩ := hrel
  cases gk with
  | zero => exact absurd HA.out (by simp [spec_l15Draw4.l0])
  | succ k1 =>
   have H := HA.out; clear HA
   simp only [spec_l15Draw4.l0] at H
   by_cases c14 : x6_1 < t288
   ·rw [if_pos c14] at H
    have c14b0 := decide_eq_true c14
    clear c14; replace H := Option.bind_eq_some_iff.mp H
    obtain ⟨⟨t303, t304⟩, A150, H⟩ := H
    replace H : (if x5_1.length < 17592186044416 then (spec_l15Draw4.l0 k1 (x5_1 ++ [wrap64 (t303 - 300)]) (wrap64 (x6_1 + 1)) s0_0 t304 t288 t289 t292 t295) else (none)) = some (r1, r2, r3, r4, r5, r6) := H
    have A15 := Aside0.mk A150; clear A150
    obtain ⟨c16, H⟩ := ifS_ H
    have LMc16 := Aside0.mk c16; clear c16
    obtain ⟨y305, hy305⟩ : ∃ y_ : List Int, y_ = (x5_1 ++ [wrap64 (t303 - 300)]) := ⟨_, rfl⟩
    replace H : (spec_l15Draw4.l0 k1 y305 (wrap64 (x6_1 + 1)) s0_0 t304 t288 t289 t292 t295) = some (r1, r2, r3, r4, r5, r6) := by first | (rw [hy305]; with_reducible exact H) | (have H2_ := (Option.bind_some _ _).symm.trans H; rw [hy305]; with_reducible exact H2_) | (have H2_ := (Option.bind_some _ _).symm.trans H; with_reducible exact H2_) | with_reducible exact H | (rw [hy305]; exact H) | exact H
    have Ny305 := Aside0.mk hy305; clear hy305; have H' := Aside0.mk H; clear H; have hnb17 := NB299_287.out; have hnc17 := NB287_299.out; have hnb18 := NB299_0.out; have hnc18 := NB0_299.out
    obtain ⟨hcz19_0, hcz19_1, hcz19_2, hcz19_3, hfz19_0, hfz19_1, hfz19_2, hfz19_3⟩ := cf4_ BK299
    go_wp2_with (first | ((with_reducible refine gate_callee (f := 45) rfl ?_); refine gL_ (some 19) Try.func45 #[.pointer (some ⟨g, 0, none⟩), .int .i64 600] ?_; (with_reducible refine (spec_l1Rd_below.calls g s0_0 x1001_1 600 t303 t304 w0 _ ?side1 ?side2 A15.out).mono ?_); (case side1 => repeat (first | (with_reducible first | exact HI0.out | apply IsS77.alloc | apply IsS77.drewN | apply IsS77.drew | apply IsS77.set_1 | refine IsS77.far ?_ NB0_287.out _ | refine IsS77.far ?_ NB0_299.out _) | exact HI0.out)); (case side2 => repeat (first | (with_reducible first | exact HB.out | apply below_alloc | apply pw_below_drewN | apply below_drew1 | refine below_set ?_ (IsS77.ge HI0.out) | refine below_set ?_ GE287.out | refine below_set ?_ GE299.out) | exact HB.out)); rintro e w20 ⟨rfl, hi, hb, hk⟩; refine ⟨_, rfl, ?_⟩; replace HO_5 := Aside0.mk (Kd.R_mono (Kd.R_keep (IsS77.apart (show IsS77 w0 _ g s0_0 x1001_1 from sAIsS77_15) (rT_ HO_5) (by decide)) hk (fun _ h => h.2)) (fun _ h => h.1)); replace HO_300001 := Aside0.mk (Kd.R_mono (Kd.R_keep (IsS77.apart (show IsS77 w0 _ g s0_0 x1001_1 from sAIsS77_15) (rT_ HO_300001) (by decide)) hk (fun _ h => h.2)) (fun _ h => h.1)); replace HO_300002 := Aside0.mk (Kd.R_mono (Kd.R_keep (IsS77.apart (show IsS77 w0 _ g s0_0 x1001_1 from sAIsS77_15) (rT_ HO_300002) (by decide)) hk (fun _ h => h.2)) (fun _ h => h.1)); replace HO_300003 := Aside0.mk (Kd.S_mono (Kd.S_keep (IsS77.apartS (show IsS77 w0 _ g s0_0 x1001_1 from sAIsS77_15) (sT_ HO_300003) (by decide)) hk (fun _ h => h.2)) (fun _ h => h.1)); replace BK287 := Aside0.mk (KeepBut.blk hk (g' := gb287) (o := .cells #[.int .i64 0, .slice none 0 0, .slice none 0 0, .slice none 0 0] 30 (0, 0)) (bT_ BK287) NB287_0.out (by simp)); replace BK299 := Aside0.mk (KeepBut.blk hk (g' := gb299) (o := .cells #[.int .i64 t288, .slice Ao9 t289.length co9, .slice Ao10 t292.length co10, .slice Ao11 t295.length co11] 30 (0, 0)) (bT_ BK299) NB299_0.out (by simp)); replace HK := Aside0.mk (KeepBut.trans (w := w) (row := none) sAKeep_15 hk (.inl rfl)); replace HB := Aside0.mk (hb); replace HI0 := Aside0.mk (hi); (try clear hb); (try clear hk); (try clear hi)) | ((with_reducible refine gate_builtin (b := .append) (xs := #[.tmp 17, .tmp 21]) rfl ?_); at_builtin; refine Kd.R_append (Kd.int .i64) w.heap.size rfl (.tmp 17) (.tmp 21) 22 2 (.int .i64 0) 8 rfl Try.underlying22 info2 rfl (by decide) (by omega) u5 x5_1 (wrap64 (t303 - 300)) [.int .i64 (wrap64 (t303 - 300))] (fun k_ => some k_ ≠ (.slice Ao9 t289.length co9 : Value).ownBlock ∧ some k_ ≠ (.slice Ao10 t292.length co10 : Value).ownBlock) (fun _ => False) rfl rfl ?aP (fun _ hk => hk.elim) ?aF ?aO (Below.refl _ _) ?aS ?aL ?_; (case aP => exact rfl); (case aF => exact (fun k_ hk => ⟨Kd.fresh' (rLt_ HO_300001) k_ hk, Kd.fresh' (rLt_ HO_300002) k_ hk⟩)); (case aO => exact (rT_ HO_5)); (case aS => exact (keep_size (w := w) (g := g) (row := none) sAKeep_15)); (case aL => have := LMc16.out; omega); intro v306 w21 ho hb hg hat; rw [← Ny305.out] at ho; replace HO_300001 := Aside0.mk (Kd.R_after (ok := (fun k_ => some k_ ≠ (.slice Ao10 t292.length co10 : Value).ownBlock)) (rM_ HO_300001) hg hat); replace HO_300002 := Aside0.mk (Kd.R_after (ok := (fun k_ => some k_ ≠ (.slice Ao9 t289.length co9 : Value).ownBlock)) (rM_ HO_300002) hg hat); replace HO_300003 := Aside0.mk (Kd.S_after (ok := (fun k_ => some k_ ≠ (.slice Ao9 t289.length co9 : Value).ownBlock ∧ some k_ ≠ (.slice Ao10 t292.length co10 : Value).ownBlock)) (by (with_reducible repeat (first | apply Kd.S_alloc | apply Kd.S_drewN | apply Kd.S_drew)); exact Kd.S_mono HO_300003.out (fun _ hk => ⟨⟨hk.2.1, hk.2.2⟩, hk.1⟩)) hg hat); replace BK287 := Aside0.mk (blk_grown (g := gb287) (o := .cells #[.int .i64 0, .slice none 0 0, .slice none 0 0, .slice none 0 0] 30 (0, 0)) (bT_ BK287) hg (Kd.R_ne HO_5.out BK287.out (by decide))); replace BK299 := Aside0.mk (blk_grown (g := gb299) (o := .cells #[.int .i64 t288, .slice Ao9 t289.length co9, .slice Ao10 t292.length co10, .slice Ao11 t295.length co11] 30 (0, 0)) (bT_ BK299) hg (Kd.R_ne HO_5.out BK299.out (by decide))); replace HB := Aside0.mk (below_weaken sABelo_15 HL.out hb); replace HI0 := Aside0.mk (IsS77.grown sAIsS77_15 hg (IsS77.own_ne HI0.out HO_5.out (by decide))); replace HK := Aside0.mk (KeepBut.trans (w := w) (row := none) sAKeep_15 (KeepBut.of_grown hg g) (Kd.R_base2 HO_5.out)); have HO307 := Aside0.mk (ho); clear HO_5; clear ho hb hg hat))
    go_roundg k1
    case measure => have := HK1.out; omega
    case rel => exact ⟨(y305), (wrap64 (x6_1 + 1)), (t304), (by first | rfl | (simp; done) | (simp [*]; done)), H', ⟨by have := HK1.out; omega⟩, ⟨rT_ HO307⟩, ⟨rM2_ HO_300001⟩, ⟨rM2_ HO_300002⟩, ⟨sM2_ HO_300003⟩, ⟨bT_ BK287⟩, ⟨bT_ BK299⟩, ⟨sAIsS77_15⟩, ⟨sAKeep_15⟩, ⟨sABelo_15⟩⟩
   ·rw [if_neg c14] at H
    have c14b0 := decide_eq_false c14
    clear c14; replace H := Option.bind_eq_some_iff.mp H
    obtain ⟨⟨t308, t309⟩, A220, H⟩ := H
    dsimp only at H
    have A22 := Aside0.mk A220; clear A220
    by_cases c23 : t308 = 0
    ·rw [if_pos c23] at H
     exact absurd H (by simp)
    ·rw [if_neg c23] at H
     have c23b0 := beq_eq_false_iff_ne.mpr c23
     have c23b1 := bne_iff_ne.mpr c23
     by_cases c42 : t308 = 1
     ·rw [if_pos c42] at H
      exact absurd H (by simp)
     ·rw [if_neg c42] at H
      have c42b0 := beq_eq_false_iff_ne.mpr c42
      have c42b1 := bne_iff_ne.mpr c42
      by_cases c64 : t308 = 2
      ·rw [if_pos c64] at H
       exact absurd H (by simp)
      ·rw [if_neg c64] at H
       have c64b0 := beq_eq_false_iff_ne.mpr c64
       have c64b1 := bne_iff_ne.mpr c64
       by_cases c86 : t308 = 3
       ·rw [if_pos c86] at H
        exact absurd H (by simp)
       ·rw [if_neg c86] at H
        have c86b0 := beq_eq_false_iff_ne.mpr c86
        have c86b1 := bne_iff_ne.mpr c86
        obtain ⟨c108, H⟩ := ifS_ H
        have c108b0 : (t308 == 4) = true := beq_iff_eq.mpr c108
        have c108b1 : (t308 != 4) = false := bne_eq_false_iff_eq.mpr c108
        clear c108
        obtain ⟨c109, H⟩ := ifS_ H
        have c109b0 : decide (0 < (t295.length : Int)) = true := decide_eq_true c109
        have c109b1 : decide (0 < t295.length) = true := decide_eq_true (by omega)
        clear c109
        obtain ⟨y338, hy338⟩ : ∃ y_ : List Int, y_ = (([5, 6, (-6)] : List Int)) := ⟨_, rfl⟩
        replace H : ((spec_l1Rd_below.f s0_0 t309 3).bind fun bt341 => (if 0 ≤ bt341.1 then (if bt341.1 < (y338.length : Int) then (if 0 < (((rd_T52 t295 0).f0).length : Int) then (some (t288, t289, t292, (t295.set (0 : Int).toNat (⟨((rd_T52 t295 0).f0.set (0 : Int).toNat (rd y338 bt341.1)), (rd_T52 t295 0).f1, (rd_T52 t295 0).f2⟩ : S52)), x5_1, bt341.2)) else (none)) else (none)) else (none))) = some (r1, r2, r3, r4, r5, r6) := by first | (rw [hy338]; with_reducible exact H) | (have H2_ := (Option.bind_some _ _).symm.trans H; rw [hy338]; with_reducible exact H2_) | (have H2_ := (Option.bind_some _ _).symm.trans H; with_reducible exact H2_) | with_reducible exact H | (rw [hy338]; exact H) | exact H
        have Ny338 := Aside0.mk hy338; clear hy338; replace H := Option.bind_eq_some_iff.mp H
        obtain ⟨⟨t341, t342⟩, A1100, H⟩ := H
        replace H : (if 0 ≤ t341 then (if t341 < (y338.length : Int) then (if 0 < (((rd_T52 t295 0).f0).length : Int) then (some (t288, t289, t292, (t295.set (0 : Int).toNat (⟨((rd_T52 t295 0).f0.set (0 : Int).toNat (rd y338 t341)), (rd_T52 t295 0).f1, (rd_T52 t295 0).f2⟩ : S52)), x5_1, t342)) else (none)) else (none)) else (none)) = some (r1, r2, r3, r4, r5, r6) := H
        have A110 := Aside0.mk A1100; clear A1100
        obtain ⟨c111, H⟩ := ifS_ H
        have c111b0 : decide (0 ≤ t341) = true := decide_eq_true c111
        clear c111
        obtain ⟨c112, H⟩ := ifS_ H
        have c112b0 : decide (t341 < (y338.length : Int)) = true := decide_eq_true c112
        clear c112
        obtain ⟨c113, H⟩ := ifS_ H
        have c113b0 : decide (0 < (((rd_T52 t295 0).f0).length : Int)) = true := decide_eq_true c113
        have c113b1 : decide (0 < ((rd_T52 t295 0).f0).length) = true := decide_eq_true (by omega)
        clear c113
        obtain ⟨y344, hy344⟩ : ∃ y_ : List S52, y_ = (t295.set (0 : Int).toNat (⟨((rd_T52 t295 0).f0.set (0 : Int).toNat (rd y338 t341)), (rd_T52 t295 0).f1, (rd_T52 t295 0).f2⟩ : S52)) := ⟨_, rfl⟩
        replace H : (some (t288, t289, t292, y344, x5_1, t342)) = some (r1, r2, r3, r4, r5, r6) := by first | (rw [hy344]; with_reducible exact H) | (have H2_ := (Option.bind_some _ _).symm.trans H; rw [hy344]; with_reducible exact H2_) | (have H2_ := (Option.bind_some _ _).symm.trans H; with_reducible exact H2_) | with_reducible exact H | (rw [hy344]; exact H) | exact H
        have Ny344 := Aside0.mk hy344; clear hy344
        simp only [Option.some.injEq, Prod.mk.injEq] at H
        obtain ⟨rfl, rfl, rfl, rfl, rfl, rfl⟩ := H
        have hnb115 := NB299_287.out; have hnc115 := NB287_299.out; have hnb116 := NB299_0.out; have hnc116 := NB0_299.out
        obtain ⟨hcz117_0, hcz117_1, hcz117_2, hcz117_3, hfz117_0, hfz117_1, hfz117_2, hfz117_3⟩ := cf4_ BK299
        try go_wp2_with (first | ((with_reducible refine gate_callee (f := 45) rfl ?_); refine gL_ (some 24) Try.func45 #[.pointer (some ⟨g, 0, none⟩), .int .i64 30] ?_; (with_reducible refine (spec_l1Rd_below.calls g s0_0 x1001_1 30 t308 t309 w0 _ ?side1 ?side2 A22.out).mono ?_); (case side1 => repeat (first | (with_reducible first | exact HI0.out | apply IsS77.alloc | apply IsS77.drewN | apply IsS77.drew | apply IsS77.set_1 | refine IsS77.far ?_ NB0_287.out _ | refine IsS77.far ?_ NB0_299.out _) | exact HI0.out)); (case side2 => repeat (first | (with_reducible first | exact HB.out | apply below_alloc | apply pw_below_drewN | apply below_drew1 | refine below_set ?_ (IsS77.ge HI0.out) | refine below_set ?_ GE287.out | refine below_set ?_ GE299.out) | exact HB.out)); rintro e w118 ⟨rfl, hi, hb, hk⟩; refine ⟨_, rfl, ?_⟩; replace HO_5 := Aside0.mk (Kd.R_mono (Kd.R_keep (IsS77.apart (show IsS77 w0 _ g s0_0 x1001_1 from sAIsS77_15) (rT_ HO_5) (by decide)) hk (fun _ h => h.2)) (fun _ h => h.1)); replace HO_300001 := Aside0.mk (Kd.R_mono (Kd.R_keep (IsS77.apart (show IsS77 w0 _ g s0_0 x1001_1 from sAIsS77_15) (rT_ HO_300001) (by decide)) hk (fun _ h => h.2)) (fun _ h => h.1)); replace HO_300002 := Aside0.mk (Kd.R_mono (Kd.R_keep (IsS77.apart (show IsS77 w0 _ g s0_0 x1001_1 from sAIsS77_15) (rT_ HO_300002) (by decide)) hk (fun _ h => h.2)) (fun _ h => h.1)); replace HO_300003 := Aside0.mk (Kd.S_mono (Kd.S_keep (IsS77.apartS (show IsS77 w0 _ g s0_0 x1001_1 from sAIsS77_15) (sT_ HO_300003) (by decide)) hk (fun _ h => h.2)) (fun _ h => h.1)); replace BK287 := Aside0.mk (KeepBut.blk hk (g' := gb287) (o := .cells #[.int .i64 0, .slice none 0 0, .slice none 0 0, .slice none 0 0] 30 (0, 0)) (bT_ BK287) NB287_0.out (by simp)); replace BK299 := Aside0.mk (KeepBut.blk hk (g' := gb299) (o := .cells #[.int .i64 t288, .slice Ao9 t289.length co9, .slice Ao10 t292.length co10, .slice Ao11 t295.length co11] 30 (0, 0)) (bT_ BK299) NB299_0.out (by simp)); replace HK := Aside0.mk (KeepBut.trans (w := w) (row := none) sAKeep_15 hk (.inl rfl)); replace HB := Aside0.mk (hb); replace HI0 := Aside0.mk (hi); (try clear hb); (try clear hk); (try clear hi)))
        have pi343 : (0 ≤ (t341 : Int)) = True := eq_true dA_
        have qi343 : (t341 < (y338.length : Int)) = True := eq_true dA_
        replace HO_5 := Aside0.mk (Kd.R_drew HO_5.out)
        replace HO_300001 := Aside0.mk (Kd.R_drew HO_300001.out)
        replace HO_300002 := Aside0.mk (Kd.R_drew HO_300002.out)
        replace HO_300003 := Aside0.mk (Kd.S_drew HO_300003.out)
        replace BK287 := Aside0.mk (blk_drew BK287.out)
        replace BK299 := Aside0.mk (blk_drew BK299.out)
        replace HI0 := Aside0.mk (IsS77.drew HI0.out)
        replace HK := Aside0.mk (keep_drew HK.out)
        replace HB := Aside0.mk (below_drew1 HB.out)
        have p337 : 0 ≤ (0 : Int) := (by omega)
        have q337 : 0 < (t295.length : Int) := dA_
        obtain ⟨ad337, A337_0, c337_0, e337, hx337_0, hx337_1, hx337_2, hl337_0, hi337_0⟩ := at_T52 (Kd.S_reads' HO_300003.out).2.2 0 p337 q337
        cases e337
        obtain ⟨ce337, hce337, hMe337, hcc337⟩ := Kd.S_get HO_300003.out z52 0 p337 (by first | exact q337 | exact of_decide_eq_true (by first | (with_reducible assumption) | assumption) | (have e_ := (Kd.S_reads' HO_300003.out).1; omega))
        obtain ⟨ve337_0, rfl, ge337_0⟩ := k52_openM hMe337
        have hv337_0 := hcc337 0 _ rfl
        rw [Nat.add_zero] at hv337_0
        replace hv337_0 := Option.some.inj (hv337_0.symm.trans hx337_0)
        rw [hv337_0] at ge337_0
        have HL337_0 := Aside0.mk (show Kd.R (Kd.int .i64) 2 _ _ _ _ ((rd_T52 t295 0).f0) from ge337_0)
        clear hv337_0 ge337_0 hcc337 hce337
        have qi337 : (0 < t295.length) = True := eq_true (by omega)
        (try rw [show ((0 : Int)).toNat = 0 from rfl] at hx337_0)
        (try rw [show 0 * 3 = 0 from rfl] at hx337_0)
        (try rw [Addr.add_zero'] at hx337_0)
        (try rw [show ((0 : Int)).toNat = 0 from rfl] at hx337_1)
        (try rw [show 0 * 3 = 0 from rfl] at hx337_1)
        (try rw [Addr.add_zero'] at hx337_1)
        (try rw [show ((0 : Int)).toNat = 0 from rfl] at hx337_2)
        (try rw [show 0 * 3 = 0 from rfl] at hx337_2)
        (try rw [Addr.add_zero'] at hx337_2)
        have HR337_0 := Aside0.mk hi337_0; have HC337_0 := Aside0.mk hl337_0; clear hi337_0 hl337_0; replace p337 := eq_true p337; replace q337 := eq_true q337
        refine start_ (n := 12) (S := fun w' => w'.cell? ⟨gb299, 0, none⟩ = some (.int .i64 t288) ∧ w'.cell? ⟨gb299, 1, none⟩ = some (.slice Ao9 t289.length co9) ∧ w'.cell? ⟨gb299, 2, none⟩ = some (.slice Ao10 t292.length co10) ∧ w'.cell? ⟨gb299, 3, none⟩ = some (.slice (some ad337) t295.length co11) ∧ w'.cell? ad337 = some (.slice A337_0 ((rd_T52 t295 0).f0).length c337_0) ∧ w'.cell? ⟨ad337.block, ad337.off + 1, none⟩ = some (.int .i64 ((rd_T52 t295 0).f1)) ∧ w'.cell? ⟨ad337.block, ad337.off + 2, none⟩ = some (.int .i64 ((rd_T52 t295 0).f2))) (ds := [11]) #[false, false, false, false, false, false, false, false, false, false, false, false] (by kernel_rfl) rfl rfl ⟨(blk_cell BK299.out 0).trans rfl, (blk_cell BK299.out 1).trans rfl, (blk_cell BK299.out 2).trans rfl, (blk_cell BK299.out 3).trans rfl, hx337_0, hx337_1, hx337_2⟩ (fun hHeld => ?_); refine with_tabW spec_l15Draw4.tab17 spec_l15Draw4.bits17 (fun HT_ HW_ => ?_)
        generalize w118.drew = w119 at HO_5 HO_300001 HO_300002 HO_300003 BK287 BK299 HI0 HK HB HL337_0 HR337_0 hx337_0 hx337_1 hx337_2 hHeld ⊢
        refine pT_ 0 (some 69) #[true, false, false, false, false, false, false, false, false, false, false, false] HT_ ?_
        refine pT_ 6 (some 75) #[true, false, false, false, false, false, true, false, false, false, false, false] HT_ ?_
        refine tT_ 1 (some 70) #[true, true, false, false, false, false, true, false, false, false, false, false] HT_ HW_ hHeld ?_ (hy := by rintro w' ⟨s0, s1, s2, s3, s4, s5, s6⟩; go_simp; with_reducible rfl)
        refine pT_ 2 (some 71) #[true, true, true, false, false, false, true, false, false, false, false, false] HT_ ?_
        refine pT_ 3 (some 72) #[true, true, true, true, false, false, true, false, false, false, false, false] HT_ ?_
        refine tT_ 4 (some 73) #[true, true, true, true, true, false, true, false, false, false, false, false] HT_ HW_ hHeld ?_ (hy := by rintro w' ⟨s0, s1, s2, s3, s4, s5, s6⟩; go_simp; with_reducible rfl)
        refine join_ (σ := Value × Addr) 4 #[true, true, true, true, true, true, true, true, false, false, false, false] (fun s_ => [(74, s_.1), (76, .int .i64 t341)]) (fun s_ w' => (w'.cell? ⟨gb299, 0, none⟩ = some (.int .i64 t288) ∧ w'.cell? ⟨gb299, 1, none⟩ = some (.slice Ao9 t289.length co9) ∧ w'.cell? ⟨gb299, 2, none⟩ = some (.slice Ao10 t292.length co10) ∧ w'.cell? ⟨gb299, 3, none⟩ = some (.slice (some ad337) t295.length co11) ∧ w'.cell? ad337 = some (.slice A337_0 ((rd_T52 t295 0).f0).length c337_0) ∧ w'.cell? ⟨ad337.block, ad337.off + 1, none⟩ = some (.int .i64 ((rd_T52 t295 0).f1)) ∧ w'.cell? ⟨ad337.block, ad337.off + 2, none⟩ = some (.int .i64 ((rd_T52 t295 0).f2))) ∧ (Kd.R (Kd.int .i64) 2 w' w.heap.size (fun k_ => some k_ ≠ (s_.1 : Value).ownBlock ∧ some k_ ≠ (.slice Ao9 t289.length co9 : Value).ownBlock ∧ some k_ ≠ (.slice Ao10 t292.length co10 : Value).ownBlock ∧ some k_ ≠ (.slice (some ad337) t295.length co11 : Value).ownBlock ∧ some k_ ≠ (u5 : Value).ownBlock) (.slice A337_0 ((rd_T52 t295 0).f0).length c337_0) ((rd_T52 t295 0).f0)) ∧ (Kd.R (Kd.int .i64) 2 w' w.heap.size (fun k_ => some k_ ≠ (.slice A337_0 ((rd_T52 t295 0).f0).length c337_0 : Value).ownBlock ∧ some k_ ≠ (.slice Ao9 t289.length co9 : Value).ownBlock ∧ some k_ ≠ (.slice Ao10 t292.length co10 : Value).ownBlock ∧ some k_ ≠ (u5 : Value).ownBlock) s_.1 y338) ∧ (Kd.R (Kd.int .i64) 2 w' w.heap.size (fun k_ => some k_ ≠ (s_.1 : Value).ownBlock ∧ some k_ ≠ (.slice Ao10 t292.length co10 : Value).ownBlock ∧ some k_ ≠ (u5 : Value).ownBlock) (.slice Ao9 t289.length co9) t289) ∧ (Kd.R (Kd.int .i64) 2 w' w.heap.size (fun k_ => some k_ ≠ (s_.1 : Value).ownBlock ∧ some k_ ≠ (.slice Ao9 t289.length co9 : Value).ownBlock ∧ some k_ ≠ (u5 : Value).ownBlock) (.slice Ao10 t292.length co10) t292) ∧ (Kd.S k52 52 w' w.heap.size (fun k_ => some k_ ≠ (s_.1 : Value).ownBlock ∧ some k_ ≠ (.slice Ao9 t289.length co9 : Value).ownBlock ∧ some k_ ≠ (.slice Ao10 t292.length co10 : Value).ownBlock ∧ some k_ ≠ (u5 : Value).ownBlock) (.slice (some ad337) t295.length co11) t295) ∧ (Kd.R (Kd.int .i64) 2 w' w.heap.size (fun k_ => some k_ ≠ (s_.1 : Value).ownBlock ∧ some k_ ≠ (.slice Ao9 t289.length co9 : Value).ownBlock ∧ some k_ ≠ (.slice Ao10 t292.length co10 : Value).ownBlock) u5 x5_1) ∧ (∃ c_, (s_.1 : Value) = .slice (some s_.2) y338.length c_) ∧ (w'.heap[gb287]? = some (.cells #[.int .i64 0, .slice none 0 0, .slice none 0 0, .slice none 0 0] 30 (0, 0))) ∧ (w'.heap[gb299]? = some (.cells #[.int .i64 t288, .slice Ao9 t289.length co9, .slice Ao10 t292.length co10, .slice (some ad337) t295.length co11] 30 (0, 0))) ∧ (IsS77 w0 w' g s0_0 t342) ∧ (KeepBut w w' g none) ∧ (Below w0.heap.size w0 w')) ?_ ?_
        rotate_left
        ·intro hCont
         refine two_ (i := 5) (j := 7) (Ni := some 74) (Nj := some 76) #[true, true, true, true, true, true, true, false, false, false, false, false] #[true, true, true, true, true, false, true, true, false, false, false, false] rfl rfl rfl rfl (two_of HT_.out (by kernel_rfl)) (by decide) (by decide) (fun K hK => ?_) (fun K hK => ?_)
         ·skip
          refine Kd.R_lit_step (Kd.int .i64) _ 2 ?hg (N := 74) ?hd (xs := ([5, 6, (-6)] : List Int)) (inner := [.int .i64 5, .int .i64 6, .int .i64 (-6)]) (ok := fun _ => True) (okp := fun _ => True) ?hr ?hp (fun _ hk => hk) trivial (Below.refl _ _) (Nat.le_refl _) (by simp) ?_; (case hd => rfl); (case hg => rfl); (case hr => first | (go_simp; done) | (go_simp; rfl)); (case hp => exact (Reps.one (show Kd.M (Kd.int .i64) _ _ _ 5 [.int .i64 5] from rfl) (Reps.one (show Kd.M (Kd.int .i64) _ _ _ 6 [.int .i64 6] from rfl) (Reps.one (show Kd.M (Kd.int .i64) _ _ _ (-6) [.int .i64 (-6)] from rfl) (Reps.none _ _)))))
          intro v339 w120 ho121 hb hg_ hnew_
          have HS4_ := (hb.cell (World.block_lt_of_cell? _ _ (hHeld.2.2.2.2.1))).trans (hHeld.2.2.2.2.1)
          have HS5_ := (hb.cell (World.block_lt_of_cell? _ _ (hHeld.2.2.2.2.2.1))).trans (hHeld.2.2.2.2.2.1)
          have HS6_ := (hb.cell (World.block_lt_of_cell? _ _ (hHeld.2.2.2.2.2.2))).trans (hHeld.2.2.2.2.2.2)
          clear hg_ hnew_
          (first | rw [← Ny338.out] at ho121 | (simp only [Int.reduceToNat] at ho121; rw [← Ny338.out] at ho121))
          replace HO_300003 := Aside0.mk (Kd.S_elder' (sT_ HO_300003) (Kd.R_base ho121) hb)
          have HO340 := Aside0.mk (Kd.R_lower (rN_ (rN_ (rN_ (rN_ ho121 HO_5) HO_300001) HO_300002) HL337_0) (keep_size (w := w) (g := g) (row := none) sAKeep_15))
          replace HO_5 := rE_ HO_5 ho121 hb; replace HO_300001 := rE_ HO_300001 ho121 hb; replace HO_300002 := rE_ HO_300002 ho121 hb; replace HL337_0 := rE_ HL337_0 ho121 hb; replace BK287 := bB_ BK287 hb; replace BK299 := bB_ BK299 hb
          replace HR337_0 := Aside0.mk (Kd.C_below (by repeat (first | (with_reducible exact HR337_0.out) | (with_reducible refine Kd.C_alloc ?_ _) | (with_reducible refine Kd.C_drewN ?_ _) | (with_reducible refine Kd.C_drew ?_) | exact HR337_0.out)) hb)
          replace HK := Aside0.mk (KeepBut.trans (w := w) (row := none) sAKeep_15 (KeepBut.of_below hb g none) (.inl rfl))
          replace HB := Aside0.mk (below_step sABelo_15 hb)
          replace HI0 := Aside0.mk (IsS77.below sAIsS77_15 hb)
          clear hb ho121
          obtain ⟨Ao122, co122, eo122⟩ := Kd.R_slice HO340.out
          subst eo122
          obtain ⟨ado122, fo122, _⟩ := Kd.at_int (Kd.R_reads' HO340.out).2.2 0 (by decide) (by rw [Ny338.out]; simp)
          cases fo122
          refine hK.out _ _ ⟨(blk_cell BK299.out 0).trans rfl, (blk_cell BK299.out 1).trans rfl, (blk_cell BK299.out 2).trans rfl, (blk_cell BK299.out 3).trans rfl, HS4_, HS5_, HS6_⟩ (fun hHeld => ?_)
          clear hK K
          refine nS_ (some 74) ?_
          refine one_ (i := 7) (N := some 76) #[true, true, true, true, true, true, true, true, false, false, false, false] rfl rfl (one_of HT_.out (by kernel_rfl)) (by decide) (fun K hK => ?_)
          refine goes_ Try.func45 (by kernel_rfl) rfl #[.pointer (some ⟨g, 0, none⟩), .int .i64 3] (by rfl) rfl rfl (by (try simp only [List.map_toArray, List.map_cons, List.map_nil]); first | done | rfl | (simp only [List.length_drop, List.length_take]; rfl)) ?_
          with_reducible refine (spec_l1Rd_below.calls g s0_0 t309 3 t341 t342 w0 _ ?side1 ?side2 A110.out).mono ?_
          (case side1 => repeat (first | (with_reducible first | exact HI0.out | apply IsS77.alloc | apply IsS77.drewN | apply IsS77.drew | apply IsS77.set_1 | refine IsS77.far ?_ NB0_287.out _ | refine IsS77.far ?_ NB0_299.out _) | exact HI0.out))
          (case side2 => repeat (first | (with_reducible first | exact HB.out | apply below_alloc | apply pw_below_drewN | apply below_drew1 | refine below_set ?_ (IsS77.ge HI0.out) | refine below_set ?_ GE287.out | refine below_set ?_ GE299.out) | exact HB.out))
          rintro e w123 ⟨rfl, hi, hb, hk⟩
          have HS4_ := keep_cell hk (hHeld.2.2.2.2.1) (by have h_ := Kd.own_blk (IsS77.own_neS HI0.out HO_300003.out (by decide)); exact h_)
          have HS5_ := keep_cell hk (hHeld.2.2.2.2.2.1) (by have h_ := Kd.own_blk (IsS77.own_neS HI0.out HO_300003.out (by decide)); exact h_)
          have HS6_ := keep_cell hk (hHeld.2.2.2.2.2.2) (by have h_ := Kd.own_blk (IsS77.own_neS HI0.out HO_300003.out (by decide)); exact h_)
          refine ⟨_, rfl, ?_⟩
          replace HO_5 := Aside0.mk (Kd.R_mono (Kd.R_keep (IsS77.apart (show IsS77 w0 _ g s0_0 t309 from sAIsS77_15) (rT_ HO_5) (by decide)) hk (fun _ h => h.2)) (fun _ h => h.1))
          replace HO_300001 := Aside0.mk (Kd.R_mono (Kd.R_keep (IsS77.apart (show IsS77 w0 _ g s0_0 t309 from sAIsS77_15) (rT_ HO_300001) (by decide)) hk (fun _ h => h.2)) (fun _ h => h.1))
          replace HO_300002 := Aside0.mk (Kd.R_mono (Kd.R_keep (IsS77.apart (show IsS77 w0 _ g s0_0 t309 from sAIsS77_15) (rT_ HO_300002) (by decide)) hk (fun _ h => h.2)) (fun _ h => h.1))
          replace HO_300003 := Aside0.mk (Kd.S_mono (Kd.S_keep (IsS77.apartS (show IsS77 w0 _ g s0_0 t309 from sAIsS77_15) (sT_ HO_300003) (by decide)) hk (fun _ h => h.2)) (fun _ h => h.1))
          replace BK287 := Aside0.mk (KeepBut.blk hk (g' := gb287) (o := .cells #[.int .i64 0, .slice none 0 0, .slice none 0 0, .slice none 0 0] 30 (0, 0)) (bT_ BK287) NB287_0.out (by simp))
          replace BK299 := Aside0.mk (KeepBut.blk hk (g' := gb299) (o := .cells #[.int .i64 t288, .slice Ao9 t289.length co9, .slice Ao10 t292.length co10, .slice (some ad337) t295.length co11] 30 (0, 0)) (bT_ BK299) NB299_0.out (by simp))
          replace HL337_0 := Aside0.mk (Kd.R_mono (Kd.R_keep (IsS77.apart (show IsS77 w0 _ g s0_0 t309 from sAIsS77_15) (rT_ HL337_0) (by decide)) hk (fun _ h => h.2)) (fun _ h => h.1))
          replace HO340 := Aside0.mk (Kd.R_mono (Kd.R_keep (IsS77.apart (show IsS77 w0 _ g s0_0 t309 from sAIsS77_15) (rT_ HO340) (by decide)) hk (fun _ h => h.2)) (fun _ h => h.1))
          replace HK := Aside0.mk (KeepBut.trans (w := w) (row := none) sAKeep_15 hk (.inl rfl))
          replace HB := Aside0.mk (hb)
          replace HI0 := Aside0.mk (hi)
          (try clear hb); (try clear hk); (try clear hi)
          refine hK.out _ _ ⟨(blk_cell BK299.out 0).trans rfl, (blk_cell BK299.out 1).trans rfl, (blk_cell BK299.out 2).trans rfl, (blk_cell BK299.out 3).trans rfl, HS4_, HS5_, HS6_⟩ (fun hHeld => ?_)
          clear hK K
          refine nS_ (some 76) ?_
          exact norm_ (by simp only [putAll, Act.put, List.setIfInBounds_toArray, List.set_cons_zero, List.set_cons_succ]) (hCont (.slice (some ado122) y338.length co122, ado122) _ ⟨hHeld, (rM_ HL337_0), (rM_ HO340), (rM_ HO_300001), (rM_ HO_300002), (by (with_reducible repeat (first | apply Kd.S_alloc | apply Kd.S_drewN | apply Kd.S_drew)); exact Kd.S_mono HO_300003.out (fun _ hk => ⟨hk.2, ⟨hk.1.2.1, ⟨hk.1.2.2, hk.1.1⟩⟩⟩)), (rM_ HO_5), ⟨_, rfl⟩, (bT_ BK287), (bT_ BK299), sAIsS77_15, sAKeep_15, sABelo_15⟩)
         ·skip
          refine goes_ Try.func45 (by kernel_rfl) rfl #[.pointer (some ⟨g, 0, none⟩), .int .i64 3] (by rfl) rfl rfl (by (try simp only [List.map_toArray, List.map_cons, List.map_nil]); first | done | rfl | (simp only [List.length_drop, List.length_take]; rfl)) ?_
          with_reducible refine (spec_l1Rd_below.calls g s0_0 t309 3 t341 t342 w0 _ ?side1 ?side2 A110.out).mono ?_
          (case side1 => repeat (first | (with_reducible first | exact HI0.out | apply IsS77.alloc | apply IsS77.drewN | apply IsS77.drew | apply IsS77.set_1 | refine IsS77.far ?_ NB0_287.out _ | refine IsS77.far ?_ NB0_299.out _) | exact HI0.out))
          (case side2 => repeat (first | (with_reducible first | exact HB.out | apply below_alloc | apply pw_below_drewN | apply below_drew1 | refine below_set ?_ (IsS77.ge HI0.out) | refine below_set ?_ GE287.out | refine below_set ?_ GE299.out) | exact HB.out))
          rintro e w120 ⟨rfl, hi, hb, hk⟩
          have HS4_ := keep_cell hk (hHeld.2.2.2.2.1) (by have h_ := Kd.own_blk (IsS77.own_neS HI0.out HO_300003.out (by decide)); exact h_)
          have HS5_ := keep_cell hk (hHeld.2.2.2.2.2.1) (by have h_ := Kd.own_blk (IsS77.own_neS HI0.out HO_300003.out (by decide)); exact h_)
          have HS6_ := keep_cell hk (hHeld.2.2.2.2.2.2) (by have h_ := Kd.own_blk (IsS77.own_neS HI0.out HO_300003.out (by decide)); exact h_)
          refine ⟨_, rfl, ?_⟩
          replace HO_5 := Aside0.mk (Kd.R_mono (Kd.R_keep (IsS77.apart (show IsS77 w0 _ g s0_0 t309 from sAIsS77_15) (rT_ HO_5) (by decide)) hk (fun _ h => h.2)) (fun _ h => h.1))
          replace HO_300001 := Aside0.mk (Kd.R_mono (Kd.R_keep (IsS77.apart (show IsS77 w0 _ g s0_0 t309 from sAIsS77_15) (rT_ HO_300001) (by decide)) hk (fun _ h => h.2)) (fun _ h => h.1))
          replace HO_300002 := Aside0.mk (Kd.R_mono (Kd.R_keep (IsS77.apart (show IsS77 w0 _ g s0_0 t309 from sAIsS77_15) (rT_ HO_300002) (by decide)) hk (fun _ h => h.2)) (fun _ h => h.1))
          replace HO_300003 := Aside0.mk (Kd.S_mono (Kd.S_keep (IsS77.apartS (show IsS77 w0 _ g s0_0 t309 from sAIsS77_15) (sT_ HO_300003) (by decide)) hk (fun _ h => h.2)) (fun _ h => h.1))
          replace BK287 := Aside0.mk (KeepBut.blk hk (g' := gb287) (o := .cells #[.int .i64 0, .slice none 0 0, .slice none 0 0, .slice none 0 0] 30 (0, 0)) (bT_ BK287) NB287_0.out (by simp))
          replace BK299 := Aside0.mk (KeepBut.blk hk (g' := gb299) (o := .cells #[.int .i64 t288, .slice Ao9 t289.length co9, .slice Ao10 t292.length co10, .slice (some ad337) t295.length co11] 30 (0, 0)) (bT_ BK299) NB299_0.out (by simp))
          replace HL337_0 := Aside0.mk (Kd.R_mono (Kd.R_keep (IsS77.apart (show IsS77 w0 _ g s0_0 t309 from sAIsS77_15) (rT_ HL337_0) (by decide)) hk (fun _ h => h.2)) (fun _ h => h.1))
          replace HK := Aside0.mk (KeepBut.trans (w := w) (row := none) sAKeep_15 hk (.inl rfl))
          replace HB := Aside0.mk (hb)
          replace HI0 := Aside0.mk (hi)
          (try clear hb); (try clear hk); (try clear hi)
          refine hK.out _ _ ⟨(blk_cell BK299.out 0).trans rfl, (blk_cell BK299.out 1).trans rfl, (blk_cell BK299.out 2).trans rfl, (blk_cell BK299.out 3).trans rfl, HS4_, HS5_, HS6_⟩ (fun hHeld => ?_)
          clear hK K
          refine nS_ (some 76) ?_
          refine one_ (i := 5) (N := some 74) #[true, true, true, true, true, true, true, true, false, false, false, false] rfl rfl (one_of HT_.out (by kernel_rfl)) (by decide) (fun K hK => ?_)
          refine Kd.R_lit_step (Kd.int .i64) _ 2 ?hg (N := 74) ?hd (xs := ([5, 6, (-6)] : List Int)) (inner := [.int .i64 5, .int .i64 6, .int .i64 (-6)]) (ok := fun _ => True) (okp := fun _ => True) ?hr ?hp (fun _ hk => hk) trivial (Below.refl _ _) (Nat.le_refl _) (by simp) ?_; (case hd => rfl); (case hg => rfl); (case hr => first | (go_simp; done) | (go_simp; rfl)); (case hp => exact (Reps.one (show Kd.M (Kd.int .i64) _ _ _ 5 [.int .i64 5] from rfl) (Reps.one (show Kd.M (Kd.int .i64) _ _ _ 6 [.int .i64 6] from rfl) (Reps.one (show Kd.M (Kd.int .i64) _ _ _ (-6) [.int .i64 (-6)] from rfl) (Reps.none _ _)))))
          intro v339 w121 ho122 hb hg_ hnew_
          have HS4_ := (hb.cell (World.block_lt_of_cell? _ _ (hHeld.2.2.2.2.1))).trans (hHeld.2.2.2.2.1)
          have HS5_ := (hb.cell (World.block_lt_of_cell? _ _ (hHeld.2.2.2.2.2.1))).trans (hHeld.2.2.2.2.2.1)
          have HS6_ := (hb.cell (World.block_lt_of_cell? _ _ (hHeld.2.2.2.2.2.2))).trans (hHeld.2.2.2.2.2.2)
          clear hg_ hnew_
          (first | rw [← Ny338.out] at ho122 | (simp only [Int.reduceToNat] at ho122; rw [← Ny338.out] at ho122))
          replace HO_300003 := Aside0.mk (Kd.S_elder' (sT_ HO_300003) (Kd.R_base ho122) hb)
          have HO340 := Aside0.mk (Kd.R_lower (rN_ (rN_ (rN_ (rN_ ho122 HO_5) HO_300001) HO_300002) HL337_0) (keep_size (w := w) (g := g) (row := none) sAKeep_15))
          replace HO_5 := rE_ HO_5 ho122 hb; replace HO_300001 := rE_ HO_300001 ho122 hb; replace HO_300002 := rE_ HO_300002 ho122 hb; replace HL337_0 := rE_ HL337_0 ho122 hb; replace BK287 := bB_ BK287 hb; replace BK299 := bB_ BK299 hb
          replace HK := Aside0.mk (KeepBut.trans (w := w) (row := none) sAKeep_15 (KeepBut.of_below hb g none) (.inl rfl))
          replace HB := Aside0.mk (below_step sABelo_15 hb)
          replace HI0 := Aside0.mk (IsS77.below sAIsS77_15 hb)
          clear hb ho122
          obtain ⟨Ao123, co123, eo123⟩ := Kd.R_slice HO340.out
          subst eo123
          obtain ⟨ado123, fo123, _⟩ := Kd.at_int (Kd.R_reads' HO340.out).2.2 0 (by decide) (by rw [Ny338.out]; simp)
          cases fo123
          refine hK.out _ _ ⟨(blk_cell BK299.out 0).trans rfl, (blk_cell BK299.out 1).trans rfl, (blk_cell BK299.out 2).trans rfl, (blk_cell BK299.out 3).trans rfl, HS4_, HS5_, HS6_⟩ (fun hHeld => ?_)
          clear hK K
          refine nS_ (some 74) ?_
          exact norm_ (by simp only [putAll, Act.put, List.setIfInBounds_toArray, List.set_cons_zero, List.set_cons_succ]) (hCont (.slice (some ado123) y338.length co123, ado123) _ ⟨hHeld, (rM_ HL337_0), (rM_ HO340), (rM_ HO_300001), (rM_ HO_300002), (by (with_reducible repeat (first | apply Kd.S_alloc | apply Kd.S_drewN | apply Kd.S_drew)); exact Kd.S_mono HO_300003.out (fun _ hk => ⟨hk.2, ⟨hk.1.2.1, ⟨hk.1.2.2, hk.1.1⟩⟩⟩)), (rM_ HO_5), ⟨_, rfl⟩, (bT_ BK287), (bT_ BK299), sAIsS77_15, sAKeep_15, sABelo_15⟩)
        rintro ⟨v339, adz_v339⟩ w124 ⟨hS_, h0_, h1_, h2_, h3_, h4_, h5_, h6_, h7_, h8_, h9_, h10_, h11_⟩
        try dsimp only at h0_ h1_ h2_ h3_ h4_ h5_ h6_ h7_ h8_ h9_ h10_ h11_
        have HL337_0 := Aside0.mk h0_; have HO340 := Aside0.mk h1_; replace HO_300001 := Aside0.mk h2_; replace HO_300002 := Aside0.mk h3_; replace HO_300003 := Aside0.mk h4_; replace HO_5 := Aside0.mk h5_; have HA_HO340 := Aside0.mk h6_; replace BK287 := Aside0.mk h7_; replace BK299 := Aside0.mk h8_; replace HI0 := Aside0.mk h9_; replace HK := Aside0.mk h10_; replace HB := Aside0.mk h11_; clear h0_ h1_ h2_ h3_ h4_ h5_ h6_ h7_ h8_ h9_ h10_ h11_
        have hHeld : w124.cell? ⟨gb299, 0, none⟩ = some (.int .i64 t288) ∧ w124.cell? ⟨gb299, 1, none⟩ = some (.slice Ao9 t289.length co9) ∧ w124.cell? ⟨gb299, 2, none⟩ = some (.slice Ao10 t292.length co10) ∧ w124.cell? ⟨gb299, 3, none⟩ = some (.slice (some ad337) t295.length co11) ∧ w124.cell? ad337 = some (.slice A337_0 ((rd_T52 t295 0).f0).length c337_0) ∧ w124.cell? ⟨ad337.block, ad337.off + 1, none⟩ = some (.int .i64 ((rd_T52 t295 0).f1)) ∧ w124.cell? ⟨ad337.block, ad337.off + 2, none⟩ = some (.int .i64 ((rd_T52 t295 0).f2)) := hS_
        obtain ⟨co125, eo125⟩ := HA_HO340.out
        clear HA_HO340
        subst eo125
        have p114 : 0 ≤ (0 : Int) := (by omega)
        have q114 : (0 : Int) < ((((rd_T52 t295 0).f0).length : Int) : Int) := dA_
        have qi114 : (0 < ((rd_T52 t295 0).f0).length) = True := eq_true (by omega)
        obtain ⟨go114, co114, eo114, gb114, gl114, cl114, HG114⟩ := Kd.R_form HL337_0.out (by omega)
        (first | cases eo114 | (injection eo114 with ea_ en_ ec_; (first | subst ea_ | (injection ea_ with ea_; subst ea_)); subst ec_; clear en_))
        have GB114 := Aside0.mk gb114; have GL114 := Aside0.mk (Nat.le_trans HL.out GB114.out); have GG114 := Aside0.mk HG114; clear gb114 gl114 HG114
        obtain ⟨hx114_0, hf114_0⟩ := Kd.R_celln 0 HL337_0.out (0 : Int) p114 q114
        (try rw [show ((0 : Int)).toNat = 0 from rfl] at hx114_0)
        (try simp only [Nat.reduceMul, Nat.zero_mul, Nat.zero_add, Nat.reduceAdd] at hx114_0)
        (try rw [show ((0 : Int)).toNat = 0 from rfl] at hf114_0)
        (try simp only [Nat.reduceMul, Nat.zero_mul, Nat.zero_add, Nat.reduceAdd] at hf114_0)
        replace p114 := eq_true p114; replace q114 := eq_true q114
        have HN0_go114 := Aside0.mk (show g ≠ go114 from by have h_ := IsS77.own_ne HI0.out HL337_0.out (by decide); intro e_; exact h_ (by rw [e_]; rfl))
        have hS_ := S52_put HO_300003.out c109b0 c113b0 hHeld.2.2.2.2.1 (rd y338 t341)
        rw [← Ny344.out] at hS_
        have HS126 := Aside0.mk hS_; clear hS_
        refine norm_ (a' := ?_) ?_ ?_
        rotate_left
        ·simp only [putAll, Act.put, List.setIfInBounds_toArray, List.set_cons_zero, List.set_cons_succ]
         rfl
        refine pT_ 8 (some 77) #[true, true, true, true, true, true, true, true, true, false, false, false] HT_ ?_
        refine one_ (i := 9) (N := some 78) #[true, true, true, true, true, true, true, true, true, true, false, false] rfl rfl (one_of HT_.out (by kernel_rfl)) (by decide) (fun K hK => ?_)
        (have p343 : 0 ≤ (t341 : Int) := dA_; have q343 : t341 < (y338.length : Int) := dA_; obtain ⟨ad343, e343, hx343_0⟩ := Kd.at_int (Kd.R_reads' HO340.out).2.2 t341 p343 q343; obtain rfl : adz_v339 = ad343 := (by injection e343))
        refine value_ (w1 := ?_) (v := ?_) (by rfl) rfl ?_ ?_
        rotate_left 2
        ·go_simp
         constructor
         ·rfl
         ·rfl
        clear hx343_0
        refine hK.out _ _ ⟨(blk_cell BK299.out 0).trans rfl, (blk_cell BK299.out 1).trans rfl, (blk_cell BK299.out 2).trans rfl, (blk_cell BK299.out 3).trans rfl, hHeld.2.2.2.2.1, hHeld.2.2.2.2.2.1, hHeld.2.2.2.2.2.2⟩ (fun hHeld => ?_)
        clear hK K
        refine nS_ (some 78) ?_
        refine pT_ 10 (some 79) #[true, true, true, true, true, true, true, true, true, true, true, false] HT_ ?_
        refine last_ (i := 11) (N := none) #[true, true, true, true, true, true, true, true, true, true, true, true] rfl rfl (one_of HT_.out (by kernel_rfl)) (by decide) (fun K hK => ?_)
        refine skip_ (w1 := ?_) (by rfl) rfl ?_ ?_
        rotate_left
        ·go_simp
         rfl
        refine hK.out _ _ ?_
        clear hK K
        refine done_ (done_of HT_.out (by kernel_rfl)) ?_
        have hgo_ := HL337_0.out.1 go114 rfl
        have n0_ : Aside0 (Kd.R (Kd.int .i64) 2 (w124.setCell ⟨go114, 0, none⟩ (.int .i64 (rd y338 t341))) w.heap.size (fun k_ => some k_ ≠ (.slice Ao9 t289.length co9 : Value).ownBlock ∧ some k_ ≠ (.slice Ao10 t292.length co10 : Value).ownBlock ∧ some k_ ≠ (.slice (some adz_v339) y338.length co125 : Value).ownBlock) u5 x5_1) := ⟨by (with_reducible repeat (first | apply Kd.R_alloc | apply Kd.R_drewN | apply Kd.R_drew)); exact Kd.R_mono (Kd.R_far (p := ⟨go114, 0, none⟩) (R_but HO_5.out hgo_.2.2.2.2) (fun _ hk => hk.2) (.int .i64 (rd y338 t341))) (fun _ hk => ⟨hk.1.2.1, ⟨hk.1.2.2, hk.1.1⟩⟩)⟩
        have n1_ : Aside0 (Kd.R (Kd.int .i64) 2 (w124.setCell ⟨go114, 0, none⟩ (.int .i64 (rd y338 t341))) w.heap.size (fun k_ => some k_ ≠ (u5 : Value).ownBlock ∧ some k_ ≠ (.slice Ao10 t292.length co10 : Value).ownBlock ∧ some k_ ≠ (.slice (some adz_v339) y338.length co125 : Value).ownBlock) (.slice Ao9 t289.length co9) t289) := ⟨by (with_reducible repeat (first | apply Kd.R_alloc | apply Kd.R_drewN | apply Kd.R_drew)); exact Kd.R_mono (Kd.R_far (p := ⟨go114, 0, none⟩) (R_but HO_300001.out hgo_.2.1) (fun _ hk => hk.2) (.int .i64 (rd y338 t341))) (fun _ hk => ⟨hk.1.2.2, ⟨hk.1.2.1, hk.1.1⟩⟩)⟩
        have n2_ : Aside0 (Kd.R (Kd.int .i64) 2 (w124.setCell ⟨go114, 0, none⟩ (.int .i64 (rd y338 t341))) w.heap.size (fun k_ => some k_ ≠ (u5 : Value).ownBlock ∧ some k_ ≠ (.slice Ao9 t289.length co9 : Value).ownBlock ∧ some k_ ≠ (.slice (some adz_v339) y338.length co125 : Value).ownBlock) (.slice Ao10 t292.length co10) t292) := ⟨by (with_reducible repeat (first | apply Kd.R_alloc | apply Kd.R_drewN | apply Kd.R_drew)); exact Kd.R_mono (Kd.R_far (p := ⟨go114, 0, none⟩) (R_but HO_300002.out hgo_.2.2.1) (fun _ hk => hk.2) (.int .i64 (rd y338 t341))) (fun _ hk => ⟨hk.1.2.2, ⟨hk.1.2.1, hk.1.1⟩⟩)⟩
        have n3_ : Aside0 (Kd.S k52 52 (w124.setCell ⟨go114, 0, none⟩ (.int .i64 (rd y338 t341))) w.heap.size (fun k_ => some k_ ≠ (u5 : Value).ownBlock ∧ some k_ ≠ (.slice Ao9 t289.length co9 : Value).ownBlock ∧ some k_ ≠ (.slice Ao10 t292.length co10 : Value).ownBlock ∧ some k_ ≠ (.slice (some adz_v339) y338.length co125 : Value).ownBlock) (.slice (some ad337) t295.length co11) y344) := ⟨Kd.S_mono HS126.out (fun _ hk => ⟨hk.2.2.2, ⟨hk.2.1, ⟨hk.2.2.1, hk.1⟩⟩⟩)⟩
        have n6_ : Aside0 ((w124.setCell ⟨go114, 0, none⟩ (.int .i64 (rd y338 t341))).heap[gb287]? = some (.cells #[.int .i64 0, .slice none 0 0, .slice none 0 0, .slice none 0 0] 30 (0, 0))) := ⟨by (with_reducible repeat (first | refine blk_drewN ?_ _ | refine blk_drew ?_ | refine blk_alloc ?_ _)); refine blk_far ?_ (by have h_ := Kd.R_ne HL337_0.out BK287.out (by decide); intro e_; exact h_ (by rw [e_]; rfl)) _; exact bT_ BK287⟩
        have n7_ : Aside0 ((w124.setCell ⟨go114, 0, none⟩ (.int .i64 (rd y338 t341))).heap[gb299]? = some (.cells #[.int .i64 t288, .slice Ao9 t289.length co9, .slice Ao10 t292.length co10, .slice (some ad337) t295.length co11] 30 (0, 0))) := ⟨by (with_reducible repeat (first | refine blk_drewN ?_ _ | refine blk_drew ?_ | refine blk_alloc ?_ _)); refine blk_far ?_ (by have h_ := Kd.R_ne HL337_0.out BK299.out (by decide); intro e_; exact h_ (by rw [e_]; rfl)) _; exact bT_ BK299⟩
        have n8_ : Aside0 (IsS77 w0 (w124.setCell ⟨go114, 0, none⟩ (.int .i64 (rd y338 t341))) g s0_0 t342) := ⟨sAIsS77_15⟩
        have n9_ : Aside0 (KeepBut w (w124.setCell ⟨go114, 0, none⟩ (.int .i64 (rd y338 t341))) g none) := ⟨sAKeep_15⟩
        have n10_ : Aside0 (Below w0.heap.size w0 (w124.setCell ⟨go114, 0, none⟩ (.int .i64 (rd y338 t341)))) := ⟨sABelo_15⟩
        clear HS126 hgo_; (try clear HO_5); (try clear HO_300001); (try clear HO_300002); (try clear HO_300003); (try clear HL337_0); (try clear HO340); (try clear BK287); (try clear BK299); (try clear HI0); (try clear HK); (try clear HB)
        generalize (w124.setCell ⟨go114, 0, none⟩ (.int .i64 (rd y338 t341))) = w127 at n0_ n1_ n2_ n3_ n6_ n7_ n8_ n9_ n10_ ⊢
        have HO_5 := n0_; have HO_300001 := n1_; have HO_300002 := n2_; have HO_300003 := n3_; have BK287 := n6_; have BK299 := n7_; have HI0 := n8_; have HK := n9_; have HB := n10_; clear n0_ n1_ n2_ n3_ n6_ n7_ n8_ n9_ n10_
        obtain ⟨hcz128_0, hcz128_1, hcz128_2, hcz128_3, hfz128_0, hfz128_1, hfz128_2, hfz128_3⟩ := cf4_ BK299; have hnb129 := NB287_0.out; have hnc129 := NB0_287.out
        obtain ⟨hcz130_0, hcz130_1, hcz130_2, hcz130_3, hfz130_0, hfz130_1, hfz130_2, hfz130_3⟩ := cf4_ BK287
        try go_wp2
        refine bodyPost_ret (results_ct rfl _ _ gb287 30 #[.int .i64 t288, .slice Ao9 t289.length co9, .slice Ao10 t292.length co10, .slice (some ad337) t295.length co11] (0, 0) _ rfl (bP_ BK287) Try.underlying30 rfl (by kernel_rfl)) rfl ?_
        exact ⟨_, _, _, _, by first | rfl | (simp [errW_none, errW_some] <;> rfl) | (simp [*, errW_none, errW_some] <;> rfl), by (with_reducible repeat (first | apply Kd.R_alloc | apply Kd.R_drewN | apply Kd.R_drew)); exact Kd.R_mono (Kd.R_far (p := ⟨gb287, 3, none⟩) (Kd.R_far (p := ⟨gb287, 2, none⟩) (Kd.R_far (p := ⟨gb287, 1, none⟩) (Kd.R_far (p := ⟨gb287, 0, none⟩) (Kd.R_types HO_300001.out BK287.out (by decide)) (fun _ hk => hk.2) (.int .i64 t288)) (fun _ hk => hk.2) (.slice Ao9 t289.length co9)) (fun _ hk => hk.2) (.slice Ao10 t292.length co10)) (fun _ hk => hk.2) (.slice (some ad337) t295.length co11)) (fun _ hk => ⟨hk.1.2.1, hk.1.1⟩), by (with_reducible repeat (first | apply Kd.R_alloc | apply Kd.R_drewN | apply Kd.R_drew)); exact Kd.R_mono (Kd.R_far (p := ⟨gb287, 3, none⟩) (Kd.R_far (p := ⟨gb287, 2, none⟩) (Kd.R_far (p := ⟨gb287, 1, none⟩) (Kd.R_far (p := ⟨gb287, 0, none⟩) (Kd.R_types HO_300002.out BK287.out (by decide)) (fun _ hk => hk.2) (.int .i64 t288)) (fun _ hk => hk.2) (.slice Ao9 t289.length co9)) (fun _ hk => hk.2) (.slice Ao10 t292.length co10)) (fun _ hk => hk.2) (.slice (some ad337) t295.length co11)) (fun _ hk => ⟨hk.1.2.1, hk.1.1⟩), by (with_reducible repeat (first | apply Kd.S_alloc | apply Kd.S_drewN | apply Kd.S_drew)); exact Kd.S_mono (Kd.S_far (p := ⟨gb287, 3, none⟩) (Kd.S_far (p := ⟨gb287, 2, none⟩) (Kd.S_far (p := ⟨gb287, 1, none⟩) (Kd.S_far (p := ⟨gb287, 0, none⟩) (Kd.S_types HO_300003.out BK287.out (by decide)) (fun _ hk => hk.2) (.int .i64 t288)) (fun _ hk => hk.2) (.slice Ao9 t289.length co9)) (fun _ hk => hk.2) (.slice Ao10 t292.length co10)) (fun _ hk => hk.2) (.slice (some ad337) t295.length co11)) (fun _ hk => ⟨hk.1.2.1, ⟨hk.1.2.2.1, hk.1.1⟩⟩), by (with_reducible repeat (first | apply Kd.R_alloc | apply Kd.R_drewN | apply Kd.R_drew)); exact Kd.R_mono (Kd.R_far (p := ⟨gb287, 3, none⟩) (Kd.R_far (p := ⟨gb287, 2, none⟩) (Kd.R_far (p := ⟨gb287, 1, none⟩) (Kd.R_far (p := ⟨gb287, 0, none⟩) (Kd.R_types HO_5.out BK287.out (by decide)) (fun _ hk => hk.2) (.int .i64 t288)) (fun _ hk => hk.2) (.slice Ao9 t289.length co9)) (fun _ hk => hk.2) (.slice Ao10 t292.length co10)) (fun _ hk => hk.2) (.slice (some ad337) t295.length co11)) (fun _ hk => ⟨hk.1.1, hk.1.2.1⟩), sAIsS77_15, sABelo_15, sAKeep_15⟩
theorem spec_l15Draw.calls (k : Nat) (g : Nat) (s0_0 : List Int) (s0_1 : Int) (r1 : Int) (r2 : List Int) (r3 : List Int) (r4 : List (S52)) (r5 : List Int) (r6 : Int) (w0 w : World) (hI : IsS77 w0 w g s0_0 s0_1) (hB : Below w0.heap.size w0 w) (h : spec_l15Draw.f k s0_0 s0_1 = some (r1, r2, r3, r4, r5, r6)) :
  Calls Try.prog 44 #[.pointer (some ⟨g, 0, none⟩)] w fun e w' => ∃ v1_ v2_ v3_ v4_ : Value, e = .returned (.tuple #[.agg #[.int .i64 r1, v1_, v2_, v3_], v4_]) ∧ Kd.R (Kd.int .i64) 2 w' w.heap.size (fun k_ => (w.heap.size ≤ k_) ∧ some k_ ≠ (v2_ : Value).ownBlock ∧ some k_ ≠ (v4_ : Value).ownBlock) v1_ r2 ∧ Kd.R (Kd.int .i64) 2 w' w.heap.size (fun k_ => (w.heap.size ≤ k_) ∧ some k_ ≠ (v1_ : Value).ownBlock ∧ some k_ ≠ (v4_ : Value).ownBlock) v2_ r3 ∧ Kd.N k52 52 w' w.heap.size (fun k_ => (w.heap.size ≤ k_) ∧ some k_ ≠ (v1_ : Value).ownBlock ∧ some k_ ≠ (v2_ : Value).ownBlock ∧ some k_ ≠ (v4_ : Value).ownBlock) v3_ r4 ∧ Kd.R (Kd.int .i64) 2 w' w.heap.size (fun k_ => (w.heap.size ≤ k_) ∧ some k_ ≠ (v1_ : Value).ownBlock ∧ some k_ ≠ (v2_ : Value).ownBlock) v4_ r5 ∧ IsS77 w0 w' g s0_0 r6 ∧ Below w0.heap.size w0 w' ∧ KeepBut w w' g none := by
 rcases spec_l15Draw.parts k s0_0 s0_1 _ h with hA | h4
 ·exact spec_l15DrawA.calls k g s0_0 s0_1 r1 r2 r3 r4 r5 r6 w0 w hI hB hA
 ·refine (spec_l15Draw4.calls k g s0_0 s0_1 r1 r2 r3 r4 r5 r6 w0 w hI hB h4).mono ?_
  rintro e w' ⟨v1, v2, v3, v4, he, q1, q2, q3, q4, hi, hb, hk⟩
  exact ⟨v1, v2, v3, v4, he, R_ge q1, R_ge q2, Kd.N_mono (Kd.S_N (Kd.S_bound q3)) (fun _ hk_ => ⟨hk_.2.1, hk_.1⟩), R_ge q4, hi, hb, hk⟩
end Go.Proofs.Ytcjhbmjimjbphaa.QFnDescends
