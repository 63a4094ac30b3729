-- Written by a program of this session out of the printer's texts and contracts of its own.
import Derived.Test.YtmjfmhbklifafaaQFnSharesx0
import Derived.Test.YtmjfmhbklifafaaQFnSharesx1
import Derived.Test.YtmjfmhbklifafaaQFnSharesx2
namespace Go.Proofs.Ytmjfmhbklifafaa.QFnShares
open Go.RowKit Go.Proofs.YtmjfmhbklifafaaW.PrintWords Go.Proofs.YtmjfmhbklifafaaW.PrintLast Go.Proofs.YtmjfmhbklifafaaW.PrintMore
attribute [local go_sem] max2_int min2_int max_two min_two max_three min_three max_four min_four   -- for this text's walks alone
set_option linter.unusedVariables false
set_option linter.unusedSimpArgs false

/-! ### spec_l19Draw: function 27 -/
def spec_l19Draw.f (k : Nat) (s0_0 : List Int) (s0_1 : Int) : Option (List Int × Int) := (spec_l1Rd_series.f k s0_0 s0_1 50).bind fun bt164 => ((spec_l1Rd_below.f s0_0 bt164.2 20).bind fun bt168 => (if bt168.1 = 0 then ((some (([100000, 100001, (-100000), (-100001)] : List Int) : List Int)).bind fun y170 => ((spec_l1Rd_below.f s0_0 bt168.2 4).bind fun bt173 => (if 0 ≤ bt173.1 then (if bt173.1 < (y170.length : Int) then (if 0 < (bt164.1.length : Int) then (some ((bt164.1.set (0 : Int).toNat (rd y170 bt173.1)), bt173.2)) else (none)) else (none)) else (none)))) else (if bt168.1 = 1 then (if 0 ≤ (bt164.1.length : Int) then (some ((bt164.1.take (0 : Int).toNat), bt168.2)) else (none)) else (if bt168.1 = 2 then ((spec_l1Rd_below.f s0_0 bt168.2 2).bind fun bt180 => (if 0 ≤ (wrap64 (500 + bt180.1)) then (if (wrap64 (500 + bt180.1) : Int).toNat ≤ 35184372088832 then (some ((List.replicate (wrap64 (500 + bt180.1) : Int).toNat 0), bt180.2)) else (none)) else (none))) else (if bt168.1 = 3 then (if 1 ≤ (bt164.1.length : Int) then (some ((bt164.1.take (1 : Int).toNat), bt168.2)) else (none)) else (some (bt164.1, bt168.2)))))))
theorem spec_l19Draw.mono : ∀ a0 a1 k, LeO (spec_l19Draw.f k a0 a1) (spec_l19Draw.f (k + 1) a0 a1) := by
  intro a0 a1 k
  unfold spec_l19Draw.f
  repeat' first
      | (with_reducible exact spec_l1Rd_series.mono _ _ _ _)
      | (with_reducible exact LeO.refl _)
      | (with_reducible exact LeO.none _)
      | (with_reducible refine LeO.ite ?_ ?_)
      | (with_reducible refine LeO.bind ?_ (fun _ => ?_))
      | exact spec_l1Rd_series.mono _ _ _ _
      | exact LeO.none _
      | refine LeO.ite ?_ ?_
      | refine LeO.bind ?_ (fun _ => ?_)
set_option maxHeartbeats 8000000 in
set_option maxRecDepth 100000 in
theorem spec_l19Draw.calls (k : Nat) (g : Nat) (s0_0 : List Int) (s0_1 : Int) (r1 : List Int) (r2 : Int) (w0 w : World) (hI : IsS59 w0 w g s0_0 s0_1) (hB : Below w0.heap.size w0 w) (h : spec_l19Draw.f k s0_0 s0_1 = some (r1, r2)) :
    Calls Try.prog 27 #[.pointer (some ⟨g, 0, none⟩)] w fun e w' => ∃ v0_ : Value, e = .returned (v0_) ∧ Kd.R (Kd.int .i64) 2 w' w.heap.size (fun _ => True) v0_ r1 ∧ IsS59 w0 w' g s0_0 r2 ∧ Below w0.heap.size w0 w' ∧ KeepBut w w' g none := by
  have HI0 := Aside0.mk hI
  have HK := Aside0.mk (KeepBut.refl w g none)
  have HL := Aside0.mk hB.size
  clear hI
  have HW0 := Aside0.mk hB.size
  have HB := Aside0.mk hB
  clear hB
  have H : ((spec_l1Rd_series.f k s0_0 s0_1 50).bind fun bt164 => ((spec_l1Rd_below.f s0_0 bt164.2 20).bind fun bt168 => (if bt168.1 = 0 then ((some (([100000, 100001, (-100000), (-100001)] : List Int) : List Int)).bind fun y170 => ((spec_l1Rd_below.f s0_0 bt168.2 4).bind fun bt173 => (if 0 ≤ bt173.1 then (if bt173.1 < (y170.length : Int) then (if 0 < (bt164.1.length : Int) then (some ((bt164.1.set (0 : Int).toNat (rd y170 bt173.1)), bt173.2)) else (none)) else (none)) else (none)))) else (if bt168.1 = 1 then (if 0 ≤ (bt164.1.length : Int) then (some ((bt164.1.take (0 : Int).toNat), bt168.2)) else (none)) else (if bt168.1 = 2 then ((spec_l1Rd_below.f s0_0 bt168.2 2).bind fun bt180 => (if 0 ≤ (wrap64 (500 + bt180.1)) then (if (wrap64 (500 + bt180.1) : Int).toNat ≤ 35184372088832 then (some ((List.replicate (wrap64 (500 + bt180.1) : Int).toNat 0), bt180.2)) else (none)) else (none))) else (if bt168.1 = 3 then (if 1 ≤ (bt164.1.length : Int) then (some ((bt164.1.take (1 : Int).toNat), bt168.2)) else (none)) else (some (bt164.1, bt168.2)))))))) = some (r1, r2) := h
  clear h
  replace H := Option.bind_eq_some_iff.mp H
  obtain ⟨⟨t164, t167⟩, A20, H⟩ := H
  replace H : ((spec_l1Rd_below.f s0_0 t167 20).bind fun bt168 => (if bt168.1 = 0 then ((some (([100000, 100001, (-100000), (-100001)] : List Int) : List Int)).bind fun y170 => ((spec_l1Rd_below.f s0_0 bt168.2 4).bind fun bt173 => (if 0 ≤ bt173.1 then (if bt173.1 < (y170.length : Int) then (if 0 < (t164.length : Int) then (some ((t164.set (0 : Int).toNat (rd y170 bt173.1)), bt173.2)) else (none)) else (none)) else (none)))) else (if bt168.1 = 1 then (if 0 ≤ (t164.length : Int) then (some ((t164.take (0 : Int).toNat), bt168.2)) else (none)) else (if bt168.1 = 2 then ((spec_l1Rd_below.f s0_0 bt168.2 2).bind fun bt180 => (if 0 ≤ (wrap64 (500 + bt180.1)) then (if (wrap64 (500 + bt180.1) : Int).toNat ≤ 35184372088832 then (some ((List.replicate (wrap64 (500 + bt180.1) : Int).toNat 0), bt180.2)) else (none)) else (none))) else (if bt168.1 = 3 then (if 1 ≤ (t164.length : Int) then (some ((t164.take (1 : Int).toNat), bt168.2)) else (none)) else (some (t164, bt168.2))))))) = some (r1, r2) := H
  have A2 := Aside0.mk A20
  clear A20
  replace H := Option.bind_eq_some_iff.mp H
  obtain ⟨⟨t168, t169⟩, A30, H⟩ := H
  replace H : (if t168 = 0 then ((some (([100000, 100001, (-100000), (-100001)] : List Int) : List Int)).bind fun y170 => ((spec_l1Rd_below.f s0_0 t169 4).bind fun bt173 => (if 0 ≤ bt173.1 then (if bt173.1 < (y170.length : Int) then (if 0 < (t164.length : Int) then (some ((t164.set (0 : Int).toNat (rd y170 bt173.1)), bt173.2)) else (none)) else (none)) else (none)))) else (if t168 = 1 then (if 0 ≤ (t164.length : Int) then (some ((t164.take (0 : Int).toNat), t169)) else (none)) else (if t168 = 2 then ((spec_l1Rd_below.f s0_0 t169 2).bind fun bt180 => (if 0 ≤ (wrap64 (500 + bt180.1)) then (if (wrap64 (500 + bt180.1) : Int).toNat ≤ 35184372088832 then (some ((List.replicate (wrap64 (500 + bt180.1) : Int).toNat 0), bt180.2)) else (none)) else (none))) else (if t168 = 3 then (if 1 ≤ (t164.length : Int) then (some ((t164.take (1 : Int).toNat), t169)) else (none)) else (some (t164, t169)))))) = some (r1, r2) := H
  have A3 := Aside0.mk A30
  clear A30
  by_cases c4 : t168 = 0
  · rw [if_pos c4] at H
    have c4b0 : (t168 == 0) = true := beq_iff_eq.mpr c4
    have c4b1 : (t168 != 0) = false := bne_eq_false_iff_eq.mpr c4
    clear c4
    obtain ⟨y170, hy170⟩ : ∃ y_ : List Int, y_ = (([100000, 100001, (-100000), (-100001)] : List Int)) := ⟨_, rfl⟩
    replace H : ((spec_l1Rd_below.f s0_0 t169 4).bind fun bt173 => (if 0 ≤ bt173.1 then (if bt173.1 < (y170.length : Int) then (if 0 < (t164.length : Int) then (some ((t164.set (0 : Int).toNat (rd y170 bt173.1)), bt173.2)) else (none)) else (none)) else (none))) = some (r1, r2) := by first | (rw [hy170]; with_reducible exact H) | (have H2_ := (Option.bind_some _ _).symm.trans H; rw [hy170]; with_reducible exact H2_) | (have H2_ := (Option.bind_some _ _).symm.trans H; with_reducible exact H2_) | with_reducible exact H | (rw [hy170]; exact H) | exact H
    have Ny170 := Aside0.mk hy170
    clear hy170
    replace H := Option.bind_eq_some_iff.mp H
    obtain ⟨⟨t173, t174⟩, A50, H⟩ := H
    replace H : (if 0 ≤ t173 then (if t173 < (y170.length : Int) then (if 0 < (t164.length : Int) then (some ((t164.set (0 : Int).toNat (rd y170 t173)), t174)) else (none)) else (none)) else (none)) = some (r1, r2) := H
    have A5 := Aside0.mk A50
    clear A50
    by_cases c6 : 0 ≤ t173
    · rw [if_pos c6] at H
      have c6b0 : decide (0 ≤ t173) = true := decide_eq_true c6
      clear c6
      by_cases c7 : t173 < (y170.length : Int)
      · rw [if_pos c7] at H
        have c7b0 : decide (t173 < (y170.length : Int)) = true := decide_eq_true c7
        clear c7
        by_cases c8 : 0 < (t164.length : Int)
        · rw [if_pos c8] at H
          have c8b0 : decide (0 < (t164.length : Int)) = true := decide_eq_true c8
          have c8b1 : decide (0 < t164.length) = true := decide_eq_true (by omega)
          clear c8
          obtain ⟨y176, hy176⟩ : ∃ y_ : List Int, y_ = (t164.set (0 : Int).toNat (rd y170 t173)) := ⟨_, rfl⟩
          replace H : (some (y176, t174)) = some (r1, r2) := by first | (rw [hy176]; with_reducible exact H) | (have H2_ := (Option.bind_some _ _).symm.trans H; rw [hy176]; with_reducible exact H2_) | (have H2_ := (Option.bind_some _ _).symm.trans H; with_reducible exact H2_) | with_reducible exact H | (rw [hy176]; exact H) | exact H
          have Ny176 := Aside0.mk hy176
          clear hy176
          simp only [Option.some.injEq, Prod.mk.injEq] at H
          obtain ⟨rfl, rfl⟩ := H
          go_enter Try.func27, Try.ntmps27
          go_wp2_with (first | ((with_reducible refine gate_callee (f := 45) rfl ?_); refine goesL_ (some 5) rfl rfl Try.func45 (by kernel_rfl) rfl #[.pointer (some ⟨g, 0, none⟩), .int .i64 50] rfl (by (try simp only [List.map_toArray, List.map_cons, List.map_nil]); first | done | rfl | (simp only [List.length_drop, List.length_take]; rfl)) ?_; (with_reducible refine (spec_l1Rd_series.calls k g s0_0 s0_1 50 t164 t167 w0 _ ?side1 ?side2 A2.out).mono ?_); (case side1 => repeat (first | (with_reducible first | exact HI0.out | apply IsS59.alloc | apply IsS59.drewN | apply IsS59.drew | apply IsS59.set_1) | exact HI0.out)); (case side2 => repeat (first | (with_reducible first | exact HB.out | apply below_alloc | apply pw_below_drewN | apply below_drew1 | refine below_set ?_ (IsS59.ge HI0.out)) | exact HB.out)); rintro e w10 ⟨v165, rfl, ho0, hi, hb, hk⟩; refine ⟨_, rfl, ?_⟩; have n0_ := Aside0.mk (Kd.R_lower ho0 (keep_size (w := w) (g := g) (row := none) (by repeat (first | (with_reducible first | exact HK.out | apply KeepBut.set_ | apply keep_drewN | apply keep_drew | apply keep_alloc) | exact HK.out)))); have n1_ := Aside0.mk (KeepBut.trans (by repeat (first | (with_reducible first | exact HK.out | apply KeepBut.set_ | apply keep_drewN | apply keep_drew | apply keep_alloc) | exact HK.out)) hk (.inl rfl)); have n2_ := Aside0.mk (hb); have n3_ := Aside0.mk (hi); clear HK; clear HB; clear HI0; have HO166 := n0_; have HK := n1_; have HB := n2_; have HI0 := n3_; clear n0_ n1_ n2_ n3_; (try clear hb); (try clear hb2); (try clear hk); (try clear hi); (try clear ho0)) | ((with_reducible refine gate_callee (f := 37) rfl ?_); refine goesL_ (some 7) rfl rfl Try.func37 (by kernel_rfl) rfl #[.pointer (some ⟨g, 0, none⟩), .int .i64 20] rfl (by (try simp only [List.map_toArray, List.map_cons, List.map_nil]); first | done | rfl | (simp only [List.length_drop, List.length_take]; rfl)) ?_; (with_reducible refine (spec_l1Rd_below.calls g s0_0 t167 20 t168 t169 w0 _ ?side1 ?side2 A3.out).mono ?_); (case side1 => repeat (first | (with_reducible first | exact HI0.out | apply IsS59.alloc | apply IsS59.drewN | apply IsS59.drew | apply IsS59.set_1) | exact HI0.out)); (case side2 => repeat (first | (with_reducible first | exact HB.out | apply below_alloc | apply pw_below_drewN | apply below_drew1 | refine below_set ?_ (IsS59.ge HI0.out)) | exact HB.out)); rintro e w11 ⟨rfl, hi, hb, hk⟩; refine ⟨_, rfl, ?_⟩; have n0_ := Aside0.mk (Kd.R_mono (Kd.R_keep (IsS59.apart (show IsS59 w0 _ g s0_0 t167 from by repeat (first | (with_reducible first | exact HI0.out | apply IsS59.alloc | apply IsS59.drewN | apply IsS59.drew | apply IsS59.set_1) | exact HI0.out)) (by (with_reducible repeat (first | apply Kd.R_alloc | apply Kd.R_drewN | apply Kd.R_drew)); exact HO166.out) (by decide)) hk (fun _ h => h.2)) (fun _ h => h.1)); have n1_ := Aside0.mk (KeepBut.trans (by repeat (first | (with_reducible first | exact HK.out | apply KeepBut.set_ | apply keep_drewN | apply keep_drew | apply keep_alloc) | exact HK.out)) hk (.inl rfl)); have n2_ := Aside0.mk (hb); have n3_ := Aside0.mk (hi); clear HO166; clear HK; clear HB; clear HI0; have HO166 := n0_; have HK := n1_; have HB := n2_; have HI0 := n3_; clear n0_ n1_ n2_ n3_; (try clear hb); (try clear hb2); (try clear hk); (try clear hi)) | ((with_reducible refine gate_dst (N := 11) rfl ?_); refine Kd.R_lit (Kd.int .i64) _ 2 ?hg (N := 11) ?hd (xs := ([100000, 100001, (-100000), (-100001)] : List Int)) (inner := [.int .i64 100000, .int .i64 100001, .int .i64 (-100000), .int .i64 (-100001)]) (ok := fun _ => True) (okp := fun _ => True) ?hr ?hp (fun _ hk => hk) trivial (Below.refl _ _) (Nat.le_refl _) (by simp) ?_; (case hd => rfl); (case hg => rfl); (case hr => first | (go_simp; done) | (go_simp; rfl)); (case hp => exact (Reps.one (show Kd.M (Kd.int .i64) _ _ _ 100000 [.int .i64 100000] from rfl) (Reps.one (show Kd.M (Kd.int .i64) _ _ _ 100001 [.int .i64 100001] from rfl) (Reps.one (show Kd.M (Kd.int .i64) _ _ _ (-100000) [.int .i64 (-100000)] from rfl) (Reps.one (show Kd.M (Kd.int .i64) _ _ _ (-100001) [.int .i64 (-100001)] from rfl) (Reps.none _ _)))))); intro v171 w12 ho13 hb hg_ hnew_; clear hg_ hnew_; (first | rw [← Ny170.out] at ho13 | (simp only [Int.reduceToNat] at ho13; rw [← Ny170.out] at ho13)); have n0_ := Aside0.mk (Kd.R_elder' (by (with_reducible repeat (first | apply Kd.R_alloc | apply Kd.R_drewN | apply Kd.R_drew)); exact HO166.out) (Kd.R_base ho13) hb); have n1_ := Aside0.mk (Kd.R_lower (Kd.R_new' ho13 (Kd.R_lt (by (with_reducible repeat (first | apply Kd.R_alloc | apply Kd.R_drewN | apply Kd.R_drew)); exact HO166.out))) (keep_size (w := w) (g := g) (row := none) (by repeat (first | (with_reducible first | exact HK.out | apply KeepBut.set_ | apply keep_drewN | apply keep_drew | apply keep_alloc) | exact HK.out)))); have n2_ := Aside0.mk (IsS59.below (by repeat (first | (with_reducible first | exact HI0.out | apply IsS59.alloc | apply IsS59.drewN | apply IsS59.drew | apply IsS59.set_1) | exact HI0.out)) hb); have n3_ := Aside0.mk (KeepBut.trans (by repeat (first | (with_reducible first | exact HK.out | apply KeepBut.set_ | apply keep_drewN | apply keep_drew | apply keep_alloc) | exact HK.out)) (KeepBut.of_below hb g none) (.inl rfl)); have n4_ := Aside0.mk (below_step (by repeat (first | (with_reducible first | exact HB.out | apply below_alloc | apply pw_below_drewN | apply below_drew1 | refine below_set ?_ (IsS59.ge HI0.out)) | exact HB.out)) hb); clear HO166; clear HI0; clear HK; clear HB; have HO166 := n0_; have HO172 := n1_; have HI0 := n2_; have HK := n3_; have HB := n4_; clear n0_ n1_ n2_ n3_ n4_; clear hb ho13) | ((with_reducible refine gate_callee (f := 37) rfl ?_); refine goesL_ (some 13) rfl rfl Try.func37 (by kernel_rfl) rfl #[.pointer (some ⟨g, 0, none⟩), .int .i64 4] rfl (by (try simp only [List.map_toArray, List.map_cons, List.map_nil]); first | done | rfl | (simp only [List.length_drop, List.length_take]; rfl)) ?_; (with_reducible refine (spec_l1Rd_below.calls g s0_0 t169 4 t173 t174 w0 _ ?side1 ?side2 A5.out).mono ?_); (case side1 => repeat (first | (with_reducible first | exact HI0.out | apply IsS59.alloc | apply IsS59.drewN | apply IsS59.drew | apply IsS59.set_1) | exact HI0.out)); (case side2 => repeat (first | (with_reducible first | exact HB.out | apply below_alloc | apply pw_below_drewN | apply below_drew1 | refine below_set ?_ (IsS59.ge HI0.out)) | exact HB.out)); rintro e w14 ⟨rfl, hi, hb, hk⟩; refine ⟨_, rfl, ?_⟩; have n0_ := Aside0.mk (Kd.R_mono (Kd.R_keep (IsS59.apart (show IsS59 w0 _ g s0_0 t169 from by repeat (first | (with_reducible first | exact HI0.out | apply IsS59.alloc | apply IsS59.drewN | apply IsS59.drew | apply IsS59.set_1) | exact HI0.out)) (by (with_reducible repeat (first | apply Kd.R_alloc | apply Kd.R_drewN | apply Kd.R_drew)); exact HO166.out) (by decide)) hk (fun _ h => h.2)) (fun _ h => h.1)); have n1_ := Aside0.mk (Kd.R_mono (Kd.R_keep (IsS59.apart (show IsS59 w0 _ g s0_0 t169 from by repeat (first | (with_reducible first | exact HI0.out | apply IsS59.alloc | apply IsS59.drewN | apply IsS59.drew | apply IsS59.set_1) | exact HI0.out)) (by (with_reducible repeat (first | apply Kd.R_alloc | apply Kd.R_drewN | apply Kd.R_drew)); exact HO172.out) (by decide)) hk (fun _ h => h.2)) (fun _ h => h.1)); have n2_ := Aside0.mk (KeepBut.trans (by repeat (first | (with_reducible first | exact HK.out | apply KeepBut.set_ | apply keep_drewN | apply keep_drew | apply keep_alloc) | exact HK.out)) hk (.inl rfl)); have n3_ := Aside0.mk (hb); have n4_ := Aside0.mk (hi); clear HO166; clear HO172; clear HK; clear HB; clear HI0; have HO166 := n0_; have HO172 := n1_; have HK := n2_; have HB := n3_; have HI0 := n4_; clear n0_ n1_ n2_ n3_ n4_; (try clear hb); (try clear hb2); (try clear hk); (try clear hi); obtain ⟨Ao15, co15, eo15⟩ := Kd.R_slice HO172.out; subst eo15; have p175 : 0 ≤ (t173 : Int) := of_decide_eq_true (by first | (with_reducible assumption) | assumption); have q175 : t173 < (y170.length : Int) := of_decide_eq_true (by first | (with_reducible assumption) | assumption); obtain ⟨ad175, e175, hx175_0⟩ := Kd.at_int (Kd.R_reads' HO172.out).2.2 t173 p175 q175; cases e175; replace p175 := eq_true p175; replace q175 := eq_true q175; have p9 : 0 ≤ (0 : Int) := (by omega); have q9 : (0 : Int) < ((t164.length : Int) : Int) := of_decide_eq_true (by first | (with_reducible assumption) | assumption); have qi9 : (0 < t164.length) = True := eq_true (by omega); obtain ⟨go9, co9, eo9, gb9, gl9, cl9, HG9⟩ := Kd.R_form HO166.out (by omega); (first | cases eo9 | (injection eo9 with ea_ en_ ec_; (first | subst ea_ | (injection ea_ with ea_; subst ea_)); subst ec_; clear en_)); have GB9 := Aside0.mk gb9; have GG9 := Aside0.mk HG9; clear gb9 gl9 HG9; obtain ⟨hx9_0, hf9_0⟩ := Kd.R_celln 0 HO166.out (0 : Int) p9 q9; (try rw [show ((0 : Int)).toNat = 0 from rfl] at hx9_0); (try simp only [Nat.reduceMul, Nat.zero_mul, Nat.zero_add, Nat.reduceAdd] at hx9_0); (try rw [show ((0 : Int)).toNat = 0 from rfl] at hf9_0); (try simp only [Nat.reduceMul, Nat.zero_mul, Nat.zero_add, Nat.reduceAdd] at hf9_0); replace p9 := eq_true p9; replace q9 := eq_true q9; have n_ := Aside0.mk (Kd.R_mono (ok' := (fun k_ => some k_ ≠ (.slice (some ad175) y170.length co15 : Value).ownBlock)) HO166.out (fun k_ hk => hk.2)); clear HO166; have HO166 := n_; clear n_; obtain ⟨hy16_, hz16_⟩ := Kd.R_celln 0 HO166.out (0 : Int) (by omega) (of_decide_eq_true (by first | (with_reducible assumption) | assumption)); (try simp only [Int.reduceToNat, Int.toNat_zero, Int.toNat_ofNat, Nat.reduceMul, Nat.zero_mul, Nat.zero_add] at hy16_ hz16_); (try rw [show ((0 : Int)).toNat = 0 from rfl] at hy16_); (try rw [show ((0 : Int)).toNat = 0 from rfl] at hz16_); have HP16 := Kd.R_putg HO166.out (0 : Int) (rd y170 t173)) | ((with_reducible refine gate_store (t := 2) (p := 16) rfl ?_); refine store_event (t := 2) (p := 16) (v := ?vo_w17) (w1 := (w14.setCell ⟨go9, (0 : Int).toNat, none⟩ (.int .i64 (rd y170 t173)))) ?hg ?ho ?hn ?hr ?_; (case ho => rfl); (case hg => rfl); (case hn => rfl); (case hr => first | (go_simp; done) | (go_simp; rfl)); intro w17 hw; have hg : w14.grownBy w17 (some go9) := (by rw [hw]; exact HP16.2); have hp_ : Kd.R (Kd.int .i64) 2 w17 w.heap.size (fun k_ => some k_ ≠ (.slice (some ad175) y170.length co15 : Value).ownBlock) (.slice (some ⟨go9, 0, none⟩) t164.length co9) y176 := (by rw [hw, Ny176.out]; exact HP16.1); clear HP16; have n0_ := Aside0.mk (IsS59.grown (by repeat (first | (with_reducible first | exact HI0.out | apply IsS59.alloc | apply IsS59.drewN | apply IsS59.drew | apply IsS59.set_1) | exact HI0.out)) hg (IsS59.own_ne HI0.out HO166.out (by decide))); have n1_ := Aside0.mk (hp_); have n2_ := Aside0.mk (Kd.R_after (v := (.slice (some ⟨go9, 0, none⟩) t164.length co9)) (v1 := (.slice (some ⟨go9, 0, none⟩) t164.length co9)) (ok := (fun _ => True)) (by (with_reducible repeat (first | apply Kd.R_alloc | apply Kd.R_drewN | apply Kd.R_drew)); exact HO172.out) hg (.inl rfl)); have n3_ := Aside0.mk ((by rw [hw]; exact below_set (HB.out) (Nat.le_trans HL.out GB9.out) : Below w0.heap.size w0 w17)); have n4_ := Aside0.mk (KeepBut.trans (by repeat (first | (with_reducible first | exact HK.out | apply KeepBut.set_ | apply keep_drewN | apply keep_drew | apply keep_alloc) | exact HK.out)) (KeepBut.of_grown hg g) (Kd.R_base2 HO166.out)); clear HI0; clear HO166; clear HO172; clear HB; clear HK; have HI0 := n0_; have HO166 := n1_; have HO172 := n2_; have HB := n3_; have HK := n4_; clear n0_ n1_ n2_ n3_ n4_; clear hg hw hp_))
          go_ret
          exact ⟨_, by first | rfl | (simp [errW_none, errW_some] <;> rfl) | (simp [*, errW_none, errW_some] <;> rfl), by (with_reducible repeat (first | apply Kd.R_alloc | apply Kd.R_drewN | apply Kd.R_drew)); exact Kd.R_mono HO166.out (fun _ hk => trivial), by repeat (first | (with_reducible first | exact HI0.out | apply IsS59.alloc | apply IsS59.drewN | apply IsS59.drew | apply IsS59.set_1) | exact HI0.out), by repeat (first | (with_reducible first | exact HB.out | apply below_alloc | apply pw_below_drewN | apply below_drew1 | refine below_set ?_ (IsS59.ge HI0.out)) | exact HB.out), by repeat (first | (with_reducible first | exact HK.out | apply KeepBut.set_ | apply keep_drewN | apply keep_drew | apply keep_alloc) | exact HK.out)⟩
        · rw [if_neg c8] at H
          exact absurd H (by simp)
      · rw [if_neg c7] at H
        exact absurd H (by simp)
    · rw [if_neg c6] at H
      exact absurd H (by simp)
  · rw [if_neg c4] at H
    have c4b0 : (t168 == 0) = false := beq_eq_false_iff_ne.mpr c4
    have c4b1 : (t168 != 0) = true := bne_iff_ne.mpr c4
    by_cases c18 : t168 = 1
    · rw [if_pos c18] at H
      have c18b0 : (t168 == 1) = true := beq_iff_eq.mpr c18
      have c18b1 : (t168 != 1) = false := bne_eq_false_iff_eq.mpr c18
      clear c18
      by_cases c19 : 0 ≤ (t164.length : Int)
      · rw [if_pos c19] at H
        have c19b0 := eq_true c19
        have c19b1 : decide (0 ≤ (t164.length : Int)) = true := decide_eq_true c19
        clear c19
        obtain ⟨y177, hy177⟩ : ∃ y_ : List Int, y_ = (t164.take (0 : Int).toNat) := ⟨_, rfl⟩
        replace H : (some (y177, t169)) = some (r1, r2) := by first | (rw [hy177]; with_reducible exact H) | (have H2_ := (Option.bind_some _ _).symm.trans H; rw [hy177]; with_reducible exact H2_) | (have H2_ := (Option.bind_some _ _).symm.trans H; with_reducible exact H2_) | with_reducible exact H | (rw [hy177]; exact H) | exact H
        have Ny177 := Aside0.mk hy177
        clear hy177
        simp only [Option.some.injEq, Prod.mk.injEq] at H
        obtain ⟨rfl, rfl⟩ := H
        go_enter Try.func27, Try.ntmps27
        go_wp2_with (first | ((with_reducible refine gate_callee (f := 45) rfl ?_); refine goesL_ (some 5) rfl rfl Try.func45 (by kernel_rfl) rfl #[.pointer (some ⟨g, 0, none⟩), .int .i64 50] rfl (by (try simp only [List.map_toArray, List.map_cons, List.map_nil]); first | done | rfl | (simp only [List.length_drop, List.length_take]; rfl)) ?_; (with_reducible refine (spec_l1Rd_series.calls k g s0_0 s0_1 50 t164 t167 w0 _ ?side1 ?side2 A2.out).mono ?_); (case side1 => repeat (first | (with_reducible first | exact HI0.out | apply IsS59.alloc | apply IsS59.drewN | apply IsS59.drew | apply IsS59.set_1) | exact HI0.out)); (case side2 => repeat (first | (with_reducible first | exact HB.out | apply below_alloc | apply pw_below_drewN | apply below_drew1 | refine below_set ?_ (IsS59.ge HI0.out)) | exact HB.out)); rintro e w20 ⟨v165, rfl, ho0, hi, hb, hk⟩; refine ⟨_, rfl, ?_⟩; have n0_ := Aside0.mk (Kd.R_lower ho0 (keep_size (w := w) (g := g) (row := none) (by repeat (first | (with_reducible first | exact HK.out | apply KeepBut.set_ | apply keep_drewN | apply keep_drew | apply keep_alloc) | exact HK.out)))); have n1_ := Aside0.mk (KeepBut.trans (by repeat (first | (with_reducible first | exact HK.out | apply KeepBut.set_ | apply keep_drewN | apply keep_drew | apply keep_alloc) | exact HK.out)) hk (.inl rfl)); have n2_ := Aside0.mk (hb); have n3_ := Aside0.mk (hi); clear HK; clear HB; clear HI0; have HO166 := n0_; have HK := n1_; have HB := n2_; have HI0 := n3_; clear n0_ n1_ n2_ n3_; (try clear hb); (try clear hb2); (try clear hk); (try clear hi); (try clear ho0)) | ((with_reducible refine gate_callee (f := 37) rfl ?_); refine goesL_ (some 7) rfl rfl Try.func37 (by kernel_rfl) rfl #[.pointer (some ⟨g, 0, none⟩), .int .i64 20] rfl (by (try simp only [List.map_toArray, List.map_cons, List.map_nil]); first | done | rfl | (simp only [List.length_drop, List.length_take]; rfl)) ?_; (with_reducible refine (spec_l1Rd_below.calls g s0_0 t167 20 t168 t169 w0 _ ?side1 ?side2 A3.out).mono ?_); (case side1 => repeat (first | (with_reducible first | exact HI0.out | apply IsS59.alloc | apply IsS59.drewN | apply IsS59.drew | apply IsS59.set_1) | exact HI0.out)); (case side2 => repeat (first | (with_reducible first | exact HB.out | apply below_alloc | apply pw_below_drewN | apply below_drew1 | refine below_set ?_ (IsS59.ge HI0.out)) | exact HB.out)); rintro e w21 ⟨rfl, hi, hb, hk⟩; refine ⟨_, rfl, ?_⟩; have n0_ := Aside0.mk (Kd.R_mono (Kd.R_keep (IsS59.apart (show IsS59 w0 _ g s0_0 t167 from by repeat (first | (with_reducible first | exact HI0.out | apply IsS59.alloc | apply IsS59.drewN | apply IsS59.drew | apply IsS59.set_1) | exact HI0.out)) (by (with_reducible repeat (first | apply Kd.R_alloc | apply Kd.R_drewN | apply Kd.R_drew)); exact HO166.out) (by decide)) hk (fun _ h => h.2)) (fun _ h => h.1)); have n1_ := Aside0.mk (KeepBut.trans (by repeat (first | (with_reducible first | exact HK.out | apply KeepBut.set_ | apply keep_drewN | apply keep_drew | apply keep_alloc) | exact HK.out)) hk (.inl rfl)); have n2_ := Aside0.mk (hb); have n3_ := Aside0.mk (hi); clear HO166; clear HK; clear HB; clear HI0; have HO166 := n0_; have HK := n1_; have HB := n2_; have HI0 := n3_; clear n0_ n1_ n2_ n3_; (try clear hb); (try clear hb2); (try clear hk); (try clear hi); obtain ⟨Ao22, co22, eo22⟩ := Kd.R_slice HO166.out; subst eo22; have q23 : (0 : Int) ≤ ((t164.length : Int) : Int) := of_decide_eq_true (by first | (with_reducible assumption) | assumption); obtain ⟨i023, hi023, _, hsz23, _⟩ := info_parts info2; have hcut23 := cut_to (P := Try.prog) 24 2 .i64 Try.underlying24 hi023 Ao22 t164.length co22 0 (by omega) q23 (Kd.R_reads' HO166.out).2.1; have hr23 := Kd.R_take (m := (0 : Int).toNat) HO166.out (by omega); have hy23 : y177.length = (0 : Int).toNat := (by rw [Ny177.out, List.length_take]; omega); rw [← Ny177.out] at hr23; rw [← hy23] at hr23 hcut23; clear hy23 hi023 hsz23 HO166; have HO179 := Aside0.mk hr23; clear hr23; replace q23 := eq_true q23))
        go_ret
        exact ⟨_, by first | rfl | (simp [errW_none, errW_some] <;> rfl) | (simp [*, errW_none, errW_some] <;> rfl), by (with_reducible repeat (first | apply Kd.R_alloc | apply Kd.R_drewN | apply Kd.R_drew)); exact HO179.out, by repeat (first | (with_reducible first | exact HI0.out | apply IsS59.alloc | apply IsS59.drewN | apply IsS59.drew | apply IsS59.set_1) | exact HI0.out), by repeat (first | (with_reducible first | exact HB.out | apply below_alloc | apply pw_below_drewN | apply below_drew1 | refine below_set ?_ (IsS59.ge HI0.out)) | exact HB.out), by repeat (first | (with_reducible first | exact HK.out | apply KeepBut.set_ | apply keep_drewN | apply keep_drew | apply keep_alloc) | exact HK.out)⟩
      · rw [if_neg c19] at H
        exact absurd H (by simp)
    · rw [if_neg c18] at H
      have c18b0 : (t168 == 1) = false := beq_eq_false_iff_ne.mpr c18
      have c18b1 : (t168 != 1) = true := bne_iff_ne.mpr c18
      by_cases c24 : t168 = 2
      · rw [if_pos c24] at H
        have c24b0 : (t168 == 2) = true := beq_iff_eq.mpr c24
        have c24b1 : (t168 != 2) = false := bne_eq_false_iff_eq.mpr c24
        clear c24
        replace H := Option.bind_eq_some_iff.mp H
        obtain ⟨⟨t180, t181⟩, A250, H⟩ := H
        replace H : (if 0 ≤ (wrap64 (500 + t180)) then (if (wrap64 (500 + t180) : Int).toNat ≤ 35184372088832 then (some ((List.replicate (wrap64 (500 + t180) : Int).toNat 0), t181)) else (none)) else (none)) = some (r1, r2) := H
        have A25 := Aside0.mk A250
        clear A250
        obtain ⟨ji26, hji26⟩ : ∃ j_ : Int, (wrap64 (500 + t180)) = j_ := ⟨_, rfl⟩
        replace H : (if 0 ≤ (ji26) then (if (ji26 : Int).toNat ≤ 35184372088832 then (some ((List.replicate (ji26 : Int).toNat 0), t181)) else (none)) else (none)) = some (r1, r2) := by first | (rw [hji26] at H; exact H) | (simp only [hji26] at H ⊢; exact H)
        (try rw [hji26] at A2)
        (try rw [hji26] at A3)
        (try rw [hji26] at A25)
        have hji26w : (IntKind.i64.wrap (500 + t180)) = ji26 := (i64_w _).trans hji26
        by_cases c27 : 0 ≤ (ji26)
        · rw [if_pos c27] at H
          have c27b0 := eq_true c27
          have c27b1 : decide (0 ≤ (ji26)) = true := decide_eq_true c27
          clear c27
          by_cases c28 : (ji26 : Int).toNat ≤ 35184372088832
          · rw [if_pos c28] at H
            have c28b0 := eq_true c28
            have c28b1 : decide ((ji26 : Int).toNat ≤ 35184372088832) = true := decide_eq_true c28
            clear c28
            obtain ⟨y182, hy182⟩ : ∃ y_ : List Int, y_ = (List.replicate (ji26 : Int).toNat 0) := ⟨_, rfl⟩
            replace H : (some (y182, t181)) = some (r1, r2) := by first | (rw [hy182]; with_reducible exact H) | (have H2_ := (Option.bind_some _ _).symm.trans H; rw [hy182]; with_reducible exact H2_) | (have H2_ := (Option.bind_some _ _).symm.trans H; with_reducible exact H2_) | with_reducible exact H | (rw [hy182]; exact H) | exact H
            have Ny182 := Aside0.mk hy182
            clear hy182
            simp only [Option.some.injEq, Prod.mk.injEq] at H
            obtain ⟨rfl, rfl⟩ := H
            go_enter Try.func27, Try.ntmps27
            go_wp2_with (first | ((with_reducible refine gate_callee (f := 45) rfl ?_); refine goesL_ (some 5) rfl rfl Try.func45 (by kernel_rfl) rfl #[.pointer (some ⟨g, 0, none⟩), .int .i64 50] rfl (by (try simp only [List.map_toArray, List.map_cons, List.map_nil]); first | done | rfl | (simp only [List.length_drop, List.length_take]; rfl)) ?_; (with_reducible refine (spec_l1Rd_series.calls k g s0_0 s0_1 50 t164 t167 w0 _ ?side1 ?side2 A2.out).mono ?_); (case side1 => repeat (first | (with_reducible first | exact HI0.out | apply IsS59.alloc | apply IsS59.drewN | apply IsS59.drew | apply IsS59.set_1) | exact HI0.out)); (case side2 => repeat (first | (with_reducible first | exact HB.out | apply below_alloc | apply pw_below_drewN | apply below_drew1 | refine below_set ?_ (IsS59.ge HI0.out)) | exact HB.out)); rintro e w29 ⟨v165, rfl, ho0, hi, hb, hk⟩; refine ⟨_, rfl, ?_⟩; have n0_ := Aside0.mk (Kd.R_lower ho0 (keep_size (w := w) (g := g) (row := none) (by repeat (first | (with_reducible first | exact HK.out | apply KeepBut.set_ | apply keep_drewN | apply keep_drew | apply keep_alloc) | exact HK.out)))); have n1_ := Aside0.mk (KeepBut.trans (by repeat (first | (with_reducible first | exact HK.out | apply KeepBut.set_ | apply keep_drewN | apply keep_drew | apply keep_alloc) | exact HK.out)) hk (.inl rfl)); have n2_ := Aside0.mk (hb); have n3_ := Aside0.mk (hi); clear HK; clear HB; clear HI0; have HO166 := n0_; have HK := n1_; have HB := n2_; have HI0 := n3_; clear n0_ n1_ n2_ n3_; (try clear hb); (try clear hb2); (try clear hk); (try clear hi); (try clear ho0)) | ((with_reducible refine gate_callee (f := 37) rfl ?_); refine goesL_ (some 7) rfl rfl Try.func37 (by kernel_rfl) rfl #[.pointer (some ⟨g, 0, none⟩), .int .i64 20] rfl (by (try simp only [List.map_toArray, List.map_cons, List.map_nil]); first | done | rfl | (simp only [List.length_drop, List.length_take]; rfl)) ?_; (with_reducible refine (spec_l1Rd_below.calls g s0_0 t167 20 t168 t169 w0 _ ?side1 ?side2 A3.out).mono ?_); (case side1 => repeat (first | (with_reducible first | exact HI0.out | apply IsS59.alloc | apply IsS59.drewN | apply IsS59.drew | apply IsS59.set_1) | exact HI0.out)); (case side2 => repeat (first | (with_reducible first | exact HB.out | apply below_alloc | apply pw_below_drewN | apply below_drew1 | refine below_set ?_ (IsS59.ge HI0.out)) | exact HB.out)); rintro e w30 ⟨rfl, hi, hb, hk⟩; refine ⟨_, rfl, ?_⟩; have n0_ := Aside0.mk (Kd.R_mono (Kd.R_keep (IsS59.apart (show IsS59 w0 _ g s0_0 t167 from by repeat (first | (with_reducible first | exact HI0.out | apply IsS59.alloc | apply IsS59.drewN | apply IsS59.drew | apply IsS59.set_1) | exact HI0.out)) (by (with_reducible repeat (first | apply Kd.R_alloc | apply Kd.R_drewN | apply Kd.R_drew)); exact HO166.out) (by decide)) hk (fun _ h => h.2)) (fun _ h => h.1)); have n1_ := Aside0.mk (KeepBut.trans (by repeat (first | (with_reducible first | exact HK.out | apply KeepBut.set_ | apply keep_drewN | apply keep_drew | apply keep_alloc) | exact HK.out)) hk (.inl rfl)); have n2_ := Aside0.mk (hb); have n3_ := Aside0.mk (hi); clear HO166; clear HK; clear HB; clear HI0; have HO166 := n0_; have HK := n1_; have HB := n2_; have HI0 := n3_; clear n0_ n1_ n2_ n3_; (try clear hb); (try clear hb2); (try clear hk); (try clear hi)) | ((with_reducible refine gate_callee (f := 37) rfl ?_); refine goesL_ (some 24) rfl rfl Try.func37 (by kernel_rfl) rfl #[.pointer (some ⟨g, 0, none⟩), .int .i64 2] rfl (by (try simp only [List.map_toArray, List.map_cons, List.map_nil]); first | done | rfl | (simp only [List.length_drop, List.length_take]; rfl)) ?_; (with_reducible refine (spec_l1Rd_below.calls g s0_0 t169 2 t180 t181 w0 _ ?side1 ?side2 A25.out).mono ?_); (case side1 => repeat (first | (with_reducible first | exact HI0.out | apply IsS59.alloc | apply IsS59.drewN | apply IsS59.drew | apply IsS59.set_1) | exact HI0.out)); (case side2 => repeat (first | (with_reducible first | exact HB.out | apply below_alloc | apply pw_below_drewN | apply below_drew1 | refine below_set ?_ (IsS59.ge HI0.out)) | exact HB.out)); rintro e w31 ⟨rfl, hi, hb, hk⟩; refine ⟨_, rfl, ?_⟩; have n0_ := Aside0.mk (Kd.R_mono (Kd.R_keep (IsS59.apart (show IsS59 w0 _ g s0_0 t169 from by repeat (first | (with_reducible first | exact HI0.out | apply IsS59.alloc | apply IsS59.drewN | apply IsS59.drew | apply IsS59.set_1) | exact HI0.out)) (by (with_reducible repeat (first | apply Kd.R_alloc | apply Kd.R_drewN | apply Kd.R_drew)); exact HO166.out) (by decide)) hk (fun _ h => h.2)) (fun _ h => h.1)); have n1_ := Aside0.mk (KeepBut.trans (by repeat (first | (with_reducible first | exact HK.out | apply KeepBut.set_ | apply keep_drewN | apply keep_drew | apply keep_alloc) | exact HK.out)) hk (.inl rfl)); have n2_ := Aside0.mk (hb); have n3_ := Aside0.mk (hi); clear HO166; clear HK; clear HB; clear HI0; have HO166 := n0_; have HK := n1_; have HB := n2_; have HI0 := n3_; clear n0_ n1_ n2_ n3_; (try clear hb); (try clear hb2); (try clear hk); (try clear hi)) | ((with_reducible refine gate_dst (N := 26) rfl ?_); refine Kd.R_make (Kd.int .i64) _ 2 rfl (N := 26) rfl 24 _ _ rfl ji26 rfl rfl Try.underlying24 (.int .i64 0) 8 info2 rfl (by decide) (by omega) 0 (ok := fun _ => True) (okp := fun _ => True) rfl (fun _ hk => hk) trivial (of_decide_eq_true (by first | (with_reducible assumption) | assumption)) (Nat.le_trans (Nat.mul_le_mul_right _ (of_decide_eq_true (by first | (with_reducible assumption) | assumption) : ji26.toNat ≤ 35184372088832)) (by omega)) (Below.refl _ _) (Nat.le_refl _) ?_; intro v183 w32 ho33 hb hg_ hnew_; clear hg_ hnew_; (first | rw [← Ny182.out] at ho33 | (simp only [Int.reduceToNat] at ho33; rw [← Ny182.out] at ho33)); have n0_ := Aside0.mk (Kd.R_elder' (by (with_reducible repeat (first | apply Kd.R_alloc | apply Kd.R_drewN | apply Kd.R_drew)); exact HO166.out) (Kd.R_base ho33) hb); have n1_ := Aside0.mk (Kd.R_lower (Kd.R_new' ho33 (Kd.R_lt (by (with_reducible repeat (first | apply Kd.R_alloc | apply Kd.R_drewN | apply Kd.R_drew)); exact HO166.out))) (keep_size (w := w) (g := g) (row := none) (by repeat (first | (with_reducible first | exact HK.out | apply KeepBut.set_ | apply keep_drewN | apply keep_drew | apply keep_alloc) | exact HK.out)))); have n2_ := Aside0.mk (IsS59.below (by repeat (first | (with_reducible first | exact HI0.out | apply IsS59.alloc | apply IsS59.drewN | apply IsS59.drew | apply IsS59.set_1) | exact HI0.out)) hb); have n3_ := Aside0.mk (KeepBut.trans (by repeat (first | (with_reducible first | exact HK.out | apply KeepBut.set_ | apply keep_drewN | apply keep_drew | apply keep_alloc) | exact HK.out)) (KeepBut.of_below hb g none) (.inl rfl)); have n4_ := Aside0.mk (below_step (by repeat (first | (with_reducible first | exact HB.out | apply below_alloc | apply pw_below_drewN | apply below_drew1 | refine below_set ?_ (IsS59.ge HI0.out)) | exact HB.out)) hb); clear HO166; clear HI0; clear HK; clear HB; have HO166 := n0_; have HO184 := n1_; have HI0 := n2_; have HK := n3_; have HB := n4_; clear n0_ n1_ n2_ n3_ n4_; clear hb ho33))
            go_ret
            exact ⟨_, by first | rfl | (simp [errW_none, errW_some] <;> rfl) | (simp only [← hji26]; first | rfl | (simp [errW_none, errW_some] <;> rfl)) | (simp [*, errW_none, errW_some] <;> rfl), by (with_reducible repeat (first | apply Kd.R_alloc | apply Kd.R_drewN | apply Kd.R_drew)); exact Kd.R_mono HO184.out (fun _ hk => trivial), by repeat (first | (with_reducible first | exact HI0.out | apply IsS59.alloc | apply IsS59.drewN | apply IsS59.drew | apply IsS59.set_1) | exact HI0.out), by repeat (first | (with_reducible first | exact HB.out | apply below_alloc | apply pw_below_drewN | apply below_drew1 | refine below_set ?_ (IsS59.ge HI0.out)) | exact HB.out), by repeat (first | (with_reducible first | exact HK.out | apply KeepBut.set_ | apply keep_drewN | apply keep_drew | apply keep_alloc) | exact HK.out)⟩
          · rw [if_neg c28] at H
            exact absurd H (by simp)
        · rw [if_neg c27] at H
          exact absurd H (by simp)
      · rw [if_neg c24] at H
        have c24b0 : (t168 == 2) = false := beq_eq_false_iff_ne.mpr c24
        have c24b1 : (t168 != 2) = true := bne_iff_ne.mpr c24
        by_cases c34 : t168 = 3
        · rw [if_pos c34] at H
          have c34b0 : (t168 == 3) = true := beq_iff_eq.mpr c34
          have c34b1 : (t168 != 3) = false := bne_eq_false_iff_eq.mpr c34
          clear c34
          by_cases c35 : 1 ≤ (t164.length : Int)
          · rw [if_pos c35] at H
            have c35b0 := eq_true c35
            have c35b1 : decide (1 ≤ (t164.length : Int)) = true := decide_eq_true c35
            clear c35
            obtain ⟨y185, hy185⟩ : ∃ y_ : List Int, y_ = (t164.take (1 : Int).toNat) := ⟨_, rfl⟩
            replace H : (some (y185, t169)) = some (r1, r2) := by first | (rw [hy185]; with_reducible exact H) | (have H2_ := (Option.bind_some _ _).symm.trans H; rw [hy185]; with_reducible exact H2_) | (have H2_ := (Option.bind_some _ _).symm.trans H; with_reducible exact H2_) | with_reducible exact H | (rw [hy185]; exact H) | exact H
            have Ny185 := Aside0.mk hy185
            clear hy185
            simp only [Option.some.injEq, Prod.mk.injEq] at H
            obtain ⟨rfl, rfl⟩ := H
            go_enter Try.func27, Try.ntmps27
            go_wp2_with (first | ((with_reducible refine gate_callee (f := 45) rfl ?_); refine goesL_ (some 5) rfl rfl Try.func45 (by kernel_rfl) rfl #[.pointer (some ⟨g, 0, none⟩), .int .i64 50] rfl (by (try simp only [List.map_toArray, List.map_cons, List.map_nil]); first | done | rfl | (simp only [List.length_drop, List.length_take]; rfl)) ?_; (with_reducible refine (spec_l1Rd_series.calls k g s0_0 s0_1 50 t164 t167 w0 _ ?side1 ?side2 A2.out).mono ?_); (case side1 => repeat (first | (with_reducible first | exact HI0.out | apply IsS59.alloc | apply IsS59.drewN | apply IsS59.drew | apply IsS59.set_1) | exact HI0.out)); (case side2 => repeat (first | (with_reducible first | exact HB.out | apply below_alloc | apply pw_below_drewN | apply below_drew1 | refine below_set ?_ (IsS59.ge HI0.out)) | exact HB.out)); rintro e w36 ⟨v165, rfl, ho0, hi, hb, hk⟩; refine ⟨_, rfl, ?_⟩; have n0_ := Aside0.mk (Kd.R_lower ho0 (keep_size (w := w) (g := g) (row := none) (by repeat (first | (with_reducible first | exact HK.out | apply KeepBut.set_ | apply keep_drewN | apply keep_drew | apply keep_alloc) | exact HK.out)))); have n1_ := Aside0.mk (KeepBut.trans (by repeat (first | (with_reducible first | exact HK.out | apply KeepBut.set_ | apply keep_drewN | apply keep_drew | apply keep_alloc) | exact HK.out)) hk (.inl rfl)); have n2_ := Aside0.mk (hb); have n3_ := Aside0.mk (hi); clear HK; clear HB; clear HI0; have HO166 := n0_; have HK := n1_; have HB := n2_; have HI0 := n3_; clear n0_ n1_ n2_ n3_; (try clear hb); (try clear hb2); (try clear hk); (try clear hi); (try clear ho0)) | ((with_reducible refine gate_callee (f := 37) rfl ?_); refine goesL_ (some 7) rfl rfl Try.func37 (by kernel_rfl) rfl #[.pointer (some ⟨g, 0, none⟩), .int .i64 20] rfl (by (try simp only [List.map_toArray, List.map_cons, List.map_nil]); first | done | rfl | (simp only [List.length_drop, List.length_take]; rfl)) ?_; (with_reducible refine (spec_l1Rd_below.calls g s0_0 t167 20 t168 t169 w0 _ ?side1 ?side2 A3.out).mono ?_); (case side1 => repeat (first | (with_reducible first | exact HI0.out | apply IsS59.alloc | apply IsS59.drewN | apply IsS59.drew | apply IsS59.set_1) | exact HI0.out)); (case side2 => repeat (first | (with_reducible first | exact HB.out | apply below_alloc | apply pw_below_drewN | apply below_drew1 | refine below_set ?_ (IsS59.ge HI0.out)) | exact HB.out)); rintro e w37 ⟨rfl, hi, hb, hk⟩; refine ⟨_, rfl, ?_⟩; have n0_ := Aside0.mk (Kd.R_mono (Kd.R_keep (IsS59.apart (show IsS59 w0 _ g s0_0 t167 from by repeat (first | (with_reducible first | exact HI0.out | apply IsS59.alloc | apply IsS59.drewN | apply IsS59.drew | apply IsS59.set_1) | exact HI0.out)) (by (with_reducible repeat (first | apply Kd.R_alloc | apply Kd.R_drewN | apply Kd.R_drew)); exact HO166.out) (by decide)) hk (fun _ h => h.2)) (fun _ h => h.1)); have n1_ := Aside0.mk (KeepBut.trans (by repeat (first | (with_reducible first | exact HK.out | apply KeepBut.set_ | apply keep_drewN | apply keep_drew | apply keep_alloc) | exact HK.out)) hk (.inl rfl)); have n2_ := Aside0.mk (hb); have n3_ := Aside0.mk (hi); clear HO166; clear HK; clear HB; clear HI0; have HO166 := n0_; have HK := n1_; have HB := n2_; have HI0 := n3_; clear n0_ n1_ n2_ n3_; (try clear hb); (try clear hb2); (try clear hk); (try clear hi); obtain ⟨Ao38, co38, eo38⟩ := Kd.R_slice HO166.out; subst eo38; have q39 : (1 : Int) ≤ ((t164.length : Int) : Int) := of_decide_eq_true (by first | (with_reducible assumption) | assumption); obtain ⟨i039, hi039, _, hsz39, _⟩ := info_parts info2; have hcut39 := cut_to (P := Try.prog) 24 2 .i64 Try.underlying24 hi039 Ao38 t164.length co38 1 (by omega) q39 (Kd.R_reads' HO166.out).2.1; have hr39 := Kd.R_take (m := (1 : Int).toNat) HO166.out (by omega); have hy39 : y185.length = (1 : Int).toNat := (by rw [Ny185.out, List.length_take]; omega); rw [← Ny185.out] at hr39; rw [← hy39] at hr39 hcut39; clear hy39 hi039 hsz39 HO166; have HO187 := Aside0.mk hr39; clear hr39; replace q39 := eq_true q39))
            go_ret
            exact ⟨_, by first | rfl | (simp [errW_none, errW_some] <;> rfl) | (simp [*, errW_none, errW_some] <;> rfl), by (with_reducible repeat (first | apply Kd.R_alloc | apply Kd.R_drewN | apply Kd.R_drew)); exact HO187.out, by repeat (first | (with_reducible first | exact HI0.out | apply IsS59.alloc | apply IsS59.drewN | apply IsS59.drew | apply IsS59.set_1) | exact HI0.out), by repeat (first | (with_reducible first | exact HB.out | apply below_alloc | apply pw_below_drewN | apply below_drew1 | refine below_set ?_ (IsS59.ge HI0.out)) | exact HB.out), by repeat (first | (with_reducible first | exact HK.out | apply KeepBut.set_ | apply keep_drewN | apply keep_drew | apply keep_alloc) | exact HK.out)⟩
          · rw [if_neg c35] at H
            exact absurd H (by simp)
        · rw [if_neg c34] at H
          have c34b0 : (t168 == 3) = false := beq_eq_false_iff_ne.mpr c34
          have c34b1 : (t168 != 3) = true := bne_iff_ne.mpr c34
          simp only [Option.some.injEq, Prod.mk.injEq] at H
          obtain ⟨rfl, rfl⟩ := H
          go_enter Try.func27, Try.ntmps27
          go_wp2_with (first | ((with_reducible refine gate_callee (f := 45) rfl ?_); refine goesL_ (some 5) rfl rfl Try.func45 (by kernel_rfl) rfl #[.pointer (some ⟨g, 0, none⟩), .int .i64 50] rfl (by (try simp only [List.map_toArray, List.map_cons, List.map_nil]); first | done | rfl | (simp only [List.length_drop, List.length_take]; rfl)) ?_; (with_reducible refine (spec_l1Rd_series.calls k g s0_0 s0_1 50 t164 t167 w0 _ ?side1 ?side2 A2.out).mono ?_); (case side1 => repeat (first | (with_reducible first | exact HI0.out | apply IsS59.alloc | apply IsS59.drewN | apply IsS59.drew | apply IsS59.set_1) | exact HI0.out)); (case side2 => repeat (first | (with_reducible first | exact HB.out | apply below_alloc | apply pw_below_drewN | apply below_drew1 | refine below_set ?_ (IsS59.ge HI0.out)) | exact HB.out)); rintro e w40 ⟨v165, rfl, ho0, hi, hb, hk⟩; refine ⟨_, rfl, ?_⟩; have n0_ := Aside0.mk (Kd.R_lower ho0 (keep_size (w := w) (g := g) (row := none) (by repeat (first | (with_reducible first | exact HK.out | apply KeepBut.set_ | apply keep_drewN | apply keep_drew | apply keep_alloc) | exact HK.out)))); have n1_ := Aside0.mk (KeepBut.trans (by repeat (first | (with_reducible first | exact HK.out | apply KeepBut.set_ | apply keep_drewN | apply keep_drew | apply keep_alloc) | exact HK.out)) hk (.inl rfl)); have n2_ := Aside0.mk (hb); have n3_ := Aside0.mk (hi); clear HK; clear HB; clear HI0; have HO166 := n0_; have HK := n1_; have HB := n2_; have HI0 := n3_; clear n0_ n1_ n2_ n3_; (try clear hb); (try clear hb2); (try clear hk); (try clear hi); (try clear ho0)) | ((with_reducible refine gate_callee (f := 37) rfl ?_); refine goesL_ (some 7) rfl rfl Try.func37 (by kernel_rfl) rfl #[.pointer (some ⟨g, 0, none⟩), .int .i64 20] rfl (by (try simp only [List.map_toArray, List.map_cons, List.map_nil]); first | done | rfl | (simp only [List.length_drop, List.length_take]; rfl)) ?_; (with_reducible refine (spec_l1Rd_below.calls g s0_0 t167 20 t168 t169 w0 _ ?side1 ?side2 A3.out).mono ?_); (case side1 => repeat (first | (with_reducible first | exact HI0.out | apply IsS59.alloc | apply IsS59.drewN | apply IsS59.drew | apply IsS59.set_1) | exact HI0.out)); (case side2 => repeat (first | (with_reducible first | exact HB.out | apply below_alloc | apply pw_below_drewN | apply below_drew1 | refine below_set ?_ (IsS59.ge HI0.out)) | exact HB.out)); rintro e w41 ⟨rfl, hi, hb, hk⟩; refine ⟨_, rfl, ?_⟩; have n0_ := Aside0.mk (Kd.R_mono (Kd.R_keep (IsS59.apart (show IsS59 w0 _ g s0_0 t167 from by repeat (first | (with_reducible first | exact HI0.out | apply IsS59.alloc | apply IsS59.drewN | apply IsS59.drew | apply IsS59.set_1) | exact HI0.out)) (by (with_reducible repeat (first | apply Kd.R_alloc | apply Kd.R_drewN | apply Kd.R_drew)); exact HO166.out) (by decide)) hk (fun _ h => h.2)) (fun _ h => h.1)); have n1_ := Aside0.mk (KeepBut.trans (by repeat (first | (with_reducible first | exact HK.out | apply KeepBut.set_ | apply keep_drewN | apply keep_drew | apply keep_alloc) | exact HK.out)) hk (.inl rfl)); have n2_ := Aside0.mk (hb); have n3_ := Aside0.mk (hi); clear HO166; clear HK; clear HB; clear HI0; have HO166 := n0_; have HK := n1_; have HB := n2_; have HI0 := n3_; clear n0_ n1_ n2_ n3_; (try clear hb); (try clear hb2); (try clear hk); (try clear hi)))
          go_ret
          exact ⟨_, by first | rfl | (simp [errW_none, errW_some] <;> rfl) | (simp [*, errW_none, errW_some] <;> rfl), by (with_reducible repeat (first | apply Kd.R_alloc | apply Kd.R_drewN | apply Kd.R_drew)); exact HO166.out, by repeat (first | (with_reducible first | exact HI0.out | apply IsS59.alloc | apply IsS59.drewN | apply IsS59.drew | apply IsS59.set_1) | exact HI0.out), by repeat (first | (with_reducible first | exact HB.out | apply below_alloc | apply pw_below_drewN | apply below_drew1 | refine below_set ?_ (IsS59.ge HI0.out)) | exact HB.out), by repeat (first | (with_reducible first | exact HK.out | apply KeepBut.set_ | apply keep_drewN | apply keep_drew | apply keep_alloc) | exact HK.out)⟩

/-! ### spec_DrawShare: function 25 -/
def spec_DrawShare.f (k : Nat) (l0 : List Int) : Option (List Int × Int × Int) := (spec_l1Open.f l0).bind fun bt188 => ((spec_l19Draw.f k bt188.1 bt188.2).bind fun bt191 => ((some (([2, 4, 10, 100, 1, 1000, 1001, 0] : List Int) : List Int)).bind fun y195 => ((spec_l1Rd_below.f bt188.1 bt191.2 8).bind fun bt198 => (if 0 ≤ bt198.1 then (if bt198.1 < (y195.length : Int) then ((spec_l1Rd_below.f bt188.1 bt198.2 (wrap64 ((rd y195 bt198.1) + 2))).bind fun bt201 => (some (bt191.1, bt201.1, rd y195 bt198.1))) else (none)) else (none)))))
theorem spec_DrawShare.mono : ∀ a0 k, LeO (spec_DrawShare.f k a0) (spec_DrawShare.f (k + 1) a0) := by
  intro a0 k
  unfold spec_DrawShare.f
  repeat' first
      | (with_reducible exact spec_l19Draw.mono _ _ _)
      | (with_reducible exact LeO.refl _)
      | (with_reducible exact LeO.none _)
      | (with_reducible refine LeO.ite ?_ ?_)
      | (with_reducible refine LeO.bind ?_ (fun _ => ?_))
      | exact spec_l19Draw.mono _ _ _
      | exact LeO.none _
      | refine LeO.ite ?_ ?_
      | refine LeO.bind ?_ (fun _ => ?_)
set_option maxHeartbeats 8000000 in
set_option maxRecDepth 100000 in
theorem spec_DrawShare.calls (k : Nat) (A0 : Option Addr) (c0 : Nat) (l0 : List Int) (r1 : List Int) (r2 : Int) (r3 : Int) (w : World) (hr0 : Kd.C (Kd.int .u8) w A0 l0.length l0) (hc0 : l0.length ≤ c0) (h : spec_DrawShare.f k l0 = some (r1, r2, r3)) :
    Calls Try.prog 25 #[.slice A0 l0.length c0] w fun e w' => ∃ v0_ : Value, e = .returned (.tuple #[v0_, .int .i64 r2, .int .i64 r3]) ∧ Kd.R (Kd.int .i64) 2 w' w.heap.size (fun _ => True) v0_ r1 ∧ Below w.heap.size w w' := by
  have HR0 := Aside0.mk hr0
  have HC0 := Aside0.mk hc0
  clear hr0 hc0
  have HB := Aside0.mk (Below.refl w.heap.size w)
  have H : ((spec_l1Open.f l0).bind fun bt188 => ((spec_l19Draw.f k bt188.1 bt188.2).bind fun bt191 => ((some (([2, 4, 10, 100, 1, 1000, 1001, 0] : List Int) : List Int)).bind fun y195 => ((spec_l1Rd_below.f bt188.1 bt191.2 8).bind fun bt198 => (if 0 ≤ bt198.1 then (if bt198.1 < (y195.length : Int) then ((spec_l1Rd_below.f bt188.1 bt198.2 (wrap64 ((rd y195 bt198.1) + 2))).bind fun bt201 => (some (bt191.1, bt201.1, rd y195 bt198.1))) else (none)) else (none)))))) = some (r1, r2, r3) := h
  clear h
  replace H := Option.bind_eq_some_iff.mp H
  obtain ⟨⟨t188, t189⟩, A20, H⟩ := H
  replace H : ((spec_l19Draw.f k t188 t189).bind fun bt191 => ((some (([2, 4, 10, 100, 1, 1000, 1001, 0] : List Int) : List Int)).bind fun y195 => ((spec_l1Rd_below.f t188 bt191.2 8).bind fun bt198 => (if 0 ≤ bt198.1 then (if bt198.1 < (y195.length : Int) then ((spec_l1Rd_below.f t188 bt198.2 (wrap64 ((rd y195 bt198.1) + 2))).bind fun bt201 => (some (bt191.1, bt201.1, rd y195 bt198.1))) else (none)) else (none))))) = some (r1, r2, r3) := H
  have A2 := Aside0.mk A20
  clear A20
  replace H := Option.bind_eq_some_iff.mp H
  obtain ⟨⟨t191, t194⟩, A30, H⟩ := H
  replace H : ((some (([2, 4, 10, 100, 1, 1000, 1001, 0] : List Int) : List Int)).bind fun y195 => ((spec_l1Rd_below.f t188 t194 8).bind fun bt198 => (if 0 ≤ bt198.1 then (if bt198.1 < (y195.length : Int) then ((spec_l1Rd_below.f t188 bt198.2 (wrap64 ((rd y195 bt198.1) + 2))).bind fun bt201 => (some (t191, bt201.1, rd y195 bt198.1))) else (none)) else (none)))) = some (r1, r2, r3) := H
  have A3 := Aside0.mk A30
  clear A30
  obtain ⟨y195, hy195⟩ : ∃ y_ : List Int, y_ = (([2, 4, 10, 100, 1, 1000, 1001, 0] : List Int)) := ⟨_, rfl⟩
  replace H : ((spec_l1Rd_below.f t188 t194 8).bind fun bt198 => (if 0 ≤ bt198.1 then (if bt198.1 < (y195.length : Int) then ((spec_l1Rd_below.f t188 bt198.2 (wrap64 ((rd y195 bt198.1) + 2))).bind fun bt201 => (some (t191, bt201.1, rd y195 bt198.1))) else (none)) else (none))) = some (r1, r2, r3) := by first | (rw [hy195]; with_reducible exact H) | (have H2_ := (Option.bind_some _ _).symm.trans H; rw [hy195]; with_reducible exact H2_) | (have H2_ := (Option.bind_some _ _).symm.trans H; with_reducible exact H2_) | with_reducible exact H | (rw [hy195]; exact H) | exact H
  have Ny195 := Aside0.mk hy195
  clear hy195
  replace H := Option.bind_eq_some_iff.mp H
  obtain ⟨⟨t198, t199⟩, A40, H⟩ := H
  replace H : (if 0 ≤ t198 then (if t198 < (y195.length : Int) then ((spec_l1Rd_below.f t188 t199 (wrap64 ((rd y195 t198) + 2))).bind fun bt201 => (some (t191, bt201.1, rd y195 t198))) else (none)) else (none)) = some (r1, r2, r3) := H
  have A4 := Aside0.mk A40
  clear A40
  by_cases c5 : 0 ≤ t198
  · rw [if_pos c5] at H
    have c5b0 : decide (0 ≤ t198) = true := decide_eq_true c5
    clear c5
    by_cases c6 : t198 < (y195.length : Int)
    · rw [if_pos c6] at H
      have c6b0 : decide (t198 < (y195.length : Int)) = true := decide_eq_true c6
      clear c6
      replace H := Option.bind_eq_some_iff.mp H
      obtain ⟨⟨t201, t202⟩, A70, H⟩ := H
      replace H : (some (t191, t201, rd y195 t198)) = some (r1, r2, r3) := H
      have A7 := Aside0.mk A70
      clear A70
      simp only [Option.some.injEq, Prod.mk.injEq] at H
      obtain ⟨rfl, rfl, rfl⟩ := H
      go_enter Try.func25, Try.ntmps25
      go_wp2_with (first | ((with_reducible refine gate_callee (f := 26) rfl ?_); refine goesL_ (some 9) rfl rfl Try.func26 (by kernel_rfl) rfl #[.slice A0 l0.length c0] rfl (by (try simp only [List.map_toArray, List.map_cons, List.map_nil]); first | done | rfl | (simp only [List.length_drop, List.length_take]; rfl)) ?_; (with_reducible refine (spec_l1Open.calls _ _ l0 t188 t189 w _ ?side1 ?side2 ?side3 A2.out).mono ?_); (case side1 => repeat (first | (with_reducible first | exact HB.out | apply below_alloc | apply pw_below_drewN | apply below_drew1) | exact HB.out)); (case side2 => exact HR0.out); (case side3 => exact HC0.out); rintro e w8 ⟨g190, rfl, hi, hb, hb2⟩; refine ⟨_, rfl, ?_⟩; have n0_ := Aside0.mk (hb); have n1_ := Aside0.mk (hi); clear HB; have HB := n0_; have HI190 := n1_; clear n0_ n1_; (try clear hb); (try clear hb2); (try clear hk); (try clear hi)) | ((with_reducible refine gate_callee (f := 27) rfl ?_); refine goesL_ (some 11) rfl rfl Try.func27 (by kernel_rfl) rfl #[.pointer (some ⟨g190, 0, none⟩)] rfl (by (try simp only [List.map_toArray, List.map_cons, List.map_nil]); first | done | rfl | (simp only [List.length_drop, List.length_take]; rfl)) ?_; (with_reducible refine (spec_l19Draw.calls k g190 t188 t189 t191 t194 w _ ?side1 ?side2 A3.out).mono ?_); (case side1 => repeat (first | (with_reducible first | exact HI190.out | apply IsS59.alloc | apply IsS59.drewN | apply IsS59.drew | apply IsS59.set_1) | exact HI190.out)); (case side2 => repeat (first | (with_reducible first | exact HB.out | apply below_alloc | apply pw_below_drewN | apply below_drew1 | refine below_set ?_ (IsS59.ge HI190.out)) | exact HB.out)); rintro e w9 ⟨v192, rfl, ho0, hi, hb, hk⟩; refine ⟨_, rfl, ?_⟩; have n0_ := Aside0.mk (Kd.R_lower ho0 (below_size (by repeat (first | (with_reducible first | exact HB.out | apply below_alloc | apply pw_below_drewN | apply below_drew1 | refine below_set ?_ (IsS59.ge HI190.out)) | exact HB.out)))); have n1_ := Aside0.mk (hb); have n2_ := Aside0.mk (hi); clear HB; clear HI190; have HO193 := n0_; have HB := n1_; have HI190 := n2_; clear n0_ n1_ n2_; (try clear hb); (try clear hb2); (try clear hk); (try clear hi); (try clear ho0)) | ((with_reducible refine gate_dst (N := 12) rfl ?_); refine Kd.R_lit (Kd.int .i64) _ 2 ?hg (N := 12) ?hd (xs := ([2, 4, 10, 100, 1, 1000, 1001, 0] : List Int)) (inner := [.int .i64 2, .int .i64 4, .int .i64 10, .int .i64 100, .int .i64 1, .int .i64 1000, .int .i64 1001, .int .i64 0]) (ok := fun _ => True) (okp := fun _ => True) ?hr ?hp (fun _ hk => hk) trivial (Below.refl _ _) (Nat.le_refl _) (by simp) ?_; (case hd => rfl); (case hg => rfl); (case hr => first | (go_simp; done) | (go_simp; rfl)); (case hp => exact (Reps.one (show Kd.M (Kd.int .i64) _ _ _ 2 [.int .i64 2] from rfl) (Reps.one (show Kd.M (Kd.int .i64) _ _ _ 4 [.int .i64 4] from rfl) (Reps.one (show Kd.M (Kd.int .i64) _ _ _ 10 [.int .i64 10] from rfl) (Reps.one (show Kd.M (Kd.int .i64) _ _ _ 100 [.int .i64 100] from rfl) (Reps.one (show Kd.M (Kd.int .i64) _ _ _ 1 [.int .i64 1] from rfl) (Reps.one (show Kd.M (Kd.int .i64) _ _ _ 1000 [.int .i64 1000] from rfl) (Reps.one (show Kd.M (Kd.int .i64) _ _ _ 1001 [.int .i64 1001] from rfl) (Reps.one (show Kd.M (Kd.int .i64) _ _ _ 0 [.int .i64 0] from rfl) (Reps.none _ _)))))))))); intro v196 w10 ho11 hb hg_ hnew_; clear hg_ hnew_; (first | rw [← Ny195.out] at ho11 | (simp only [Int.reduceToNat] at ho11; rw [← Ny195.out] at ho11)); have n0_ := Aside0.mk (Kd.R_elder' (by (with_reducible repeat (first | apply Kd.R_alloc | apply Kd.R_drewN | apply Kd.R_drew)); exact HO193.out) (Kd.R_base ho11) hb); have n1_ := Aside0.mk (Kd.R_lower (Kd.R_new' ho11 (Kd.R_lt (by (with_reducible repeat (first | apply Kd.R_alloc | apply Kd.R_drewN | apply Kd.R_drew)); exact HO193.out))) (below_size (by repeat (first | (with_reducible first | exact HB.out | apply below_alloc | apply pw_below_drewN | apply below_drew1 | refine below_set ?_ (IsS59.ge HI190.out)) | exact HB.out)))); have n2_ := Aside0.mk (IsS59.below (by repeat (first | (with_reducible first | exact HI190.out | apply IsS59.alloc | apply IsS59.drewN | apply IsS59.drew | apply IsS59.set_1) | exact HI190.out)) hb); have n3_ := Aside0.mk (below_step (by repeat (first | (with_reducible first | exact HB.out | apply below_alloc | apply pw_below_drewN | apply below_drew1 | refine below_set ?_ (IsS59.ge HI190.out)) | exact HB.out)) hb); clear HO193; clear HI190; clear HB; have HO193 := n0_; have HO197 := n1_; have HI190 := n2_; have HB := n3_; clear n0_ n1_ n2_ n3_; clear hb ho11) | ((with_reducible refine gate_callee (f := 37) rfl ?_); refine goesL_ (some 14) rfl rfl Try.func37 (by kernel_rfl) rfl #[.pointer (some ⟨g190, 0, none⟩), .int .i64 8] rfl (by (try simp only [List.map_toArray, List.map_cons, List.map_nil]); first | done | rfl | (simp only [List.length_drop, List.length_take]; rfl)) ?_; (with_reducible refine (spec_l1Rd_below.calls g190 t188 t194 8 t198 t199 w _ ?side1 ?side2 A4.out).mono ?_); (case side1 => repeat (first | (with_reducible first | exact HI190.out | apply IsS59.alloc | apply IsS59.drewN | apply IsS59.drew | apply IsS59.set_1) | exact HI190.out)); (case side2 => repeat (first | (with_reducible first | exact HB.out | apply below_alloc | apply pw_below_drewN | apply below_drew1 | refine below_set ?_ (IsS59.ge HI190.out)) | exact HB.out)); rintro e w12 ⟨rfl, hi, hb, hk⟩; refine ⟨_, rfl, ?_⟩; have n0_ := Aside0.mk (Kd.R_mono (Kd.R_keep (IsS59.apart (show IsS59 w _ g190 t188 t194 from by repeat (first | (with_reducible first | exact HI190.out | apply IsS59.alloc | apply IsS59.drewN | apply IsS59.drew | apply IsS59.set_1) | exact HI190.out)) (by (with_reducible repeat (first | apply Kd.R_alloc | apply Kd.R_drewN | apply Kd.R_drew)); exact HO193.out) (by decide)) hk (fun _ h => h.2)) (fun _ h => h.1)); have n1_ := Aside0.mk (Kd.R_mono (Kd.R_keep (IsS59.apart (show IsS59 w _ g190 t188 t194 from by repeat (first | (with_reducible first | exact HI190.out | apply IsS59.alloc | apply IsS59.drewN | apply IsS59.drew | apply IsS59.set_1) | exact HI190.out)) (by (with_reducible repeat (first | apply Kd.R_alloc | apply Kd.R_drewN | apply Kd.R_drew)); exact HO197.out) (by decide)) hk (fun _ h => h.2)) (fun _ h => h.1)); have n2_ := Aside0.mk (hb); have n3_ := Aside0.mk (hi); clear HO193; clear HO197; clear HB; clear HI190; have HO193 := n0_; have HO197 := n1_; have HB := n2_; have HI190 := n3_; clear n0_ n1_ n2_ n3_; (try clear hb); (try clear hb2); (try clear hk); (try clear hi); obtain ⟨Ao13, co13, eo13⟩ := Kd.R_slice HO197.out; subst eo13; have p200 : 0 ≤ (t198 : Int) := of_decide_eq_true (by first | (with_reducible assumption) | assumption); have q200 : t198 < (y195.length : Int) := of_decide_eq_true (by first | (with_reducible assumption) | assumption); obtain ⟨ad200, e200, hx200_0⟩ := Kd.at_int (Kd.R_reads' HO197.out).2.2 t198 p200 q200; cases e200; replace p200 := eq_true p200; replace q200 := eq_true q200) | ((with_reducible refine gate_callee (f := 37) rfl ?_); refine goesL_ (some 21) rfl rfl Try.func37 (by kernel_rfl) rfl #[.pointer (some ⟨g190, 0, none⟩), .int .i64 (wrap64 ((rd y195 t198) + 2))] rfl (by (try simp only [List.map_toArray, List.map_cons, List.map_nil]); first | done | rfl | (simp only [List.length_drop, List.length_take]; rfl)) ?_; (with_reducible refine (spec_l1Rd_below.calls g190 t188 t199 (wrap64 ((rd y195 t198) + 2)) t201 t202 w _ ?side1 ?side2 A7.out).mono ?_); (case side1 => repeat (first | (with_reducible first | exact HI190.out | apply IsS59.alloc | apply IsS59.drewN | apply IsS59.drew | apply IsS59.set_1) | exact HI190.out)); (case side2 => repeat (first | (with_reducible first | exact HB.out | apply below_alloc | apply pw_below_drewN | apply below_drew1 | refine below_set ?_ (IsS59.ge HI190.out)) | exact HB.out)); rintro e w14 ⟨rfl, hi, hb, hk⟩; refine ⟨_, rfl, ?_⟩; have n0_ := Aside0.mk (Kd.R_mono (Kd.R_keep (IsS59.apart (show IsS59 w _ g190 t188 t199 from by repeat (first | (with_reducible first | exact HI190.out | apply IsS59.alloc | apply IsS59.drewN | apply IsS59.drew | apply IsS59.set_1) | exact HI190.out)) (by (with_reducible repeat (first | apply Kd.R_alloc | apply Kd.R_drewN | apply Kd.R_drew)); exact HO193.out) (by decide)) hk (fun _ h => h.2)) (fun _ h => h.1)); have n1_ := Aside0.mk (Kd.R_mono (Kd.R_keep (IsS59.apart (show IsS59 w _ g190 t188 t199 from by repeat (first | (with_reducible first | exact HI190.out | apply IsS59.alloc | apply IsS59.drewN | apply IsS59.drew | apply IsS59.set_1) | exact HI190.out)) (by (with_reducible repeat (first | apply Kd.R_alloc | apply Kd.R_drewN | apply Kd.R_drew)); exact HO197.out) (by decide)) hk (fun _ h => h.2)) (fun _ h => h.1)); have n2_ := Aside0.mk (hb); have n3_ := Aside0.mk (hi); clear HO193; clear HO197; clear HB; clear HI190; have HO193 := n0_; have HO197 := n1_; have HB := n2_; have HI190 := n3_; clear n0_ n1_ n2_ n3_; (try clear hb); (try clear hb2); (try clear hk); (try clear hi)))
      go_ret3
      exact ⟨_, by first | rfl | (simp [errW_none, errW_some] <;> rfl) | (simp [*, errW_none, errW_some] <;> rfl), by (with_reducible repeat (first | apply Kd.R_alloc | apply Kd.R_drewN | apply Kd.R_drew)); exact Kd.R_mono HO193.out (fun _ hk => trivial), by repeat (first | (with_reducible first | exact HB.out | apply below_alloc | apply pw_below_drewN | apply below_drew1 | refine below_set ?_ (IsS59.ge HI190.out)) | exact HB.out)⟩
    · rw [if_neg c6] at H
      exact absurd H (by simp)
  · rw [if_neg c5] at H
    exact absurd H (by simp)

/-! ### laws_FnShares: function 7 -/
mutual
def laws_FnShares.j0 : Nat → List Int → Int → Int → Bool → Int → Bool → Option (Bool)
  | 0, _, _, _, _, _, _ => none
  | k + 1, x3, x4, x5, x7, x8, x44 => if x44 = true then (some false) else (if x7 = true then (laws_FnShares.l0 k x3 x4 x5 x8 (-100001) false 1) else (some true))
def laws_FnShares.l0 : Nat → List Int → Int → Int → Int → Int → Bool → Int → Option (Bool)
  | 0, _, _, _, _, _, _, _ => none
  | k + 1, x3, x4, x5, x8, x10, x11, x12 => if x12 ≤ (x3.length : Int) then (laws_FnShares.j2 k x3 x4 x5 x8 x10 x11 x12 (decide (x12 ≤ 60))) else (laws_FnShares.j2 k x3 x4 x5 x8 x10 x11 x12 false)
def laws_FnShares.j2 : Nat → List Int → Int → Int → Int → Int → Bool → Int → Bool → Option (Bool)
  | 0, _, _, _, _, _, _, _, _ => none
  | k + 1, x3, x4, x5, x8, x10, x11, x12, x54 => if x54 = true then ((impl_OrderStat.f k x3 x12).bind fun bt213 => (if bt213.2 = true then (laws_FnShares.j3 k x3 x4 x5 x8 x11 x12 bt213.1 (decide (bt213.1 < x10))) else (laws_FnShares.j3 k x3 x4 x5 x8 x11 x12 bt213.1 true))) else (some true)
def laws_FnShares.j3 : Nat → List Int → Int → Int → Int → Bool → Int → Int → Bool → Option (Bool)
  | 0, _, _, _, _, _, _, _, _ => none
  | k + 1, x3, x4, x5, x8, x11, x12, x13, x69 => if x69 = true then (some false) else (if x11 = true then (laws_FnShares.j4 k x3 x4 x5 x8 x13 x11 x12 x13 false) else (laws_FnShares.j4 k x3 x4 x5 x8 x13 x11 x12 x13 (decide ((wrap64 (x12 * x5)) ≥ (wrap64 (x4 * (x3.length : Int)))))))
def laws_FnShares.j4 : Nat → List Int → Int → Int → Int → Int → Bool → Int → Int → Bool → Option (Bool)
  | 0, _, _, _, _, _, _, _, _, _ => none
  | k + 1, x3, x4, x5, x8, x10, x11, x12, x13, x82 => if x82 = true then (if x13 = x8 then (laws_FnShares.l0 k x3 x4 x5 x8 x10 true (wrap64 (x12 + 1))) else (some false)) else (laws_FnShares.l0 k x3 x4 x5 x8 x10 x11 (wrap64 (x12 + 1)))
end
def laws_FnShares.f (k : Nat) (l0 : List Int) : Option (Bool) := (laws_big.f l0).bind fun t203 => (if t203 = true then (some true) else ((spec_DrawShare.f k l0).bind fun bt204 => ((spec_Share.f k bt204.1 bt204.2.1 bt204.2.2).bind fun bt209 => ((impl_Share.f k bt204.1 bt204.2.1 bt204.2.2).bind fun bt211 => (if (bt211.2 != bt209.2) = true then (laws_FnShares.j0 k bt204.1 bt204.2.1 bt204.2.2 bt209.2 bt211.1 true) else (laws_FnShares.j0 k bt204.1 bt204.2.1 bt204.2.2 bt209.2 bt211.1 (bt211.1 != bt209.1)))))))
theorem laws_FnShares.mono_l : ∀ k, (∀ y0 y1 y2 y3 y4 y5, LeO (laws_FnShares.j0 k y0 y1 y2 y3 y4 y5) (laws_FnShares.j0 (k + 1) y0 y1 y2 y3 y4 y5)) ∧ (∀ y0 y1 y2 y3 y4 y5 y6, LeO (laws_FnShares.l0 k y0 y1 y2 y3 y4 y5 y6) (laws_FnShares.l0 (k + 1) y0 y1 y2 y3 y4 y5 y6)) ∧ (∀ y0 y1 y2 y3 y4 y5 y6 y7, LeO (laws_FnShares.j2 k y0 y1 y2 y3 y4 y5 y6 y7) (laws_FnShares.j2 (k + 1) y0 y1 y2 y3 y4 y5 y6 y7)) ∧ (∀ y0 y1 y2 y3 y4 y5 y6 y7, LeO (laws_FnShares.j3 k y0 y1 y2 y3 y4 y5 y6 y7) (laws_FnShares.j3 (k + 1) y0 y1 y2 y3 y4 y5 y6 y7)) ∧ (∀ y0 y1 y2 y3 y4 y5 y6 y7 y8, LeO (laws_FnShares.j4 k y0 y1 y2 y3 y4 y5 y6 y7 y8) (laws_FnShares.j4 (k + 1) y0 y1 y2 y3 y4 y5 y6 y7 y8))
  | 0 => ⟨fun _ _ _ _ _ _ r h => by simp [laws_FnShares.j0] at h, fun _ _ _ _ _ _ _ r h => by simp [laws_FnShares.l0] at h, fun _ _ _ _ _ _ _ _ r h => by simp [laws_FnShares.j2] at h, fun _ _ _ _ _ _ _ _ r h => by simp [laws_FnShares.j3] at h, fun _ _ _ _ _ _ _ _ _ r h => by simp [laws_FnShares.j4] at h⟩
  | k + 1 => by
    obtain ⟨ih0, ih1, ih2, ih3, ih4⟩ := laws_FnShares.mono_l k
    refine ⟨?_, ?_, ?_, ?_, ?_⟩
    · intro y0 y1 y2 y3 y4 y5
      unfold laws_FnShares.j0
      repeat' first
      | (with_reducible exact ih0 _ _ _ _ _ _)
      | (with_reducible exact ih1 _ _ _ _ _ _ _)
      | (with_reducible exact ih2 _ _ _ _ _ _ _ _)
      | (with_reducible exact ih3 _ _ _ _ _ _ _ _)
      | (with_reducible exact ih4 _ _ _ _ _ _ _ _ _)
      | (with_reducible exact impl_OrderStat.mono _ _ _)
      | (with_reducible exact impl_Share.mono _ _ _ _)
      | (with_reducible exact spec_DrawShare.mono _ _)
      | (with_reducible exact spec_Share.mono _ _ _ _)
      | (with_reducible exact LeO.refl _)
      | (with_reducible exact LeO.none _)
      | (with_reducible refine LeO.ite ?_ ?_)
      | (with_reducible refine LeO.bind ?_ (fun _ => ?_))
      | exact ih0 _ _ _ _ _ _
      | exact ih1 _ _ _ _ _ _ _
      | exact ih2 _ _ _ _ _ _ _ _
      | exact ih3 _ _ _ _ _ _ _ _
      | exact ih4 _ _ _ _ _ _ _ _ _
      | exact impl_OrderStat.mono _ _ _
      | exact impl_Share.mono _ _ _ _
      | exact spec_DrawShare.mono _ _
      | exact spec_Share.mono _ _ _ _
      | exact LeO.none _
      | refine LeO.ite ?_ ?_
      | refine LeO.bind ?_ (fun _ => ?_)
    · intro y0 y1 y2 y3 y4 y5 y6
      unfold laws_FnShares.l0
      repeat' first
      | (with_reducible exact ih0 _ _ _ _ _ _)
      | (with_reducible exact ih1 _ _ _ _ _ _ _)
      | (with_reducible exact ih2 _ _ _ _ _ _ _ _)
      | (with_reducible exact ih3 _ _ _ _ _ _ _ _)
      | (with_reducible exact ih4 _ _ _ _ _ _ _ _ _)
      | (with_reducible exact impl_OrderStat.mono _ _ _)
      | (with_reducible exact impl_Share.mono _ _ _ _)
      | (with_reducible exact spec_DrawShare.mono _ _)
      | (with_reducible exact spec_Share.mono _ _ _ _)
      | (with_reducible exact LeO.refl _)
      | (with_reducible exact LeO.none _)
      | (with_reducible refine LeO.ite ?_ ?_)
      | (with_reducible refine LeO.bind ?_ (fun _ => ?_))
      | exact ih0 _ _ _ _ _ _
      | exact ih1 _ _ _ _ _ _ _
      | exact ih2 _ _ _ _ _ _ _ _
      | exact ih3 _ _ _ _ _ _ _ _
      | exact ih4 _ _ _ _ _ _ _ _ _
      | exact impl_OrderStat.mono _ _ _
      | exact impl_Share.mono _ _ _ _
      | exact spec_DrawShare.mono _ _
      | exact spec_Share.mono _ _ _ _
      | exact LeO.none _
      | refine LeO.ite ?_ ?_
      | refine LeO.bind ?_ (fun _ => ?_)
    · intro y0 y1 y2 y3 y4 y5 y6 y7
      unfold laws_FnShares.j2
      repeat' first
      | (with_reducible exact ih0 _ _ _ _ _ _)
      | (with_reducible exact ih1 _ _ _ _ _ _ _)
      | (with_reducible exact ih2 _ _ _ _ _ _ _ _)
      | (with_reducible exact ih3 _ _ _ _ _ _ _ _)
      | (with_reducible exact ih4 _ _ _ _ _ _ _ _ _)
      | (with_reducible exact impl_OrderStat.mono _ _ _)
      | (with_reducible exact impl_Share.mono _ _ _ _)
      | (with_reducible exact spec_DrawShare.mono _ _)
      | (with_reducible exact spec_Share.mono _ _ _ _)
      | (with_reducible exact LeO.refl _)
      | (with_reducible exact LeO.none _)
      | (with_reducible refine LeO.ite ?_ ?_)
      | (with_reducible refine LeO.bind ?_ (fun _ => ?_))
      | exact ih0 _ _ _ _ _ _
      | exact ih1 _ _ _ _ _ _ _
      | exact ih2 _ _ _ _ _ _ _ _
      | exact ih3 _ _ _ _ _ _ _ _
      | exact ih4 _ _ _ _ _ _ _ _ _
      | exact impl_OrderStat.mono _ _ _
      | exact impl_Share.mono _ _ _ _
      | exact spec_DrawShare.mono _ _
      | exact spec_Share.mono _ _ _ _
      | exact LeO.none _
      | refine LeO.ite ?_ ?_
      | refine LeO.bind ?_ (fun _ => ?_)
    · intro y0 y1 y2 y3 y4 y5 y6 y7
      unfold laws_FnShares.j3
      repeat' first
      | (with_reducible exact ih0 _ _ _ _ _ _)
      | (with_reducible exact ih1 _ _ _ _ _ _ _)
      | (with_reducible exact ih2 _ _ _ _ _ _ _ _)
      | (with_reducible exact ih3 _ _ _ _ _ _ _ _)
      | (with_reducible exact ih4 _ _ _ _ _ _ _ _ _)
      | (with_reducible exact impl_OrderStat.mono _ _ _)
      | (with_reducible exact impl_Share.mono _ _ _ _)
      | (with_reducible exact spec_DrawShare.mono _ _)
      | (with_reducible exact spec_Share.mono _ _ _ _)
      | (with_reducible exact LeO.refl _)
      | (with_reducible exact LeO.none _)
      | (with_reducible refine LeO.ite ?_ ?_)
      | (with_reducible refine LeO.bind ?_ (fun _ => ?_))
      | exact ih0 _ _ _ _ _ _
      | exact ih1 _ _ _ _ _ _ _
      | exact ih2 _ _ _ _ _ _ _ _
      | exact ih3 _ _ _ _ _ _ _ _
      | exact ih4 _ _ _ _ _ _ _ _ _
      | exact impl_OrderStat.mono _ _ _
      | exact impl_Share.mono _ _ _ _
      | exact spec_DrawShare.mono _ _
      | exact spec_Share.mono _ _ _ _
      | exact LeO.none _
      | refine LeO.ite ?_ ?_
      | refine LeO.bind ?_ (fun _ => ?_)
    · intro y0 y1 y2 y3 y4 y5 y6 y7 y8
      unfold laws_FnShares.j4
      repeat' first
      | (with_reducible exact ih0 _ _ _ _ _ _)
      | (with_reducible exact ih1 _ _ _ _ _ _ _)
      | (with_reducible exact ih2 _ _ _ _ _ _ _ _)
      | (with_reducible exact ih3 _ _ _ _ _ _ _ _)
      | (with_reducible exact ih4 _ _ _ _ _ _ _ _ _)
      | (with_reducible exact impl_OrderStat.mono _ _ _)
      | (with_reducible exact impl_Share.mono _ _ _ _)
      | (with_reducible exact spec_DrawShare.mono _ _)
      | (with_reducible exact spec_Share.mono _ _ _ _)
      | (with_reducible exact LeO.refl _)
      | (with_reducible exact LeO.none _)
      | (with_reducible refine LeO.ite ?_ ?_)
      | (with_reducible refine LeO.bind ?_ (fun _ => ?_))
      | exact ih0 _ _ _ _ _ _
      | exact ih1 _ _ _ _ _ _ _
      | exact ih2 _ _ _ _ _ _ _ _
      | exact ih3 _ _ _ _ _ _ _ _
      | exact ih4 _ _ _ _ _ _ _ _ _
      | exact impl_OrderStat.mono _ _ _
      | exact impl_Share.mono _ _ _ _
      | exact spec_DrawShare.mono _ _
      | exact spec_Share.mono _ _ _ _
      | exact LeO.none _
      | refine LeO.ite ?_ ?_
      | refine LeO.bind ?_ (fun _ => ?_)
theorem laws_FnShares.mono : ∀ a0 k, LeO (laws_FnShares.f k a0) (laws_FnShares.f (k + 1) a0) := by
  intro a0 k
  obtain ⟨ih0, ih1, ih2, ih3, ih4⟩ := laws_FnShares.mono_l k
  unfold laws_FnShares.f
  repeat' first
      | (with_reducible exact ih0 _ _ _ _ _ _)
      | (with_reducible exact ih1 _ _ _ _ _ _ _)
      | (with_reducible exact ih2 _ _ _ _ _ _ _ _)
      | (with_reducible exact ih3 _ _ _ _ _ _ _ _)
      | (with_reducible exact ih4 _ _ _ _ _ _ _ _ _)
      | (with_reducible exact impl_OrderStat.mono _ _ _)
      | (with_reducible exact impl_Share.mono _ _ _ _)
      | (with_reducible exact spec_DrawShare.mono _ _)
      | (with_reducible exact spec_Share.mono _ _ _ _)
      | (with_reducible exact LeO.refl _)
      | (with_reducible exact LeO.none _)
      | (with_reducible refine LeO.ite ?_ ?_)
      | (with_reducible refine LeO.bind ?_ (fun _ => ?_))
      | exact ih0 _ _ _ _ _ _
      | exact ih1 _ _ _ _ _ _ _
      | exact ih2 _ _ _ _ _ _ _ _
      | exact ih3 _ _ _ _ _ _ _ _
      | exact ih4 _ _ _ _ _ _ _ _ _
      | exact impl_OrderStat.mono _ _ _
      | exact impl_Share.mono _ _ _ _
      | exact spec_DrawShare.mono _ _
      | exact spec_Share.mono _ _ _ _
      | exact LeO.none _
      | refine LeO.ite ?_ ?_
      | refine LeO.bind ?_ (fun _ => ?_)
set_option maxHeartbeats 8000000 in
set_option maxRecDepth 100000 in
theorem laws_FnShares.calls (k : Nat) (A0 : Option Addr) (c0 : Nat) (l0 : List Int) (r : Bool) (w : World) (hr0 : Kd.C (Kd.int .u8) w A0 l0.length l0) (hc0 : l0.length ≤ c0) (h : laws_FnShares.f k l0 = some r) :
    Calls Try.prog 7 #[.slice A0 l0.length c0] w fun e w' => e = .returned (.bool r) ∧ Below w.heap.size w w' := by
  have HR0 := Aside0.mk hr0
  have HC0 := Aside0.mk hc0
  clear hr0 hc0
  have HB := Aside0.mk (Below.refl w.heap.size w)
  have H : ((laws_big.f l0).bind fun t203 => (if t203 = true then (some true) else ((spec_DrawShare.f k l0).bind fun bt204 => ((spec_Share.f k bt204.1 bt204.2.1 bt204.2.2).bind fun bt209 => ((impl_Share.f k bt204.1 bt204.2.1 bt204.2.2).bind fun bt211 => (if (bt211.2 != bt209.2) = true then (laws_FnShares.j0 k bt204.1 bt204.2.1 bt204.2.2 bt209.2 bt211.1 true) else (laws_FnShares.j0 k bt204.1 bt204.2.1 bt204.2.2 bt209.2 bt211.1 (bt211.1 != bt209.1)))))))) = some r := h
  clear h
  replace H := Option.bind_eq_some_iff.mp H
  obtain ⟨t203, A20, H⟩ := H
  replace H : (if t203 = true then (some true) else ((spec_DrawShare.f k l0).bind fun bt204 => ((spec_Share.f k bt204.1 bt204.2.1 bt204.2.2).bind fun bt209 => ((impl_Share.f k bt204.1 bt204.2.1 bt204.2.2).bind fun bt211 => (if (bt211.2 != bt209.2) = true then (laws_FnShares.j0 k bt204.1 bt204.2.1 bt204.2.2 bt209.2 bt211.1 true) else (laws_FnShares.j0 k bt204.1 bt204.2.1 bt204.2.2 bt209.2 bt211.1 (bt211.1 != bt209.1))))))) = some r := H
  have A2 := Aside0.mk A20
  clear A20
  by_cases c3 : t203 = true
  · subst c3
    have H1 : (some true) = some r := by rw [if_pos rfl] at H; exact H
    clear H
    have H := H1
    clear H1
    obtain rfl := Option.some.inj H
    go_enter Try.func7, Try.ntmps7
    go_wp2_with (first | ((with_reducible refine gate_callee (f := 8) rfl ?_); refine goesL_ (some 16) rfl rfl Try.func8 (by kernel_rfl) rfl #[.slice A0 l0.length c0] rfl (by (try simp only [List.map_toArray, List.map_cons, List.map_nil]); first | done | rfl | (simp only [List.length_drop, List.length_take]; rfl)) ?_; (with_reducible refine (laws_big.calls _ _ l0 true _ ?side1 ?side2 A2.out).mono ?_); (case side1 => repeat (first | exact HR0.out | (with_reducible refine Kd.C_alloc ?_ _) | (with_reducible refine Kd.C_drewN ?_ _) | (with_reducible refine Kd.C_drew ?_))); (case side2 => exact HC0.out); rintro e w' ⟨rfl, ⟨nd, rfl⟩⟩; refine ⟨_, rfl, ?_⟩))
    go_ret
    exact ⟨by first | rfl | (simp [errW_none, errW_some] <;> rfl) | (simp [*, errW_none, errW_some] <;> rfl), by repeat (first | (with_reducible first | exact HB.out | apply below_alloc | apply pw_below_drewN | apply below_drew1) | exact HB.out)⟩
  · replace c3 := Bool.eq_false_iff.mpr c3
    subst c3
    have H1 : ((spec_DrawShare.f k l0).bind fun bt204 => ((spec_Share.f k bt204.1 bt204.2.1 bt204.2.2).bind fun bt209 => ((impl_Share.f k bt204.1 bt204.2.1 bt204.2.2).bind fun bt211 => (if (bt211.2 != bt209.2) = true then (laws_FnShares.j0 k bt204.1 bt204.2.1 bt204.2.2 bt209.2 bt211.1 true) else (laws_FnShares.j0 k bt204.1 bt204.2.1 bt204.2.2 bt209.2 bt211.1 (bt211.1 != bt209.1)))))) = some r := by rw [if_neg (show ¬ (false = true) by decide)] at H; exact H
    clear H
    have H := H1
    clear H1
    replace H := Option.bind_eq_some_iff.mp H
    obtain ⟨⟨t204, t205, t206⟩, A40, H⟩ := H
    replace H : ((spec_Share.f k t204 t205 t206).bind fun bt209 => ((impl_Share.f k t204 t205 t206).bind fun bt211 => (if (bt211.2 != bt209.2) = true then (laws_FnShares.j0 k t204 t205 t206 bt209.2 bt211.1 true) else (laws_FnShares.j0 k t204 t205 t206 bt209.2 bt211.1 (bt211.1 != bt209.1))))) = some r := H
    have A4 := Aside0.mk A40
    clear A40
    replace H := Option.bind_eq_some_iff.mp H
    obtain ⟨⟨t209, t210⟩, A50, H⟩ := H
    replace H : ((impl_Share.f k t204 t205 t206).bind fun bt211 => (if (bt211.2 != t210) = true then (laws_FnShares.j0 k t204 t205 t206 t210 bt211.1 true) else (laws_FnShares.j0 k t204 t205 t206 t210 bt211.1 (bt211.1 != t209)))) = some r := H
    have A5 := Aside0.mk A50
    clear A50
    replace H := Option.bind_eq_some_iff.mp H
    obtain ⟨⟨t211, t212⟩, A60, H⟩ := H
    replace H : (if (t212 != t210) = true then (laws_FnShares.j0 k t204 t205 t206 t210 t211 true) else (laws_FnShares.j0 k t204 t205 t206 t210 t211 (t211 != t209))) = some r := H
    have A6 := Aside0.mk A60
    clear A60
    have HC7 := Aside0.mk H
    clear H
    go_enter Try.func7, Try.ntmps7
    go_upto_region 6 with (first | ((with_reducible refine gate_callee (f := 8) rfl ?_); refine goesL_ (some 16) rfl rfl Try.func8 (by kernel_rfl) rfl #[.slice A0 l0.length c0] rfl (by (try simp only [List.map_toArray, List.map_cons, List.map_nil]); first | done | rfl | (simp only [List.length_drop, List.length_take]; rfl)) ?_; (with_reducible refine (laws_big.calls _ _ l0 false _ ?side1 ?side2 A2.out).mono ?_); (case side1 => repeat (first | exact HR0.out | (with_reducible refine Kd.C_alloc ?_ _) | (with_reducible refine Kd.C_drewN ?_ _) | (with_reducible refine Kd.C_drew ?_))); (case side2 => exact HC0.out); rintro e w' ⟨rfl, ⟨nd, rfl⟩⟩; refine ⟨_, rfl, ?_⟩) | ((with_reducible refine gate_callee (f := 25) rfl ?_); refine goesL_ (some 19) rfl rfl Try.func25 (by kernel_rfl) rfl #[.slice A0 l0.length c0] rfl (by (try simp only [List.map_toArray, List.map_cons, List.map_nil]); first | done | rfl | (simp only [List.length_drop, List.length_take]; rfl)) ?_; (with_reducible refine (spec_DrawShare.calls k _ _ l0 t204 t205 t206 _ ?side1 ?side2 A4.out).mono ?_); (case side1 => repeat (first | exact HR0.out | (with_reducible refine Kd.C_alloc ?_ _) | (with_reducible refine Kd.C_drewN ?_ _) | (with_reducible refine Kd.C_drew ?_))); (case side2 => exact HC0.out); rintro e w8 ⟨v207, rfl, ho0, hb⟩; refine ⟨_, rfl, ?_⟩; have n0_ := Aside0.mk (Kd.R_lower ho0 (below_size (by repeat (first | (with_reducible first | exact HB.out | apply below_alloc | apply pw_below_drewN | apply below_drew1) | exact HB.out)))); have n1_ := Aside0.mk (below_step (by repeat (first | (with_reducible first | exact HB.out | apply below_alloc | apply pw_below_drewN | apply below_drew1) | exact HB.out)) hb); clear HB; have HO208 := n0_; have HB := n1_; clear n0_ n1_; (try clear hb); (try clear hb2); (try clear hk); (try clear hi); (try clear ho0); obtain ⟨Ao9, co9, eo9⟩ := Kd.R_slice HO208.out; subst eo9) | ((with_reducible refine gate_callee (f := 23) rfl ?_); refine goesL_ (some 27) rfl rfl Try.func23 (by kernel_rfl) rfl #[.slice Ao9 t204.length co9, .int .i64 t205, .int .i64 t206] rfl (by (try simp only [List.map_toArray, List.map_cons, List.map_nil]); first | done | rfl | (simp only [List.length_drop, List.length_take]; rfl)) ?_; (with_reducible refine (spec_Share.calls k _ _ t204 t205 t206 t209 t210 _ ?side1 ?side2 A5.out).mono ?_); (case side1 => repeat (first | exact (Kd.R_reads' HO208.out).2.2 | (with_reducible refine Kd.C_alloc ?_ _) | (with_reducible refine Kd.C_drewN ?_ _) | (with_reducible refine Kd.C_drew ?_))); (case side2 => exact (Kd.R_reads' HO208.out).2.1); rintro e w' ⟨rfl, ⟨nd, rfl⟩⟩; refine ⟨_, rfl, ?_⟩) | ((with_reducible refine gate_callee (f := 24) rfl ?_); refine goesL_ (some 34) rfl rfl Try.func24 (by kernel_rfl) rfl #[.slice Ao9 t204.length co9, .int .i64 t205, .int .i64 t206] rfl (by (try simp only [List.map_toArray, List.map_cons, List.map_nil]); first | done | rfl | (simp only [List.length_drop, List.length_take]; rfl)) ?_; (with_reducible refine (impl_Share.calls k _ _ t204 t205 t206 t211 t212 _ ?side1 ?side2 A6.out).mono ?_); (case side1 => repeat (first | exact (Kd.R_reads' HO208.out).2.2 | (with_reducible refine Kd.C_alloc ?_ _) | (with_reducible refine Kd.C_drewN ?_ _) | (with_reducible refine Kd.C_drew ?_))); (case side2 => exact (Kd.R_reads' HO208.out).2.1); rintro e w10 ⟨rfl, hb⟩; refine ⟨_, rfl, ?_⟩; have n0_ := Aside0.mk (Kd.R_below (by (with_reducible repeat (first | apply Kd.R_alloc | apply Kd.R_drewN | apply Kd.R_drew)); exact HO208.out) hb); have n1_ := Aside0.mk (below_step (by repeat (first | (with_reducible first | exact HB.out | apply below_alloc | apply pw_below_drewN | apply below_drew1) | exact HB.out)) hb); clear HO208; clear HB; have HO208 := n0_; have HB := n1_; clear n0_ n1_; (try clear hb); (try clear hb2); (try clear hk); (try clear hi)))
    (try simp only [Act.put, List.setIfInBounds_toArray, List.set_cons_zero, List.set_cons_succ])
    go_cut [44] (fun v44 wc => ∃ (kq : Nat) (x44_6 : Bool), v44 = .bool x44_6 ∧ Aside0 (laws_FnShares.j0 kq t204 t205 t206 t210 t211 x44_6 = some r) ∧ Aside0 (kq ≤ k) ∧ Aside0 (Kd.R (Kd.int .i64) 2 wc w.heap.size (fun _ => True) (.slice Ao9 t204.length co9) t204) ∧ Aside0 (Below w.heap.size w wc))
    case first =>
      have H := HC7.out
      clear HC7
      by_cases c11 : (t212 != t210) = true
      · rw [if_pos c11] at H
        have c11b0 : (t212 != t210) = true := c11
        (try (have c11b1 : decide (t212 = t210) = false := by simpa using c11))
        (try (have c11b2 : (t212 == t210) = false := by simpa using c11))
        (try (have c11b3 : ¬ (t212 = t210) := by simpa using c11))
        clear c11
        (first | rw [c11b0] | (simp only [i64_w, i32_w]; rw [c11b0]) | skip)
        have H' := Aside0.mk H
        clear H
        go_wp2
        go_meet
        case rel => exact ⟨_, (true), (by first | rfl | (simp; done) | (simp [*]; done)), H', ⟨by first | omega | exact Nat.le_refl _⟩, ⟨by (with_reducible repeat (first | apply Kd.R_alloc | apply Kd.R_drewN | apply Kd.R_drew)); exact HO208.out⟩, ⟨by repeat (first | (with_reducible first | exact HB.out | apply below_alloc | apply pw_below_drewN | apply below_drew1) | exact HB.out)⟩⟩
      · rw [if_neg c11] at H
        have c11b0 : (t212 != t210) = false := by simpa using c11
        (try (have c11b1 : decide (t212 = t210) = true := by simpa using c11))
        (try (have c11b2 : (t212 == t210) = true := by simpa using c11))
        clear c11
        (first | rw [c11b0] | (simp only [i64_w, i32_w]; rw [c11b0]) | skip)
        have H' := Aside0.mk H
        clear H
        go_wp2
        go_meet
        case rel => exact ⟨_, ((t211 != t209)), (by first | rfl | (simp; done) | (simp [*]; done)), H', ⟨by first | omega | exact Nat.le_refl _⟩, ⟨by (with_reducible repeat (first | apply Kd.R_alloc | apply Kd.R_drewN | apply Kd.R_drew)); exact HO208.out⟩, ⟨by repeat (first | (with_reducible first | exact HB.out | apply below_alloc | apply pw_below_drewN | apply below_drew1) | exact HB.out)⟩⟩
    case rest =>
      clear HC7
      try clear c1
      try clear c2
      try clear p2
      try clear c3
      try clear c7
      try clear c8
      try clear c11
      try clear c11b0
      try clear c11b1
      try clear c11b2
      obtain ⟨kq, x44_6, rfl, HA, HJ6, HO_3, HB⟩ := hcut
      cases kq with
      | zero => exact absurd HA.out (by simp [laws_FnShares.j0])
      | succ kj6 =>
        have H := HA.out
        clear HA
        simp only [laws_FnShares.j0] at H
        by_cases c12 : x44_6 = true
        · subst c12
          have H1 : (some false) = some r := by rw [if_pos rfl] at H; exact H
          clear H
          have H := H1
          clear H1
          obtain rfl := Option.some.inj H
          go_wp2
          go_ret
          exact ⟨by first | rfl | (simp [errW_none, errW_some] <;> rfl) | (simp [*, errW_none, errW_some] <;> rfl), by repeat (first | (with_reducible first | exact HB.out | apply below_alloc | apply pw_below_drewN | apply below_drew1) | exact HB.out)⟩
        · replace c12 := Bool.eq_false_iff.mpr c12
          subst c12
          have H1 : (if t210 = true then (laws_FnShares.l0 kj6 t204 t205 t206 t211 (-100001) false 1) else (some true)) = some r := by rw [if_neg (show ¬ (false = true) by decide)] at H; exact H
          clear H
          have H := H1
          clear H1
          by_cases c13 : t210 = true
          · subst c13
            have H1 : (laws_FnShares.l0 kj6 t204 t205 t206 t211 (-100001) false 1) = some r := by rw [if_pos rfl] at H; exact H
            clear H
            have H := H1
            clear H1
            have H' := Aside0.mk H
            clear H
            go_wp2
            go_loopg [10, 11, 12] kj6 (fun kq v10 v11 v12 w' => ∃ (x10_2 : Int) (x11_2 : Bool) (x12_2 : Int), v10 = .int .i64 x10_2 ∧ v11 = .bool x11_2 ∧ v12 = .int .i64 x12_2 ∧ Aside0 (laws_FnShares.l0 kq t204 t205 t206 t211 x10_2 x11_2 x12_2 = some r) ∧ Aside0 (kq ≤ kj6) ∧ Aside0 (Kd.R (Kd.int .i64) 2 w' w.heap.size (fun _ => True) (.slice Ao9 t204.length co9) t204) ∧ Aside0 (Below w.heap.size w w'))
            case atStart => exact ⟨((-100001)), (false), (1), (by first | rfl | (simp; done) | (simp [*]; done)), (by first | rfl | (simp; done) | (simp [*]; done)), (by first | rfl | (simp; done) | (simp [*]; done)), H', ⟨Nat.le_refl _⟩, ⟨by (with_reducible repeat (first | apply Kd.R_alloc | apply Kd.R_drewN | apply Kd.R_drew)); exact HO_3.out⟩, ⟨by repeat (first | (with_reducible first | exact HB.out | apply below_alloc | apply pw_below_drewN | apply below_drew1) | exact HB.out)⟩⟩
            case round =>
              clear H'
              try clear c1
              try clear c2
              try clear p2
              try clear c3
              try clear c7
              try clear c8
              try clear c11
              try clear c11b0
              try clear c11b1
              try clear c11b2
              try clear c12
              try clear c13
              try clear p2
              obtain ⟨x10_2, x11_2, x12_2, rfl, rfl, rfl, HA, HK2, HO_3, HB⟩ := hrel
              cases gk with
              | zero => exact absurd HA.out (by simp [laws_FnShares.l0])
              | succ k2 =>
                have H := HA.out
                clear HA
                simp only [laws_FnShares.l0] at H
                have HC14 := Aside0.mk H
                clear H
                go_upto_region 13 with (fail)
                go_cut [54] (fun v54 wc => ∃ (kq : Nat) (x54_13 : Bool), v54 = .bool x54_13 ∧ Aside0 (laws_FnShares.j2 kq t204 t205 t206 t211 x10_2 x11_2 x12_2 x54_13 = some r) ∧ Aside0 (kq ≤ k2) ∧ Aside0 (Kd.R (Kd.int .i64) 2 wc w.heap.size (fun _ => True) (.slice Ao9 t204.length co9) t204) ∧ Aside0 (Below w.heap.size w wc))
                case first =>
                  have H := HC14.out
                  clear HC14
                  by_cases c15 : x12_2 ≤ (t204.length : Int)
                  · rw [if_pos c15] at H
                    have c15b0 : decide (x12_2 ≤ (t204.length : Int)) = true := decide_eq_true c15
                    clear c15
                    (first | rw [c15b0] | (simp only [i64_w, i32_w]; rw [c15b0]) | skip)
                    have H' := Aside0.mk H
                    clear H
                    go_wp2
                    go_meet
                    case rel => exact ⟨_, (decide (x12_2 ≤ 60)), (by first | rfl | (simp; done) | (simp [*]; done)), H', ⟨by have := HJ6.out; have := HK2.out; first | omega | exact Nat.le_refl _⟩, ⟨by (with_reducible repeat (first | apply Kd.R_alloc | apply Kd.R_drewN | apply Kd.R_drew)); exact HO_3.out⟩, ⟨by repeat (first | (with_reducible first | exact HB.out | apply below_alloc | apply pw_below_drewN | apply below_drew1) | exact HB.out)⟩⟩
                  · rw [if_neg c15] at H
                    have c15b0 : decide (x12_2 ≤ (t204.length : Int)) = false := decide_eq_false c15
                    clear c15
                    (first | rw [c15b0] | (simp only [i64_w, i32_w]; rw [c15b0]) | skip)
                    have H' := Aside0.mk H
                    clear H
                    go_wp2
                    go_meet
                    case rel => exact ⟨_, (false), (by first | rfl | (simp; done) | (simp [*]; done)), H', ⟨by have := HJ6.out; have := HK2.out; first | omega | exact Nat.le_refl _⟩, ⟨by (with_reducible repeat (first | apply Kd.R_alloc | apply Kd.R_drewN | apply Kd.R_drew)); exact HO_3.out⟩, ⟨by repeat (first | (with_reducible first | exact HB.out | apply below_alloc | apply pw_below_drewN | apply below_drew1) | exact HB.out)⟩⟩
                case rest =>
                  clear HC14
                  try clear c1
                  try clear c2
                  try clear p2
                  try clear c3
                  try clear c7
                  try clear c8
                  try clear c11
                  try clear c11b0
                  try clear c11b1
                  try clear c11b2
                  try clear c12
                  try clear c13
                  try clear c15
                  try clear c15b0
                  try clear p2
                  obtain ⟨kq, x54_13, rfl, HA, HJ13, HO_3, HB⟩ := hcut
                  cases kq with
                  | zero => exact absurd HA.out (by simp [laws_FnShares.j2])
                  | succ kj13 =>
                    have H := HA.out
                    clear HA
                    simp only [laws_FnShares.j2] at H
                    by_cases c16 : x54_13 = true
                    · subst c16
                      have H1 : ((impl_OrderStat.f kj13 t204 x12_2).bind fun bt213 => (if bt213.2 = true then (laws_FnShares.j3 kj13 t204 t205 t206 t211 x11_2 x12_2 bt213.1 (decide (bt213.1 < x10_2))) else (laws_FnShares.j3 kj13 t204 t205 t206 t211 x11_2 x12_2 bt213.1 true))) = some r := by rw [if_pos rfl] at H; exact H
                      clear H
                      have H := H1
                      clear H1
                      replace H := Option.bind_eq_some_iff.mp H
                      obtain ⟨⟨t213, t214⟩, A170, H⟩ := H
                      replace H : (if t214 = true then (laws_FnShares.j3 kj13 t204 t205 t206 t211 x11_2 x12_2 t213 (decide (t213 < x10_2))) else (laws_FnShares.j3 kj13 t204 t205 t206 t211 x11_2 x12_2 t213 true)) = some r := H
                      have A17 := Aside0.mk A170
                      clear A170
                      have HC18 := Aside0.mk H
                      clear H
                      go_upto_region 16 with (first | ((with_reducible refine gate_callee (f := 21) rfl ?_); refine goesL_ (some 60) rfl rfl Try.func21 (by kernel_rfl) rfl #[.slice Ao9 t204.length co9, .int .i64 x12_2] rfl (by (try simp only [List.map_toArray, List.map_cons, List.map_nil]); first | done | rfl | (simp only [List.length_drop, List.length_take]; rfl)) ?_; (with_reducible refine (impl_OrderStat.calls kj13 _ _ t204 x12_2 t213 t214 _ ?side1 ?side2 A17.out).mono ?_); (case side1 => repeat (first | exact (Kd.R_reads' HO_3.out).2.2 | (with_reducible refine Kd.C_alloc ?_ _) | (with_reducible refine Kd.C_drewN ?_ _) | (with_reducible refine Kd.C_drew ?_))); (case side2 => exact (Kd.R_reads' HO_3.out).2.1); rintro e w19 ⟨rfl, hb⟩; refine ⟨_, rfl, ?_⟩; have n0_ := Aside0.mk (Kd.R_below (by (with_reducible repeat (first | apply Kd.R_alloc | apply Kd.R_drewN | apply Kd.R_drew)); exact HO_3.out) hb); have n1_ := Aside0.mk (below_step (by repeat (first | (with_reducible first | exact HB.out | apply below_alloc | apply pw_below_drewN | apply below_drew1) | exact HB.out)) hb); clear HO_3; clear HB; have HO_3 := n0_; have HB := n1_; clear n0_ n1_; (try clear hb); (try clear hb2); (try clear hk); (try clear hi)))
                      (try simp only [Act.put, List.setIfInBounds_toArray, List.set_cons_zero, List.set_cons_succ])
                      go_cut [69] (fun v69 wc => ∃ (kq : Nat) (x69_17 : Bool), v69 = .bool x69_17 ∧ Aside0 (laws_FnShares.j3 kq t204 t205 t206 t211 x11_2 x12_2 t213 x69_17 = some r) ∧ Aside0 (kq ≤ kj13) ∧ Aside0 (Kd.R (Kd.int .i64) 2 wc w.heap.size (fun _ => True) (.slice Ao9 t204.length co9) t204) ∧ Aside0 (Below w.heap.size w wc))
                      case first =>
                        have H := HC18.out
                        clear HC18
                        by_cases c20 : t214 = true
                        · subst c20
                          have H1 : (laws_FnShares.j3 kj13 t204 t205 t206 t211 x11_2 x12_2 t213 (decide (t213 < x10_2))) = some r := by rw [if_pos rfl] at H; exact H
                          clear H
                          have H := H1
                          clear H1
                          have H' := Aside0.mk H
                          clear H
                          go_wp2
                          go_meet
                          case rel => exact ⟨_, (decide (t213 < x10_2)), (by first | rfl | (simp; done) | (simp [*]; done)), H', ⟨by have := HJ6.out; have := HK2.out; have := HJ13.out; first | omega | exact Nat.le_refl _⟩, ⟨by (with_reducible repeat (first | apply Kd.R_alloc | apply Kd.R_drewN | apply Kd.R_drew)); exact HO_3.out⟩, ⟨by repeat (first | (with_reducible first | exact HB.out | apply below_alloc | apply pw_below_drewN | apply below_drew1) | exact HB.out)⟩⟩
                        · replace c20 := Bool.eq_false_iff.mpr c20
                          subst c20
                          have H1 : (laws_FnShares.j3 kj13 t204 t205 t206 t211 x11_2 x12_2 t213 true) = some r := by rw [if_neg (show ¬ (false = true) by decide)] at H; exact H
                          clear H
                          have H := H1
                          clear H1
                          have H' := Aside0.mk H
                          clear H
                          go_wp2
                          go_meet
                          case rel => exact ⟨_, (true), (by first | rfl | (simp; done) | (simp [*]; done)), H', ⟨by have := HJ6.out; have := HK2.out; have := HJ13.out; first | omega | exact Nat.le_refl _⟩, ⟨by (with_reducible repeat (first | apply Kd.R_alloc | apply Kd.R_drewN | apply Kd.R_drew)); exact HO_3.out⟩, ⟨by repeat (first | (with_reducible first | exact HB.out | apply below_alloc | apply pw_below_drewN | apply below_drew1) | exact HB.out)⟩⟩
                      case rest =>
                        clear HC18
                        try clear c1
                        try clear c2
                        try clear p2
                        try clear c3
                        try clear c7
                        try clear c8
                        try clear c11
                        try clear c11b0
                        try clear c11b1
                        try clear c11b2
                        try clear c12
                        try clear c13
                        try clear c15
                        try clear c15b0
                        try clear c16
                        try clear c20
                        try clear p2
                        obtain ⟨kq, x69_17, rfl, HA, HJ17, HO_3, HB⟩ := hcut
                        cases kq with
                        | zero => exact absurd HA.out (by simp [laws_FnShares.j3])
                        | succ kj17 =>
                          have H := HA.out
                          clear HA
                          simp only [laws_FnShares.j3] at H
                          by_cases c21 : x69_17 = true
                          · subst c21
                            have H1 : (some false) = some r := by rw [if_pos rfl] at H; exact H
                            clear H
                            have H := H1
                            clear H1
                            obtain rfl := Option.some.inj H
                            go_wp2
                            go_ret
                            exact ⟨by first | rfl | (simp [errW_none, errW_some] <;> rfl) | (simp [*, errW_none, errW_some] <;> rfl), by repeat (first | (with_reducible first | exact HB.out | apply below_alloc | apply pw_below_drewN | apply below_drew1) | exact HB.out)⟩
                          · replace c21 := Bool.eq_false_iff.mpr c21
                            subst c21
                            have H1 : (if x11_2 = true then (laws_FnShares.j4 kj17 t204 t205 t206 t211 t213 x11_2 x12_2 t213 false) else (laws_FnShares.j4 kj17 t204 t205 t206 t211 t213 x11_2 x12_2 t213 (decide ((wrap64 (x12_2 * t206)) ≥ (wrap64 (t205 * (t204.length : Int))))))) = some r := by rw [if_neg (show ¬ (false = true) by decide)] at H; exact H
                            clear H
                            have H := H1
                            clear H1
                            have HC22 := Aside0.mk H
                            clear H
                            go_upto_region 19 with (fail)
                            go_cut [82] (fun v82 wc => ∃ (kq : Nat) (x82_21 : Bool), v82 = .bool x82_21 ∧ Aside0 (laws_FnShares.j4 kq t204 t205 t206 t211 t213 x11_2 x12_2 t213 x82_21 = some r) ∧ Aside0 (kq ≤ kj17) ∧ Aside0 (Kd.R (Kd.int .i64) 2 wc w.heap.size (fun _ => True) (.slice Ao9 t204.length co9) t204) ∧ Aside0 (Below w.heap.size w wc))
                            case first =>
                              have H := HC22.out
                              clear HC22
                              by_cases c23 : x11_2 = true
                              · subst c23
                                have H1 : (laws_FnShares.j4 kj17 t204 t205 t206 t211 t213 true x12_2 t213 false) = some r := by rw [if_pos rfl] at H; exact H
                                clear H
                                have H := H1
                                clear H1
                                have H' := Aside0.mk H
                                clear H
                                go_wp2
                                go_meet
                                case rel => exact ⟨_, (false), (by first | rfl | (simp; done) | (simp [*]; done)), H', ⟨by have := HJ6.out; have := HK2.out; have := HJ13.out; have := HJ17.out; first | omega | exact Nat.le_refl _⟩, ⟨by (with_reducible repeat (first | apply Kd.R_alloc | apply Kd.R_drewN | apply Kd.R_drew)); exact HO_3.out⟩, ⟨by repeat (first | (with_reducible first | exact HB.out | apply below_alloc | apply pw_below_drewN | apply below_drew1) | exact HB.out)⟩⟩
                              · replace c23 := Bool.eq_false_iff.mpr c23
                                subst c23
                                have H1 : (laws_FnShares.j4 kj17 t204 t205 t206 t211 t213 false x12_2 t213 (decide ((wrap64 (x12_2 * t206)) ≥ (wrap64 (t205 * (t204.length : Int)))))) = some r := by rw [if_neg (show ¬ (false = true) by decide)] at H; exact H
                                clear H
                                have H := H1
                                clear H1
                                have H' := Aside0.mk H
                                clear H
                                go_wp2
                                go_meet
                                case rel => exact ⟨_, (decide ((wrap64 (x12_2 * t206)) ≥ (wrap64 (t205 * (t204.length : Int))))), (by first | rfl | (simp; done) | (simp [*]; done)), H', ⟨by have := HJ6.out; have := HK2.out; have := HJ13.out; have := HJ17.out; first | omega | exact Nat.le_refl _⟩, ⟨by (with_reducible repeat (first | apply Kd.R_alloc | apply Kd.R_drewN | apply Kd.R_drew)); exact HO_3.out⟩, ⟨by repeat (first | (with_reducible first | exact HB.out | apply below_alloc | apply pw_below_drewN | apply below_drew1) | exact HB.out)⟩⟩
                            case rest =>
                              clear HC22
                              try clear c1
                              try clear c2
                              try clear p2
                              try clear c3
                              try clear p6
                              try clear c7
                              try clear c8
                              try clear c11
                              try clear c11b0
                              try clear c11b1
                              try clear c11b2
                              try clear c12
                              try clear c13
                              try clear c15
                              try clear c15b0
                              try clear c16
                              try clear c20
                              try clear c21
                              try clear c23
                              try clear p2
                              obtain ⟨kq, x82_21, rfl, HA, HJ21, HO_3, HB⟩ := hcut
                              cases kq with
                              | zero => exact absurd HA.out (by simp [laws_FnShares.j4])
                              | succ kj21 =>
                                have H := HA.out
                                clear HA
                                simp only [laws_FnShares.j4] at H
                                by_cases c24 : x82_21 = true
                                · subst c24
                                  have H1 : (if t213 = t211 then (laws_FnShares.l0 kj21 t204 t205 t206 t211 t213 true (wrap64 (x12_2 + 1))) else (some false)) = some r := by rw [if_pos rfl] at H; exact H
                                  clear H
                                  have H := H1
                                  clear H1
                                  by_cases c25 : t213 = t211
                                  · rw [if_pos c25] at H
                                    have c25b0 : (t213 == t211) = true := beq_iff_eq.mpr c25
                                    have c25b1 : (t213 != t211) = false := bne_eq_false_iff_eq.mpr c25
                                    clear c25
                                    have H' := Aside0.mk H
                                    clear H
                                    go_wp2
                                    go_roundg kj21
                                    case measure => have := HJ6.out; have := HK2.out; have := HJ13.out; have := HJ17.out; have := HJ21.out; omega
                                    case rel => exact ⟨(t213), (true), (wrap64 (x12_2 + 1)), (by first | rfl | (simp; done) | (simp [*]; done)), (by first | rfl | (simp; done) | (simp [*]; done)), (by first | rfl | (simp; done) | (simp [*]; done)), H', ⟨by have := HJ6.out; have := HK2.out; have := HJ13.out; have := HJ17.out; have := HJ21.out; omega⟩, ⟨by (with_reducible repeat (first | apply Kd.R_alloc | apply Kd.R_drewN | apply Kd.R_drew)); exact HO_3.out⟩, ⟨by repeat (first | (with_reducible first | exact HB.out | apply below_alloc | apply pw_below_drewN | apply below_drew1) | exact HB.out)⟩⟩
                                  · rw [if_neg c25] at H
                                    have c25b0 : (t213 == t211) = false := beq_eq_false_iff_ne.mpr c25
                                    have c25b1 : (t213 != t211) = true := bne_iff_ne.mpr c25
                                    obtain rfl := Option.some.inj H
                                    go_wp2
                                    go_ret
                                    exact ⟨by first | rfl | (simp [errW_none, errW_some] <;> rfl) | (simp [*, errW_none, errW_some] <;> rfl), by repeat (first | (with_reducible first | exact HB.out | apply below_alloc | apply pw_below_drewN | apply below_drew1) | exact HB.out)⟩
                                · replace c24 := Bool.eq_false_iff.mpr c24
                                  subst c24
                                  have H1 : (laws_FnShares.l0 kj21 t204 t205 t206 t211 t213 x11_2 (wrap64 (x12_2 + 1))) = some r := by rw [if_neg (show ¬ (false = true) by decide)] at H; exact H
                                  clear H
                                  have H := H1
                                  clear H1
                                  have H' := Aside0.mk H
                                  clear H
                                  go_wp2
                                  go_roundg kj21
                                  case measure => have := HJ6.out; have := HK2.out; have := HJ13.out; have := HJ17.out; have := HJ21.out; omega
                                  case rel => exact ⟨(t213), (x11_2), (wrap64 (x12_2 + 1)), (by first | rfl | (simp; done) | (simp [*]; done)), (by first | rfl | (simp; done) | (simp [*]; done)), (by first | rfl | (simp; done) | (simp [*]; done)), H', ⟨by have := HJ6.out; have := HK2.out; have := HJ13.out; have := HJ17.out; have := HJ21.out; omega⟩, ⟨by (with_reducible repeat (first | apply Kd.R_alloc | apply Kd.R_drewN | apply Kd.R_drew)); exact HO_3.out⟩, ⟨by repeat (first | (with_reducible first | exact HB.out | apply below_alloc | apply pw_below_drewN | apply below_drew1) | exact HB.out)⟩⟩
                    · replace c16 := Bool.eq_false_iff.mpr c16
                      subst c16
                      have H1 : (some true) = some r := by rw [if_neg (show ¬ (false = true) by decide)] at H; exact H
                      clear H
                      have H := H1
                      clear H1
                      obtain rfl := Option.some.inj H
                      go_wp2
                      go_ret
                      exact ⟨by first | rfl | (simp [errW_none, errW_some] <;> rfl) | (simp [*, errW_none, errW_some] <;> rfl), by repeat (first | (with_reducible first | exact HB.out | apply below_alloc | apply pw_below_drewN | apply below_drew1) | exact HB.out)⟩
          · replace c13 := Bool.eq_false_iff.mpr c13
            subst c13
            have H1 : (some true) = some r := by rw [if_neg (show ¬ (false = true) by decide)] at H; exact H
            clear H
            have H := H1
            clear H1
            obtain rfl := Option.some.inj H
            go_wp2
            go_ret
            exact ⟨by first | rfl | (simp [errW_none, errW_some] <;> rfl) | (simp [*, errW_none, errW_some] <;> rfl), by repeat (first | (with_reducible first | exact HB.out | apply below_alloc | apply pw_below_drewN | apply below_drew1) | exact HB.out)⟩

/-- THE ONE PURE STATEMENT of laws_FnShares: yours. -/
def laws_FnShares.Pure : Prop := ∀ (l0 : List Int), l0.length ≤ maxLen → l0.length * 1 ≤ 140737488351232 → (∀ x ∈ l0, (Lit.int .u8 x).wf = true) → ∃ k, laws_FnShares.f k l0 = some true
theorem laws_FnShares.walk (P : laws_FnShares.Pure) (a0 : Option Addr) (len0 cap0 : Nat) (z0 : List Int) (w : World) (w0 : (a0 = none ∧ len0 = 0 ∧ cap0 = 0 ∧ z0 = []) ∨ ∃ x, a0 = some x ∧ len0 ≤ cap0 ∧ cap0 ≤ maxLen ∧ z0.length = cap0 ∧ (∀ i, i < z0.length → w.cell? (x.add i) = some (.int .u8 (z0.getD i 0))) ∧ ∀ n ∈ z0, (Lit.int .u8 n).wf = true) (y0 : len0 * 1 ≤ 140737488351232) :
    Calls Try.prog 7 #[.slice a0 len0 cap0] w fun e w' => e = .returned (.bool true) ∧ Below w.heap.size w w' := by
  obtain ⟨l0, rfl, hr0, hm0, hw0, hc0⟩ := ReadsInt.ofRowC w0
  obtain ⟨k, h⟩ := P l0 hm0 y0 hw0
  refine (laws_FnShares.calls k _ _ l0 true w (Kd.C_of_reads (d := (0 : Int)) (h1 := fun _ => rfl) hr0) hc0 h).mono ?_
  rintro e w' ⟨rfl, hd⟩
  exact ⟨rfl, hd⟩

end Go.Proofs.Ytmjfmhbklifafaa.QFnShares
