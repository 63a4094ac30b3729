-- Written by a program of this session out of the printer's texts and contracts of its own.
import Derived.Test.YtllkijlmjapleaaDoorQFnPhrasesx0
import Derived.Test.YtllkijlmjapleaaDoorQFnPhrasesx2
namespace Go.Proofs.YtllkijlmjapleaaDoor.QFnPhrases
open Go.RowKit Go.Proofs.YtllkijlmjapleaaDoorW.PrintWords Go.Proofs.YtllkijlmjapleaaDoorW.PrintLast Go.Proofs.YtllkijlmjapleaaDoorW.PrintMore
attribute [local go_sem] max2_int min2_int max_two min_two max_three min_three max_four min_four   -- for this text's walks alone
set_option linter.unusedVariables false
set_option linter.unusedSimpArgs false

/-! ### spec_l23Later: function 18 -/
def spec_l23Later.f (k : Nat) (a0_0 : Int) (a0_1 : Int) (a0_2 : Int) (a0_3 : Int) (a0_4 : Int) (a1 : Int) : Option (ByteArray) := if a0_2 > a0_1 then ((some (([(⟨#[]⟩ : ByteArray), (⟨#[44, 32, 114, 105, 115, 105, 110, 103, 32, 116, 111, 32]⟩ : ByteArray), (⟨#[44, 32, 122, 117, 110, 101, 104, 109, 101, 110, 100, 32]⟩ : ByteArray), (⟨#[44, 32, 119, 122, 114, 111, 115, 116, 32, 100, 111, 32]⟩ : ByteArray)] : List ByteArray) : List ByteArray)).bind fun y130 => (if 0 ≤ a1 then (if a1 < (y130.length : Int) then ((spec_l1Dec.f k a0_2).bind fun t134 => (if (rdOf ByteArray.empty y130 a1).size + t134.size ≤ 9223372036854775807 then (some ((rdOf ByteArray.empty y130 a1) ++ t134)) else (none))) else (none)) else (none))) else (if a0_2 < a0_1 then ((some (([(⟨#[]⟩ : ByteArray), (⟨#[44, 32, 102, 97, 108, 108, 105, 110, 103, 32, 116, 111, 32]⟩ : ByteArray), (⟨#[44, 32, 97, 98, 110, 101, 104, 109, 101, 110, 100, 32]⟩ : ByteArray), (⟨#[44, 32, 115, 112, 97, 100, 101, 107, 32, 100, 111, 32]⟩ : ByteArray)] : List ByteArray) : List ByteArray)).bind fun y135 => (if 0 ≤ a1 then (if a1 < (y135.length : Int) then ((spec_l1Dec.f k a0_2).bind fun t139 => (if (rdOf ByteArray.empty y135 a1).size + t139.size ≤ 9223372036854775807 then (some ((rdOf ByteArray.empty y135 a1) ++ t139)) else (none))) else (none)) else (none))) else (some (⟨#[]⟩ : ByteArray)))
theorem spec_l23Later.mono : ∀ a0 a1 a2 a3 a4 a5 k, LeO (spec_l23Later.f k a0 a1 a2 a3 a4 a5) (spec_l23Later.f (k + 1) a0 a1 a2 a3 a4 a5) := by
  intro a0 a1 a2 a3 a4 a5 k
  unfold spec_l23Later.f
  repeat' first
      | (with_reducible exact spec_l1Dec.mono _ _)
      | (with_reducible exact LeO.refl _)
      | (with_reducible exact LeO.none _)
      | (with_reducible refine LeO.ite ?_ ?_)
      | (with_reducible refine LeO.bind ?_ (fun _ => ?_))
      | exact spec_l1Dec.mono _ _
      | exact LeO.none _
      | refine LeO.ite ?_ ?_
      | refine LeO.bind ?_ (fun _ => ?_)
def spec_l23Later.T2 : Bool × List (List Nat × List Nat) := (true, [([], []), ([], []), ([0, 1], [0, 1]), ([2], [2]), ([], []), ([4], [4]), ([5], [5]), ([3, 6], [3, 6]), ([7, 6, 0, 1, 2, 3, 4, 5, 6, 7], [7])])
def spec_l23Later.B2 : List Nat := [0, 0, 3, 7, 0, 16, 48, 127, 255]
theorem spec_l23Later.tab2 : rtab .any (opsOf Tryd.f18 2) = spec_l23Later.T2 := by kernel_rfl
theorem spec_l23Later.bits2 : waitsOk spec_l23Later.T2.2 spec_l23Later.B2 = true := by kernel_rfl
def spec_l23Later.T4 : Bool × List (List Nat × List Nat) := (true, [([], []), ([], []), ([0, 1], [0, 1]), ([2], [2]), ([], []), ([4], [4]), ([5], [5]), ([3, 6], [3, 6]), ([7, 6, 0, 1, 2, 3, 4, 5, 6, 7], [7])])
def spec_l23Later.B4 : List Nat := [0, 0, 3, 7, 0, 16, 48, 127, 255]
theorem spec_l23Later.tab4 : rtab .any (opsOf Tryd.f18 4) = spec_l23Later.T4 := by kernel_rfl
theorem spec_l23Later.bits4 : waitsOk spec_l23Later.T4.2 spec_l23Later.B4 = true := by kernel_rfl
set_option maxHeartbeats 8000000 in
set_option maxRecDepth 100000 in
theorem spec_l23Later.calls (k : Nat) (a0_0 : Int) (a0_1 : Int) (a0_2 : Int) (a0_3 : Int) (a0_4 : Int) (a1 : Int) (r : ByteArray) (w : World) (h : spec_l23Later.f k a0_0 a0_1 a0_2 a0_3 a0_4 a1 = some r) :
    Calls Tryd.prog 18 #[.agg #[.int .i64 a0_0, .int .i64 a0_1, .int .i64 a0_2, .int .i64 a0_3, .int .i64 a0_4], .int .i64 a1] w fun e w' => e = .returned (.string r) ∧ Below w.heap.size w w' := by
  have hu25 := Tryd.underlying25
  have HB := Aside0.mk (Below.refl w.heap.size w)
  have H : (if a0_2 > a0_1 then ((some (([(⟨#[]⟩ : ByteArray), (⟨#[44, 32, 114, 105, 115, 105, 110, 103, 32, 116, 111, 32]⟩ : ByteArray), (⟨#[44, 32, 122, 117, 110, 101, 104, 109, 101, 110, 100, 32]⟩ : ByteArray), (⟨#[44, 32, 119, 122, 114, 111, 115, 116, 32, 100, 111, 32]⟩ : ByteArray)] : List ByteArray) : List ByteArray)).bind fun y130 => (if 0 ≤ a1 then (if a1 < (y130.length : Int) then ((spec_l1Dec.f k a0_2).bind fun t134 => (if (rdOf ByteArray.empty y130 a1).size + t134.size ≤ 9223372036854775807 then (some ((rdOf ByteArray.empty y130 a1) ++ t134)) else (none))) else (none)) else (none))) else (if a0_2 < a0_1 then ((some (([(⟨#[]⟩ : ByteArray), (⟨#[44, 32, 102, 97, 108, 108, 105, 110, 103, 32, 116, 111, 32]⟩ : ByteArray), (⟨#[44, 32, 97, 98, 110, 101, 104, 109, 101, 110, 100, 32]⟩ : ByteArray), (⟨#[44, 32, 115, 112, 97, 100, 101, 107, 32, 100, 111, 32]⟩ : ByteArray)] : List ByteArray) : List ByteArray)).bind fun y135 => (if 0 ≤ a1 then (if a1 < (y135.length : Int) then ((spec_l1Dec.f k a0_2).bind fun t139 => (if (rdOf ByteArray.empty y135 a1).size + t139.size ≤ 9223372036854775807 then (some ((rdOf ByteArray.empty y135 a1) ++ t139)) else (none))) else (none)) else (none))) else (some (⟨#[]⟩ : ByteArray)))) = some r := h
  clear h
  by_cases c3 : a0_2 > a0_1
  · rw [if_pos c3] at H
    have c3b0 : decide (a0_1 < a0_2) = true := decide_eq_true c3
    clear c3
    obtain ⟨y130, hy130⟩ : ∃ y_ : List ByteArray, y_ = (([(⟨#[]⟩ : ByteArray), (⟨#[44, 32, 114, 105, 115, 105, 110, 103, 32, 116, 111, 32]⟩ : ByteArray), (⟨#[44, 32, 122, 117, 110, 101, 104, 109, 101, 110, 100, 32]⟩ : ByteArray), (⟨#[44, 32, 119, 122, 114, 111, 115, 116, 32, 100, 111, 32]⟩ : ByteArray)] : List ByteArray)) := ⟨_, rfl⟩
    replace H : (if 0 ≤ a1 then (if a1 < (y130.length : Int) then ((spec_l1Dec.f k a0_2).bind fun t134 => (if (rdOf ByteArray.empty y130 a1).size + t134.size ≤ 9223372036854775807 then (some ((rdOf ByteArray.empty y130 a1) ++ t134)) else (none))) else (none)) else (none)) = some r := by first | (rw [hy130]; with_reducible exact H) | (have H2_ := (Option.bind_some _ _).symm.trans H; rw [hy130]; with_reducible exact H2_) | (have H2_ := (Option.bind_some _ _).symm.trans H; with_reducible exact H2_) | with_reducible exact H | (rw [hy130]; exact H) | exact H
    have Ny130 := Aside0.mk hy130
    clear hy130
    by_cases c4 : 0 ≤ a1
    · rw [if_pos c4] at H
      have c4b0 : decide (0 ≤ a1) = true := decide_eq_true c4
      clear c4
      by_cases c5 : a1 < (y130.length : Int)
      · rw [if_pos c5] at H
        have c5b0 : decide (a1 < (y130.length : Int)) = true := decide_eq_true c5
        clear c5
        replace H := Option.bind_eq_some_iff.mp H
        obtain ⟨t134, A60, H⟩ := H
        replace H : (if (rdOf ByteArray.empty y130 a1).size + t134.size ≤ 9223372036854775807 then (some ((rdOf ByteArray.empty y130 a1) ++ t134)) else (none)) = some r := H
        have A6 := Aside0.mk A60
        clear A60
        by_cases c7 : (rdOf ByteArray.empty y130 a1).size + t134.size ≤ 9223372036854775807
        · rw [if_pos c7] at H
          have c7b0 := eq_true c7
          have c7b1 : decide ((rdOf ByteArray.empty y130 a1).size + t134.size ≤ 9223372036854775807) = true := decide_eq_true c7
          try have c7b2 : (9223372036854775807 < (rdOf ByteArray.empty y130 a1).size + t134.size) = False := eq_false (Nat.not_lt.2 c7)
          obtain rfl := Option.some.inj H
          go_enter Tryd.func18, Tryd.ntmps18
          try go_wp2_with (first | ((with_reducible refine gate_dst (N := 2) rfl ?_); refine box_event ?hg (N := 2) ?hd (cs := #[.int .i64 a0_0, .int .i64 a0_1, .int .i64 a0_2, .int .i64 a0_3, .int .i64 a0_4]) (t := 25) ?hr ?_; (case hd => rfl); (case hg => rfl); (case hr => first | (go_simp; done) | (go_simp; rfl)); intro gb129 hg w8 hbox hb; have n0_ := Aside0.mk (below_step (by repeat (first | (with_reducible first | exact HB.out | apply below_alloc | apply pw_below_drewN | apply below_drew1) | exact HB.out)) hb); have n1_ := Aside0.mk (hbox); have n2_ := Aside0.mk ((by rw [hg]; exact (below_size (by repeat (first | (with_reducible first | exact HB.out | apply below_alloc | apply pw_below_drewN | apply below_drew1) | exact HB.out))) : w.heap.size ≤ gb129)); have n3_ := Aside0.mk ((by rw [hg]; exact (below_size (by repeat (first | (with_reducible first | exact HB.out | apply below_alloc | apply pw_below_drewN | apply below_drew1) | exact HB.out))) : w.heap.size ≤ gb129)); clear HB; have HB := n0_; have BK129 := n1_; have GW129 := n2_; have GE129 := n3_; clear n0_ n1_ n2_ n3_; clear hb hbox hg; have hcz9_0 : w8.cell? ⟨gb129, 0, none⟩ = some (.int .i64 a0_0) := (blk_cell BK129.out 0).trans rfl; have hcz9_1 : w8.cell? ⟨gb129, 1, none⟩ = some (.int .i64 a0_1) := (blk_cell BK129.out 1).trans rfl; have hcz9_2 : w8.cell? ⟨gb129, 2, none⟩ = some (.int .i64 a0_2) := (blk_cell BK129.out 2).trans rfl; have hcz9_3 : w8.cell? ⟨gb129, 3, none⟩ = some (.int .i64 a0_3) := (blk_cell BK129.out 3).trans rfl; have hcz9_4 : w8.cell? ⟨gb129, 4, none⟩ = some (.int .i64 a0_4) := (blk_cell BK129.out 4).trans rfl; have hfz9_0 := blk_frozen BK129.out 0; have hfz9_1 := blk_frozen BK129.out 1; have hfz9_2 := blk_frozen BK129.out 2; have hfz9_3 := blk_frozen BK129.out 3; have hfz9_4 := blk_frozen BK129.out 4))
          have pi133 : (0 ≤ (a1 : Int)) = True := eq_true (of_decide_eq_true (by first | (with_reducible assumption) | assumption))
          have qi133 : (a1 < (y130.length : Int)) = True := eq_true (of_decide_eq_true (by first | (with_reducible assumption) | assumption))
          have n0_ := Aside0.mk (blk_drew BK129.out)
          have n1_ := Aside0.mk (below_drew1 HB.out)
          clear BK129
          clear HB
          have BK129 := n0_
          have HB := n1_
          clear n0_ n1_
          refine start_ (n := 9) (S := fun w' => True) (ds := []) #[false, false, false, false, false, false, false, false, false] (by kernel_rfl) rfl rfl trivial (fun hHeld => ?_); refine with_tabW spec_l23Later.tab2 spec_l23Later.bits2 (fun HT_ HW_ => ?_)
          generalize w8.drew = w10 at BK129 HB hHeld ⊢
          refine pure_ (i := 1) (N := some 11) (v := ?_) (a' := ?_) #[false, true, false, false, false, false, false, false, false] rfl rfl (any_of HT_.out (by kernel_rfl)) (fun _ _ _ h => h) (Or.inl ⟨by rfl, ?_⟩) ?_ ?_
          rotate_left
          · intro w'
            go_simp
            with_reducible rfl
          rotate_left
          · simp only [Act.put, List.setIfInBounds_toArray, List.set_cons_zero, List.set_cons_succ, i64_w, i32_w]
            rfl
          refine pure_ (i := 4) (N := some 14) (v := ?_) (a' := ?_) #[false, true, false, false, true, false, false, false, false] rfl rfl (any_of HT_.out (by kernel_rfl)) (fun _ _ _ h => h) (Or.inl ⟨by rfl, ?_⟩) ?_ ?_
          rotate_left
          · intro w'
            go_simp
            with_reducible rfl
          rotate_left
          · simp only [Act.put, List.setIfInBounds_toArray, List.set_cons_zero, List.set_cons_succ, i64_w, i32_w]
            rfl
          refine inv_at [0, 2, 3, 5, 6, 7, 8] (fun a0_ b a w' => ∃ (v131 : Value) (adz_v131 : Addr) (m2_ : Value), a = putSel a0_ b [(0, 10, v131), (2, 12, m2_), (3, 13, .string (rdOf ByteArray.empty y130 a1)), (5, 15, .int .i64 a0_2), (6, 16, .string t134), (7, 17, .string ((rdOf ByteArray.empty y130 a1) ++ t134)), (8, 4, .string ((rdOf ByteArray.empty y130 a1) ++ t134))] ∧ (w'.heap[gb129]? = some (.cells #[.int .i64 a0_0, .int .i64 a0_1, .int .i64 a0_2, .int .i64 a0_3, .int .i64 a0_4] 25 (0, 0))) ∧ (Below w.heap.size w w') ∧ (b 0 = true → Kd.R Kd.string 9 w' w.heap.size (fun _ => True) v131 y130) ∧ (b 0 = true → ∃ c_, (v131 : Value) = .slice (some adz_v131) y130.length c_) ∧ (b 2 = true → (m2_ : Value) = .pointer (some (adz_v131.add (a1).toNat)))) HT_.out HW_.out (by kernel_rfl) (by kernel_rfl) ?_ ?_ ?_
          · exact ⟨.bool false, ⟨0, 0, none⟩, .bool false, by simp only [putSel, Bool.false_eq_true, if_false], BK129.out, HB.out, fun h_ => absurd h_ (by decide), fun h_ => absurd h_ (by decide), fun h_ => absurd h_ (by decide)⟩
          · skip
            clear BK129 HB
            refine steps_cons ?_ ?_
            · rintro b a w' ⟨v131, adz_v131, m2_, ha, Q_BK129, Q_HB, Q_HO132, Q_HA_HO132, Q_X2_⟩ hb_ hon hoff
              refine ⟨_, rfl, fun K hK => ?_⟩
              replace ha := Aside0.mk ha
              have BK129 := Aside0.mk Q_BK129
              have HB := Aside0.mk Q_HB
              refine Kd.R_lit_step Kd.string _ 9 ?hg (N := 10) ?hd (xs := ([(⟨#[]⟩ : ByteArray), (⟨#[44, 32, 114, 105, 115, 105, 110, 103, 32, 116, 111, 32]⟩ : ByteArray), (⟨#[44, 32, 122, 117, 110, 101, 104, 109, 101, 110, 100, 32]⟩ : ByteArray), (⟨#[44, 32, 119, 122, 114, 111, 115, 116, 32, 100, 111, 32]⟩ : ByteArray)] : List ByteArray)) (inner := [.string (⟨#[]⟩ : ByteArray), .string (⟨#[44, 32, 114, 105, 115, 105, 110, 103, 32, 116, 111, 32]⟩ : ByteArray), .string (⟨#[44, 32, 122, 117, 110, 101, 104, 109, 101, 110, 100, 32]⟩ : ByteArray), .string (⟨#[44, 32, 119, 122, 114, 111, 115, 116, 32, 100, 111, 32]⟩ : ByteArray)]) (ok := fun _ => True) (okp := fun _ => True) ?hr ?hp (fun _ hk => hk) trivial (Below.refl _ _) (Nat.le_refl _) (by simp) ?_; (case hd => rfl); (case hg => rfl); (case hr => first | (go_simp; done) | (go_simp; rfl)); (case hp => exact (Reps.one (show Kd.M Kd.string _ _ _ (⟨#[]⟩ : ByteArray) [.string (⟨#[]⟩ : ByteArray)] from rfl) (Reps.one (show Kd.M Kd.string _ _ _ (⟨#[44, 32, 114, 105, 115, 105, 110, 103, 32, 116, 111, 32]⟩ : ByteArray) [.string (⟨#[44, 32, 114, 105, 115, 105, 110, 103, 32, 116, 111, 32]⟩ : ByteArray)] from rfl) (Reps.one (show Kd.M Kd.string _ _ _ (⟨#[44, 32, 122, 117, 110, 101, 104, 109, 101, 110, 100, 32]⟩ : ByteArray) [.string (⟨#[44, 32, 122, 117, 110, 101, 104, 109, 101, 110, 100, 32]⟩ : ByteArray)] from rfl) (Reps.one (show Kd.M Kd.string _ _ _ (⟨#[44, 32, 119, 122, 114, 111, 115, 116, 32, 100, 111, 32]⟩ : ByteArray) [.string (⟨#[44, 32, 119, 122, 114, 111, 115, 116, 32, 100, 111, 32]⟩ : ByteArray)] from rfl) (Reps.none _ _))))))
              intro v131 w11 ho12 hb hg_ hnew_
              clear hg_ hnew_
              (first | rw [← Ny130.out] at ho12 | (simp only [Int.reduceToNat] at ho12; rw [← Ny130.out] at ho12))
              have n0_ := Aside0.mk (Kd.R_lower ho12 (below_size (by repeat (first | (with_reducible first | exact HB.out | apply below_alloc | apply pw_below_drewN | apply below_drew1 | refine below_set ?_ GE129.out) | exact HB.out))))
              have n1_ := Aside0.mk (blk_below (g := gb129) (o := .cells #[.int .i64 a0_0, .int .i64 a0_1, .int .i64 a0_2, .int .i64 a0_3, .int .i64 a0_4] 25 (0, 0)) (by (with_reducible repeat (first | refine blk_drewN ?_ _ | refine blk_drew ?_ | refine blk_alloc ?_ _)); exact BK129.out) hb)
              have n2_ := Aside0.mk (below_step (by repeat (first | (with_reducible first | exact HB.out | apply below_alloc | apply pw_below_drewN | apply below_drew1 | refine below_set ?_ GE129.out) | exact HB.out)) hb)
              clear BK129
              clear HB
              have HO132 := n0_
              have BK129 := n1_
              have HB := n2_
              clear n0_ n1_ n2_
              clear hb ho12
              obtain ⟨Ao13, co13, eo13⟩ := Kd.R_slice HO132.out
              subst eo13
              obtain ⟨ado13, fo13, _⟩ := Kd.at_string (Kd.R_reads' HO132.out).2.2 0 (by decide) (by rw [Ny130.out]; simp)
              cases fo13
              refine hK.out _ _ ⟨.slice (some ado13) y130.length co13, ado13, m2_, (by rw [ha.out]; exact putSel_upk 0 hb_ rfl rfl rfl), (by (with_reducible repeat (first | refine blk_drewN ?_ _ | refine blk_drew ?_ | refine blk_alloc ?_ _)); exact BK129.out), (by repeat (first | (with_reducible first | exact HB.out | apply below_alloc | apply pw_below_drewN | apply below_drew1 | refine below_set ?_ GE129.out) | exact HB.out)), fun _ => (by (with_reducible repeat (first | apply Kd.R_alloc | apply Kd.R_drewN | apply Kd.R_drew)); exact HO132.out), fun _ => ⟨_, rfl⟩, fun h0_ => absurd ((hoff 2 (by kernel_rfl)).symm.trans h0_) (by decide)⟩
            refine steps_cons ?_ ?_
            · rintro b a w' ⟨v131, adz_v131, m2_, ha, Q_BK129, Q_HB, Q_HO132, Q_HA_HO132, Q_X2_⟩ hb_ hon hoff
              refine ⟨_, rfl, fun K hK => ?_⟩
              have e10 : a.tmps[10]? = some (v131) := by rw [ha]; exact putSel_on (e := (0, 10, v131)) 0 rfl rfl (hon 0 (by kernel_rfl)) rfl
              have e11 : a.tmps[11]? = some (.int .i64 a1) := by rw [ha]; exact (putSel_off rfl).trans rfl
              replace ha := Aside0.mk ha
              have BK129 := Aside0.mk Q_BK129
              have HB := Aside0.mk Q_HB
              have HO132 := Aside0.mk (Q_HO132 (hon 0 (by kernel_rfl)))
              have HA_HO132 := Aside0.mk (Q_HA_HO132 (hon 0 (by kernel_rfl)))
              obtain ⟨c_, hv_⟩ := HA_HO132.out
              rw [hv_] at e10
              refine value_ (w1 := w') (v := .pointer (some (adz_v131.add (a1).toNat))) (by rfl) rfl ?_ ?_
              · go_simp
                (try simp only [i64_w])
                try rfl
              refine hK.out _ _ ⟨v131, adz_v131, (.pointer (some (adz_v131.add (a1).toNat))), (by rw [ha.out]; exact putSel_upk 1 hb_ rfl rfl rfl), Q_BK129, Q_HB, Q_HO132, Q_HA_HO132, fun _ => rfl⟩
            refine steps_cons ?_ ?_
            · rintro b a w' ⟨v131, adz_v131, m2_, ha, Q_BK129, Q_HB, Q_HO132, Q_HA_HO132, Q_X2_⟩ hb_ hon hoff
              refine ⟨_, rfl, fun K hK => ?_⟩
              have e12 : a.tmps[12]? = some (m2_) := by rw [ha]; exact putSel_on (e := (2, 12, m2_)) 1 rfl rfl (hon 2 (by kernel_rfl)) rfl
              rw [Q_X2_ (hon 2 (by kernel_rfl))] at e12
              replace ha := Aside0.mk ha
              have BK129 := Aside0.mk Q_BK129
              have HB := Aside0.mk Q_HB
              have HO132 := Aside0.mk (Q_HO132 (hon 0 (by kernel_rfl)))
              have HA_HO132 := Aside0.mk (Q_HA_HO132 (hon 0 (by kernel_rfl)))
              obtain ⟨c_, hv_⟩ := HA_HO132.out
              have hF_ := HO132.out
              rw [hv_] at hF_
              obtain ⟨ad_, ea_, hx_⟩ := Kd.at_string (Kd.R_reads' hF_).2.2 a1 (of_eq_true pi133) (of_eq_true qi133)
              cases ea_
              refine value_ (w1 := w') (v := .string (rdOf ByteArray.empty y130 a1)) (by rfl) rfl ?_ ?_
              · go_simp
                (try simp only [i64_w])
                try rfl
              refine hK.out _ _ ⟨v131, adz_v131, m2_, (by rw [ha.out]; exact putSel_upk 2 hb_ rfl rfl rfl), Q_BK129, Q_HB, Q_HO132, Q_HA_HO132, Q_X2_⟩
            refine steps_cons ?_ ?_
            · rintro b a w' ⟨v131, adz_v131, m2_, ha, Q_BK129, Q_HB, Q_HO132, Q_HA_HO132, Q_X2_⟩ hb_ hon hoff
              refine ⟨_, rfl, fun K hK => ?_⟩
              have e14 : a.tmps[14]? = some (.pointer (some ⟨gb129, 2, none⟩)) := by rw [ha]; exact (putSel_off rfl).trans rfl
              replace ha := Aside0.mk ha
              have BK129 := Aside0.mk Q_BK129
              have HB := Aside0.mk Q_HB
              have hc0_ : w'.cell? ⟨gb129, 0, none⟩ = some (.int .i64 a0_0) := (blk_cell BK129.out 0).trans rfl
              have hc1_ : w'.cell? ⟨gb129, 1, none⟩ = some (.int .i64 a0_1) := (blk_cell BK129.out 1).trans rfl
              have hc2_ : w'.cell? ⟨gb129, 2, none⟩ = some (.int .i64 a0_2) := (blk_cell BK129.out 2).trans rfl
              have hc3_ : w'.cell? ⟨gb129, 3, none⟩ = some (.int .i64 a0_3) := (blk_cell BK129.out 3).trans rfl
              have hc4_ : w'.cell? ⟨gb129, 4, none⟩ = some (.int .i64 a0_4) := (blk_cell BK129.out 4).trans rfl
              refine value_ (w1 := w') (v := .int .i64 a0_2) (by rfl) rfl ?_ ?_
              · go_simp
                (try simp only [i64_w])
                try rfl
              refine hK.out _ _ ⟨v131, adz_v131, m2_, (by rw [ha.out]; exact putSel_upk 3 hb_ rfl rfl rfl), Q_BK129, Q_HB, Q_HO132, Q_HA_HO132, Q_X2_⟩
            refine steps_cons ?_ ?_
            · rintro b a w' ⟨v131, adz_v131, m2_, ha, Q_BK129, Q_HB, Q_HO132, Q_HA_HO132, Q_X2_⟩ hb_ hon hoff
              refine ⟨_, rfl, fun K hK => ?_⟩
              have e15 : a.tmps[15]? = some (.int .i64 a0_2) := by rw [ha]; exact putSel_on (e := (5, 15, .int .i64 a0_2)) 3 rfl rfl (hon 5 (by kernel_rfl)) rfl
              replace ha := Aside0.mk ha
              have BK129 := Aside0.mk Q_BK129
              have HB := Aside0.mk Q_HB
              refine goes_ Tryd.func31 (by kernel_rfl) rfl #[.int .i64 a0_2] (by rfl) rfl rfl (by first | (simp only [List.map_toArray, List.map_cons, List.map_nil, Act.eval, Array.getD_eq_getD_getElem?, Option.getD_some, e15]; done) | (simp only [List.map_toArray, List.map_cons, List.map_nil, Act.eval, Array.getD_eq_getD_getElem?, Option.getD_some, e15]; rfl)) ?_
              with_reducible refine (spec_l1Dec.calls k a0_2 t134 _ A6.out).mono ?_
              rintro e w11 ⟨rfl, hb⟩
              refine ⟨_, rfl, ?_⟩
              have n0_ := Aside0.mk (blk_below (g := gb129) (o := .cells #[.int .i64 a0_0, .int .i64 a0_1, .int .i64 a0_2, .int .i64 a0_3, .int .i64 a0_4] 25 (0, 0)) (by (with_reducible repeat (first | refine blk_drewN ?_ _ | refine blk_drew ?_ | refine blk_alloc ?_ _)); exact BK129.out) hb)
              have n1_ := Aside0.mk (below_step (by repeat (first | (with_reducible first | exact HB.out | apply below_alloc | apply pw_below_drewN | apply below_drew1 | refine below_set ?_ GE129.out) | exact HB.out)) hb)
              have z_HO132 := fun (h0_ : b 0 = true) => (show Kd.R Kd.string 9 w11 w.heap.size (fun _ => True) v131 y130 from by first | exact (Kd.R_below (by (with_reducible repeat (first | apply Kd.R_alloc | apply Kd.R_drewN | apply Kd.R_drew)); exact (Q_HO132 h0_)) hb) | exact Kd.R_mono (Kd.R_below (by (with_reducible repeat (first | apply Kd.R_alloc | apply Kd.R_drewN | apply Kd.R_drew)); exact (Q_HO132 h0_)) hb) (fun _ h_ => by first | trivial | exact h_ | exact h_.1))
              clear BK129
              clear HB
              have BK129 := n0_
              have HB := n1_
              clear n0_ n1_
              (try clear hb)
              (try clear hb2)
              (try clear hk)
              (try clear hi)
              refine hK.out _ _ ⟨v131, adz_v131, m2_, (by rw [ha.out]; exact putSel_upk 4 hb_ rfl rfl rfl), (by (with_reducible repeat (first | refine blk_drewN ?_ _ | refine blk_drew ?_ | refine blk_alloc ?_ _)); exact BK129.out), (by repeat (first | (with_reducible first | exact HB.out | apply below_alloc | apply pw_below_drewN | apply below_drew1 | refine below_set ?_ GE129.out) | exact HB.out)), z_HO132, Q_HA_HO132, Q_X2_⟩
            refine steps_cons ?_ ?_
            · rintro b a w' ⟨v131, adz_v131, m2_, ha, Q_BK129, Q_HB, Q_HO132, Q_HA_HO132, Q_X2_⟩ hb_ hon hoff
              refine ⟨_, rfl, fun K hK => ?_⟩
              have e13 : a.tmps[13]? = some (.string (rdOf ByteArray.empty y130 a1)) := by rw [ha]; exact putSel_on (e := (3, 13, .string (rdOf ByteArray.empty y130 a1))) 2 rfl rfl (hon 3 (by kernel_rfl)) rfl
              have e16 : a.tmps[16]? = some (.string t134) := by rw [ha]; exact putSel_on (e := (6, 16, .string t134)) 4 rfl rfl (hon 6 (by kernel_rfl)) rfl
              replace ha := Aside0.mk ha
              have BK129 := Aside0.mk Q_BK129
              have HB := Aside0.mk Q_HB
              have HO132 := Aside0.mk (Q_HO132 (hon 0 (by kernel_rfl)))
              have HA_HO132 := Aside0.mk (Q_HA_HO132 (hon 0 (by kernel_rfl)))
              refine value_ (w1 := w') (v := .string ((rdOf ByteArray.empty y130 a1) ++ t134)) (by rfl) rfl ?_ ?_
              · go_simp
                (try simp only [i64_w])
                try rfl
              refine hK.out _ _ ⟨v131, adz_v131, m2_, (by rw [ha.out]; exact putSel_upk 5 hb_ rfl rfl rfl), Q_BK129, Q_HB, Q_HO132, Q_HA_HO132, Q_X2_⟩
            refine steps_cons ?_ ?_
            · rintro b a w' ⟨v131, adz_v131, m2_, ha, Q_BK129, Q_HB, Q_HO132, Q_HA_HO132, Q_X2_⟩ hb_ hon hoff
              refine ⟨_, rfl, fun K hK => ?_⟩
              have e17 : a.tmps[17]? = some (.string ((rdOf ByteArray.empty y130 a1) ++ t134)) := by rw [ha]; exact putSel_on (e := (7, 17, .string ((rdOf ByteArray.empty y130 a1) ++ t134))) 5 rfl rfl (hon 7 (by kernel_rfl)) rfl
              replace ha := Aside0.mk ha
              have BK129 := Aside0.mk Q_BK129
              have HB := Aside0.mk Q_HB
              have HO132 := Aside0.mk (Q_HO132 (hon 0 (by kernel_rfl)))
              have HA_HO132 := Aside0.mk (Q_HA_HO132 (hon 0 (by kernel_rfl)))
              refine value_ (w1 := w') (v := .string ((rdOf ByteArray.empty y130 a1) ++ t134)) (by rfl) rfl ?_ ?_
              · go_simp
                (try simp only [i64_w])
                try rfl
              refine hK.out _ _ ⟨v131, adz_v131, m2_, (by rw [ha.out]; exact putSel_upk 6 hb_ rfl rfl rfl), Q_BK129, Q_HB, Q_HO132, Q_HA_HO132, Q_X2_⟩
            exact steps_nil
          rintro b a w15 hall ⟨v131, adz_v131, m2_, ha, Q_BK129, Q_HB, Q_HO132, Q_HA_HO132, Q_X2_⟩
          clear BK129 HB
          have hb0_ := hall 0 (by kernel_rfl)
          have hb2_ := hall 2 (by kernel_rfl)
          have hb3_ := hall 3 (by kernel_rfl)
          have hb5_ := hall 5 (by kernel_rfl)
          have hb6_ := hall 6 (by kernel_rfl)
          have hb7_ := hall 7 (by kernel_rfl)
          have hb8_ := hall 8 (by kernel_rfl)
          subst ha
          obtain rfl := Q_X2_ hb2_
          simp only [putSel, hb0_, hb2_, hb3_, hb5_, hb6_, hb7_, hb8_, if_true, Act.put, List.setIfInBounds_toArray, List.set_cons_zero, List.set_cons_succ]
          have BK129 := Aside0.mk Q_BK129
          clear Q_BK129
          have HB := Aside0.mk Q_HB
          clear Q_HB
          have HO132 := Aside0.mk (Q_HO132 hb0_)
          clear Q_HO132
          have HA_HO132 := Aside0.mk (Q_HA_HO132 hb0_)
          clear Q_HA_HO132
          clear hall hb0_ hb2_ hb3_ hb5_ hb6_ hb7_ hb8_
          obtain ⟨co16, eo16⟩ := HA_HO132.out
          clear HA_HO132
          subst eo16
          try go_wp2
          go_ret
          exact ⟨by first | rfl | (simp [errW_none, errW_some] <;> rfl) | (simp [*, errW_none, errW_some] <;> rfl), by repeat (first | (with_reducible first | exact HB.out | apply below_alloc | apply pw_below_drewN | apply below_drew1 | refine below_set ?_ GE129.out) | exact HB.out)⟩
        · rw [if_neg c7] at H
          exact absurd H (by simp)
      · rw [if_neg c5] at H
        exact absurd H (by simp)
    · rw [if_neg c4] at H
      exact absurd H (by simp)
  · rw [if_neg c3] at H
    have c3b0 : decide (a0_1 < a0_2) = false := decide_eq_false c3
    clear c3
    by_cases c17 : a0_2 < a0_1
    · rw [if_pos c17] at H
      have c17b0 : decide (a0_2 < a0_1) = true := decide_eq_true c17
      clear c17
      obtain ⟨y135, hy135⟩ : ∃ y_ : List ByteArray, y_ = (([(⟨#[]⟩ : ByteArray), (⟨#[44, 32, 102, 97, 108, 108, 105, 110, 103, 32, 116, 111, 32]⟩ : ByteArray), (⟨#[44, 32, 97, 98, 110, 101, 104, 109, 101, 110, 100, 32]⟩ : ByteArray), (⟨#[44, 32, 115, 112, 97, 100, 101, 107, 32, 100, 111, 32]⟩ : ByteArray)] : List ByteArray)) := ⟨_, rfl⟩
      replace H : (if 0 ≤ a1 then (if a1 < (y135.length : Int) then ((spec_l1Dec.f k a0_2).bind fun t139 => (if (rdOf ByteArray.empty y135 a1).size + t139.size ≤ 9223372036854775807 then (some ((rdOf ByteArray.empty y135 a1) ++ t139)) else (none))) else (none)) else (none)) = some r := by first | (rw [hy135]; with_reducible exact H) | (have H2_ := (Option.bind_some _ _).symm.trans H; rw [hy135]; with_reducible exact H2_) | (have H2_ := (Option.bind_some _ _).symm.trans H; with_reducible exact H2_) | with_reducible exact H | (rw [hy135]; exact H) | exact H
      have Ny135 := Aside0.mk hy135
      clear hy135
      by_cases c18 : 0 ≤ a1
      · rw [if_pos c18] at H
        have c18b0 : decide (0 ≤ a1) = true := decide_eq_true c18
        clear c18
        by_cases c19 : a1 < (y135.length : Int)
        · rw [if_pos c19] at H
          have c19b0 : decide (a1 < (y135.length : Int)) = true := decide_eq_true c19
          clear c19
          replace H := Option.bind_eq_some_iff.mp H
          obtain ⟨t139, A200, H⟩ := H
          replace H : (if (rdOf ByteArray.empty y135 a1).size + t139.size ≤ 9223372036854775807 then (some ((rdOf ByteArray.empty y135 a1) ++ t139)) else (none)) = some r := H
          have A20 := Aside0.mk A200
          clear A200
          by_cases c21 : (rdOf ByteArray.empty y135 a1).size + t139.size ≤ 9223372036854775807
          · rw [if_pos c21] at H
            have c21b0 := eq_true c21
            have c21b1 : decide ((rdOf ByteArray.empty y135 a1).size + t139.size ≤ 9223372036854775807) = true := decide_eq_true c21
            try have c21b2 : (9223372036854775807 < (rdOf ByteArray.empty y135 a1).size + t139.size) = False := eq_false (Nat.not_lt.2 c21)
            obtain rfl := Option.some.inj H
            go_enter Tryd.func18, Tryd.ntmps18
            try go_wp2_with (first | ((with_reducible refine gate_dst (N := 2) rfl ?_); refine box_event ?hg (N := 2) ?hd (cs := #[.int .i64 a0_0, .int .i64 a0_1, .int .i64 a0_2, .int .i64 a0_3, .int .i64 a0_4]) (t := 25) ?hr ?_; (case hd => rfl); (case hg => rfl); (case hr => first | (go_simp; done) | (go_simp; rfl)); intro gb129 hg w22 hbox hb; have n0_ := Aside0.mk (below_step (by repeat (first | (with_reducible first | exact HB.out | apply below_alloc | apply pw_below_drewN | apply below_drew1) | exact HB.out)) hb); have n1_ := Aside0.mk (hbox); have n2_ := Aside0.mk ((by rw [hg]; exact (below_size (by repeat (first | (with_reducible first | exact HB.out | apply below_alloc | apply pw_below_drewN | apply below_drew1) | exact HB.out))) : w.heap.size ≤ gb129)); have n3_ := Aside0.mk ((by rw [hg]; exact (below_size (by repeat (first | (with_reducible first | exact HB.out | apply below_alloc | apply pw_below_drewN | apply below_drew1) | exact HB.out))) : w.heap.size ≤ gb129)); clear HB; have HB := n0_; have BK129 := n1_; have GW129 := n2_; have GE129 := n3_; clear n0_ n1_ n2_ n3_; clear hb hbox hg; have hcz23_0 : w22.cell? ⟨gb129, 0, none⟩ = some (.int .i64 a0_0) := (blk_cell BK129.out 0).trans rfl; have hcz23_1 : w22.cell? ⟨gb129, 1, none⟩ = some (.int .i64 a0_1) := (blk_cell BK129.out 1).trans rfl; have hcz23_2 : w22.cell? ⟨gb129, 2, none⟩ = some (.int .i64 a0_2) := (blk_cell BK129.out 2).trans rfl; have hcz23_3 : w22.cell? ⟨gb129, 3, none⟩ = some (.int .i64 a0_3) := (blk_cell BK129.out 3).trans rfl; have hcz23_4 : w22.cell? ⟨gb129, 4, none⟩ = some (.int .i64 a0_4) := (blk_cell BK129.out 4).trans rfl; have hfz23_0 := blk_frozen BK129.out 0; have hfz23_1 := blk_frozen BK129.out 1; have hfz23_2 := blk_frozen BK129.out 2; have hfz23_3 := blk_frozen BK129.out 3; have hfz23_4 := blk_frozen BK129.out 4))
            have pi138 : (0 ≤ (a1 : Int)) = True := eq_true (of_decide_eq_true (by first | (with_reducible assumption) | assumption))
            have qi138 : (a1 < (y135.length : Int)) = True := eq_true (of_decide_eq_true (by first | (with_reducible assumption) | assumption))
            have n0_ := Aside0.mk (blk_drew BK129.out)
            have n1_ := Aside0.mk (below_drew1 HB.out)
            clear BK129
            clear HB
            have BK129 := n0_
            have HB := n1_
            clear n0_ n1_
            refine start_ (n := 9) (S := fun w' => True) (ds := []) #[false, false, false, false, false, false, false, false, false] (by kernel_rfl) rfl rfl trivial (fun hHeld => ?_); refine with_tabW spec_l23Later.tab4 spec_l23Later.bits4 (fun HT_ HW_ => ?_)
            generalize w22.drew = w24 at BK129 HB hHeld ⊢
            refine pure_ (i := 1) (N := some 24) (v := ?_) (a' := ?_) #[false, true, false, false, false, false, false, false, false] rfl rfl (any_of HT_.out (by kernel_rfl)) (fun _ _ _ h => h) (Or.inl ⟨by rfl, ?_⟩) ?_ ?_
            rotate_left
            · intro w'
              go_simp
              with_reducible rfl
            rotate_left
            · simp only [Act.put, List.setIfInBounds_toArray, List.set_cons_zero, List.set_cons_succ, i64_w, i32_w]
              rfl
            refine pure_ (i := 4) (N := some 27) (v := ?_) (a' := ?_) #[false, true, false, false, true, false, false, false, false] rfl rfl (any_of HT_.out (by kernel_rfl)) (fun _ _ _ h => h) (Or.inl ⟨by rfl, ?_⟩) ?_ ?_
            rotate_left
            · intro w'
              go_simp
              with_reducible rfl
            rotate_left
            · simp only [Act.put, List.setIfInBounds_toArray, List.set_cons_zero, List.set_cons_succ, i64_w, i32_w]
              rfl
            refine inv_at [0, 2, 3, 5, 6, 7, 8] (fun a0_ b a w' => ∃ (v136 : Value) (adz_v136 : Addr) (m2_ : Value), a = putSel a0_ b [(0, 23, v136), (2, 25, m2_), (3, 26, .string (rdOf ByteArray.empty y135 a1)), (5, 28, .int .i64 a0_2), (6, 29, .string t139), (7, 30, .string ((rdOf ByteArray.empty y135 a1) ++ t139)), (8, 4, .string ((rdOf ByteArray.empty y135 a1) ++ t139))] ∧ (w'.heap[gb129]? = some (.cells #[.int .i64 a0_0, .int .i64 a0_1, .int .i64 a0_2, .int .i64 a0_3, .int .i64 a0_4] 25 (0, 0))) ∧ (Below w.heap.size w w') ∧ (b 0 = true → Kd.R Kd.string 9 w' w.heap.size (fun _ => True) v136 y135) ∧ (b 0 = true → ∃ c_, (v136 : Value) = .slice (some adz_v136) y135.length c_) ∧ (b 2 = true → (m2_ : Value) = .pointer (some (adz_v136.add (a1).toNat)))) HT_.out HW_.out (by kernel_rfl) (by kernel_rfl) ?_ ?_ ?_
            · exact ⟨.bool false, ⟨0, 0, none⟩, .bool false, by simp only [putSel, Bool.false_eq_true, if_false], BK129.out, HB.out, fun h_ => absurd h_ (by decide), fun h_ => absurd h_ (by decide), fun h_ => absurd h_ (by decide)⟩
            · skip
              clear BK129 HB
              refine steps_cons ?_ ?_
              · rintro b a w' ⟨v136, adz_v136, m2_, ha, Q_BK129, Q_HB, Q_HO137, Q_HA_HO137, Q_X2_⟩ hb_ hon hoff
                refine ⟨_, rfl, fun K hK => ?_⟩
                replace ha := Aside0.mk ha
                have BK129 := Aside0.mk Q_BK129
                have HB := Aside0.mk Q_HB
                refine Kd.R_lit_step Kd.string _ 9 ?hg (N := 23) ?hd (xs := ([(⟨#[]⟩ : ByteArray), (⟨#[44, 32, 102, 97, 108, 108, 105, 110, 103, 32, 116, 111, 32]⟩ : ByteArray), (⟨#[44, 32, 97, 98, 110, 101, 104, 109, 101, 110, 100, 32]⟩ : ByteArray), (⟨#[44, 32, 115, 112, 97, 100, 101, 107, 32, 100, 111, 32]⟩ : ByteArray)] : List ByteArray)) (inner := [.string (⟨#[]⟩ : ByteArray), .string (⟨#[44, 32, 102, 97, 108, 108, 105, 110, 103, 32, 116, 111, 32]⟩ : ByteArray), .string (⟨#[44, 32, 97, 98, 110, 101, 104, 109, 101, 110, 100, 32]⟩ : ByteArray), .string (⟨#[44, 32, 115, 112, 97, 100, 101, 107, 32, 100, 111, 32]⟩ : ByteArray)]) (ok := fun _ => True) (okp := fun _ => True) ?hr ?hp (fun _ hk => hk) trivial (Below.refl _ _) (Nat.le_refl _) (by simp) ?_; (case hd => rfl); (case hg => rfl); (case hr => first | (go_simp; done) | (go_simp; rfl)); (case hp => exact (Reps.one (show Kd.M Kd.string _ _ _ (⟨#[]⟩ : ByteArray) [.string (⟨#[]⟩ : ByteArray)] from rfl) (Reps.one (show Kd.M Kd.string _ _ _ (⟨#[44, 32, 102, 97, 108, 108, 105, 110, 103, 32, 116, 111, 32]⟩ : ByteArray) [.string (⟨#[44, 32, 102, 97, 108, 108, 105, 110, 103, 32, 116, 111, 32]⟩ : ByteArray)] from rfl) (Reps.one (show Kd.M Kd.string _ _ _ (⟨#[44, 32, 97, 98, 110, 101, 104, 109, 101, 110, 100, 32]⟩ : ByteArray) [.string (⟨#[44, 32, 97, 98, 110, 101, 104, 109, 101, 110, 100, 32]⟩ : ByteArray)] from rfl) (Reps.one (show Kd.M Kd.string _ _ _ (⟨#[44, 32, 115, 112, 97, 100, 101, 107, 32, 100, 111, 32]⟩ : ByteArray) [.string (⟨#[44, 32, 115, 112, 97, 100, 101, 107, 32, 100, 111, 32]⟩ : ByteArray)] from rfl) (Reps.none _ _))))))
                intro v136 w25 ho26 hb hg_ hnew_
                clear hg_ hnew_
                (first | rw [← Ny135.out] at ho26 | (simp only [Int.reduceToNat] at ho26; rw [← Ny135.out] at ho26))
                have n0_ := Aside0.mk (Kd.R_lower ho26 (below_size (by repeat (first | (with_reducible first | exact HB.out | apply below_alloc | apply pw_below_drewN | apply below_drew1 | refine below_set ?_ GE129.out) | exact HB.out))))
                have n1_ := Aside0.mk (blk_below (g := gb129) (o := .cells #[.int .i64 a0_0, .int .i64 a0_1, .int .i64 a0_2, .int .i64 a0_3, .int .i64 a0_4] 25 (0, 0)) (by (with_reducible repeat (first | refine blk_drewN ?_ _ | refine blk_drew ?_ | refine blk_alloc ?_ _)); exact BK129.out) hb)
                have n2_ := Aside0.mk (below_step (by repeat (first | (with_reducible first | exact HB.out | apply below_alloc | apply pw_below_drewN | apply below_drew1 | refine below_set ?_ GE129.out) | exact HB.out)) hb)
                clear BK129
                clear HB
                have HO137 := n0_
                have BK129 := n1_
                have HB := n2_
                clear n0_ n1_ n2_
                clear hb ho26
                obtain ⟨Ao27, co27, eo27⟩ := Kd.R_slice HO137.out
                subst eo27
                obtain ⟨ado27, fo27, _⟩ := Kd.at_string (Kd.R_reads' HO137.out).2.2 0 (by decide) (by rw [Ny135.out]; simp)
                cases fo27
                refine hK.out _ _ ⟨.slice (some ado27) y135.length co27, ado27, m2_, (by rw [ha.out]; exact putSel_upk 0 hb_ rfl rfl rfl), (by (with_reducible repeat (first | refine blk_drewN ?_ _ | refine blk_drew ?_ | refine blk_alloc ?_ _)); exact BK129.out), (by repeat (first | (with_reducible first | exact HB.out | apply below_alloc | apply pw_below_drewN | apply below_drew1 | refine below_set ?_ GE129.out) | exact HB.out)), fun _ => (by (with_reducible repeat (first | apply Kd.R_alloc | apply Kd.R_drewN | apply Kd.R_drew)); exact HO137.out), fun _ => ⟨_, rfl⟩, fun h0_ => absurd ((hoff 2 (by kernel_rfl)).symm.trans h0_) (by decide)⟩
              refine steps_cons ?_ ?_
              · rintro b a w' ⟨v136, adz_v136, m2_, ha, Q_BK129, Q_HB, Q_HO137, Q_HA_HO137, Q_X2_⟩ hb_ hon hoff
                refine ⟨_, rfl, fun K hK => ?_⟩
                have e23 : a.tmps[23]? = some (v136) := by rw [ha]; exact putSel_on (e := (0, 23, v136)) 0 rfl rfl (hon 0 (by kernel_rfl)) rfl
                have e24 : a.tmps[24]? = some (.int .i64 a1) := by rw [ha]; exact (putSel_off rfl).trans rfl
                replace ha := Aside0.mk ha
                have BK129 := Aside0.mk Q_BK129
                have HB := Aside0.mk Q_HB
                have HO137 := Aside0.mk (Q_HO137 (hon 0 (by kernel_rfl)))
                have HA_HO137 := Aside0.mk (Q_HA_HO137 (hon 0 (by kernel_rfl)))
                obtain ⟨c_, hv_⟩ := HA_HO137.out
                rw [hv_] at e23
                refine value_ (w1 := w') (v := .pointer (some (adz_v136.add (a1).toNat))) (by rfl) rfl ?_ ?_
                · go_simp
                  (try simp only [i64_w])
                  try rfl
                refine hK.out _ _ ⟨v136, adz_v136, (.pointer (some (adz_v136.add (a1).toNat))), (by rw [ha.out]; exact putSel_upk 1 hb_ rfl rfl rfl), Q_BK129, Q_HB, Q_HO137, Q_HA_HO137, fun _ => rfl⟩
              refine steps_cons ?_ ?_
              · rintro b a w' ⟨v136, adz_v136, m2_, ha, Q_BK129, Q_HB, Q_HO137, Q_HA_HO137, Q_X2_⟩ hb_ hon hoff
                refine ⟨_, rfl, fun K hK => ?_⟩
                have e25 : a.tmps[25]? = some (m2_) := by rw [ha]; exact putSel_on (e := (2, 25, m2_)) 1 rfl rfl (hon 2 (by kernel_rfl)) rfl
                rw [Q_X2_ (hon 2 (by kernel_rfl))] at e25
                replace ha := Aside0.mk ha
                have BK129 := Aside0.mk Q_BK129
                have HB := Aside0.mk Q_HB
                have HO137 := Aside0.mk (Q_HO137 (hon 0 (by kernel_rfl)))
                have HA_HO137 := Aside0.mk (Q_HA_HO137 (hon 0 (by kernel_rfl)))
                obtain ⟨c_, hv_⟩ := HA_HO137.out
                have hF_ := HO137.out
                rw [hv_] at hF_
                obtain ⟨ad_, ea_, hx_⟩ := Kd.at_string (Kd.R_reads' hF_).2.2 a1 (of_eq_true pi138) (of_eq_true qi138)
                cases ea_
                refine value_ (w1 := w') (v := .string (rdOf ByteArray.empty y135 a1)) (by rfl) rfl ?_ ?_
                · go_simp
                  (try simp only [i64_w])
                  try rfl
                refine hK.out _ _ ⟨v136, adz_v136, m2_, (by rw [ha.out]; exact putSel_upk 2 hb_ rfl rfl rfl), Q_BK129, Q_HB, Q_HO137, Q_HA_HO137, Q_X2_⟩
              refine steps_cons ?_ ?_
              · rintro b a w' ⟨v136, adz_v136, m2_, ha, Q_BK129, Q_HB, Q_HO137, Q_HA_HO137, Q_X2_⟩ hb_ hon hoff
                refine ⟨_, rfl, fun K hK => ?_⟩
                have e27 : a.tmps[27]? = some (.pointer (some ⟨gb129, 2, none⟩)) := by rw [ha]; exact (putSel_off rfl).trans rfl
                replace ha := Aside0.mk ha
                have BK129 := Aside0.mk Q_BK129
                have HB := Aside0.mk Q_HB
                have hc0_ : w'.cell? ⟨gb129, 0, none⟩ = some (.int .i64 a0_0) := (blk_cell BK129.out 0).trans rfl
                have hc1_ : w'.cell? ⟨gb129, 1, none⟩ = some (.int .i64 a0_1) := (blk_cell BK129.out 1).trans rfl
                have hc2_ : w'.cell? ⟨gb129, 2, none⟩ = some (.int .i64 a0_2) := (blk_cell BK129.out 2).trans rfl
                have hc3_ : w'.cell? ⟨gb129, 3, none⟩ = some (.int .i64 a0_3) := (blk_cell BK129.out 3).trans rfl
                have hc4_ : w'.cell? ⟨gb129, 4, none⟩ = some (.int .i64 a0_4) := (blk_cell BK129.out 4).trans rfl
                refine value_ (w1 := w') (v := .int .i64 a0_2) (by rfl) rfl ?_ ?_
                · go_simp
                  (try simp only [i64_w])
                  try rfl
                refine hK.out _ _ ⟨v136, adz_v136, m2_, (by rw [ha.out]; exact putSel_upk 3 hb_ rfl rfl rfl), Q_BK129, Q_HB, Q_HO137, Q_HA_HO137, Q_X2_⟩
              refine steps_cons ?_ ?_
              · rintro b a w' ⟨v136, adz_v136, m2_, ha, Q_BK129, Q_HB, Q_HO137, Q_HA_HO137, Q_X2_⟩ hb_ hon hoff
                refine ⟨_, rfl, fun K hK => ?_⟩
                have e28 : a.tmps[28]? = some (.int .i64 a0_2) := by rw [ha]; exact putSel_on (e := (5, 28, .int .i64 a0_2)) 3 rfl rfl (hon 5 (by kernel_rfl)) rfl
                replace ha := Aside0.mk ha
                have BK129 := Aside0.mk Q_BK129
                have HB := Aside0.mk Q_HB
                refine goes_ Tryd.func31 (by kernel_rfl) rfl #[.int .i64 a0_2] (by rfl) rfl rfl (by first | (simp only [List.map_toArray, List.map_cons, List.map_nil, Act.eval, Array.getD_eq_getD_getElem?, Option.getD_some, e28]; done) | (simp only [List.map_toArray, List.map_cons, List.map_nil, Act.eval, Array.getD_eq_getD_getElem?, Option.getD_some, e28]; rfl)) ?_
                with_reducible refine (spec_l1Dec.calls k a0_2 t139 _ A20.out).mono ?_
                rintro e w25 ⟨rfl, hb⟩
                refine ⟨_, rfl, ?_⟩
                have n0_ := Aside0.mk (blk_below (g := gb129) (o := .cells #[.int .i64 a0_0, .int .i64 a0_1, .int .i64 a0_2, .int .i64 a0_3, .int .i64 a0_4] 25 (0, 0)) (by (with_reducible repeat (first | refine blk_drewN ?_ _ | refine blk_drew ?_ | refine blk_alloc ?_ _)); exact BK129.out) hb)
                have n1_ := Aside0.mk (below_step (by repeat (first | (with_reducible first | exact HB.out | apply below_alloc | apply pw_below_drewN | apply below_drew1 | refine below_set ?_ GE129.out) | exact HB.out)) hb)
                have z_HO137 := fun (h0_ : b 0 = true) => (show Kd.R Kd.string 9 w25 w.heap.size (fun _ => True) v136 y135 from by first | exact (Kd.R_below (by (with_reducible repeat (first | apply Kd.R_alloc | apply Kd.R_drewN | apply Kd.R_drew)); exact (Q_HO137 h0_)) hb) | exact Kd.R_mono (Kd.R_below (by (with_reducible repeat (first | apply Kd.R_alloc | apply Kd.R_drewN | apply Kd.R_drew)); exact (Q_HO137 h0_)) hb) (fun _ h_ => by first | trivial | exact h_ | exact h_.1))
                clear BK129
                clear HB
                have BK129 := n0_
                have HB := n1_
                clear n0_ n1_
                (try clear hb)
                (try clear hb2)
                (try clear hk)
                (try clear hi)
                refine hK.out _ _ ⟨v136, adz_v136, m2_, (by rw [ha.out]; exact putSel_upk 4 hb_ rfl rfl rfl), (by (with_reducible repeat (first | refine blk_drewN ?_ _ | refine blk_drew ?_ | refine blk_alloc ?_ _)); exact BK129.out), (by repeat (first | (with_reducible first | exact HB.out | apply below_alloc | apply pw_below_drewN | apply below_drew1 | refine below_set ?_ GE129.out) | exact HB.out)), z_HO137, Q_HA_HO137, Q_X2_⟩
              refine steps_cons ?_ ?_
              · rintro b a w' ⟨v136, adz_v136, m2_, ha, Q_BK129, Q_HB, Q_HO137, Q_HA_HO137, Q_X2_⟩ hb_ hon hoff
                refine ⟨_, rfl, fun K hK => ?_⟩
                have e26 : a.tmps[26]? = some (.string (rdOf ByteArray.empty y135 a1)) := by rw [ha]; exact putSel_on (e := (3, 26, .string (rdOf ByteArray.empty y135 a1))) 2 rfl rfl (hon 3 (by kernel_rfl)) rfl
                have e29 : a.tmps[29]? = some (.string t139) := by rw [ha]; exact putSel_on (e := (6, 29, .string t139)) 4 rfl rfl (hon 6 (by kernel_rfl)) rfl
                replace ha := Aside0.mk ha
                have BK129 := Aside0.mk Q_BK129
                have HB := Aside0.mk Q_HB
                have HO137 := Aside0.mk (Q_HO137 (hon 0 (by kernel_rfl)))
                have HA_HO137 := Aside0.mk (Q_HA_HO137 (hon 0 (by kernel_rfl)))
                refine value_ (w1 := w') (v := .string ((rdOf ByteArray.empty y135 a1) ++ t139)) (by rfl) rfl ?_ ?_
                · go_simp
                  (try simp only [i64_w])
                  try rfl
                refine hK.out _ _ ⟨v136, adz_v136, m2_, (by rw [ha.out]; exact putSel_upk 5 hb_ rfl rfl rfl), Q_BK129, Q_HB, Q_HO137, Q_HA_HO137, Q_X2_⟩
              refine steps_cons ?_ ?_
              · rintro b a w' ⟨v136, adz_v136, m2_, ha, Q_BK129, Q_HB, Q_HO137, Q_HA_HO137, Q_X2_⟩ hb_ hon hoff
                refine ⟨_, rfl, fun K hK => ?_⟩
                have e30 : a.tmps[30]? = some (.string ((rdOf ByteArray.empty y135 a1) ++ t139)) := by rw [ha]; exact putSel_on (e := (7, 30, .string ((rdOf ByteArray.empty y135 a1) ++ t139))) 5 rfl rfl (hon 7 (by kernel_rfl)) rfl
                replace ha := Aside0.mk ha
                have BK129 := Aside0.mk Q_BK129
                have HB := Aside0.mk Q_HB
                have HO137 := Aside0.mk (Q_HO137 (hon 0 (by kernel_rfl)))
                have HA_HO137 := Aside0.mk (Q_HA_HO137 (hon 0 (by kernel_rfl)))
                refine value_ (w1 := w') (v := .string ((rdOf ByteArray.empty y135 a1) ++ t139)) (by rfl) rfl ?_ ?_
                · go_simp
                  (try simp only [i64_w])
                  try rfl
                refine hK.out _ _ ⟨v136, adz_v136, m2_, (by rw [ha.out]; exact putSel_upk 6 hb_ rfl rfl rfl), Q_BK129, Q_HB, Q_HO137, Q_HA_HO137, Q_X2_⟩
              exact steps_nil
            rintro b a w29 hall ⟨v136, adz_v136, m2_, ha, Q_BK129, Q_HB, Q_HO137, Q_HA_HO137, Q_X2_⟩
            clear BK129 HB
            have hb0_ := hall 0 (by kernel_rfl)
            have hb2_ := hall 2 (by kernel_rfl)
            have hb3_ := hall 3 (by kernel_rfl)
            have hb5_ := hall 5 (by kernel_rfl)
            have hb6_ := hall 6 (by kernel_rfl)
            have hb7_ := hall 7 (by kernel_rfl)
            have hb8_ := hall 8 (by kernel_rfl)
            subst ha
            obtain rfl := Q_X2_ hb2_
            simp only [putSel, hb0_, hb2_, hb3_, hb5_, hb6_, hb7_, hb8_, if_true, Act.put, List.setIfInBounds_toArray, List.set_cons_zero, List.set_cons_succ]
            have BK129 := Aside0.mk Q_BK129
            clear Q_BK129
            have HB := Aside0.mk Q_HB
            clear Q_HB
            have HO137 := Aside0.mk (Q_HO137 hb0_)
            clear Q_HO137
            have HA_HO137 := Aside0.mk (Q_HA_HO137 hb0_)
            clear Q_HA_HO137
            clear hall hb0_ hb2_ hb3_ hb5_ hb6_ hb7_ hb8_
            obtain ⟨co30, eo30⟩ := HA_HO137.out
            clear HA_HO137
            subst eo30
            try go_wp2
            go_ret
            exact ⟨by first | rfl | (simp [errW_none, errW_some] <;> rfl) | (simp [*, errW_none, errW_some] <;> rfl), by repeat (first | (with_reducible first | exact HB.out | apply below_alloc | apply pw_below_drewN | apply below_drew1 | refine below_set ?_ GE129.out) | exact HB.out)⟩
          · rw [if_neg c21] at H
            exact absurd H (by simp)
        · rw [if_neg c19] at H
          exact absurd H (by simp)
      · rw [if_neg c18] at H
        exact absurd H (by simp)
    · rw [if_neg c17] at H
      have c17b0 : decide (a0_2 < a0_1) = false := decide_eq_false c17
      clear c17
      obtain rfl := Option.some.inj H
      go_enter Tryd.func18, Tryd.ntmps18
      go_wp2_with (first | ((with_reducible refine gate_dst (N := 2) rfl ?_); refine box_event ?hg (N := 2) ?hd (cs := #[.int .i64 a0_0, .int .i64 a0_1, .int .i64 a0_2, .int .i64 a0_3, .int .i64 a0_4]) (t := 25) ?hr ?_; (case hd => rfl); (case hg => rfl); (case hr => first | (go_simp; done) | (go_simp; rfl)); intro gb129 hg w31 hbox hb; have n0_ := Aside0.mk (below_step (by repeat (first | (with_reducible first | exact HB.out | apply below_alloc | apply pw_below_drewN | apply below_drew1) | exact HB.out)) hb); have n1_ := Aside0.mk (hbox); have n2_ := Aside0.mk ((by rw [hg]; exact (below_size (by repeat (first | (with_reducible first | exact HB.out | apply below_alloc | apply pw_below_drewN | apply below_drew1) | exact HB.out))) : w.heap.size ≤ gb129)); have n3_ := Aside0.mk ((by rw [hg]; exact (below_size (by repeat (first | (with_reducible first | exact HB.out | apply below_alloc | apply pw_below_drewN | apply below_drew1) | exact HB.out))) : w.heap.size ≤ gb129)); clear HB; have HB := n0_; have BK129 := n1_; have GW129 := n2_; have GE129 := n3_; clear n0_ n1_ n2_ n3_; clear hb hbox hg; have hcz32_0 : w31.cell? ⟨gb129, 0, none⟩ = some (.int .i64 a0_0) := (blk_cell BK129.out 0).trans rfl; have hcz32_1 : w31.cell? ⟨gb129, 1, none⟩ = some (.int .i64 a0_1) := (blk_cell BK129.out 1).trans rfl; have hcz32_2 : w31.cell? ⟨gb129, 2, none⟩ = some (.int .i64 a0_2) := (blk_cell BK129.out 2).trans rfl; have hcz32_3 : w31.cell? ⟨gb129, 3, none⟩ = some (.int .i64 a0_3) := (blk_cell BK129.out 3).trans rfl; have hcz32_4 : w31.cell? ⟨gb129, 4, none⟩ = some (.int .i64 a0_4) := (blk_cell BK129.out 4).trans rfl; have hfz32_0 := blk_frozen BK129.out 0; have hfz32_1 := blk_frozen BK129.out 1; have hfz32_2 := blk_frozen BK129.out 2; have hfz32_3 := blk_frozen BK129.out 3; have hfz32_4 := blk_frozen BK129.out 4))
      go_ret
      exact ⟨by first | rfl | (simp [errW_none, errW_some] <;> rfl) | (simp [*, errW_none, errW_some] <;> rfl), by repeat (first | (with_reducible first | exact HB.out | apply below_alloc | apply pw_below_drewN | apply below_drew1 | refine below_set ?_ GE129.out) | exact HB.out)⟩

/-! ### spec_l23Rain: function 19 -/
def spec_l23Rain.f (k : Nat) (a0_0 : Int) (a0_1 : Int) (a0_2 : Int) (a0_3 : Int) (a0_4 : Int) (a1 : Int) : Option (ByteArray) := if a0_3 = 0 then ((some (([(⟨#[]⟩ : ByteArray), (⟨#[100, 114, 121]⟩ : ByteArray), (⟨#[116, 114, 111, 99, 107, 101, 110]⟩ : ByteArray), (⟨#[115, 117, 99, 104, 111]⟩ : ByteArray)] : List ByteArray) : List ByteArray)).bind fun y141 => (if 0 ≤ a1 then (if a1 < (y141.length : Int) then (some (rdOf ByteArray.empty y141 a1)) else (none)) else (none))) else ((some (([(⟨#[]⟩ : ByteArray), (⟨#[114, 97, 105, 110]⟩ : ByteArray), (⟨#[115, 110, 111, 119]⟩ : ByteArray), (⟨#[104, 97, 105, 108]⟩ : ByteArray), (⟨#[82, 101, 103, 101, 110]⟩ : ByteArray), (⟨#[83, 99, 104, 110, 101, 101]⟩ : ByteArray), (⟨#[72, 97, 103, 101, 108]⟩ : ByteArray), (⟨#[100, 101, 115, 122, 99, 122]⟩ : ByteArray), (⟨#[197, 155, 110, 105, 101, 103]⟩ : ByteArray), (⟨#[103, 114, 97, 100]⟩ : ByteArray)] : List ByteArray) : List ByteArray)).bind fun y145 => (if 0 ≤ (wrap64 ((wrap64 ((wrap64 (a1 - 1)) * 3)) + a0_3)) then (if (wrap64 ((wrap64 ((wrap64 (a1 - 1)) * 3)) + a0_3)) < (y145.length : Int) then ((some (([(⟨#[]⟩ : ByteArray), (⟨#[32, 105, 110, 32]⟩ : ByteArray), (⟨#[32, 97, 110, 32]⟩ : ByteArray), (⟨#[32, 119, 32]⟩ : ByteArray)] : List ByteArray) : List ByteArray)).bind fun y149 => (if 0 ≤ a1 then (if a1 < (y149.length : Int) then ((some (([(⟨#[]⟩ : ByteArray), (⟨#[112, 108, 97, 99, 101, 115]⟩ : ByteArray), (⟨#[79, 114, 116, 101, 110]⟩ : ByteArray), (⟨#[109, 105, 101, 106, 115, 99, 97, 99, 104]⟩ : ByteArray)] : List ByteArray) : List ByteArray)).bind fun y153 => (if a1 < (y153.length : Int) then (if a0_4 = 1 then ((some (([(⟨#[]⟩ : ByteArray), (⟨#[112, 108, 97, 99, 101]⟩ : ByteArray), (⟨#[79, 114, 116]⟩ : ByteArray), (⟨#[109, 105, 101, 106, 115, 99, 117]⟩ : ByteArray)] : List ByteArray) : List ByteArray)).bind fun y157 => (if a1 < (y157.length : Int) then (if (rdOf ByteArray.empty y145 (wrap64 ((wrap64 ((wrap64 (a1 - 1)) * 3)) + a0_3))).size + (rdOf ByteArray.empty y149 a1).size ≤ 9223372036854775807 then ((spec_l1Dec.f k a0_4).bind fun t161 => (if ((rdOf ByteArray.empty y145 (wrap64 ((wrap64 ((wrap64 (a1 - 1)) * 3)) + a0_3))) ++ (rdOf ByteArray.empty y149 a1)).size + t161.size ≤ 9223372036854775807 then (if (((rdOf ByteArray.empty y145 (wrap64 ((wrap64 ((wrap64 (a1 - 1)) * 3)) + a0_3))) ++ (rdOf ByteArray.empty y149 a1)) ++ t161).size + 1 ≤ 9223372036854775807 then (if ((((rdOf ByteArray.empty y145 (wrap64 ((wrap64 ((wrap64 (a1 - 1)) * 3)) + a0_3))) ++ (rdOf ByteArray.empty y149 a1)) ++ t161) ++ (⟨#[32]⟩ : ByteArray)).size + (rdOf ByteArray.empty y157 a1).size ≤ 9223372036854775807 then (some (((((rdOf ByteArray.empty y145 (wrap64 ((wrap64 ((wrap64 (a1 - 1)) * 3)) + a0_3))) ++ (rdOf ByteArray.empty y149 a1)) ++ t161) ++ (⟨#[32]⟩ : ByteArray)) ++ (rdOf ByteArray.empty y157 a1))) else (none)) else (none)) else (none))) else (none)) else (none))) else (if (rdOf ByteArray.empty y145 (wrap64 ((wrap64 ((wrap64 (a1 - 1)) * 3)) + a0_3))).size + (rdOf ByteArray.empty y149 a1).size ≤ 9223372036854775807 then ((spec_l1Dec.f k a0_4).bind fun t162 => (if ((rdOf ByteArray.empty y145 (wrap64 ((wrap64 ((wrap64 (a1 - 1)) * 3)) + a0_3))) ++ (rdOf ByteArray.empty y149 a1)).size + t162.size ≤ 9223372036854775807 then (if (((rdOf ByteArray.empty y145 (wrap64 ((wrap64 ((wrap64 (a1 - 1)) * 3)) + a0_3))) ++ (rdOf ByteArray.empty y149 a1)) ++ t162).size + 1 ≤ 9223372036854775807 then (if ((((rdOf ByteArray.empty y145 (wrap64 ((wrap64 ((wrap64 (a1 - 1)) * 3)) + a0_3))) ++ (rdOf ByteArray.empty y149 a1)) ++ t162) ++ (⟨#[32]⟩ : ByteArray)).size + (rdOf ByteArray.empty y153 a1).size ≤ 9223372036854775807 then (some (((((rdOf ByteArray.empty y145 (wrap64 ((wrap64 ((wrap64 (a1 - 1)) * 3)) + a0_3))) ++ (rdOf ByteArray.empty y149 a1)) ++ t162) ++ (⟨#[32]⟩ : ByteArray)) ++ (rdOf ByteArray.empty y153 a1))) else (none)) else (none)) else (none))) else (none))) else (none))) else (none)) else (none))) else (none)) else (none)))
theorem spec_l23Rain.mono : ∀ a0 a1 a2 a3 a4 a5 k, LeO (spec_l23Rain.f k a0 a1 a2 a3 a4 a5) (spec_l23Rain.f (k + 1) a0 a1 a2 a3 a4 a5) := by
  intro a0 a1 a2 a3 a4 a5 k
  unfold spec_l23Rain.f
  repeat' first
      | (with_reducible exact spec_l1Dec.mono _ _)
      | (with_reducible exact LeO.refl _)
      | (with_reducible exact LeO.none _)
      | (with_reducible refine LeO.ite ?_ ?_)
      | (with_reducible refine LeO.bind ?_ (fun _ => ?_))
      | exact spec_l1Dec.mono _ _
      | exact LeO.none _
      | refine LeO.ite ?_ ?_
      | refine LeO.bind ?_ (fun _ => ?_)
set_option maxHeartbeats 8000000 in
set_option maxRecDepth 100000 in
theorem spec_l23Rain.calls (k : Nat) (a0_0 : Int) (a0_1 : Int) (a0_2 : Int) (a0_3 : Int) (a0_4 : Int) (a1 : Int) (r : ByteArray) (w : World) (h : spec_l23Rain.f k a0_0 a0_1 a0_2 a0_3 a0_4 a1 = some r) :
    Calls Tryd.prog 19 #[.agg #[.int .i64 a0_0, .int .i64 a0_1, .int .i64 a0_2, .int .i64 a0_3, .int .i64 a0_4], .int .i64 a1] w fun e w' => e = .returned (.string r) ∧ Below w.heap.size w w' := by
  have hu25 := Tryd.underlying25
  have HB := Aside0.mk (Below.refl w.heap.size w)
  have H : (if a0_3 = 0 then ((some (([(⟨#[]⟩ : ByteArray), (⟨#[100, 114, 121]⟩ : ByteArray), (⟨#[116, 114, 111, 99, 107, 101, 110]⟩ : ByteArray), (⟨#[115, 117, 99, 104, 111]⟩ : ByteArray)] : List ByteArray) : List ByteArray)).bind fun y141 => (if 0 ≤ a1 then (if a1 < (y141.length : Int) then (some (rdOf ByteArray.empty y141 a1)) else (none)) else (none))) else ((some (([(⟨#[]⟩ : ByteArray), (⟨#[114, 97, 105, 110]⟩ : ByteArray), (⟨#[115, 110, 111, 119]⟩ : ByteArray), (⟨#[104, 97, 105, 108]⟩ : ByteArray), (⟨#[82, 101, 103, 101, 110]⟩ : ByteArray), (⟨#[83, 99, 104, 110, 101, 101]⟩ : ByteArray), (⟨#[72, 97, 103, 101, 108]⟩ : ByteArray), (⟨#[100, 101, 115, 122, 99, 122]⟩ : ByteArray), (⟨#[197, 155, 110, 105, 101, 103]⟩ : ByteArray), (⟨#[103, 114, 97, 100]⟩ : ByteArray)] : List ByteArray) : List ByteArray)).bind fun y145 => (if 0 ≤ (wrap64 ((wrap64 ((wrap64 (a1 - 1)) * 3)) + a0_3)) then (if (wrap64 ((wrap64 ((wrap64 (a1 - 1)) * 3)) + a0_3)) < (y145.length : Int) then ((some (([(⟨#[]⟩ : ByteArray), (⟨#[32, 105, 110, 32]⟩ : ByteArray), (⟨#[32, 97, 110, 32]⟩ : ByteArray), (⟨#[32, 119, 32]⟩ : ByteArray)] : List ByteArray) : List ByteArray)).bind fun y149 => (if 0 ≤ a1 then (if a1 < (y149.length : Int) then ((some (([(⟨#[]⟩ : ByteArray), (⟨#[112, 108, 97, 99, 101, 115]⟩ : ByteArray), (⟨#[79, 114, 116, 101, 110]⟩ : ByteArray), (⟨#[109, 105, 101, 106, 115, 99, 97, 99, 104]⟩ : ByteArray)] : List ByteArray) : List ByteArray)).bind fun y153 => (if a1 < (y153.length : Int) then (if a0_4 = 1 then ((some (([(⟨#[]⟩ : ByteArray), (⟨#[112, 108, 97, 99, 101]⟩ : ByteArray), (⟨#[79, 114, 116]⟩ : ByteArray), (⟨#[109, 105, 101, 106, 115, 99, 117]⟩ : ByteArray)] : List ByteArray) : List ByteArray)).bind fun y157 => (if a1 < (y157.length : Int) then (if (rdOf ByteArray.empty y145 (wrap64 ((wrap64 ((wrap64 (a1 - 1)) * 3)) + a0_3))).size + (rdOf ByteArray.empty y149 a1).size ≤ 9223372036854775807 then ((spec_l1Dec.f k a0_4).bind fun t161 => (if ((rdOf ByteArray.empty y145 (wrap64 ((wrap64 ((wrap64 (a1 - 1)) * 3)) + a0_3))) ++ (rdOf ByteArray.empty y149 a1)).size + t161.size ≤ 9223372036854775807 then (if (((rdOf ByteArray.empty y145 (wrap64 ((wrap64 ((wrap64 (a1 - 1)) * 3)) + a0_3))) ++ (rdOf ByteArray.empty y149 a1)) ++ t161).size + 1 ≤ 9223372036854775807 then (if ((((rdOf ByteArray.empty y145 (wrap64 ((wrap64 ((wrap64 (a1 - 1)) * 3)) + a0_3))) ++ (rdOf ByteArray.empty y149 a1)) ++ t161) ++ (⟨#[32]⟩ : ByteArray)).size + (rdOf ByteArray.empty y157 a1).size ≤ 9223372036854775807 then (some (((((rdOf ByteArray.empty y145 (wrap64 ((wrap64 ((wrap64 (a1 - 1)) * 3)) + a0_3))) ++ (rdOf ByteArray.empty y149 a1)) ++ t161) ++ (⟨#[32]⟩ : ByteArray)) ++ (rdOf ByteArray.empty y157 a1))) else (none)) else (none)) else (none))) else (none)) else (none))) else (if (rdOf ByteArray.empty y145 (wrap64 ((wrap64 ((wrap64 (a1 - 1)) * 3)) + a0_3))).size + (rdOf ByteArray.empty y149 a1).size ≤ 9223372036854775807 then ((spec_l1Dec.f k a0_4).bind fun t162 => (if ((rdOf ByteArray.empty y145 (wrap64 ((wrap64 ((wrap64 (a1 - 1)) * 3)) + a0_3))) ++ (rdOf ByteArray.empty y149 a1)).size + t162.size ≤ 9223372036854775807 then (if (((rdOf ByteArray.empty y145 (wrap64 ((wrap64 ((wrap64 (a1 - 1)) * 3)) + a0_3))) ++ (rdOf ByteArray.empty y149 a1)) ++ t162).size + 1 ≤ 9223372036854775807 then (if ((((rdOf ByteArray.empty y145 (wrap64 ((wrap64 ((wrap64 (a1 - 1)) * 3)) + a0_3))) ++ (rdOf ByteArray.empty y149 a1)) ++ t162) ++ (⟨#[32]⟩ : ByteArray)).size + (rdOf ByteArray.empty y153 a1).size ≤ 9223372036854775807 then (some (((((rdOf ByteArray.empty y145 (wrap64 ((wrap64 ((wrap64 (a1 - 1)) * 3)) + a0_3))) ++ (rdOf ByteArray.empty y149 a1)) ++ t162) ++ (⟨#[32]⟩ : ByteArray)) ++ (rdOf ByteArray.empty y153 a1))) else (none)) else (none)) else (none))) else (none))) else (none))) else (none)) else (none))) else (none)) else (none)))) = some r := h
  clear h
  by_cases c3 : a0_3 = 0
  · rw [if_pos c3] at H
    have c3b0 : (a0_3 == 0) = true := beq_iff_eq.mpr c3
    have c3b1 : (a0_3 != 0) = false := bne_eq_false_iff_eq.mpr c3
    clear c3
    obtain ⟨y141, hy141⟩ : ∃ y_ : List ByteArray, y_ = (([(⟨#[]⟩ : ByteArray), (⟨#[100, 114, 121]⟩ : ByteArray), (⟨#[116, 114, 111, 99, 107, 101, 110]⟩ : ByteArray), (⟨#[115, 117, 99, 104, 111]⟩ : ByteArray)] : List ByteArray)) := ⟨_, rfl⟩
    replace H : (if 0 ≤ a1 then (if a1 < (y141.length : Int) then (some (rdOf ByteArray.empty y141 a1)) else (none)) else (none)) = some r := by first | (rw [hy141]; with_reducible exact H) | (have H2_ := (Option.bind_some _ _).symm.trans H; rw [hy141]; with_reducible exact H2_) | (have H2_ := (Option.bind_some _ _).symm.trans H; with_reducible exact H2_) | with_reducible exact H | (rw [hy141]; exact H) | exact H
    have Ny141 := Aside0.mk hy141
    clear hy141
    by_cases c4 : 0 ≤ a1
    · rw [if_pos c4] at H
      have c4b0 : decide (0 ≤ a1) = true := decide_eq_true c4
      clear c4
      by_cases c5 : a1 < (y141.length : Int)
      · rw [if_pos c5] at H
        have c5b0 : decide (a1 < (y141.length : Int)) = true := decide_eq_true c5
        clear c5
        obtain rfl := Option.some.inj H
        go_enter Tryd.func19, Tryd.ntmps19
        go_wp2_with (first | ((with_reducible refine gate_dst (N := 2) rfl ?_); refine box_event ?hg (N := 2) ?hd (cs := #[.int .i64 a0_0, .int .i64 a0_1, .int .i64 a0_2, .int .i64 a0_3, .int .i64 a0_4]) (t := 25) ?hr ?_; (case hd => rfl); (case hg => rfl); (case hr => first | (go_simp; done) | (go_simp; rfl)); intro gb140 hg w6 hbox hb; have n0_ := Aside0.mk (below_step (by repeat (first | (with_reducible first | exact HB.out | apply below_alloc | apply pw_below_drewN | apply below_drew1) | exact HB.out)) hb); have n1_ := Aside0.mk (hbox); have n2_ := Aside0.mk ((by rw [hg]; exact (below_size (by repeat (first | (with_reducible first | exact HB.out | apply below_alloc | apply pw_below_drewN | apply below_drew1) | exact HB.out))) : w.heap.size ≤ gb140)); have n3_ := Aside0.mk ((by rw [hg]; exact (below_size (by repeat (first | (with_reducible first | exact HB.out | apply below_alloc | apply pw_below_drewN | apply below_drew1) | exact HB.out))) : w.heap.size ≤ gb140)); clear HB; have HB := n0_; have BK140 := n1_; have GW140 := n2_; have GE140 := n3_; clear n0_ n1_ n2_ n3_; clear hb hbox hg; have hcz7_0 : w6.cell? ⟨gb140, 0, none⟩ = some (.int .i64 a0_0) := (blk_cell BK140.out 0).trans rfl; have hcz7_1 : w6.cell? ⟨gb140, 1, none⟩ = some (.int .i64 a0_1) := (blk_cell BK140.out 1).trans rfl; have hcz7_2 : w6.cell? ⟨gb140, 2, none⟩ = some (.int .i64 a0_2) := (blk_cell BK140.out 2).trans rfl; have hcz7_3 : w6.cell? ⟨gb140, 3, none⟩ = some (.int .i64 a0_3) := (blk_cell BK140.out 3).trans rfl; have hcz7_4 : w6.cell? ⟨gb140, 4, none⟩ = some (.int .i64 a0_4) := (blk_cell BK140.out 4).trans rfl; have hfz7_0 := blk_frozen BK140.out 0; have hfz7_1 := blk_frozen BK140.out 1; have hfz7_2 := blk_frozen BK140.out 2; have hfz7_3 := blk_frozen BK140.out 3; have hfz7_4 := blk_frozen BK140.out 4) | ((with_reducible refine gate_dst (N := 11) rfl ?_); refine Kd.R_lit Kd.string _ 9 ?hg (N := 11) ?hd (xs := ([(⟨#[]⟩ : ByteArray), (⟨#[100, 114, 121]⟩ : ByteArray), (⟨#[116, 114, 111, 99, 107, 101, 110]⟩ : ByteArray), (⟨#[115, 117, 99, 104, 111]⟩ : ByteArray)] : List ByteArray)) (inner := [.string (⟨#[]⟩ : ByteArray), .string (⟨#[100, 114, 121]⟩ : ByteArray), .string (⟨#[116, 114, 111, 99, 107, 101, 110]⟩ : ByteArray), .string (⟨#[115, 117, 99, 104, 111]⟩ : ByteArray)]) (ok := fun _ => True) (okp := fun _ => True) ?hr ?hp (fun _ hk => hk) trivial (Below.refl _ _) (Nat.le_refl _) (by simp) ?_; (case hd => rfl); (case hg => rfl); (case hr => first | (go_simp; done) | (go_simp; rfl)); (case hp => exact (Reps.one (show Kd.M Kd.string _ _ _ (⟨#[]⟩ : ByteArray) [.string (⟨#[]⟩ : ByteArray)] from rfl) (Reps.one (show Kd.M Kd.string _ _ _ (⟨#[100, 114, 121]⟩ : ByteArray) [.string (⟨#[100, 114, 121]⟩ : ByteArray)] from rfl) (Reps.one (show Kd.M Kd.string _ _ _ (⟨#[116, 114, 111, 99, 107, 101, 110]⟩ : ByteArray) [.string (⟨#[116, 114, 111, 99, 107, 101, 110]⟩ : ByteArray)] from rfl) (Reps.one (show Kd.M Kd.string _ _ _ (⟨#[115, 117, 99, 104, 111]⟩ : ByteArray) [.string (⟨#[115, 117, 99, 104, 111]⟩ : ByteArray)] from rfl) (Reps.none _ _)))))); intro v142 w8 ho9 hb hg_ hnew_; clear hg_ hnew_; (first | rw [← Ny141.out] at ho9 | (simp only [Int.reduceToNat] at ho9; rw [← Ny141.out] at ho9)); have n0_ := Aside0.mk (Kd.R_lower ho9 (below_size (by repeat (first | (with_reducible first | exact HB.out | apply below_alloc | apply pw_below_drewN | apply below_drew1 | refine below_set ?_ GE140.out) | exact HB.out)))); have n1_ := Aside0.mk (blk_below (g := gb140) (o := .cells #[.int .i64 a0_0, .int .i64 a0_1, .int .i64 a0_2, .int .i64 a0_3, .int .i64 a0_4] 25 (0, 0)) (by (with_reducible repeat (first | refine blk_drewN ?_ _ | refine blk_drew ?_ | refine blk_alloc ?_ _)); exact BK140.out) hb); have n2_ := Aside0.mk (below_step (by repeat (first | (with_reducible first | exact HB.out | apply below_alloc | apply pw_below_drewN | apply below_drew1 | refine below_set ?_ GE140.out) | exact HB.out)) hb); clear BK140; clear HB; have HO143 := n0_; have BK140 := n1_; have HB := n2_; clear n0_ n1_ n2_; clear hb ho9; obtain ⟨Ao10, co10, eo10⟩ := Kd.R_slice HO143.out; subst eo10; have p144 : 0 ≤ (a1 : Int) := of_decide_eq_true (by first | (with_reducible assumption) | assumption); have q144 : a1 < (y141.length : Int) := of_decide_eq_true (by first | (with_reducible assumption) | assumption); obtain ⟨ad144, e144, hx144_0⟩ := Kd.at_string (Kd.R_reads' HO143.out).2.2 a1 p144 q144; cases e144; replace p144 := eq_true p144; replace q144 := eq_true q144))
        go_ret
        exact ⟨by first | rfl | (simp [errW_none, errW_some] <;> rfl) | (simp [*, errW_none, errW_some] <;> rfl), by repeat (first | (with_reducible first | exact HB.out | apply below_alloc | apply pw_below_drewN | apply below_drew1 | refine below_set ?_ GE140.out) | exact HB.out)⟩
      · rw [if_neg c5] at H
        exact absurd H (by simp)
    · rw [if_neg c4] at H
      exact absurd H (by simp)
  · rw [if_neg c3] at H
    have c3b0 : (a0_3 == 0) = false := beq_eq_false_iff_ne.mpr c3
    have c3b1 : (a0_3 != 0) = true := bne_iff_ne.mpr c3
    obtain ⟨y145, hy145⟩ : ∃ y_ : List ByteArray, y_ = (([(⟨#[]⟩ : ByteArray), (⟨#[114, 97, 105, 110]⟩ : ByteArray), (⟨#[115, 110, 111, 119]⟩ : ByteArray), (⟨#[104, 97, 105, 108]⟩ : ByteArray), (⟨#[82, 101, 103, 101, 110]⟩ : ByteArray), (⟨#[83, 99, 104, 110, 101, 101]⟩ : ByteArray), (⟨#[72, 97, 103, 101, 108]⟩ : ByteArray), (⟨#[100, 101, 115, 122, 99, 122]⟩ : ByteArray), (⟨#[197, 155, 110, 105, 101, 103]⟩ : ByteArray), (⟨#[103, 114, 97, 100]⟩ : ByteArray)] : List ByteArray)) := ⟨_, rfl⟩
    replace H : (if 0 ≤ (wrap64 ((wrap64 ((wrap64 (a1 - 1)) * 3)) + a0_3)) then (if (wrap64 ((wrap64 ((wrap64 (a1 - 1)) * 3)) + a0_3)) < (y145.length : Int) then ((some (([(⟨#[]⟩ : ByteArray), (⟨#[32, 105, 110, 32]⟩ : ByteArray), (⟨#[32, 97, 110, 32]⟩ : ByteArray), (⟨#[32, 119, 32]⟩ : ByteArray)] : List ByteArray) : List ByteArray)).bind fun y149 => (if 0 ≤ a1 then (if a1 < (y149.length : Int) then ((some (([(⟨#[]⟩ : ByteArray), (⟨#[112, 108, 97, 99, 101, 115]⟩ : ByteArray), (⟨#[79, 114, 116, 101, 110]⟩ : ByteArray), (⟨#[109, 105, 101, 106, 115, 99, 97, 99, 104]⟩ : ByteArray)] : List ByteArray) : List ByteArray)).bind fun y153 => (if a1 < (y153.length : Int) then (if a0_4 = 1 then ((some (([(⟨#[]⟩ : ByteArray), (⟨#[112, 108, 97, 99, 101]⟩ : ByteArray), (⟨#[79, 114, 116]⟩ : ByteArray), (⟨#[109, 105, 101, 106, 115, 99, 117]⟩ : ByteArray)] : List ByteArray) : List ByteArray)).bind fun y157 => (if a1 < (y157.length : Int) then (if (rdOf ByteArray.empty y145 (wrap64 ((wrap64 ((wrap64 (a1 - 1)) * 3)) + a0_3))).size + (rdOf ByteArray.empty y149 a1).size ≤ 9223372036854775807 then ((spec_l1Dec.f k a0_4).bind fun t161 => (if ((rdOf ByteArray.empty y145 (wrap64 ((wrap64 ((wrap64 (a1 - 1)) * 3)) + a0_3))) ++ (rdOf ByteArray.empty y149 a1)).size + t161.size ≤ 9223372036854775807 then (if (((rdOf ByteArray.empty y145 (wrap64 ((wrap64 ((wrap64 (a1 - 1)) * 3)) + a0_3))) ++ (rdOf ByteArray.empty y149 a1)) ++ t161).size + 1 ≤ 9223372036854775807 then (if ((((rdOf ByteArray.empty y145 (wrap64 ((wrap64 ((wrap64 (a1 - 1)) * 3)) + a0_3))) ++ (rdOf ByteArray.empty y149 a1)) ++ t161) ++ (⟨#[32]⟩ : ByteArray)).size + (rdOf ByteArray.empty y157 a1).size ≤ 9223372036854775807 then (some (((((rdOf ByteArray.empty y145 (wrap64 ((wrap64 ((wrap64 (a1 - 1)) * 3)) + a0_3))) ++ (rdOf ByteArray.empty y149 a1)) ++ t161) ++ (⟨#[32]⟩ : ByteArray)) ++ (rdOf ByteArray.empty y157 a1))) else (none)) else (none)) else (none))) else (none)) else (none))) else (if (rdOf ByteArray.empty y145 (wrap64 ((wrap64 ((wrap64 (a1 - 1)) * 3)) + a0_3))).size + (rdOf ByteArray.empty y149 a1).size ≤ 9223372036854775807 then ((spec_l1Dec.f k a0_4).bind fun t162 => (if ((rdOf ByteArray.empty y145 (wrap64 ((wrap64 ((wrap64 (a1 - 1)) * 3)) + a0_3))) ++ (rdOf ByteArray.empty y149 a1)).size + t162.size ≤ 9223372036854775807 then (if (((rdOf ByteArray.empty y145 (wrap64 ((wrap64 ((wrap64 (a1 - 1)) * 3)) + a0_3))) ++ (rdOf ByteArray.empty y149 a1)) ++ t162).size + 1 ≤ 9223372036854775807 then (if ((((rdOf ByteArray.empty y145 (wrap64 ((wrap64 ((wrap64 (a1 - 1)) * 3)) + a0_3))) ++ (rdOf ByteArray.empty y149 a1)) ++ t162) ++ (⟨#[32]⟩ : ByteArray)).size + (rdOf ByteArray.empty y153 a1).size ≤ 9223372036854775807 then (some (((((rdOf ByteArray.empty y145 (wrap64 ((wrap64 ((wrap64 (a1 - 1)) * 3)) + a0_3))) ++ (rdOf ByteArray.empty y149 a1)) ++ t162) ++ (⟨#[32]⟩ : ByteArray)) ++ (rdOf ByteArray.empty y153 a1))) else (none)) else (none)) else (none))) else (none))) else (none))) else (none)) else (none))) else (none)) else (none)) = some r := by first | (rw [hy145]; with_reducible exact H) | (have H2_ := (Option.bind_some _ _).symm.trans H; rw [hy145]; with_reducible exact H2_) | (have H2_ := (Option.bind_some _ _).symm.trans H; with_reducible exact H2_) | with_reducible exact H | (rw [hy145]; exact H) | exact H
    have Ny145 := Aside0.mk hy145
    clear hy145
    obtain ⟨ji11, hji11⟩ : ∃ j_ : Int, (wrap64 ((wrap64 ((wrap64 (a1 - 1)) * 3)) + a0_3)) = j_ := ⟨_, rfl⟩
    replace H : (if 0 ≤ (ji11) then (if (ji11) < (y145.length : Int) then ((some (([(⟨#[]⟩ : ByteArray), (⟨#[32, 105, 110, 32]⟩ : ByteArray), (⟨#[32, 97, 110, 32]⟩ : ByteArray), (⟨#[32, 119, 32]⟩ : ByteArray)] : List ByteArray) : List ByteArray)).bind fun y149 => (if 0 ≤ a1 then (if a1 < (y149.length : Int) then ((some (([(⟨#[]⟩ : ByteArray), (⟨#[112, 108, 97, 99, 101, 115]⟩ : ByteArray), (⟨#[79, 114, 116, 101, 110]⟩ : ByteArray), (⟨#[109, 105, 101, 106, 115, 99, 97, 99, 104]⟩ : ByteArray)] : List ByteArray) : List ByteArray)).bind fun y153 => (if a1 < (y153.length : Int) then (if a0_4 = 1 then ((some (([(⟨#[]⟩ : ByteArray), (⟨#[112, 108, 97, 99, 101]⟩ : ByteArray), (⟨#[79, 114, 116]⟩ : ByteArray), (⟨#[109, 105, 101, 106, 115, 99, 117]⟩ : ByteArray)] : List ByteArray) : List ByteArray)).bind fun y157 => (if a1 < (y157.length : Int) then (if (rdOf ByteArray.empty y145 (ji11)).size + (rdOf ByteArray.empty y149 a1).size ≤ 9223372036854775807 then ((spec_l1Dec.f k a0_4).bind fun t161 => (if ((rdOf ByteArray.empty y145 (ji11)) ++ (rdOf ByteArray.empty y149 a1)).size + t161.size ≤ 9223372036854775807 then (if (((rdOf ByteArray.empty y145 (ji11)) ++ (rdOf ByteArray.empty y149 a1)) ++ t161).size + 1 ≤ 9223372036854775807 then (if ((((rdOf ByteArray.empty y145 (ji11)) ++ (rdOf ByteArray.empty y149 a1)) ++ t161) ++ (⟨#[32]⟩ : ByteArray)).size + (rdOf ByteArray.empty y157 a1).size ≤ 9223372036854775807 then (some (((((rdOf ByteArray.empty y145 (ji11)) ++ (rdOf ByteArray.empty y149 a1)) ++ t161) ++ (⟨#[32]⟩ : ByteArray)) ++ (rdOf ByteArray.empty y157 a1))) else (none)) else (none)) else (none))) else (none)) else (none))) else (if (rdOf ByteArray.empty y145 (ji11)).size + (rdOf ByteArray.empty y149 a1).size ≤ 9223372036854775807 then ((spec_l1Dec.f k a0_4).bind fun t162 => (if ((rdOf ByteArray.empty y145 (ji11)) ++ (rdOf ByteArray.empty y149 a1)).size + t162.size ≤ 9223372036854775807 then (if (((rdOf ByteArray.empty y145 (ji11)) ++ (rdOf ByteArray.empty y149 a1)) ++ t162).size + 1 ≤ 9223372036854775807 then (if ((((rdOf ByteArray.empty y145 (ji11)) ++ (rdOf ByteArray.empty y149 a1)) ++ t162) ++ (⟨#[32]⟩ : ByteArray)).size + (rdOf ByteArray.empty y153 a1).size ≤ 9223372036854775807 then (some (((((rdOf ByteArray.empty y145 (ji11)) ++ (rdOf ByteArray.empty y149 a1)) ++ t162) ++ (⟨#[32]⟩ : ByteArray)) ++ (rdOf ByteArray.empty y153 a1))) else (none)) else (none)) else (none))) else (none))) else (none))) else (none)) else (none))) else (none)) else (none)) = some r := by first | (rw [hji11] at H; exact H) | (simp only [hji11] at H ⊢; exact H)
    have hji11w : (IntKind.i64.wrap ((wrap64 ((wrap64 (a1 - 1)) * 3)) + a0_3)) = ji11 := (i64_w _).trans hji11
    by_cases c12 : 0 ≤ (ji11)
    · rw [if_pos c12] at H
      have c12b0 : decide (0 ≤ (ji11)) = true := decide_eq_true c12
      clear c12
      by_cases c13 : (ji11) < (y145.length : Int)
      · rw [if_pos c13] at H
        have c13b0 : decide ((ji11) < (y145.length : Int)) = true := decide_eq_true c13
        clear c13
        obtain ⟨y149, hy149⟩ : ∃ y_ : List ByteArray, y_ = (([(⟨#[]⟩ : ByteArray), (⟨#[32, 105, 110, 32]⟩ : ByteArray), (⟨#[32, 97, 110, 32]⟩ : ByteArray), (⟨#[32, 119, 32]⟩ : ByteArray)] : List ByteArray)) := ⟨_, rfl⟩
        replace H : (if 0 ≤ a1 then (if a1 < (y149.length : Int) then ((some (([(⟨#[]⟩ : ByteArray), (⟨#[112, 108, 97, 99, 101, 115]⟩ : ByteArray), (⟨#[79, 114, 116, 101, 110]⟩ : ByteArray), (⟨#[109, 105, 101, 106, 115, 99, 97, 99, 104]⟩ : ByteArray)] : List ByteArray) : List ByteArray)).bind fun y153 => (if a1 < (y153.length : Int) then (if a0_4 = 1 then ((some (([(⟨#[]⟩ : ByteArray), (⟨#[112, 108, 97, 99, 101]⟩ : ByteArray), (⟨#[79, 114, 116]⟩ : ByteArray), (⟨#[109, 105, 101, 106, 115, 99, 117]⟩ : ByteArray)] : List ByteArray) : List ByteArray)).bind fun y157 => (if a1 < (y157.length : Int) then (if (rdOf ByteArray.empty y145 (ji11)).size + (rdOf ByteArray.empty y149 a1).size ≤ 9223372036854775807 then ((spec_l1Dec.f k a0_4).bind fun t161 => (if ((rdOf ByteArray.empty y145 (ji11)) ++ (rdOf ByteArray.empty y149 a1)).size + t161.size ≤ 9223372036854775807 then (if (((rdOf ByteArray.empty y145 (ji11)) ++ (rdOf ByteArray.empty y149 a1)) ++ t161).size + 1 ≤ 9223372036854775807 then (if ((((rdOf ByteArray.empty y145 (ji11)) ++ (rdOf ByteArray.empty y149 a1)) ++ t161) ++ (⟨#[32]⟩ : ByteArray)).size + (rdOf ByteArray.empty y157 a1).size ≤ 9223372036854775807 then (some (((((rdOf ByteArray.empty y145 (ji11)) ++ (rdOf ByteArray.empty y149 a1)) ++ t161) ++ (⟨#[32]⟩ : ByteArray)) ++ (rdOf ByteArray.empty y157 a1))) else (none)) else (none)) else (none))) else (none)) else (none))) else (if (rdOf ByteArray.empty y145 (ji11)).size + (rdOf ByteArray.empty y149 a1).size ≤ 9223372036854775807 then ((spec_l1Dec.f k a0_4).bind fun t162 => (if ((rdOf ByteArray.empty y145 (ji11)) ++ (rdOf ByteArray.empty y149 a1)).size + t162.size ≤ 9223372036854775807 then (if (((rdOf ByteArray.empty y145 (ji11)) ++ (rdOf ByteArray.empty y149 a1)) ++ t162).size + 1 ≤ 9223372036854775807 then (if ((((rdOf ByteArray.empty y145 (ji11)) ++ (rdOf ByteArray.empty y149 a1)) ++ t162) ++ (⟨#[32]⟩ : ByteArray)).size + (rdOf ByteArray.empty y153 a1).size ≤ 9223372036854775807 then (some (((((rdOf ByteArray.empty y145 (ji11)) ++ (rdOf ByteArray.empty y149 a1)) ++ t162) ++ (⟨#[32]⟩ : ByteArray)) ++ (rdOf ByteArray.empty y153 a1))) else (none)) else (none)) else (none))) else (none))) else (none))) else (none)) else (none)) = some r := by first | (rw [hy149]; with_reducible exact H) | (have H2_ := (Option.bind_some _ _).symm.trans H; rw [hy149]; with_reducible exact H2_) | (have H2_ := (Option.bind_some _ _).symm.trans H; with_reducible exact H2_) | with_reducible exact H | (rw [hy149]; exact H) | exact H
        have Ny149 := Aside0.mk hy149
        clear hy149
        by_cases c14 : 0 ≤ a1
        · rw [if_pos c14] at H
          have c14b0 : decide (0 ≤ a1) = true := decide_eq_true c14
          clear c14
          by_cases c15 : a1 < (y149.length : Int)
          · rw [if_pos c15] at H
            have c15b0 : decide (a1 < (y149.length : Int)) = true := decide_eq_true c15
            clear c15
            obtain ⟨y153, hy153⟩ : ∃ y_ : List ByteArray, y_ = (([(⟨#[]⟩ : ByteArray), (⟨#[112, 108, 97, 99, 101, 115]⟩ : ByteArray), (⟨#[79, 114, 116, 101, 110]⟩ : ByteArray), (⟨#[109, 105, 101, 106, 115, 99, 97, 99, 104]⟩ : ByteArray)] : List ByteArray)) := ⟨_, rfl⟩
            replace H : (if a1 < (y153.length : Int) then (if a0_4 = 1 then ((some (([(⟨#[]⟩ : ByteArray), (⟨#[112, 108, 97, 99, 101]⟩ : ByteArray), (⟨#[79, 114, 116]⟩ : ByteArray), (⟨#[109, 105, 101, 106, 115, 99, 117]⟩ : ByteArray)] : List ByteArray) : List ByteArray)).bind fun y157 => (if a1 < (y157.length : Int) then (if (rdOf ByteArray.empty y145 (ji11)).size + (rdOf ByteArray.empty y149 a1).size ≤ 9223372036854775807 then ((spec_l1Dec.f k a0_4).bind fun t161 => (if ((rdOf ByteArray.empty y145 (ji11)) ++ (rdOf ByteArray.empty y149 a1)).size + t161.size ≤ 9223372036854775807 then (if (((rdOf ByteArray.empty y145 (ji11)) ++ (rdOf ByteArray.empty y149 a1)) ++ t161).size + 1 ≤ 9223372036854775807 then (if ((((rdOf ByteArray.empty y145 (ji11)) ++ (rdOf ByteArray.empty y149 a1)) ++ t161) ++ (⟨#[32]⟩ : ByteArray)).size + (rdOf ByteArray.empty y157 a1).size ≤ 9223372036854775807 then (some (((((rdOf ByteArray.empty y145 (ji11)) ++ (rdOf ByteArray.empty y149 a1)) ++ t161) ++ (⟨#[32]⟩ : ByteArray)) ++ (rdOf ByteArray.empty y157 a1))) else (none)) else (none)) else (none))) else (none)) else (none))) else (if (rdOf ByteArray.empty y145 (ji11)).size + (rdOf ByteArray.empty y149 a1).size ≤ 9223372036854775807 then ((spec_l1Dec.f k a0_4).bind fun t162 => (if ((rdOf ByteArray.empty y145 (ji11)) ++ (rdOf ByteArray.empty y149 a1)).size + t162.size ≤ 9223372036854775807 then (if (((rdOf ByteArray.empty y145 (ji11)) ++ (rdOf ByteArray.empty y149 a1)) ++ t162).size + 1 ≤ 9223372036854775807 then (if ((((rdOf ByteArray.empty y145 (ji11)) ++ (rdOf ByteArray.empty y149 a1)) ++ t162) ++ (⟨#[32]⟩ : ByteArray)).size + (rdOf ByteArray.empty y153 a1).size ≤ 9223372036854775807 then (some (((((rdOf ByteArray.empty y145 (ji11)) ++ (rdOf ByteArray.empty y149 a1)) ++ t162) ++ (⟨#[32]⟩ : ByteArray)) ++ (rdOf ByteArray.empty y153 a1))) else (none)) else (none)) else (none))) else (none))) else (none)) = some r := by first | (rw [hy153]; with_reducible exact H) | (have H2_ := (Option.bind_some _ _).symm.trans H; rw [hy153]; with_reducible exact H2_) | (have H2_ := (Option.bind_some _ _).symm.trans H; with_reducible exact H2_) | with_reducible exact H | (rw [hy153]; exact H) | exact H
            have Ny153 := Aside0.mk hy153
            clear hy153
            by_cases c16 : a1 < (y153.length : Int)
            · rw [if_pos c16] at H
              have c16b0 : decide (a1 < (y153.length : Int)) = true := decide_eq_true c16
              clear c16
              by_cases c17 : a0_4 = 1
              · rw [if_pos c17] at H
                have c17b0 : (a0_4 == 1) = true := beq_iff_eq.mpr c17
                have c17b1 : (a0_4 != 1) = false := bne_eq_false_iff_eq.mpr c17
                clear c17
                obtain ⟨y157, hy157⟩ : ∃ y_ : List ByteArray, y_ = (([(⟨#[]⟩ : ByteArray), (⟨#[112, 108, 97, 99, 101]⟩ : ByteArray), (⟨#[79, 114, 116]⟩ : ByteArray), (⟨#[109, 105, 101, 106, 115, 99, 117]⟩ : ByteArray)] : List ByteArray)) := ⟨_, rfl⟩
                replace H : (if a1 < (y157.length : Int) then (if (rdOf ByteArray.empty y145 (ji11)).size + (rdOf ByteArray.empty y149 a1).size ≤ 9223372036854775807 then ((spec_l1Dec.f k a0_4).bind fun t161 => (if ((rdOf ByteArray.empty y145 (ji11)) ++ (rdOf ByteArray.empty y149 a1)).size + t161.size ≤ 9223372036854775807 then (if (((rdOf ByteArray.empty y145 (ji11)) ++ (rdOf ByteArray.empty y149 a1)) ++ t161).size + 1 ≤ 9223372036854775807 then (if ((((rdOf ByteArray.empty y145 (ji11)) ++ (rdOf ByteArray.empty y149 a1)) ++ t161) ++ (⟨#[32]⟩ : ByteArray)).size + (rdOf ByteArray.empty y157 a1).size ≤ 9223372036854775807 then (some (((((rdOf ByteArray.empty y145 (ji11)) ++ (rdOf ByteArray.empty y149 a1)) ++ t161) ++ (⟨#[32]⟩ : ByteArray)) ++ (rdOf ByteArray.empty y157 a1))) else (none)) else (none)) else (none))) else (none)) else (none)) = some r := by first | (rw [hy157]; with_reducible exact H) | (have H2_ := (Option.bind_some _ _).symm.trans H; rw [hy157]; with_reducible exact H2_) | (have H2_ := (Option.bind_some _ _).symm.trans H; with_reducible exact H2_) | with_reducible exact H | (rw [hy157]; exact H) | exact H
                have Ny157 := Aside0.mk hy157
                clear hy157
                by_cases c18 : a1 < (y157.length : Int)
                · rw [if_pos c18] at H
                  have c18b0 : decide (a1 < (y157.length : Int)) = true := decide_eq_true c18
                  clear c18
                  by_cases c19 : (rdOf ByteArray.empty y145 (ji11)).size + (rdOf ByteArray.empty y149 a1).size ≤ 9223372036854775807
                  · rw [if_pos c19] at H
                    have c19b0 := eq_true c19
                    have c19b1 : decide ((rdOf ByteArray.empty y145 (ji11)).size + (rdOf ByteArray.empty y149 a1).size ≤ 9223372036854775807) = true := decide_eq_true c19
                    try have c19b2 : (9223372036854775807 < (rdOf ByteArray.empty y145 (ji11)).size + (rdOf ByteArray.empty y149 a1).size) = False := eq_false (Nat.not_lt.2 c19)
                    replace H := Option.bind_eq_some_iff.mp H
                    obtain ⟨t161, A200, H⟩ := H
                    replace H : (if ((rdOf ByteArray.empty y145 (ji11)) ++ (rdOf ByteArray.empty y149 a1)).size + t161.size ≤ 9223372036854775807 then (if (((rdOf ByteArray.empty y145 (ji11)) ++ (rdOf ByteArray.empty y149 a1)) ++ t161).size + 1 ≤ 9223372036854775807 then (if ((((rdOf ByteArray.empty y145 (ji11)) ++ (rdOf ByteArray.empty y149 a1)) ++ t161) ++ (⟨#[32]⟩ : ByteArray)).size + (rdOf ByteArray.empty y157 a1).size ≤ 9223372036854775807 then (some (((((rdOf ByteArray.empty y145 (ji11)) ++ (rdOf ByteArray.empty y149 a1)) ++ t161) ++ (⟨#[32]⟩ : ByteArray)) ++ (rdOf ByteArray.empty y157 a1))) else (none)) else (none)) else (none)) = some r := H
                    have A20 := Aside0.mk A200
                    clear A200
                    by_cases c21 : ((rdOf ByteArray.empty y145 (ji11)) ++ (rdOf ByteArray.empty y149 a1)).size + t161.size ≤ 9223372036854775807
                    · rw [if_pos c21] at H
                      have c21b0 := eq_true c21
                      have c21b1 : decide (((rdOf ByteArray.empty y145 (ji11)) ++ (rdOf ByteArray.empty y149 a1)).size + t161.size ≤ 9223372036854775807) = true := decide_eq_true c21
                      try have c21b2 : (9223372036854775807 < ((rdOf ByteArray.empty y145 (ji11)) ++ (rdOf ByteArray.empty y149 a1)).size + t161.size) = False := eq_false (Nat.not_lt.2 c21)
                      (try (have c21b3 := c21b2; simp only [ByteArray.size_append] at c21b3))
                      by_cases c22 : (((rdOf ByteArray.empty y145 (ji11)) ++ (rdOf ByteArray.empty y149 a1)) ++ t161).size + 1 ≤ 9223372036854775807
                      · rw [if_pos c22] at H
                        have c22b0 := eq_true c22
                        have c22b1 : decide ((((rdOf ByteArray.empty y145 (ji11)) ++ (rdOf ByteArray.empty y149 a1)) ++ t161).size + 1 ≤ 9223372036854775807) = true := decide_eq_true c22
                        try have c22b2 : (9223372036854775807 < (((rdOf ByteArray.empty y145 (ji11)) ++ (rdOf ByteArray.empty y149 a1)) ++ t161).size + 1) = False := eq_false (Nat.not_lt.2 c22)
                        (try (have c22b3 := c22b2; simp only [ByteArray.size_append] at c22b3))
                        by_cases c23 : ((((rdOf ByteArray.empty y145 (ji11)) ++ (rdOf ByteArray.empty y149 a1)) ++ t161) ++ (⟨#[32]⟩ : ByteArray)).size + (rdOf ByteArray.empty y157 a1).size ≤ 9223372036854775807
                        · rw [if_pos c23] at H
                          have c23b0 := eq_true c23
                          have c23b1 : decide (((((rdOf ByteArray.empty y145 (ji11)) ++ (rdOf ByteArray.empty y149 a1)) ++ t161) ++ (⟨#[32]⟩ : ByteArray)).size + (rdOf ByteArray.empty y157 a1).size ≤ 9223372036854775807) = true := decide_eq_true c23
                          try have c23b2 : (9223372036854775807 < ((((rdOf ByteArray.empty y145 (ji11)) ++ (rdOf ByteArray.empty y149 a1)) ++ t161) ++ (⟨#[32]⟩ : ByteArray)).size + (rdOf ByteArray.empty y157 a1).size) = False := eq_false (Nat.not_lt.2 c23)
                          (try (have c23b3 := c23b2; simp only [ByteArray.size_append, show (⟨#[32]⟩ : ByteArray).size = 1 from rfl] at c23b3))
                          obtain rfl := Option.some.inj H
                          go_enter Tryd.func19, Tryd.ntmps19
                          go_wp2_with (first | ((with_reducible refine gate_dst (N := 2) rfl ?_); refine box_event ?hg (N := 2) ?hd (cs := #[.int .i64 a0_0, .int .i64 a0_1, .int .i64 a0_2, .int .i64 a0_3, .int .i64 a0_4]) (t := 25) ?hr ?_; (case hd => rfl); (case hg => rfl); (case hr => first | (go_simp; done) | (go_simp; rfl)); intro gb140 hg w24 hbox hb; have n0_ := Aside0.mk (below_step (by repeat (first | (with_reducible first | exact HB.out | apply below_alloc | apply pw_below_drewN | apply below_drew1) | exact HB.out)) hb); have n1_ := Aside0.mk (hbox); have n2_ := Aside0.mk ((by rw [hg]; exact (below_size (by repeat (first | (with_reducible first | exact HB.out | apply below_alloc | apply pw_below_drewN | apply below_drew1) | exact HB.out))) : w.heap.size ≤ gb140)); have n3_ := Aside0.mk ((by rw [hg]; exact (below_size (by repeat (first | (with_reducible first | exact HB.out | apply below_alloc | apply pw_below_drewN | apply below_drew1) | exact HB.out))) : w.heap.size ≤ gb140)); clear HB; have HB := n0_; have BK140 := n1_; have GW140 := n2_; have GE140 := n3_; clear n0_ n1_ n2_ n3_; clear hb hbox hg; have hcz25_0 : w24.cell? ⟨gb140, 0, none⟩ = some (.int .i64 a0_0) := (blk_cell BK140.out 0).trans rfl; have hcz25_1 : w24.cell? ⟨gb140, 1, none⟩ = some (.int .i64 a0_1) := (blk_cell BK140.out 1).trans rfl; have hcz25_2 : w24.cell? ⟨gb140, 2, none⟩ = some (.int .i64 a0_2) := (blk_cell BK140.out 2).trans rfl; have hcz25_3 : w24.cell? ⟨gb140, 3, none⟩ = some (.int .i64 a0_3) := (blk_cell BK140.out 3).trans rfl; have hcz25_4 : w24.cell? ⟨gb140, 4, none⟩ = some (.int .i64 a0_4) := (blk_cell BK140.out 4).trans rfl; have hfz25_0 := blk_frozen BK140.out 0; have hfz25_1 := blk_frozen BK140.out 1; have hfz25_2 := blk_frozen BK140.out 2; have hfz25_3 := blk_frozen BK140.out 3; have hfz25_4 := blk_frozen BK140.out 4) | ((with_reducible refine gate_dst (N := 15) rfl ?_); refine Kd.R_lit Kd.string _ 9 ?hg (N := 15) ?hd (xs := ([(⟨#[]⟩ : ByteArray), (⟨#[114, 97, 105, 110]⟩ : ByteArray), (⟨#[115, 110, 111, 119]⟩ : ByteArray), (⟨#[104, 97, 105, 108]⟩ : ByteArray), (⟨#[82, 101, 103, 101, 110]⟩ : ByteArray), (⟨#[83, 99, 104, 110, 101, 101]⟩ : ByteArray), (⟨#[72, 97, 103, 101, 108]⟩ : ByteArray), (⟨#[100, 101, 115, 122, 99, 122]⟩ : ByteArray), (⟨#[197, 155, 110, 105, 101, 103]⟩ : ByteArray), (⟨#[103, 114, 97, 100]⟩ : ByteArray)] : List ByteArray)) (inner := [.string (⟨#[]⟩ : ByteArray), .string (⟨#[114, 97, 105, 110]⟩ : ByteArray), .string (⟨#[115, 110, 111, 119]⟩ : ByteArray), .string (⟨#[104, 97, 105, 108]⟩ : ByteArray), .string (⟨#[82, 101, 103, 101, 110]⟩ : ByteArray), .string (⟨#[83, 99, 104, 110, 101, 101]⟩ : ByteArray), .string (⟨#[72, 97, 103, 101, 108]⟩ : ByteArray), .string (⟨#[100, 101, 115, 122, 99, 122]⟩ : ByteArray), .string (⟨#[197, 155, 110, 105, 101, 103]⟩ : ByteArray), .string (⟨#[103, 114, 97, 100]⟩ : ByteArray)]) (ok := fun _ => True) (okp := fun _ => True) ?hr ?hp (fun _ hk => hk) trivial (Below.refl _ _) (Nat.le_refl _) (by simp) ?_; (case hd => rfl); (case hg => rfl); (case hr => first | (go_simp; done) | (go_simp; rfl)); (case hp => exact (Reps.one (show Kd.M Kd.string _ _ _ (⟨#[]⟩ : ByteArray) [.string (⟨#[]⟩ : ByteArray)] from rfl) (Reps.one (show Kd.M Kd.string _ _ _ (⟨#[114, 97, 105, 110]⟩ : ByteArray) [.string (⟨#[114, 97, 105, 110]⟩ : ByteArray)] from rfl) (Reps.one (show Kd.M Kd.string _ _ _ (⟨#[115, 110, 111, 119]⟩ : ByteArray) [.string (⟨#[115, 110, 111, 119]⟩ : ByteArray)] from rfl) (Reps.one (show Kd.M Kd.string _ _ _ (⟨#[104, 97, 105, 108]⟩ : ByteArray) [.string (⟨#[104, 97, 105, 108]⟩ : ByteArray)] from rfl) (Reps.one (show Kd.M Kd.string _ _ _ (⟨#[82, 101, 103, 101, 110]⟩ : ByteArray) [.string (⟨#[82, 101, 103, 101, 110]⟩ : ByteArray)] from rfl) (Reps.one (show Kd.M Kd.string _ _ _ (⟨#[83, 99, 104, 110, 101, 101]⟩ : ByteArray) [.string (⟨#[83, 99, 104, 110, 101, 101]⟩ : ByteArray)] from rfl) (Reps.one (show Kd.M Kd.string _ _ _ (⟨#[72, 97, 103, 101, 108]⟩ : ByteArray) [.string (⟨#[72, 97, 103, 101, 108]⟩ : ByteArray)] from rfl) (Reps.one (show Kd.M Kd.string _ _ _ (⟨#[100, 101, 115, 122, 99, 122]⟩ : ByteArray) [.string (⟨#[100, 101, 115, 122, 99, 122]⟩ : ByteArray)] from rfl) (Reps.one (show Kd.M Kd.string _ _ _ (⟨#[197, 155, 110, 105, 101, 103]⟩ : ByteArray) [.string (⟨#[197, 155, 110, 105, 101, 103]⟩ : ByteArray)] from rfl) (Reps.one (show Kd.M Kd.string _ _ _ (⟨#[103, 114, 97, 100]⟩ : ByteArray) [.string (⟨#[103, 114, 97, 100]⟩ : ByteArray)] from rfl) (Reps.none _ _)))))))))))); intro v146 w26 ho27 hb hg_ hnew_; clear hg_ hnew_; (first | rw [← Ny145.out] at ho27 | (simp only [Int.reduceToNat] at ho27; rw [← Ny145.out] at ho27)); have n0_ := Aside0.mk (Kd.R_lower ho27 (below_size (by repeat (first | (with_reducible first | exact HB.out | apply below_alloc | apply pw_below_drewN | apply below_drew1 | refine below_set ?_ GE140.out) | exact HB.out)))); have n1_ := Aside0.mk (blk_below (g := gb140) (o := .cells #[.int .i64 a0_0, .int .i64 a0_1, .int .i64 a0_2, .int .i64 a0_3, .int .i64 a0_4] 25 (0, 0)) (by (with_reducible repeat (first | refine blk_drewN ?_ _ | refine blk_drew ?_ | refine blk_alloc ?_ _)); exact BK140.out) hb); have n2_ := Aside0.mk (below_step (by repeat (first | (with_reducible first | exact HB.out | apply below_alloc | apply pw_below_drewN | apply below_drew1 | refine below_set ?_ GE140.out) | exact HB.out)) hb); clear BK140; clear HB; have HO147 := n0_; have BK140 := n1_; have HB := n2_; clear n0_ n1_ n2_; clear hb ho27; have hcz28_0 : w26.cell? ⟨gb140, 0, none⟩ = some (.int .i64 a0_0) := (blk_cell BK140.out 0).trans rfl; have hcz28_1 : w26.cell? ⟨gb140, 1, none⟩ = some (.int .i64 a0_1) := (blk_cell BK140.out 1).trans rfl; have hcz28_2 : w26.cell? ⟨gb140, 2, none⟩ = some (.int .i64 a0_2) := (blk_cell BK140.out 2).trans rfl; have hcz28_3 : w26.cell? ⟨gb140, 3, none⟩ = some (.int .i64 a0_3) := (blk_cell BK140.out 3).trans rfl; have hcz28_4 : w26.cell? ⟨gb140, 4, none⟩ = some (.int .i64 a0_4) := (blk_cell BK140.out 4).trans rfl; have hfz28_0 := blk_frozen BK140.out 0; have hfz28_1 := blk_frozen BK140.out 1; have hfz28_2 := blk_frozen BK140.out 2; have hfz28_3 := blk_frozen BK140.out 3; have hfz28_4 := blk_frozen BK140.out 4; obtain ⟨Ao29, co29, eo29⟩ := Kd.R_slice HO147.out; subst eo29; have p148 : 0 ≤ ((ji11) : Int) := of_decide_eq_true (by first | (with_reducible assumption) | assumption); have q148 : (ji11) < (y145.length : Int) := of_decide_eq_true (by first | (with_reducible assumption) | assumption); obtain ⟨ad148, e148, hx148_0⟩ := Kd.at_string (Kd.R_reads' HO147.out).2.2 (ji11) p148 q148; cases e148; replace p148 := eq_true p148; replace q148 := eq_true q148) | ((with_reducible refine gate_dst (N := 24) rfl ?_); refine Kd.R_lit Kd.string _ 9 ?hg (N := 24) ?hd (xs := ([(⟨#[]⟩ : ByteArray), (⟨#[32, 105, 110, 32]⟩ : ByteArray), (⟨#[32, 97, 110, 32]⟩ : ByteArray), (⟨#[32, 119, 32]⟩ : ByteArray)] : List ByteArray)) (inner := [.string (⟨#[]⟩ : ByteArray), .string (⟨#[32, 105, 110, 32]⟩ : ByteArray), .string (⟨#[32, 97, 110, 32]⟩ : ByteArray), .string (⟨#[32, 119, 32]⟩ : ByteArray)]) (ok := fun _ => True) (okp := fun _ => True) ?hr ?hp (fun _ hk => hk) trivial (Below.refl _ _) (Nat.le_refl _) (by simp) ?_; (case hd => rfl); (case hg => rfl); (case hr => first | (go_simp; done) | (go_simp; rfl)); (case hp => exact (Reps.one (show Kd.M Kd.string _ _ _ (⟨#[]⟩ : ByteArray) [.string (⟨#[]⟩ : ByteArray)] from rfl) (Reps.one (show Kd.M Kd.string _ _ _ (⟨#[32, 105, 110, 32]⟩ : ByteArray) [.string (⟨#[32, 105, 110, 32]⟩ : ByteArray)] from rfl) (Reps.one (show Kd.M Kd.string _ _ _ (⟨#[32, 97, 110, 32]⟩ : ByteArray) [.string (⟨#[32, 97, 110, 32]⟩ : ByteArray)] from rfl) (Reps.one (show Kd.M Kd.string _ _ _ (⟨#[32, 119, 32]⟩ : ByteArray) [.string (⟨#[32, 119, 32]⟩ : ByteArray)] from rfl) (Reps.none _ _)))))); intro v150 w30 ho31 hb hg_ hnew_; clear hg_ hnew_; (first | rw [← Ny149.out] at ho31 | (simp only [Int.reduceToNat] at ho31; rw [← Ny149.out] at ho31)); have n0_ := Aside0.mk (Kd.R_elder' (by (with_reducible repeat (first | apply Kd.R_alloc | apply Kd.R_drewN | apply Kd.R_drew)); exact HO147.out) (Kd.R_base ho31) hb); have n1_ := Aside0.mk (Kd.R_lower (Kd.R_new' ho31 (Kd.R_lt (by (with_reducible repeat (first | apply Kd.R_alloc | apply Kd.R_drewN | apply Kd.R_drew)); exact HO147.out))) (below_size (by repeat (first | (with_reducible first | exact HB.out | apply below_alloc | apply pw_below_drewN | apply below_drew1 | refine below_set ?_ GE140.out) | exact HB.out)))); have n2_ := Aside0.mk (blk_below (g := gb140) (o := .cells #[.int .i64 a0_0, .int .i64 a0_1, .int .i64 a0_2, .int .i64 a0_3, .int .i64 a0_4] 25 (0, 0)) (by (with_reducible repeat (first | refine blk_drewN ?_ _ | refine blk_drew ?_ | refine blk_alloc ?_ _)); exact BK140.out) hb); have n3_ := Aside0.mk (below_step (by repeat (first | (with_reducible first | exact HB.out | apply below_alloc | apply pw_below_drewN | apply below_drew1 | refine below_set ?_ GE140.out) | exact HB.out)) hb); clear HO147; clear BK140; clear HB; have HO147 := n0_; have HO151 := n1_; have BK140 := n2_; have HB := n3_; clear n0_ n1_ n2_ n3_; clear hb ho31; obtain ⟨Ao32, co32, eo32⟩ := Kd.R_slice HO151.out; subst eo32; have p152 : 0 ≤ (a1 : Int) := of_decide_eq_true (by first | (with_reducible assumption) | assumption); have q152 : a1 < (y149.length : Int) := of_decide_eq_true (by first | (with_reducible assumption) | assumption); obtain ⟨ad152, e152, hx152_0⟩ := Kd.at_string (Kd.R_reads' HO151.out).2.2 a1 p152 q152; cases e152; replace p152 := eq_true p152; replace q152 := eq_true q152) | ((with_reducible refine gate_dst (N := 28) rfl ?_); refine Kd.R_lit Kd.string _ 9 ?hg (N := 28) ?hd (xs := ([(⟨#[]⟩ : ByteArray), (⟨#[112, 108, 97, 99, 101, 115]⟩ : ByteArray), (⟨#[79, 114, 116, 101, 110]⟩ : ByteArray), (⟨#[109, 105, 101, 106, 115, 99, 97, 99, 104]⟩ : ByteArray)] : List ByteArray)) (inner := [.string (⟨#[]⟩ : ByteArray), .string (⟨#[112, 108, 97, 99, 101, 115]⟩ : ByteArray), .string (⟨#[79, 114, 116, 101, 110]⟩ : ByteArray), .string (⟨#[109, 105, 101, 106, 115, 99, 97, 99, 104]⟩ : ByteArray)]) (ok := fun _ => True) (okp := fun _ => True) ?hr ?hp (fun _ hk => hk) trivial (Below.refl _ _) (Nat.le_refl _) (by simp) ?_; (case hd => rfl); (case hg => rfl); (case hr => first | (go_simp; done) | (go_simp; rfl)); (case hp => exact (Reps.one (show Kd.M Kd.string _ _ _ (⟨#[]⟩ : ByteArray) [.string (⟨#[]⟩ : ByteArray)] from rfl) (Reps.one (show Kd.M Kd.string _ _ _ (⟨#[112, 108, 97, 99, 101, 115]⟩ : ByteArray) [.string (⟨#[112, 108, 97, 99, 101, 115]⟩ : ByteArray)] from rfl) (Reps.one (show Kd.M Kd.string _ _ _ (⟨#[79, 114, 116, 101, 110]⟩ : ByteArray) [.string (⟨#[79, 114, 116, 101, 110]⟩ : ByteArray)] from rfl) (Reps.one (show Kd.M Kd.string _ _ _ (⟨#[109, 105, 101, 106, 115, 99, 97, 99, 104]⟩ : ByteArray) [.string (⟨#[109, 105, 101, 106, 115, 99, 97, 99, 104]⟩ : ByteArray)] from rfl) (Reps.none _ _)))))); intro v154 w33 ho34 hb hg_ hnew_; clear hg_ hnew_; (first | rw [← Ny153.out] at ho34 | (simp only [Int.reduceToNat] at ho34; rw [← Ny153.out] at ho34)); have n0_ := Aside0.mk (Kd.R_elder' (by (with_reducible repeat (first | apply Kd.R_alloc | apply Kd.R_drewN | apply Kd.R_drew)); exact HO147.out) (Kd.R_base ho34) hb); have n1_ := Aside0.mk (Kd.R_elder' (by (with_reducible repeat (first | apply Kd.R_alloc | apply Kd.R_drewN | apply Kd.R_drew)); exact HO151.out) (Kd.R_base ho34) hb); have n2_ := Aside0.mk (Kd.R_lower (Kd.R_new' (Kd.R_new' ho34 (Kd.R_lt (by (with_reducible repeat (first | apply Kd.R_alloc | apply Kd.R_drewN | apply Kd.R_drew)); exact HO147.out))) (Kd.R_lt (by (with_reducible repeat (first | apply Kd.R_alloc | apply Kd.R_drewN | apply Kd.R_drew)); exact HO151.out))) (below_size (by repeat (first | (with_reducible first | exact HB.out | apply below_alloc | apply pw_below_drewN | apply below_drew1 | refine below_set ?_ GE140.out) | exact HB.out)))); have n3_ := Aside0.mk (blk_below (g := gb140) (o := .cells #[.int .i64 a0_0, .int .i64 a0_1, .int .i64 a0_2, .int .i64 a0_3, .int .i64 a0_4] 25 (0, 0)) (by (with_reducible repeat (first | refine blk_drewN ?_ _ | refine blk_drew ?_ | refine blk_alloc ?_ _)); exact BK140.out) hb); have n4_ := Aside0.mk (below_step (by repeat (first | (with_reducible first | exact HB.out | apply below_alloc | apply pw_below_drewN | apply below_drew1 | refine below_set ?_ GE140.out) | exact HB.out)) hb); clear HO147; clear HO151; clear BK140; clear HB; have HO147 := n0_; have HO151 := n1_; have HO155 := n2_; have BK140 := n3_; have HB := n4_; clear n0_ n1_ n2_ n3_ n4_; clear hb ho34; obtain ⟨Ao35, co35, eo35⟩ := Kd.R_slice HO155.out; subst eo35; have p156 : 0 ≤ (a1 : Int) := of_decide_eq_true (by first | (with_reducible assumption) | assumption); have q156 : a1 < (y153.length : Int) := of_decide_eq_true (by first | (with_reducible assumption) | assumption); obtain ⟨ad156, e156, hx156_0⟩ := Kd.at_string (Kd.R_reads' HO155.out).2.2 a1 p156 q156; cases e156; replace p156 := eq_true p156; replace q156 := eq_true q156; have hcz36_0 : w33.cell? ⟨gb140, 0, none⟩ = some (.int .i64 a0_0) := (blk_cell BK140.out 0).trans rfl; have hcz36_1 : w33.cell? ⟨gb140, 1, none⟩ = some (.int .i64 a0_1) := (blk_cell BK140.out 1).trans rfl; have hcz36_2 : w33.cell? ⟨gb140, 2, none⟩ = some (.int .i64 a0_2) := (blk_cell BK140.out 2).trans rfl; have hcz36_3 : w33.cell? ⟨gb140, 3, none⟩ = some (.int .i64 a0_3) := (blk_cell BK140.out 3).trans rfl; have hcz36_4 : w33.cell? ⟨gb140, 4, none⟩ = some (.int .i64 a0_4) := (blk_cell BK140.out 4).trans rfl; have hfz36_0 := blk_frozen BK140.out 0; have hfz36_1 := blk_frozen BK140.out 1; have hfz36_2 := blk_frozen BK140.out 2; have hfz36_3 := blk_frozen BK140.out 3; have hfz36_4 := blk_frozen BK140.out 4) | ((with_reducible refine gate_dst (N := 35) rfl ?_); refine Kd.R_lit Kd.string _ 9 ?hg (N := 35) ?hd (xs := ([(⟨#[]⟩ : ByteArray), (⟨#[112, 108, 97, 99, 101]⟩ : ByteArray), (⟨#[79, 114, 116]⟩ : ByteArray), (⟨#[109, 105, 101, 106, 115, 99, 117]⟩ : ByteArray)] : List ByteArray)) (inner := [.string (⟨#[]⟩ : ByteArray), .string (⟨#[112, 108, 97, 99, 101]⟩ : ByteArray), .string (⟨#[79, 114, 116]⟩ : ByteArray), .string (⟨#[109, 105, 101, 106, 115, 99, 117]⟩ : ByteArray)]) (ok := fun _ => True) (okp := fun _ => True) ?hr ?hp (fun _ hk => hk) trivial (Below.refl _ _) (Nat.le_refl _) (by simp) ?_; (case hd => rfl); (case hg => rfl); (case hr => first | (go_simp; done) | (go_simp; rfl)); (case hp => exact (Reps.one (show Kd.M Kd.string _ _ _ (⟨#[]⟩ : ByteArray) [.string (⟨#[]⟩ : ByteArray)] from rfl) (Reps.one (show Kd.M Kd.string _ _ _ (⟨#[112, 108, 97, 99, 101]⟩ : ByteArray) [.string (⟨#[112, 108, 97, 99, 101]⟩ : ByteArray)] from rfl) (Reps.one (show Kd.M Kd.string _ _ _ (⟨#[79, 114, 116]⟩ : ByteArray) [.string (⟨#[79, 114, 116]⟩ : ByteArray)] from rfl) (Reps.one (show Kd.M Kd.string _ _ _ (⟨#[109, 105, 101, 106, 115, 99, 117]⟩ : ByteArray) [.string (⟨#[109, 105, 101, 106, 115, 99, 117]⟩ : ByteArray)] from rfl) (Reps.none _ _)))))); intro v158 w37 ho38 hb hg_ hnew_; clear hg_ hnew_; (first | rw [← Ny157.out] at ho38 | (simp only [Int.reduceToNat] at ho38; rw [← Ny157.out] at ho38)); have n0_ := Aside0.mk (Kd.R_elder' (by (with_reducible repeat (first | apply Kd.R_alloc | apply Kd.R_drewN | apply Kd.R_drew)); exact HO147.out) (Kd.R_base ho38) hb); have n1_ := Aside0.mk (Kd.R_elder' (by (with_reducible repeat (first | apply Kd.R_alloc | apply Kd.R_drewN | apply Kd.R_drew)); exact HO151.out) (Kd.R_base ho38) hb); have n2_ := Aside0.mk (Kd.R_elder' (by (with_reducible repeat (first | apply Kd.R_alloc | apply Kd.R_drewN | apply Kd.R_drew)); exact HO155.out) (Kd.R_base ho38) hb); have n3_ := Aside0.mk (Kd.R_lower (Kd.R_new' (Kd.R_new' (Kd.R_new' ho38 (Kd.R_lt (by (with_reducible repeat (first | apply Kd.R_alloc | apply Kd.R_drewN | apply Kd.R_drew)); exact HO147.out))) (Kd.R_lt (by (with_reducible repeat (first | apply Kd.R_alloc | apply Kd.R_drewN | apply Kd.R_drew)); exact HO151.out))) (Kd.R_lt (by (with_reducible repeat (first | apply Kd.R_alloc | apply Kd.R_drewN | apply Kd.R_drew)); exact HO155.out))) (below_size (by repeat (first | (with_reducible first | exact HB.out | apply below_alloc | apply pw_below_drewN | apply below_drew1 | refine below_set ?_ GE140.out) | exact HB.out)))); have n4_ := Aside0.mk (blk_below (g := gb140) (o := .cells #[.int .i64 a0_0, .int .i64 a0_1, .int .i64 a0_2, .int .i64 a0_3, .int .i64 a0_4] 25 (0, 0)) (by (with_reducible repeat (first | refine blk_drewN ?_ _ | refine blk_drew ?_ | refine blk_alloc ?_ _)); exact BK140.out) hb); have n5_ := Aside0.mk (below_step (by repeat (first | (with_reducible first | exact HB.out | apply below_alloc | apply pw_below_drewN | apply below_drew1 | refine below_set ?_ GE140.out) | exact HB.out)) hb); clear HO147; clear HO151; clear HO155; clear BK140; clear HB; have HO147 := n0_; have HO151 := n1_; have HO155 := n2_; have HO159 := n3_; have BK140 := n4_; have HB := n5_; clear n0_ n1_ n2_ n3_ n4_ n5_; clear hb ho38; obtain ⟨Ao39, co39, eo39⟩ := Kd.R_slice HO159.out; subst eo39; have p160 : 0 ≤ (a1 : Int) := of_decide_eq_true (by first | (with_reducible assumption) | assumption); have q160 : a1 < (y157.length : Int) := of_decide_eq_true (by first | (with_reducible assumption) | assumption); obtain ⟨ad160, e160, hx160_0⟩ := Kd.at_string (Kd.R_reads' HO159.out).2.2 a1 p160 q160; cases e160; replace p160 := eq_true p160; replace q160 := eq_true q160; have hcz40_0 : w37.cell? ⟨gb140, 0, none⟩ = some (.int .i64 a0_0) := (blk_cell BK140.out 0).trans rfl; have hcz40_1 : w37.cell? ⟨gb140, 1, none⟩ = some (.int .i64 a0_1) := (blk_cell BK140.out 1).trans rfl; have hcz40_2 : w37.cell? ⟨gb140, 2, none⟩ = some (.int .i64 a0_2) := (blk_cell BK140.out 2).trans rfl; have hcz40_3 : w37.cell? ⟨gb140, 3, none⟩ = some (.int .i64 a0_3) := (blk_cell BK140.out 3).trans rfl; have hcz40_4 : w37.cell? ⟨gb140, 4, none⟩ = some (.int .i64 a0_4) := (blk_cell BK140.out 4).trans rfl; have hfz40_0 := blk_frozen BK140.out 0; have hfz40_1 := blk_frozen BK140.out 1; have hfz40_2 := blk_frozen BK140.out 2; have hfz40_3 := blk_frozen BK140.out 3; have hfz40_4 := blk_frozen BK140.out 4) | ((with_reducible refine gate_callee (f := 31) rfl ?_); refine goesL_ (some 44) rfl rfl Tryd.func31 (by kernel_rfl) rfl #[.int .i64 a0_4] rfl (by (try simp only [List.map_toArray, List.map_cons, List.map_nil]); first | done | rfl | (simp only [List.length_drop, List.length_take]; rfl)) ?_; (with_reducible refine (spec_l1Dec.calls k a0_4 t161 _ A20.out).mono ?_); rintro e w41 ⟨rfl, hb⟩; refine ⟨_, rfl, ?_⟩; have n0_ := Aside0.mk (Kd.R_below (by (with_reducible repeat (first | apply Kd.R_alloc | apply Kd.R_drewN | apply Kd.R_drew)); exact HO147.out) hb); have n1_ := Aside0.mk (Kd.R_below (by (with_reducible repeat (first | apply Kd.R_alloc | apply Kd.R_drewN | apply Kd.R_drew)); exact HO151.out) hb); have n2_ := Aside0.mk (Kd.R_below (by (with_reducible repeat (first | apply Kd.R_alloc | apply Kd.R_drewN | apply Kd.R_drew)); exact HO155.out) hb); have n3_ := Aside0.mk (Kd.R_below (by (with_reducible repeat (first | apply Kd.R_alloc | apply Kd.R_drewN | apply Kd.R_drew)); exact HO159.out) hb); have n4_ := Aside0.mk (blk_below (g := gb140) (o := .cells #[.int .i64 a0_0, .int .i64 a0_1, .int .i64 a0_2, .int .i64 a0_3, .int .i64 a0_4] 25 (0, 0)) (by (with_reducible repeat (first | refine blk_drewN ?_ _ | refine blk_drew ?_ | refine blk_alloc ?_ _)); exact BK140.out) hb); have n5_ := Aside0.mk (below_step (by repeat (first | (with_reducible first | exact HB.out | apply below_alloc | apply pw_below_drewN | apply below_drew1 | refine below_set ?_ GE140.out) | exact HB.out)) hb); clear HO147; clear HO151; clear HO155; clear HO159; clear BK140; clear HB; have HO147 := n0_; have HO151 := n1_; have HO155 := n2_; have HO159 := n3_; have BK140 := n4_; have HB := n5_; clear n0_ n1_ n2_ n3_ n4_ n5_; (try clear hb); (try clear hb2); (try clear hk); (try clear hi)))
                          go_ret
                          exact ⟨by first | rfl | (simp [errW_none, errW_some] <;> rfl) | (simp only [← hji11]; first | rfl | (simp [errW_none, errW_some] <;> rfl)) | (simp [*, errW_none, errW_some] <;> rfl), by repeat (first | (with_reducible first | exact HB.out | apply below_alloc | apply pw_below_drewN | apply below_drew1 | refine below_set ?_ GE140.out) | exact HB.out)⟩
                        · rw [if_neg c23] at H
                          exact absurd H (by simp)
                      · rw [if_neg c22] at H
                        exact absurd H (by simp)
                    · rw [if_neg c21] at H
                      exact absurd H (by simp)
                  · rw [if_neg c19] at H
                    exact absurd H (by simp)
                · rw [if_neg c18] at H
                  exact absurd H (by simp)
              · rw [if_neg c17] at H
                have c17b0 : (a0_4 == 1) = false := beq_eq_false_iff_ne.mpr c17
                have c17b1 : (a0_4 != 1) = true := bne_iff_ne.mpr c17
                by_cases c42 : (rdOf ByteArray.empty y145 (ji11)).size + (rdOf ByteArray.empty y149 a1).size ≤ 9223372036854775807
                · rw [if_pos c42] at H
                  have c42b0 := eq_true c42
                  have c42b1 : decide ((rdOf ByteArray.empty y145 (ji11)).size + (rdOf ByteArray.empty y149 a1).size ≤ 9223372036854775807) = true := decide_eq_true c42
                  try have c42b2 : (9223372036854775807 < (rdOf ByteArray.empty y145 (ji11)).size + (rdOf ByteArray.empty y149 a1).size) = False := eq_false (Nat.not_lt.2 c42)
                  replace H := Option.bind_eq_some_iff.mp H
                  obtain ⟨t162, A430, H⟩ := H
                  replace H : (if ((rdOf ByteArray.empty y145 (ji11)) ++ (rdOf ByteArray.empty y149 a1)).size + t162.size ≤ 9223372036854775807 then (if (((rdOf ByteArray.empty y145 (ji11)) ++ (rdOf ByteArray.empty y149 a1)) ++ t162).size + 1 ≤ 9223372036854775807 then (if ((((rdOf ByteArray.empty y145 (ji11)) ++ (rdOf ByteArray.empty y149 a1)) ++ t162) ++ (⟨#[32]⟩ : ByteArray)).size + (rdOf ByteArray.empty y153 a1).size ≤ 9223372036854775807 then (some (((((rdOf ByteArray.empty y145 (ji11)) ++ (rdOf ByteArray.empty y149 a1)) ++ t162) ++ (⟨#[32]⟩ : ByteArray)) ++ (rdOf ByteArray.empty y153 a1))) else (none)) else (none)) else (none)) = some r := H
                  have A43 := Aside0.mk A430
                  clear A430
                  by_cases c44 : ((rdOf ByteArray.empty y145 (ji11)) ++ (rdOf ByteArray.empty y149 a1)).size + t162.size ≤ 9223372036854775807
                  · rw [if_pos c44] at H
                    have c44b0 := eq_true c44
                    have c44b1 : decide (((rdOf ByteArray.empty y145 (ji11)) ++ (rdOf ByteArray.empty y149 a1)).size + t162.size ≤ 9223372036854775807) = true := decide_eq_true c44
                    try have c44b2 : (9223372036854775807 < ((rdOf ByteArray.empty y145 (ji11)) ++ (rdOf ByteArray.empty y149 a1)).size + t162.size) = False := eq_false (Nat.not_lt.2 c44)
                    (try (have c44b3 := c44b2; simp only [ByteArray.size_append] at c44b3))
                    by_cases c45 : (((rdOf ByteArray.empty y145 (ji11)) ++ (rdOf ByteArray.empty y149 a1)) ++ t162).size + 1 ≤ 9223372036854775807
                    · rw [if_pos c45] at H
                      have c45b0 := eq_true c45
                      have c45b1 : decide ((((rdOf ByteArray.empty y145 (ji11)) ++ (rdOf ByteArray.empty y149 a1)) ++ t162).size + 1 ≤ 9223372036854775807) = true := decide_eq_true c45
                      try have c45b2 : (9223372036854775807 < (((rdOf ByteArray.empty y145 (ji11)) ++ (rdOf ByteArray.empty y149 a1)) ++ t162).size + 1) = False := eq_false (Nat.not_lt.2 c45)
                      (try (have c45b3 := c45b2; simp only [ByteArray.size_append] at c45b3))
                      by_cases c46 : ((((rdOf ByteArray.empty y145 (ji11)) ++ (rdOf ByteArray.empty y149 a1)) ++ t162) ++ (⟨#[32]⟩ : ByteArray)).size + (rdOf ByteArray.empty y153 a1).size ≤ 9223372036854775807
                      · rw [if_pos c46] at H
                        have c46b0 := eq_true c46
                        have c46b1 : decide (((((rdOf ByteArray.empty y145 (ji11)) ++ (rdOf ByteArray.empty y149 a1)) ++ t162) ++ (⟨#[32]⟩ : ByteArray)).size + (rdOf ByteArray.empty y153 a1).size ≤ 9223372036854775807) = true := decide_eq_true c46
                        try have c46b2 : (9223372036854775807 < ((((rdOf ByteArray.empty y145 (ji11)) ++ (rdOf ByteArray.empty y149 a1)) ++ t162) ++ (⟨#[32]⟩ : ByteArray)).size + (rdOf ByteArray.empty y153 a1).size) = False := eq_false (Nat.not_lt.2 c46)
                        (try (have c46b3 := c46b2; simp only [ByteArray.size_append, show (⟨#[32]⟩ : ByteArray).size = 1 from rfl] at c46b3))
                        obtain rfl := Option.some.inj H
                        go_enter Tryd.func19, Tryd.ntmps19
                        go_wp2_with (first | ((with_reducible refine gate_dst (N := 2) rfl ?_); refine box_event ?hg (N := 2) ?hd (cs := #[.int .i64 a0_0, .int .i64 a0_1, .int .i64 a0_2, .int .i64 a0_3, .int .i64 a0_4]) (t := 25) ?hr ?_; (case hd => rfl); (case hg => rfl); (case hr => first | (go_simp; done) | (go_simp; rfl)); intro gb140 hg w47 hbox hb; have n0_ := Aside0.mk (below_step (by repeat (first | (with_reducible first | exact HB.out | apply below_alloc | apply pw_below_drewN | apply below_drew1) | exact HB.out)) hb); have n1_ := Aside0.mk (hbox); have n2_ := Aside0.mk ((by rw [hg]; exact (below_size (by repeat (first | (with_reducible first | exact HB.out | apply below_alloc | apply pw_below_drewN | apply below_drew1) | exact HB.out))) : w.heap.size ≤ gb140)); have n3_ := Aside0.mk ((by rw [hg]; exact (below_size (by repeat (first | (with_reducible first | exact HB.out | apply below_alloc | apply pw_below_drewN | apply below_drew1) | exact HB.out))) : w.heap.size ≤ gb140)); clear HB; have HB := n0_; have BK140 := n1_; have GW140 := n2_; have GE140 := n3_; clear n0_ n1_ n2_ n3_; clear hb hbox hg; have hcz48_0 : w47.cell? ⟨gb140, 0, none⟩ = some (.int .i64 a0_0) := (blk_cell BK140.out 0).trans rfl; have hcz48_1 : w47.cell? ⟨gb140, 1, none⟩ = some (.int .i64 a0_1) := (blk_cell BK140.out 1).trans rfl; have hcz48_2 : w47.cell? ⟨gb140, 2, none⟩ = some (.int .i64 a0_2) := (blk_cell BK140.out 2).trans rfl; have hcz48_3 : w47.cell? ⟨gb140, 3, none⟩ = some (.int .i64 a0_3) := (blk_cell BK140.out 3).trans rfl; have hcz48_4 : w47.cell? ⟨gb140, 4, none⟩ = some (.int .i64 a0_4) := (blk_cell BK140.out 4).trans rfl; have hfz48_0 := blk_frozen BK140.out 0; have hfz48_1 := blk_frozen BK140.out 1; have hfz48_2 := blk_frozen BK140.out 2; have hfz48_3 := blk_frozen BK140.out 3; have hfz48_4 := blk_frozen BK140.out 4) | ((with_reducible refine gate_dst (N := 15) rfl ?_); refine Kd.R_lit Kd.string _ 9 ?hg (N := 15) ?hd (xs := ([(⟨#[]⟩ : ByteArray), (⟨#[114, 97, 105, 110]⟩ : ByteArray), (⟨#[115, 110, 111, 119]⟩ : ByteArray), (⟨#[104, 97, 105, 108]⟩ : ByteArray), (⟨#[82, 101, 103, 101, 110]⟩ : ByteArray), (⟨#[83, 99, 104, 110, 101, 101]⟩ : ByteArray), (⟨#[72, 97, 103, 101, 108]⟩ : ByteArray), (⟨#[100, 101, 115, 122, 99, 122]⟩ : ByteArray), (⟨#[197, 155, 110, 105, 101, 103]⟩ : ByteArray), (⟨#[103, 114, 97, 100]⟩ : ByteArray)] : List ByteArray)) (inner := [.string (⟨#[]⟩ : ByteArray), .string (⟨#[114, 97, 105, 110]⟩ : ByteArray), .string (⟨#[115, 110, 111, 119]⟩ : ByteArray), .string (⟨#[104, 97, 105, 108]⟩ : ByteArray), .string (⟨#[82, 101, 103, 101, 110]⟩ : ByteArray), .string (⟨#[83, 99, 104, 110, 101, 101]⟩ : ByteArray), .string (⟨#[72, 97, 103, 101, 108]⟩ : ByteArray), .string (⟨#[100, 101, 115, 122, 99, 122]⟩ : ByteArray), .string (⟨#[197, 155, 110, 105, 101, 103]⟩ : ByteArray), .string (⟨#[103, 114, 97, 100]⟩ : ByteArray)]) (ok := fun _ => True) (okp := fun _ => True) ?hr ?hp (fun _ hk => hk) trivial (Below.refl _ _) (Nat.le_refl _) (by simp) ?_; (case hd => rfl); (case hg => rfl); (case hr => first | (go_simp; done) | (go_simp; rfl)); (case hp => exact (Reps.one (show Kd.M Kd.string _ _ _ (⟨#[]⟩ : ByteArray) [.string (⟨#[]⟩ : ByteArray)] from rfl) (Reps.one (show Kd.M Kd.string _ _ _ (⟨#[114, 97, 105, 110]⟩ : ByteArray) [.string (⟨#[114, 97, 105, 110]⟩ : ByteArray)] from rfl) (Reps.one (show Kd.M Kd.string _ _ _ (⟨#[115, 110, 111, 119]⟩ : ByteArray) [.string (⟨#[115, 110, 111, 119]⟩ : ByteArray)] from rfl) (Reps.one (show Kd.M Kd.string _ _ _ (⟨#[104, 97, 105, 108]⟩ : ByteArray) [.string (⟨#[104, 97, 105, 108]⟩ : ByteArray)] from rfl) (Reps.one (show Kd.M Kd.string _ _ _ (⟨#[82, 101, 103, 101, 110]⟩ : ByteArray) [.string (⟨#[82, 101, 103, 101, 110]⟩ : ByteArray)] from rfl) (Reps.one (show Kd.M Kd.string _ _ _ (⟨#[83, 99, 104, 110, 101, 101]⟩ : ByteArray) [.string (⟨#[83, 99, 104, 110, 101, 101]⟩ : ByteArray)] from rfl) (Reps.one (show Kd.M Kd.string _ _ _ (⟨#[72, 97, 103, 101, 108]⟩ : ByteArray) [.string (⟨#[72, 97, 103, 101, 108]⟩ : ByteArray)] from rfl) (Reps.one (show Kd.M Kd.string _ _ _ (⟨#[100, 101, 115, 122, 99, 122]⟩ : ByteArray) [.string (⟨#[100, 101, 115, 122, 99, 122]⟩ : ByteArray)] from rfl) (Reps.one (show Kd.M Kd.string _ _ _ (⟨#[197, 155, 110, 105, 101, 103]⟩ : ByteArray) [.string (⟨#[197, 155, 110, 105, 101, 103]⟩ : ByteArray)] from rfl) (Reps.one (show Kd.M Kd.string _ _ _ (⟨#[103, 114, 97, 100]⟩ : ByteArray) [.string (⟨#[103, 114, 97, 100]⟩ : ByteArray)] from rfl) (Reps.none _ _)))))))))))); intro v146 w49 ho50 hb hg_ hnew_; clear hg_ hnew_; (first | rw [← Ny145.out] at ho50 | (simp only [Int.reduceToNat] at ho50; rw [← Ny145.out] at ho50)); have n0_ := Aside0.mk (Kd.R_lower ho50 (below_size (by repeat (first | (with_reducible first | exact HB.out | apply below_alloc | apply pw_below_drewN | apply below_drew1 | refine below_set ?_ GE140.out) | exact HB.out)))); have n1_ := Aside0.mk (blk_below (g := gb140) (o := .cells #[.int .i64 a0_0, .int .i64 a0_1, .int .i64 a0_2, .int .i64 a0_3, .int .i64 a0_4] 25 (0, 0)) (by (with_reducible repeat (first | refine blk_drewN ?_ _ | refine blk_drew ?_ | refine blk_alloc ?_ _)); exact BK140.out) hb); have n2_ := Aside0.mk (below_step (by repeat (first | (with_reducible first | exact HB.out | apply below_alloc | apply pw_below_drewN | apply below_drew1 | refine below_set ?_ GE140.out) | exact HB.out)) hb); clear BK140; clear HB; have HO147 := n0_; have BK140 := n1_; have HB := n2_; clear n0_ n1_ n2_; clear hb ho50; have hcz51_0 : w49.cell? ⟨gb140, 0, none⟩ = some (.int .i64 a0_0) := (blk_cell BK140.out 0).trans rfl; have hcz51_1 : w49.cell? ⟨gb140, 1, none⟩ = some (.int .i64 a0_1) := (blk_cell BK140.out 1).trans rfl; have hcz51_2 : w49.cell? ⟨gb140, 2, none⟩ = some (.int .i64 a0_2) := (blk_cell BK140.out 2).trans rfl; have hcz51_3 : w49.cell? ⟨gb140, 3, none⟩ = some (.int .i64 a0_3) := (blk_cell BK140.out 3).trans rfl; have hcz51_4 : w49.cell? ⟨gb140, 4, none⟩ = some (.int .i64 a0_4) := (blk_cell BK140.out 4).trans rfl; have hfz51_0 := blk_frozen BK140.out 0; have hfz51_1 := blk_frozen BK140.out 1; have hfz51_2 := blk_frozen BK140.out 2; have hfz51_3 := blk_frozen BK140.out 3; have hfz51_4 := blk_frozen BK140.out 4; obtain ⟨Ao52, co52, eo52⟩ := Kd.R_slice HO147.out; subst eo52; have p148 : 0 ≤ ((ji11) : Int) := of_decide_eq_true (by first | (with_reducible assumption) | assumption); have q148 : (ji11) < (y145.length : Int) := of_decide_eq_true (by first | (with_reducible assumption) | assumption); obtain ⟨ad148, e148, hx148_0⟩ := Kd.at_string (Kd.R_reads' HO147.out).2.2 (ji11) p148 q148; cases e148; replace p148 := eq_true p148; replace q148 := eq_true q148) | ((with_reducible refine gate_dst (N := 24) rfl ?_); refine Kd.R_lit Kd.string _ 9 ?hg (N := 24) ?hd (xs := ([(⟨#[]⟩ : ByteArray), (⟨#[32, 105, 110, 32]⟩ : ByteArray), (⟨#[32, 97, 110, 32]⟩ : ByteArray), (⟨#[32, 119, 32]⟩ : ByteArray)] : List ByteArray)) (inner := [.string (⟨#[]⟩ : ByteArray), .string (⟨#[32, 105, 110, 32]⟩ : ByteArray), .string (⟨#[32, 97, 110, 32]⟩ : ByteArray), .string (⟨#[32, 119, 32]⟩ : ByteArray)]) (ok := fun _ => True) (okp := fun _ => True) ?hr ?hp (fun _ hk => hk) trivial (Below.refl _ _) (Nat.le_refl _) (by simp) ?_; (case hd => rfl); (case hg => rfl); (case hr => first | (go_simp; done) | (go_simp; rfl)); (case hp => exact (Reps.one (show Kd.M Kd.string _ _ _ (⟨#[]⟩ : ByteArray) [.string (⟨#[]⟩ : ByteArray)] from rfl) (Reps.one (show Kd.M Kd.string _ _ _ (⟨#[32, 105, 110, 32]⟩ : ByteArray) [.string (⟨#[32, 105, 110, 32]⟩ : ByteArray)] from rfl) (Reps.one (show Kd.M Kd.string _ _ _ (⟨#[32, 97, 110, 32]⟩ : ByteArray) [.string (⟨#[32, 97, 110, 32]⟩ : ByteArray)] from rfl) (Reps.one (show Kd.M Kd.string _ _ _ (⟨#[32, 119, 32]⟩ : ByteArray) [.string (⟨#[32, 119, 32]⟩ : ByteArray)] from rfl) (Reps.none _ _)))))); intro v150 w53 ho54 hb hg_ hnew_; clear hg_ hnew_; (first | rw [← Ny149.out] at ho54 | (simp only [Int.reduceToNat] at ho54; rw [← Ny149.out] at ho54)); have n0_ := Aside0.mk (Kd.R_elder' (by (with_reducible repeat (first | apply Kd.R_alloc | apply Kd.R_drewN | apply Kd.R_drew)); exact HO147.out) (Kd.R_base ho54) hb); have n1_ := Aside0.mk (Kd.R_lower (Kd.R_new' ho54 (Kd.R_lt (by (with_reducible repeat (first | apply Kd.R_alloc | apply Kd.R_drewN | apply Kd.R_drew)); exact HO147.out))) (below_size (by repeat (first | (with_reducible first | exact HB.out | apply below_alloc | apply pw_below_drewN | apply below_drew1 | refine below_set ?_ GE140.out) | exact HB.out)))); have n2_ := Aside0.mk (blk_below (g := gb140) (o := .cells #[.int .i64 a0_0, .int .i64 a0_1, .int .i64 a0_2, .int .i64 a0_3, .int .i64 a0_4] 25 (0, 0)) (by (with_reducible repeat (first | refine blk_drewN ?_ _ | refine blk_drew ?_ | refine blk_alloc ?_ _)); exact BK140.out) hb); have n3_ := Aside0.mk (below_step (by repeat (first | (with_reducible first | exact HB.out | apply below_alloc | apply pw_below_drewN | apply below_drew1 | refine below_set ?_ GE140.out) | exact HB.out)) hb); clear HO147; clear BK140; clear HB; have HO147 := n0_; have HO151 := n1_; have BK140 := n2_; have HB := n3_; clear n0_ n1_ n2_ n3_; clear hb ho54; obtain ⟨Ao55, co55, eo55⟩ := Kd.R_slice HO151.out; subst eo55; have p152 : 0 ≤ (a1 : Int) := of_decide_eq_true (by first | (with_reducible assumption) | assumption); have q152 : a1 < (y149.length : Int) := of_decide_eq_true (by first | (with_reducible assumption) | assumption); obtain ⟨ad152, e152, hx152_0⟩ := Kd.at_string (Kd.R_reads' HO151.out).2.2 a1 p152 q152; cases e152; replace p152 := eq_true p152; replace q152 := eq_true q152) | ((with_reducible refine gate_dst (N := 28) rfl ?_); refine Kd.R_lit Kd.string _ 9 ?hg (N := 28) ?hd (xs := ([(⟨#[]⟩ : ByteArray), (⟨#[112, 108, 97, 99, 101, 115]⟩ : ByteArray), (⟨#[79, 114, 116, 101, 110]⟩ : ByteArray), (⟨#[109, 105, 101, 106, 115, 99, 97, 99, 104]⟩ : ByteArray)] : List ByteArray)) (inner := [.string (⟨#[]⟩ : ByteArray), .string (⟨#[112, 108, 97, 99, 101, 115]⟩ : ByteArray), .string (⟨#[79, 114, 116, 101, 110]⟩ : ByteArray), .string (⟨#[109, 105, 101, 106, 115, 99, 97, 99, 104]⟩ : ByteArray)]) (ok := fun _ => True) (okp := fun _ => True) ?hr ?hp (fun _ hk => hk) trivial (Below.refl _ _) (Nat.le_refl _) (by simp) ?_; (case hd => rfl); (case hg => rfl); (case hr => first | (go_simp; done) | (go_simp; rfl)); (case hp => exact (Reps.one (show Kd.M Kd.string _ _ _ (⟨#[]⟩ : ByteArray) [.string (⟨#[]⟩ : ByteArray)] from rfl) (Reps.one (show Kd.M Kd.string _ _ _ (⟨#[112, 108, 97, 99, 101, 115]⟩ : ByteArray) [.string (⟨#[112, 108, 97, 99, 101, 115]⟩ : ByteArray)] from rfl) (Reps.one (show Kd.M Kd.string _ _ _ (⟨#[79, 114, 116, 101, 110]⟩ : ByteArray) [.string (⟨#[79, 114, 116, 101, 110]⟩ : ByteArray)] from rfl) (Reps.one (show Kd.M Kd.string _ _ _ (⟨#[109, 105, 101, 106, 115, 99, 97, 99, 104]⟩ : ByteArray) [.string (⟨#[109, 105, 101, 106, 115, 99, 97, 99, 104]⟩ : ByteArray)] from rfl) (Reps.none _ _)))))); intro v154 w56 ho57 hb hg_ hnew_; clear hg_ hnew_; (first | rw [← Ny153.out] at ho57 | (simp only [Int.reduceToNat] at ho57; rw [← Ny153.out] at ho57)); have n0_ := Aside0.mk (Kd.R_elder' (by (with_reducible repeat (first | apply Kd.R_alloc | apply Kd.R_drewN | apply Kd.R_drew)); exact HO147.out) (Kd.R_base ho57) hb); have n1_ := Aside0.mk (Kd.R_elder' (by (with_reducible repeat (first | apply Kd.R_alloc | apply Kd.R_drewN | apply Kd.R_drew)); exact HO151.out) (Kd.R_base ho57) hb); have n2_ := Aside0.mk (Kd.R_lower (Kd.R_new' (Kd.R_new' ho57 (Kd.R_lt (by (with_reducible repeat (first | apply Kd.R_alloc | apply Kd.R_drewN | apply Kd.R_drew)); exact HO147.out))) (Kd.R_lt (by (with_reducible repeat (first | apply Kd.R_alloc | apply Kd.R_drewN | apply Kd.R_drew)); exact HO151.out))) (below_size (by repeat (first | (with_reducible first | exact HB.out | apply below_alloc | apply pw_below_drewN | apply below_drew1 | refine below_set ?_ GE140.out) | exact HB.out)))); have n3_ := Aside0.mk (blk_below (g := gb140) (o := .cells #[.int .i64 a0_0, .int .i64 a0_1, .int .i64 a0_2, .int .i64 a0_3, .int .i64 a0_4] 25 (0, 0)) (by (with_reducible repeat (first | refine blk_drewN ?_ _ | refine blk_drew ?_ | refine blk_alloc ?_ _)); exact BK140.out) hb); have n4_ := Aside0.mk (below_step (by repeat (first | (with_reducible first | exact HB.out | apply below_alloc | apply pw_below_drewN | apply below_drew1 | refine below_set ?_ GE140.out) | exact HB.out)) hb); clear HO147; clear HO151; clear BK140; clear HB; have HO147 := n0_; have HO151 := n1_; have HO155 := n2_; have BK140 := n3_; have HB := n4_; clear n0_ n1_ n2_ n3_ n4_; clear hb ho57; obtain ⟨Ao58, co58, eo58⟩ := Kd.R_slice HO155.out; subst eo58; have p156 : 0 ≤ (a1 : Int) := of_decide_eq_true (by first | (with_reducible assumption) | assumption); have q156 : a1 < (y153.length : Int) := of_decide_eq_true (by first | (with_reducible assumption) | assumption); obtain ⟨ad156, e156, hx156_0⟩ := Kd.at_string (Kd.R_reads' HO155.out).2.2 a1 p156 q156; cases e156; replace p156 := eq_true p156; replace q156 := eq_true q156; have hcz59_0 : w56.cell? ⟨gb140, 0, none⟩ = some (.int .i64 a0_0) := (blk_cell BK140.out 0).trans rfl; have hcz59_1 : w56.cell? ⟨gb140, 1, none⟩ = some (.int .i64 a0_1) := (blk_cell BK140.out 1).trans rfl; have hcz59_2 : w56.cell? ⟨gb140, 2, none⟩ = some (.int .i64 a0_2) := (blk_cell BK140.out 2).trans rfl; have hcz59_3 : w56.cell? ⟨gb140, 3, none⟩ = some (.int .i64 a0_3) := (blk_cell BK140.out 3).trans rfl; have hcz59_4 : w56.cell? ⟨gb140, 4, none⟩ = some (.int .i64 a0_4) := (blk_cell BK140.out 4).trans rfl; have hfz59_0 := blk_frozen BK140.out 0; have hfz59_1 := blk_frozen BK140.out 1; have hfz59_2 := blk_frozen BK140.out 2; have hfz59_3 := blk_frozen BK140.out 3; have hfz59_4 := blk_frozen BK140.out 4) | ((with_reducible refine gate_callee (f := 31) rfl ?_); refine goesL_ (some 44) rfl rfl Tryd.func31 (by kernel_rfl) rfl #[.int .i64 a0_4] rfl (by (try simp only [List.map_toArray, List.map_cons, List.map_nil]); first | done | rfl | (simp only [List.length_drop, List.length_take]; rfl)) ?_; (with_reducible refine (spec_l1Dec.calls k a0_4 t162 _ A43.out).mono ?_); rintro e w60 ⟨rfl, hb⟩; refine ⟨_, rfl, ?_⟩; have n0_ := Aside0.mk (Kd.R_below (by (with_reducible repeat (first | apply Kd.R_alloc | apply Kd.R_drewN | apply Kd.R_drew)); exact HO147.out) hb); have n1_ := Aside0.mk (Kd.R_below (by (with_reducible repeat (first | apply Kd.R_alloc | apply Kd.R_drewN | apply Kd.R_drew)); exact HO151.out) hb); have n2_ := Aside0.mk (Kd.R_below (by (with_reducible repeat (first | apply Kd.R_alloc | apply Kd.R_drewN | apply Kd.R_drew)); exact HO155.out) hb); have n3_ := Aside0.mk (blk_below (g := gb140) (o := .cells #[.int .i64 a0_0, .int .i64 a0_1, .int .i64 a0_2, .int .i64 a0_3, .int .i64 a0_4] 25 (0, 0)) (by (with_reducible repeat (first | refine blk_drewN ?_ _ | refine blk_drew ?_ | refine blk_alloc ?_ _)); exact BK140.out) hb); have n4_ := Aside0.mk (below_step (by repeat (first | (with_reducible first | exact HB.out | apply below_alloc | apply pw_below_drewN | apply below_drew1 | refine below_set ?_ GE140.out) | exact HB.out)) hb); clear HO147; clear HO151; clear HO155; clear BK140; clear HB; have HO147 := n0_; have HO151 := n1_; have HO155 := n2_; have BK140 := n3_; have HB := n4_; clear n0_ n1_ n2_ n3_ n4_; (try clear hb); (try clear hb2); (try clear hk); (try clear hi)))
                        go_ret
                        exact ⟨by first | rfl | (simp [errW_none, errW_some] <;> rfl) | (simp only [← hji11]; first | rfl | (simp [errW_none, errW_some] <;> rfl)) | (simp [*, errW_none, errW_some] <;> rfl), by repeat (first | (with_reducible first | exact HB.out | apply below_alloc | apply pw_below_drewN | apply below_drew1 | refine below_set ?_ GE140.out) | exact HB.out)⟩
                      · rw [if_neg c46] at H
                        exact absurd H (by simp)
                    · rw [if_neg c45] at H
                      exact absurd H (by simp)
                  · rw [if_neg c44] at H
                    exact absurd H (by simp)
                · rw [if_neg c42] at H
                  exact absurd H (by simp)
            · rw [if_neg c16] at H
              exact absurd H (by simp)
          · rw [if_neg c15] at H
            exact absurd H (by simp)
        · rw [if_neg c14] at H
          exact absurd H (by simp)
      · rw [if_neg c13] at H
        exact absurd H (by simp)
    · rw [if_neg c12] at H
      exact absurd H (by simp)

end Go.Proofs.YtllkijlmjapleaaDoor.QFnPhrases
