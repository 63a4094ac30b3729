-- Written by a program of this session out of the printer's texts and contracts of its own.
import Derived.Test.YtgdlmbnnfngieaaDoorQFnExactTitlex0
import Derived.Test.YtgdlmbnnfngieaaDoorQFnExactTitlex2
import Derived.Test.YtgdlmbnnfngieaaDoorQFnExactTitlex3
namespace Go.Proofs.YtgdlmbnnfngieaaDoor.QFnExactTitle
open Go.RowKit Go.Proofs.YtgdlmbnnfngieaaDoorW.PrintWords Go.Proofs.YtgdlmbnnfngieaaDoorW.PrintLast Go.Proofs.YtgdlmbnnfngieaaDoorW.PrintMore
attribute [local go_sem] max2_int min2_int max_two min_two max_three min_three max_four min_four   -- for this text's walks alone
set_option linter.unusedVariables false
set_option linter.unusedSimpArgs false


/-! ### strings_TrimRight: function 22 -/
def strings_TrimRight.f (a0 : ByteArray) (a1 : ByteArray) : Option (ByteArray) := if a1 = (⟨#[32]⟩ : ByteArray) ∧ a0.size ≤ 9223372036854775807 then some (⟨(Lib.trimRightB a0.data.toList 32).toArray⟩ : ByteArray) else none
theorem strings_TrimRight.calls (a0 : ByteArray) (a1 : ByteArray) (r : ByteArray) (w : World) (h : strings_TrimRight.f a0 a1 = some r) :
    Calls Tryd.prog 22 #[.string a0, .string a1] w fun e w' => e = .returned (.string r) ∧ Below w.heap.size w w' := by
  unfold strings_TrimRight.f at h
  by_cases c : a1 = (⟨#[32]⟩ : ByteArray) ∧ a0.size ≤ 9223372036854775807
  · rw [if_pos c] at h
    obtain rfl := Option.some.inj h
    obtain ⟨rfl, c2⟩ := c
    refine (Tryd.strings_TrimRight_one a0 32 (by decide) w c2).mono ?_
    rintro e w' ⟨he, rfl⟩
    exact ⟨he, Below.refl _ _⟩
  · rw [if_neg c] at h
    exact absurd h (by simp)


/-! ### strings_Join: function 23 -/
def strings_Join.f (l0 : List ByteArray) (a1 : ByteArray) : Option (ByteArray) := if l0.length ≤ 1000 ∧ (Lib.join (l0.map (·.data.toList)) a1.data.toList).length ≤ 140737488355328 then some (⟨(Lib.join (l0.map (·.data.toList)) a1.data.toList).toArray⟩ : ByteArray) else none
theorem own_A {W : World} {base n c e : Nat} {ok : Nat → Prop} {A : Option Addr} {xs : List ByteArray} (h : Kd.R Kd.string e W base ok (.slice A n c) xs) (hp : 0 < xs.length) : ∃ g, A = some ⟨g, 0, none⟩ := by
  obtain ⟨g, cp, e, _⟩ := Kd.R_form h hp
  injection e with e1 _ _
  exact ⟨g, e1⟩
theorem strings_Join.calls (A0 : Option Addr) (c0 : Nat) (l0 : List ByteArray) (a1 : ByteArray) (r : ByteArray) (w : World) (hr0 : Kd.C Kd.string w A0 l0.length l0) (hc0 : l0.length ≤ c0) (h : strings_Join.f l0 a1 = some r) (hA : 0 < l0.length → ∃ g, A0 = some ⟨g, 0, none⟩) :
    Calls Tryd.prog 23 #[.slice A0 l0.length c0, .string a1] w fun e w' => e = .returned (.string r) ∧ Below w.heap.size w w' := by
  unfold strings_Join.f at h
  by_cases c : l0.length ≤ 1000 ∧ (Lib.join (l0.map (·.data.toList)) a1.data.toList).length ≤ 140737488355328
  · rw [if_pos c] at h
    obtain rfl := Option.some.inj h
    by_cases hp : 0 < l0.length
    case neg =>
      have e : l0 = [] := List.eq_nil_of_length_eq_zero (by omega)
      subst e
      refine (Tryd.strings_Join_none A0 c0 a1 w).mono ?_
      rintro e w' ⟨he, rfl⟩
      exact ⟨he, Below.refl _ _⟩
    obtain ⟨g, rfl⟩ := hA hp
    have hcell : ∀ (j : Nat) x, l0[j]? = some x → w.cell? ⟨g, 0 + j, none⟩ = some (.string x) := by
      intro j x hj
      obtain ⟨ad, e, hc⟩ := hr0.2.2 hp
      cases e
      obtain ⟨cs, hl, hR, hcl⟩ := hc j x hj
      have e1 : cs = [.string x] := hR
      subst e1
      simpa only [add_plain, Kd.string, Kd.scalar, Nat.mul_one, Nat.add_zero, Nat.zero_add] using hcl 0 (.string x) rfl
    have hbk : g < w.heap.size := World.block_lt_of_cell? w _ (hcell 0 _ (List.getElem?_eq_getElem hp))
    exact Tryd.strings_Join g 0 c0 l0 a1 w hcell hbk (by omega) hc0 c.2
  · rw [if_neg c] at h
    exact absurd h (by simp)

/-! ### impl_Title: function 9 -/
def impl_Title.j0 : Nat → ByteArray → Int → Bool → Option (ByteArray)
  | 0, _, _, _ => none
  | k + 1, x0, x1, x16 => if x16 = true then (some (⟨#[]⟩ : ByteArray)) else ((impl_runes.f k x0).bind fun bt174 => (if 0 ≤ (mn x1 (bt174.2.length : Int)) then (if (mn x1 (bt174.2.length : Int)) ≤ (bt174.2.length : Int) then ((strings_Join.f (bt174.2.take ((mn x1 (bt174.2.length : Int)) : Int).toNat) (⟨#[]⟩ : ByteArray)).bind fun t184 => ((strings_TrimRight.f t184 (⟨#[32]⟩ : ByteArray)).bind fun t185 => (if (mn x1 (bt174.2.length : Int)) < (bt174.2.length : Int) then (if t185.size + 3 ≤ 9223372036854775807 then (some (t185 ++ (⟨#[226, 128, 166]⟩ : ByteArray))) else (none)) else (some t185)))) else (none)) else (none)))
def impl_Title.f (k : Nat) (a0 : ByteArray) (a1 : Int) : Option (ByteArray) := (impl_in.f a1 1 1000).bind fun t173 => (if t173 = true then (impl_Title.j0 k a0 a1 (decide ((a0.size : Int) > 20000))) else (impl_Title.j0 k a0 a1 true))
theorem impl_Title.mono_l : ∀ k, (∀ y0 y1 y2, LeO (impl_Title.j0 k y0 y1 y2) (impl_Title.j0 (k + 1) y0 y1 y2))
  | 0 => fun _ _ _ r h => by simp [impl_Title.j0] at h
  | k + 1 => by
    have ih0 := impl_Title.mono_l k
    · intro y0 y1 y2
      unfold impl_Title.j0
      repeat' first
      | (with_reducible exact ih0 _ _ _)
      | (with_reducible exact impl_runes.mono _ _)
      | (with_reducible exact LeO.refl _)
      | (with_reducible exact LeO.none _)
      | (with_reducible refine LeO.ite ?_ ?_)
      | (with_reducible refine LeO.bind ?_ (fun _ => ?_))
      | exact ih0 _ _ _
      | exact impl_runes.mono _ _
      | exact LeO.none _
      | refine LeO.ite ?_ ?_
      | refine LeO.bind ?_ (fun _ => ?_)
theorem impl_Title.mono : ∀ a0 a1 k, LeO (impl_Title.f k a0 a1) (impl_Title.f (k + 1) a0 a1) := by
  intro a0 a1 k
  have ih0 := impl_Title.mono_l k
  unfold impl_Title.f
  repeat' first
      | (with_reducible exact ih0 _ _ _)
      | (with_reducible exact impl_runes.mono _ _)
      | (with_reducible exact LeO.refl _)
      | (with_reducible exact LeO.none _)
      | (with_reducible refine LeO.ite ?_ ?_)
      | (with_reducible refine LeO.bind ?_ (fun _ => ?_))
      | exact ih0 _ _ _
      | exact impl_runes.mono _ _
      | exact LeO.none _
      | refine LeO.ite ?_ ?_
      | refine LeO.bind ?_ (fun _ => ?_)
set_option maxHeartbeats 8000000 in
set_option maxRecDepth 100000 in
theorem impl_Title.calls (k : Nat) (a0 : ByteArray) (a1 : Int) (r : ByteArray) (w : World) (h : impl_Title.f k a0 a1 = some r) (hT : Lib.Utf8Tabs 1 2 w) :
    Calls Tryd.prog 9 #[.string a0, .int .i64 a1] w fun e w' => e = .returned (.string r) ∧ Below w.heap.size w w' := by
  have HTb := Aside0.mk hT; clear hT
  have HB := Aside0.mk (Below.refl w.heap.size w)
  have H : ((impl_in.f a1 1 1000).bind fun t173 => (if t173 = true then (impl_Title.j0 k a0 a1 (decide ((a0.size : Int) > 20000))) else (impl_Title.j0 k a0 a1 true))) = some r := h
  clear h
  have HC3 := Aside0.mk H
  clear H
  go_enter Tryd.func9, Tryd.ntmps9
  go_upto_region 1 with (fail)
  go_cut [16] (fun v16 wc => ∃ (kq : Nat) (x16_2 : Bool), v16 = .bool x16_2 ∧ Aside0 (impl_Title.j0 kq a0 a1 x16_2 = some r) ∧ Aside0 (kq ≤ k) ∧ Aside0 (Below w.heap.size w wc))
  case first =>
    have H := HC3.out
    clear HC3
    replace H := Option.bind_eq_some_iff.mp H
    obtain ⟨t173, A40, H⟩ := H
    replace H : (if t173 = true then (impl_Title.j0 k a0 a1 (decide ((a0.size : Int) > 20000))) else (impl_Title.j0 k a0 a1 true)) = some r := H
    have A4 := Aside0.mk A40
    clear A40
    by_cases c5 : t173 = true
    · subst c5
      have H1 : (impl_Title.j0 k a0 a1 (decide ((a0.size : Int) > 20000))) = some r := by rw [if_pos rfl] at H; exact H
      clear H
      have H := H1
      clear H1
      have H' := Aside0.mk H
      clear H
      go_wp2_with (first | ((with_reducible refine gate_callee (f := 15) rfl ?_); refine goesL_ (some 10) rfl rfl Tryd.func15 (by kernel_rfl) rfl #[.int .i64 a1, .int .i64 1, .int .i64 1000] rfl (by (try simp only [List.map_toArray, List.map_cons, List.map_nil]); first | done | rfl | (simp only [List.length_drop, List.length_take]; rfl)) ?_; (with_reducible refine (impl_in.calls a1 1 1000 true _ A4.out).mono ?_); rintro e w' ⟨rfl, ⟨nd, rfl⟩⟩; refine ⟨_, rfl, ?_⟩))
      go_meet
      case rel => exact ⟨_, (decide ((a0.size : Int) > 20000)), (by first | rfl | (simp; done) | (simp [*]; done)), H', ⟨by first | omega | exact Nat.le_refl _⟩, ⟨by repeat (first | (with_reducible first | exact HB.out | apply below_alloc | apply pw_below_drewN | apply below_drew1) | exact HB.out)⟩⟩
    · replace c5 := Bool.eq_false_iff.mpr c5
      subst c5
      have H1 : (impl_Title.j0 k a0 a1 true) = some r := by rw [if_neg (show ¬ (false = true) by decide)] at H; exact H
      clear H
      have H := H1
      clear H1
      have H' := Aside0.mk H
      clear H
      go_wp2_with (first | ((with_reducible refine gate_callee (f := 15) rfl ?_); refine goesL_ (some 10) rfl rfl Tryd.func15 (by kernel_rfl) rfl #[.int .i64 a1, .int .i64 1, .int .i64 1000] rfl (by (try simp only [List.map_toArray, List.map_cons, List.map_nil]); first | done | rfl | (simp only [List.length_drop, List.length_take]; rfl)) ?_; (with_reducible refine (impl_in.calls a1 1 1000 false _ A4.out).mono ?_); rintro e w' ⟨rfl, ⟨nd, rfl⟩⟩; refine ⟨_, rfl, ?_⟩))
      go_meet
      case rel => exact ⟨_, (true), (by first | rfl | (simp; done) | (simp [*]; done)), H', ⟨by first | omega | exact Nat.le_refl _⟩, ⟨by repeat (first | (with_reducible first | exact HB.out | apply below_alloc | apply pw_below_drewN | apply below_drew1) | exact HB.out)⟩⟩
  case rest =>
    clear HC3
    try clear c1
    try clear p2
    try clear c5
    obtain ⟨kq, x16_2, rfl, HA, HJ2, HB⟩ := hcut
    cases kq with
    | zero => exact absurd HA.out (by simp [impl_Title.j0])
    | succ kj2 =>
      have H := HA.out
      clear HA
      simp only [impl_Title.j0] at H
      by_cases c6 : x16_2 = true
      · subst c6
        have H1 : (some (⟨#[]⟩ : ByteArray)) = some r := by rw [if_pos rfl] at H; exact H
        clear H
        have H := H1
        clear H1
        obtain rfl := Option.some.inj H
        go_wp2
        go_ret
        exact ⟨by first | rfl | (simp [errW_none, errW_some] <;> rfl) | (simp [*, errW_none, errW_some] <;> rfl), by repeat (first | (with_reducible first | exact HB.out | apply below_alloc | apply pw_below_drewN | apply below_drew1) | exact HB.out)⟩
      · replace c6 := Bool.eq_false_iff.mpr c6
        subst c6
        have H1 : ((impl_runes.f kj2 a0).bind fun bt174 => (if 0 ≤ (mn a1 (bt174.2.length : Int)) then (if (mn a1 (bt174.2.length : Int)) ≤ (bt174.2.length : Int) then ((strings_Join.f (bt174.2.take ((mn a1 (bt174.2.length : Int)) : Int).toNat) (⟨#[]⟩ : ByteArray)).bind fun t184 => ((strings_TrimRight.f t184 (⟨#[32]⟩ : ByteArray)).bind fun t185 => (if (mn a1 (bt174.2.length : Int)) < (bt174.2.length : Int) then (if t185.size + 3 ≤ 9223372036854775807 then (some (t185 ++ (⟨#[226, 128, 166]⟩ : ByteArray))) else (none)) else (some t185)))) else (none)) else (none))) = some r := by rw [if_neg (show ¬ (false = true) by decide)] at H; exact H
        clear H
        have H := H1
        clear H1
        replace H := Option.bind_eq_some_iff.mp H
        obtain ⟨⟨t174, t175⟩, A70, H⟩ := H
        replace H : (if 0 ≤ (mn a1 (t175.length : Int)) then (if (mn a1 (t175.length : Int)) ≤ (t175.length : Int) then ((strings_Join.f (t175.take ((mn a1 (t175.length : Int)) : Int).toNat) (⟨#[]⟩ : ByteArray)).bind fun t184 => ((strings_TrimRight.f t184 (⟨#[32]⟩ : ByteArray)).bind fun t185 => (if (mn a1 (t175.length : Int)) < (t175.length : Int) then (if t185.size + 3 ≤ 9223372036854775807 then (some (t185 ++ (⟨#[226, 128, 166]⟩ : ByteArray))) else (none)) else (some t185)))) else (none)) else (none)) = some r := H
        have A7 := Aside0.mk A70
        clear A70
        obtain ⟨ji8, hji8⟩ : ∃ j_ : Int, (mn a1 (t175.length : Int)) = j_ := ⟨_, rfl⟩
        replace H : (if 0 ≤ (ji8) then (if (ji8) ≤ (t175.length : Int) then ((strings_Join.f (t175.take ((ji8) : Int).toNat) (⟨#[]⟩ : ByteArray)).bind fun t184 => ((strings_TrimRight.f t184 (⟨#[32]⟩ : ByteArray)).bind fun t185 => (if (ji8) < (t175.length : Int) then (if t185.size + 3 ≤ 9223372036854775807 then (some (t185 ++ (⟨#[226, 128, 166]⟩ : ByteArray))) else (none)) else (some t185)))) else (none)) else (none)) = some r := by first | (rw [hji8] at H; exact H) | (simp only [hji8] at H ⊢; exact H)
        (try rw [hji8] at A7)
        have hji8_ : (if (t175.length : Int) < a1 then (t175.length : Int) else a1) = ji8 := hji8
        by_cases c9 : 0 ≤ (ji8)
        · rw [if_pos c9] at H
          have c9b0 := eq_true c9
          have c9b1 : decide (0 ≤ (ji8)) = true := decide_eq_true c9
          clear c9
          by_cases c10 : (ji8) ≤ (t175.length : Int)
          · rw [if_pos c10] at H
            have c10b0 := eq_true c10
            have c10b1 : decide ((ji8) ≤ (t175.length : Int)) = true := decide_eq_true c10
            clear c10
            obtain ⟨y180, hy180⟩ : ∃ y_ : List ByteArray, y_ = (t175.take ((ji8) : Int).toNat) := ⟨_, rfl⟩
            replace H : ((strings_Join.f y180 (⟨#[]⟩ : ByteArray)).bind fun t184 => ((strings_TrimRight.f t184 (⟨#[32]⟩ : ByteArray)).bind fun t185 => (if (ji8) < (t175.length : Int) then (if t185.size + 3 ≤ 9223372036854775807 then (some (t185 ++ (⟨#[226, 128, 166]⟩ : ByteArray))) else (none)) else (some t185)))) = some r := by first | (rw [hy180]; with_reducible exact H) | (have H2_ := (Option.bind_some _ _).symm.trans H; rw [hy180]; with_reducible exact H2_) | (have H2_ := (Option.bind_some _ _).symm.trans H; with_reducible exact H2_) | with_reducible exact H | (rw [hy180]; exact H) | exact H
            have Ny180 := Aside0.mk hy180
            clear hy180
            replace H := Option.bind_eq_some_iff.mp H
            obtain ⟨t184, A110, H⟩ := H
            replace H : ((strings_TrimRight.f t184 (⟨#[32]⟩ : ByteArray)).bind fun t185 => (if (ji8) < (t175.length : Int) then (if t185.size + 3 ≤ 9223372036854775807 then (some (t185 ++ (⟨#[226, 128, 166]⟩ : ByteArray))) else (none)) else (some t185))) = some r := H
            have A11 := Aside0.mk A110
            clear A110
            replace H := Option.bind_eq_some_iff.mp H
            obtain ⟨t185, A120, H⟩ := H
            replace H : (if (ji8) < (t175.length : Int) then (if t185.size + 3 ≤ 9223372036854775807 then (some (t185 ++ (⟨#[226, 128, 166]⟩ : ByteArray))) else (none)) else (some t185)) = some r := H
            have A12 := Aside0.mk A120
            clear A120
            by_cases c13 : (ji8) < (t175.length : Int)
            · rw [if_pos c13] at H
              have c13b0 : decide ((ji8) < (t175.length : Int)) = true := decide_eq_true c13
              clear c13
              by_cases c14 : t185.size + 3 ≤ 9223372036854775807
              · rw [if_pos c14] at H
                have c14b0 := eq_true c14
                have c14b1 : decide (t185.size + 3 ≤ 9223372036854775807) = true := decide_eq_true c14
                try have c14b2 : (9223372036854775807 < t185.size + 3) = False := eq_false (Nat.not_lt.2 c14)
                obtain rfl := Option.some.inj H
                go_wp2_with (first | ((with_reducible refine gate_callee (f := 21) rfl ?_); refine goesL_ (some 19) rfl rfl Tryd.func21 (by kernel_rfl) rfl #[.string a0] rfl (by (try simp only [List.map_toArray, List.map_cons, List.map_nil]); first | done | rfl | (simp only [List.length_drop, List.length_take]; rfl)) ?_; (with_reducible refine (impl_runes.calls kj2 a0 t174 t175 _ A7.out (u8_on HTb.out (by repeat (first | (with_reducible first | exact HB.out | apply below_alloc | apply pw_below_drewN | apply below_drew1) | exact HB.out)))).mono ?_); rintro e w15 ⟨v176, v178, rfl, ho0, ho1, hb⟩; refine ⟨_, rfl, ?_⟩; have n0_ := Aside0.mk (Kd.R_lower ho0 (below_size (by repeat (first | (with_reducible first | exact HB.out | apply below_alloc | apply pw_below_drewN | apply below_drew1) | exact HB.out)))); have n1_ := Aside0.mk (Kd.R_lower ho1 (below_size (by repeat (first | (with_reducible first | exact HB.out | apply below_alloc | apply pw_below_drewN | apply below_drew1) | exact HB.out)))); have n2_ := Aside0.mk (below_step (by repeat (first | (with_reducible first | exact HB.out | apply below_alloc | apply pw_below_drewN | apply below_drew1) | exact HB.out)) hb); clear HB; have HO177 := n0_; have HO179 := n1_; have HB := n2_; clear n0_ n1_ n2_; (try clear hb); (try clear hb2); (try clear hk); (try clear hi); (try clear ho0); (try clear ho1); obtain ⟨Ao16, co16, eo16⟩ := Kd.R_slice HO179.out; subst eo16; have q17 : ((ji8) : Int) ≤ ((t175.length : Int) : Int) := of_decide_eq_true (by first | (with_reducible assumption) | assumption); obtain ⟨i017, hi017, _, hsz17, _⟩ := info_parts info9; have hroom17 : t175.length ≤ co16 := (Kd.R_reads' HO179.out).2.1; have hC17 : Kd.C Kd.string _ Ao16 t175.length t175 := (Kd.R_reads' HO179.out).2.2; have hcut17 := cut_to (P := Tryd.prog) 39 9 .i64 Tryd.underlying39 hi017 Ao16 t175.length co16 (ji8) (of_decide_eq_true (by first | (with_reducible assumption) | assumption)) q17 hroom17; have hr17 := Kd.C_take (m := ((ji8) : Int).toNat) hC17 (by omega); have hy17 : y180.length = ((ji8) : Int).toNat := (by rw [Ny180.out, List.length_take]; omega); rw [← Ny180.out] at hr17; rw [← hy17] at hcut17; have HR183 := Aside0.mk hr17; have HC183 := Aside0.mk (show y180.length ≤ co16 from by omega); clear hr17 hC17 hroom17 hi017 hsz17; have KY17 := Aside0.mk hy17; clear hy17; have KL17 := Aside0.mk (show ((ji8) : Int).toNat ≤ t175.length from by omega); replace q17 := eq_true q17) | ((with_reducible refine gate_callee (f := 23) rfl ?_); refine goesL_ (some 29) rfl rfl Tryd.func23 (by kernel_rfl) rfl #[.slice Ao16 y180.length co16, .string (⟨#[]⟩ : ByteArray)] rfl (by (try simp only [List.map_toArray, List.map_cons, List.map_nil]); first | done | rfl | (simp only [List.length_drop, List.length_take]; rfl)) ?_; (with_reducible refine (strings_Join.calls _ _ y180 (⟨#[]⟩ : ByteArray) t184 _ ?side1 ?side2 A11.out (fun hp_ => own_A HO179.out (by first | (rw [Ny180.out]; simp; done) | (refine Nat.lt_of_lt_of_le hp_ ?_; rw [Ny180.out, List.length_take]; exact Nat.min_le_right _ _) | (rw [Ny180.out] at hp_; simp at hp_; omega)))).mono ?_); (case side1 => repeat (first | exact (by repeat (first | (with_reducible exact HR183.out) | (with_reducible refine Kd.C_alloc ?_ _) | (with_reducible refine Kd.C_drewN ?_ _) | (with_reducible refine Kd.C_drew ?_) | exact HR183.out)) | (with_reducible refine Kd.C_alloc ?_ _) | (with_reducible refine Kd.C_drewN ?_ _) | (with_reducible refine Kd.C_drew ?_))); (case side2 => exact HC183.out); rintro e w18 ⟨rfl, hb⟩; refine ⟨_, rfl, ?_⟩; have n0_ := Aside0.mk (Kd.R_below (by (with_reducible repeat (first | apply Kd.R_alloc | apply Kd.R_drewN | apply Kd.R_drew)); exact HO177.out) hb); have n1_ := Aside0.mk (Kd.R_below (by (with_reducible repeat (first | apply Kd.R_alloc | apply Kd.R_drewN | apply Kd.R_drew)); exact HO179.out) hb); have n2_ := Aside0.mk (Kd.C_below (by repeat (first | (with_reducible exact HR183.out) | (with_reducible refine Kd.C_alloc ?_ _) | (with_reducible refine Kd.C_drewN ?_ _) | (with_reducible refine Kd.C_drew ?_) | exact HR183.out)) hb); have n3_ := Aside0.mk (below_step (by repeat (first | (with_reducible first | exact HB.out | apply below_alloc | apply pw_below_drewN | apply below_drew1) | exact HB.out)) hb); clear HO177; clear HO179; clear HR183; clear HB; have HO177 := n0_; have HO179 := n1_; have HR183 := n2_; have HB := n3_; clear n0_ n1_ n2_ n3_; (try clear hb); (try clear hb2); (try clear hk); (try clear hi)) | ((with_reducible refine gate_callee (f := 22) rfl ?_); refine goesL_ (some 30) rfl rfl Tryd.func22 (by kernel_rfl) rfl #[.string t184, .string (⟨#[32]⟩ : ByteArray)] rfl (by (try simp only [List.map_toArray, List.map_cons, List.map_nil]); first | done | rfl | (simp only [List.length_drop, List.length_take]; rfl)) ?_; (with_reducible refine (strings_TrimRight.calls t184 (⟨#[32]⟩ : ByteArray) t185 _ A12.out).mono ?_); rintro e w19 ⟨rfl, hb⟩; refine ⟨_, rfl, ?_⟩; have n0_ := Aside0.mk (Kd.R_below (by (with_reducible repeat (first | apply Kd.R_alloc | apply Kd.R_drewN | apply Kd.R_drew)); exact HO177.out) hb); have n1_ := Aside0.mk (Kd.R_below (by (with_reducible repeat (first | apply Kd.R_alloc | apply Kd.R_drewN | apply Kd.R_drew)); exact HO179.out) hb); have n2_ := Aside0.mk (Kd.C_below (by repeat (first | (with_reducible exact HR183.out) | (with_reducible refine Kd.C_alloc ?_ _) | (with_reducible refine Kd.C_drewN ?_ _) | (with_reducible refine Kd.C_drew ?_) | exact HR183.out)) hb); have n3_ := Aside0.mk (below_step (by repeat (first | (with_reducible first | exact HB.out | apply below_alloc | apply pw_below_drewN | apply below_drew1) | exact HB.out)) hb); clear HO177; clear HO179; clear HR183; clear HB; have HO177 := n0_; have HO179 := n1_; have HR183 := n2_; have HB := n3_; clear n0_ n1_ n2_ n3_; (try clear hb); (try clear hb2); (try clear hk); (try clear hi)))
                go_ret
                exact ⟨by first | rfl | (simp [errW_none, errW_some] <;> rfl) | (simp only [← hji8]; first | rfl | (simp [errW_none, errW_some] <;> rfl)) | (simp [*, errW_none, errW_some] <;> rfl), by repeat (first | (with_reducible first | exact HB.out | apply below_alloc | apply pw_below_drewN | apply below_drew1) | exact HB.out)⟩
              · rw [if_neg c14] at H
                exact absurd H (by simp)
            · rw [if_neg c13] at H
              have c13b0 : decide ((ji8) < (t175.length : Int)) = false := decide_eq_false c13
              clear c13
              obtain rfl := Option.some.inj H
              go_wp2_with (first | ((with_reducible refine gate_callee (f := 21) rfl ?_); refine goesL_ (some 19) rfl rfl Tryd.func21 (by kernel_rfl) rfl #[.string a0] rfl (by (try simp only [List.map_toArray, List.map_cons, List.map_nil]); first | done | rfl | (simp only [List.length_drop, List.length_take]; rfl)) ?_; (with_reducible refine (impl_runes.calls kj2 a0 t174 t175 _ A7.out (u8_on HTb.out (by repeat (first | (with_reducible first | exact HB.out | apply below_alloc | apply pw_below_drewN | apply below_drew1) | exact HB.out)))).mono ?_); rintro e w20 ⟨v176, v178, rfl, ho0, ho1, hb⟩; refine ⟨_, rfl, ?_⟩; have n0_ := Aside0.mk (Kd.R_lower ho0 (below_size (by repeat (first | (with_reducible first | exact HB.out | apply below_alloc | apply pw_below_drewN | apply below_drew1) | exact HB.out)))); have n1_ := Aside0.mk (Kd.R_lower ho1 (below_size (by repeat (first | (with_reducible first | exact HB.out | apply below_alloc | apply pw_below_drewN | apply below_drew1) | exact HB.out)))); have n2_ := Aside0.mk (below_step (by repeat (first | (with_reducible first | exact HB.out | apply below_alloc | apply pw_below_drewN | apply below_drew1) | exact HB.out)) hb); clear HB; have HO177 := n0_; have HO179 := n1_; have HB := n2_; clear n0_ n1_ n2_; (try clear hb); (try clear hb2); (try clear hk); (try clear hi); (try clear ho0); (try clear ho1); obtain ⟨Ao21, co21, eo21⟩ := Kd.R_slice HO179.out; subst eo21; have q22 : ((ji8) : Int) ≤ ((t175.length : Int) : Int) := of_decide_eq_true (by first | (with_reducible assumption) | assumption); obtain ⟨i022, hi022, _, hsz22, _⟩ := info_parts info9; have hroom22 : t175.length ≤ co21 := (Kd.R_reads' HO179.out).2.1; have hC22 : Kd.C Kd.string _ Ao21 t175.length t175 := (Kd.R_reads' HO179.out).2.2; have hcut22 := cut_to (P := Tryd.prog) 39 9 .i64 Tryd.underlying39 hi022 Ao21 t175.length co21 (ji8) (of_decide_eq_true (by first | (with_reducible assumption) | assumption)) q22 hroom22; have hr22 := Kd.C_take (m := ((ji8) : Int).toNat) hC22 (by omega); have hy22 : y180.length = ((ji8) : Int).toNat := (by rw [Ny180.out, List.length_take]; omega); rw [← Ny180.out] at hr22; rw [← hy22] at hcut22; have HR183 := Aside0.mk hr22; have HC183 := Aside0.mk (show y180.length ≤ co21 from by omega); clear hr22 hC22 hroom22 hi022 hsz22; have KY22 := Aside0.mk hy22; clear hy22; have KL22 := Aside0.mk (show ((ji8) : Int).toNat ≤ t175.length from by omega); replace q22 := eq_true q22) | ((with_reducible refine gate_callee (f := 23) rfl ?_); refine goesL_ (some 29) rfl rfl Tryd.func23 (by kernel_rfl) rfl #[.slice Ao21 y180.length co21, .string (⟨#[]⟩ : ByteArray)] rfl (by (try simp only [List.map_toArray, List.map_cons, List.map_nil]); first | done | rfl | (simp only [List.length_drop, List.length_take]; rfl)) ?_; (with_reducible refine (strings_Join.calls _ _ y180 (⟨#[]⟩ : ByteArray) t184 _ ?side1 ?side2 A11.out (fun hp_ => own_A HO179.out (by first | (rw [Ny180.out]; simp; done) | (refine Nat.lt_of_lt_of_le hp_ ?_; rw [Ny180.out, List.length_take]; exact Nat.min_le_right _ _) | (rw [Ny180.out] at hp_; simp at hp_; omega)))).mono ?_); (case side1 => repeat (first | exact (by repeat (first | (with_reducible exact HR183.out) | (with_reducible refine Kd.C_alloc ?_ _) | (with_reducible refine Kd.C_drewN ?_ _) | (with_reducible refine Kd.C_drew ?_) | exact HR183.out)) | (with_reducible refine Kd.C_alloc ?_ _) | (with_reducible refine Kd.C_drewN ?_ _) | (with_reducible refine Kd.C_drew ?_))); (case side2 => exact HC183.out); rintro e w23 ⟨rfl, hb⟩; refine ⟨_, rfl, ?_⟩; have n0_ := Aside0.mk (Kd.R_below (by (with_reducible repeat (first | apply Kd.R_alloc | apply Kd.R_drewN | apply Kd.R_drew)); exact HO177.out) hb); have n1_ := Aside0.mk (Kd.R_below (by (with_reducible repeat (first | apply Kd.R_alloc | apply Kd.R_drewN | apply Kd.R_drew)); exact HO179.out) hb); have n2_ := Aside0.mk (Kd.C_below (by repeat (first | (with_reducible exact HR183.out) | (with_reducible refine Kd.C_alloc ?_ _) | (with_reducible refine Kd.C_drewN ?_ _) | (with_reducible refine Kd.C_drew ?_) | exact HR183.out)) hb); have n3_ := Aside0.mk (below_step (by repeat (first | (with_reducible first | exact HB.out | apply below_alloc | apply pw_below_drewN | apply below_drew1) | exact HB.out)) hb); clear HO177; clear HO179; clear HR183; clear HB; have HO177 := n0_; have HO179 := n1_; have HR183 := n2_; have HB := n3_; clear n0_ n1_ n2_ n3_; (try clear hb); (try clear hb2); (try clear hk); (try clear hi)) | ((with_reducible refine gate_callee (f := 22) rfl ?_); refine goesL_ (some 30) rfl rfl Tryd.func22 (by kernel_rfl) rfl #[.string t184, .string (⟨#[32]⟩ : ByteArray)] rfl (by (try simp only [List.map_toArray, List.map_cons, List.map_nil]); first | done | rfl | (simp only [List.length_drop, List.length_take]; rfl)) ?_; (with_reducible refine (strings_TrimRight.calls t184 (⟨#[32]⟩ : ByteArray) t185 _ A12.out).mono ?_); rintro e w24 ⟨rfl, hb⟩; refine ⟨_, rfl, ?_⟩; have n0_ := Aside0.mk (Kd.R_below (by (with_reducible repeat (first | apply Kd.R_alloc | apply Kd.R_drewN | apply Kd.R_drew)); exact HO177.out) hb); have n1_ := Aside0.mk (Kd.R_below (by (with_reducible repeat (first | apply Kd.R_alloc | apply Kd.R_drewN | apply Kd.R_drew)); exact HO179.out) hb); have n2_ := Aside0.mk (Kd.C_below (by repeat (first | (with_reducible exact HR183.out) | (with_reducible refine Kd.C_alloc ?_ _) | (with_reducible refine Kd.C_drewN ?_ _) | (with_reducible refine Kd.C_drew ?_) | exact HR183.out)) hb); have n3_ := Aside0.mk (below_step (by repeat (first | (with_reducible first | exact HB.out | apply below_alloc | apply pw_below_drewN | apply below_drew1) | exact HB.out)) hb); clear HO177; clear HO179; clear HR183; clear HB; have HO177 := n0_; have HO179 := n1_; have HR183 := n2_; have HB := n3_; clear n0_ n1_ n2_ n3_; (try clear hb); (try clear hb2); (try clear hk); (try clear hi)))
              go_ret
              exact ⟨by first | rfl | (simp [errW_none, errW_some] <;> rfl) | (simp only [← hji8]; first | rfl | (simp [errW_none, errW_some] <;> rfl)) | (simp [*, errW_none, errW_some] <;> rfl), by repeat (first | (with_reducible first | exact HB.out | apply below_alloc | apply pw_below_drewN | apply below_drew1) | exact HB.out)⟩
          · rw [if_neg c10] at H
            exact absurd H (by simp)
        · rw [if_neg c9] at H
          exact absurd H (by simp)

/-! ### laws_FnExactTitle: function 4 -/
def laws_FnExactTitle.f (k : Nat) (a0 : ByteArray) (a1 : Int) : Option (Bool) := if (a0.size : Int) > 1048576 then (some true) else ((spec_Title.f k a0 a1).bind fun t186 => ((impl_Title.f k a0 a1).bind fun t187 => (if t187.toList = t186.toList then (some true) else (some false))))
theorem laws_FnExactTitle.mono : ∀ a0 a1 k, LeO (laws_FnExactTitle.f k a0 a1) (laws_FnExactTitle.f (k + 1) a0 a1) := by
  intro a0 a1 k
  unfold laws_FnExactTitle.f
  repeat' first
      | (with_reducible exact impl_Title.mono _ _ _)
      | (with_reducible exact spec_Title.mono _ _ _)
      | (with_reducible exact LeO.refl _)
      | (with_reducible exact LeO.none _)
      | (with_reducible refine LeO.ite ?_ ?_)
      | (with_reducible refine LeO.bind ?_ (fun _ => ?_))
      | exact impl_Title.mono _ _ _
      | exact spec_Title.mono _ _ _
      | exact LeO.none _
      | refine LeO.ite ?_ ?_
      | refine LeO.bind ?_ (fun _ => ?_)
set_option maxHeartbeats 8000000 in
set_option maxRecDepth 100000 in
theorem laws_FnExactTitle.calls (k : Nat) (a0 : ByteArray) (a1 : Int) (w : World) (h : laws_FnExactTitle.f k a0 a1 = some true) (hT : Lib.Utf8Tabs 1 2 w) :
    Calls Tryd.prog 4 #[.string a0, .int .i64 a1] w fun e w' => e = .returned (.bool true) ∧ Below w.heap.size w w' := by
  have HTb := Aside0.mk hT; clear hT
  have HB := Aside0.mk (Below.refl w.heap.size w)
  have H : (if (a0.size : Int) > 1048576 then (some true) else ((spec_Title.f k a0 a1).bind fun t186 => ((impl_Title.f k a0 a1).bind fun t187 => (if t187.toList = t186.toList then (some true) else (some false))))) = some true := h
  clear h
  by_cases c3 : (a0.size : Int) > 1048576
  · rw [if_pos c3] at H
    have c3b0 : decide (1048576 < (a0.size : Int)) = true := decide_eq_true c3
    have c3b1 : decide (1048576 < a0.size) = true := decide_eq_true (by omega)
    clear c3
    clear H
    go_enter Tryd.func4, Tryd.ntmps4
    go_wp2
    go_ret
    exact ⟨by first | rfl | (simp [errW_none, errW_some] <;> rfl) | (simp [*, errW_none, errW_some] <;> rfl), by repeat (first | (with_reducible first | exact HB.out | apply below_alloc | apply pw_below_drewN | apply below_drew1) | exact HB.out)⟩
  · rw [if_neg c3] at H
    have c3b0 : decide (1048576 < (a0.size : Int)) = false := decide_eq_false c3
    have c3b1 : decide (1048576 < a0.size) = false := decide_eq_false (by omega)
    clear c3
    replace H := Option.bind_eq_some_iff.mp H
    obtain ⟨t186, A40, H⟩ := H
    replace H : ((impl_Title.f k a0 a1).bind fun t187 => (if t187.toList = t186.toList then (some true) else (some false))) = some true := H
    have A4 := Aside0.mk A40
    clear A40
    replace H := Option.bind_eq_some_iff.mp H
    obtain ⟨t187, A50, H⟩ := H
    replace H : (if t187.toList = t186.toList then (some true) else (some false)) = some true := H
    have A5 := Aside0.mk A50
    clear A50
    by_cases c6 : t187.toList = t186.toList
    · rw [if_pos c6] at H
      have c6b0 : (t187.toList == t186.toList) = true := beq_iff_eq.mpr c6
      have c6b1 : (t187.toList != t186.toList) = false := bne_eq_false_iff_eq.mpr c6
      clear c6
      clear H
      go_enter Tryd.func4, Tryd.ntmps4
      go_wp2_with (first | ((with_reducible refine gate_callee (f := 8) rfl ?_); refine goesL_ (some 12) rfl rfl Tryd.func8 (by kernel_rfl) rfl #[.string a0, .int .i64 a1] rfl (by (try simp only [List.map_toArray, List.map_cons, List.map_nil]); first | done | rfl | (simp only [List.length_drop, List.length_take]; rfl)) ?_; (with_reducible refine (spec_Title.calls k a0 a1 t186 _ A4.out).mono ?_); rintro e w7 ⟨rfl, hb⟩; refine ⟨_, rfl, ?_⟩; have n0_ := Aside0.mk (below_step (by repeat (first | (with_reducible first | exact HB.out | apply below_alloc | apply pw_below_drewN | apply below_drew1) | exact HB.out)) hb); clear HB; have HB := n0_; clear n0_; (try clear hb); (try clear hb2); (try clear hk); (try clear hi)) | ((with_reducible refine gate_callee (f := 9) rfl ?_); refine goesL_ (some 15) rfl rfl Tryd.func9 (by kernel_rfl) rfl #[.string a0, .int .i64 a1] rfl (by (try simp only [List.map_toArray, List.map_cons, List.map_nil]); first | done | rfl | (simp only [List.length_drop, List.length_take]; rfl)) ?_; (with_reducible refine (impl_Title.calls k a0 a1 t187 _ A5.out (u8_on HTb.out (by repeat (first | (with_reducible first | exact HB.out | apply below_alloc | apply pw_below_drewN | apply below_drew1) | exact HB.out)))).mono ?_); rintro e w8 ⟨rfl, hb⟩; refine ⟨_, rfl, ?_⟩; have n0_ := Aside0.mk (below_step (by repeat (first | (with_reducible first | exact HB.out | apply below_alloc | apply pw_below_drewN | apply below_drew1) | exact HB.out)) hb); clear HB; have HB := n0_; clear n0_; (try clear hb); (try clear hb2); (try clear hk); (try clear hi)))
      go_ret
      exact ⟨by first | rfl | (simp [errW_none, errW_some] <;> rfl) | (simp [*, errW_none, errW_some] <;> rfl), by repeat (first | (with_reducible first | exact HB.out | apply below_alloc | apply pw_below_drewN | apply below_drew1) | exact HB.out)⟩
    · rw [if_neg c6] at H
      have c6b0 : (t187.toList == t186.toList) = false := beq_eq_false_iff_ne.mpr c6
      have c6b1 : (t187.toList != t186.toList) = true := bne_iff_ne.mpr c6
      exact absurd H (by simp)

end Go.Proofs.YtgdlmbnnfngieaaDoor.QFnExactTitle
