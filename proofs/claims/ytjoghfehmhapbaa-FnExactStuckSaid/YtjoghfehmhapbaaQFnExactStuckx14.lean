-- Written by a program of this session out of the printer's texts and contracts of its own.
import Derived.Test.YtjoghfehmhapbaaSq
import Derived.Test.YtjoghfehmhapbaaQFnExactStuckx0
import Derived.Test.YtjoghfehmhapbaaQFnExactStuckx8
import Derived.Test.YtjoghfehmhapbaaQFnExactStuckx9
import Derived.Test.YtjoghfehmhapbaaQFnExactStuckx10
import Derived.Test.YtjoghfehmhapbaaQFnExactStuckx11
import Derived.Test.YtjoghfehmhapbaaQFnExactStuckx13
namespace Go.Proofs.Ytjoghfehmhapbaa.QFnExactStuck
open Go.RowKit Go.Proofs.YtjoghfehmhapbaaW.PrintWords Go.Proofs.YtjoghfehmhapbaaW.PrintLast Go.Proofs.YtjoghfehmhapbaaW.PrintMore Go.Proofs.Ytjoghfehmhapbaa.Sq
attribute [local go_sem] max2_int min2_int max_two min_two max_three min_three max_four min_four   -- for this text's walks alone
set_option linter.unusedVariables false
set_option linter.unusedSimpArgs false
theorem sABelo_14 {b : Nat} {w W : World} (h : Below b w W := by repeat (first | (with_reducible first | exact Aside0.out (by assumption) | apply below_alloc | apply pw_below_drewN | apply below_drew1 | refine below_set ?_ (Aside0.out (by assumption))) | exact Aside0.out (by assumption))) : Below b w W := h

/-! ### laws_toJobS: function 73 -/
def laws_toJobS.l0 : Nat → List (S115) → List (S43) → Int → Option ((List (S43)))
 | 0, _, _, _ => none
 | k + 1, x0, x3, x4 => if x4 < (x0.length : Int) then (if 0 ≤ x4 then ((laws_toJob.f ((rd_T115 x0 x4).f0) ((rd_T115 x0 x4).f1)).bind fun bt296 => (if x4 < (x3.length : Int) then (laws_toJobS.l0 k x0 (x3.set (x4 : Int).toNat (⟨bt296.1, bt296.2⟩ : S43)) (wrap64 (x4 + 1))) else (none))) else (none)) else (some x3)
def laws_toJobS.f (k : Nat) (l0 : List (S115)) : Option ((List (S43))) := if 0 ≤ (l0.length : Int) then (if ((l0.length : Int) : Int).toNat ≤ 17592186044416 then (laws_toJobS.l0 k l0 (List.replicate ((l0.length : Int) : Int).toNat z43) 0) else (none)) else (none)
theorem laws_toJobS.mono_l : ∀ k, (∀ y0 y1 y2, LeO (laws_toJobS.l0 k y0 y1 y2) (laws_toJobS.l0 (k + 1) y0 y1 y2))
 | 0 => fun _ _ _ r h => by simp [laws_toJobS.l0] at h
 | k + 1 => by
  have ih0 := laws_toJobS.mono_l k
  ·intro y0 y1 y2
   unfold laws_toJobS.l0
   repeat' first
   | (with_reducible exact ih0 _ _ _)
   | (with_reducible exact LeO.refl _)
   | (with_reducible exact LeO.none _)
   | (with_reducible refine LeO.ite ?_ ?_)
   | (with_reducible refine LeO.bind ?_ (fun _ => ?_))
   | exact ih0 _ _ _
   | exact LeO.none _
   | refine LeO.ite ?_ ?_
   | refine LeO.bind ?_ (fun _ => ?_)
theorem laws_toJobS.mono : ∀ a0 k, LeO (laws_toJobS.f k a0) (laws_toJobS.f (k + 1) a0) := by
 intro a0 k
 have ih0 := laws_toJobS.mono_l k
 unfold laws_toJobS.f
 repeat' first
   | (with_reducible exact ih0 _ _ _)
   | (with_reducible exact LeO.refl _)
   | (with_reducible exact LeO.none _)
   | (with_reducible refine LeO.ite ?_ ?_)
   | (with_reducible refine LeO.bind ?_ (fun _ => ?_))
   | exact ih0 _ _ _
   | exact LeO.none _
   | refine LeO.ite ?_ ?_
   | refine LeO.bind ?_ (fun _ => ?_)
set_option maxHeartbeats 8000000 in
set_option maxRecDepth 100000 in
theorem laws_toJobS.calls (k : Nat) (A0 : Option Addr) (c0 : Nat) (l0 : List (S115)) (r : List (S43)) (w : World) (hr0 : Kd.C k115 w A0 l0.length l0) (hc0 : l0.length ≤ c0) (h : laws_toJobS.f k l0 = some r) :
  Calls Try.prog 73 #[.slice A0 l0.length c0] w fun e w' => ∃ v0_ : Value, e = .returned (v0_) ∧ Kd.R k43 43 w' w.heap.size (fun _ => True) v0_ r ∧ Below w.heap.size w w' := by
 have hu115 := Try.underlying115; have hu43 := Try.underlying43; have HR0 := Aside0.mk hr0; have HC0 := Aside0.mk hc0; clear hr0 hc0
 have HB := Aside0.mk (Below.refl w.heap.size w)
 have H : (if 0 ≤ (l0.length : Int) then (if ((l0.length : Int) : Int).toNat ≤ 17592186044416 then (laws_toJobS.l0 k l0 (List.replicate ((l0.length : Int) : Int).toNat z43) 0) else (none)) else (none)) = some r := h
 clear h
 obtain ⟨c2, H⟩ := ifS_ H
 have c2b0 := eq_true c2
 have c2b1 : decide (0 ≤ (l0.length : Int)) = true := decide_eq_true c2
 clear c2
 obtain ⟨c3, H⟩ := ifS_ H
 have c3b0 := eq_true c3
 have c3b1 : decide (((l0.length : Int) : Int).toNat ≤ 17592186044416) = true := decide_eq_true c3
 clear c3
 obtain ⟨y292, hy292⟩ : ∃ y_ : List (S43), y_ = (List.replicate ((l0.length : Int) : Int).toNat z43) := ⟨_, rfl⟩
 replace H : (laws_toJobS.l0 k l0 y292 0) = some r := by first | (rw [hy292]; with_reducible exact H) | (have H2_ := (Option.bind_some _ _).symm.trans H; rw [hy292]; with_reducible exact H2_) | (have H2_ := (Option.bind_some _ _).symm.trans H; with_reducible exact H2_) | with_reducible exact H | (rw [hy292]; exact H) | exact H
 have Ny292 := Aside0.mk hy292; clear hy292; have H' := Aside0.mk H; clear H
 go_enter Try.func73, Try.ntmps73
 go_wp2_with (first | ((with_reducible refine gate_dst (N := 7) rfl ?_); refine Kd.R_make k43 _ 43 rfl (N := 7) rfl 29 _ _ rfl (l0.length : Int) rfl rfl Try.underlying29 (.agg #[(.int .i64 0), (.int .i64 0)]) 16 info43 rfl (by decide) (by omega) z43 (ok := fun _ => True) (okp := fun _ => True) (k43_mkM _ _ _ z43 ) (fun _ hk => hk) trivial dA_ (Nat.le_trans (Nat.mul_le_mul_right _ (of_decide_eq_true (by first | (with_reducible assumption) | assumption) : (l0.length : Int).toNat ≤ 17592186044416)) (by omega)) (Below.refl _ _) (Nat.le_refl _) ?_; intro v293 w4 ho5 hb hg_ hnew_; clear hg_ hnew_; (first | rw [← Ny292.out] at ho5 | (simp only [Int.reduceToNat] at ho5; rw [← Ny292.out] at ho5)); have HO294 := rL_ ho5 HB; replace HB := bS_ HB hb; clear hb ho5))
 go_loopg [4] k (fun kq v4 w' => ∃ (x3_1 : List (S43)) (x4_1 : Int), v4 = .int .i64 x4_1 ∧ Aside0 (laws_toJobS.l0 kq l0 x3_1 x4_1 = some r) ∧ Aside0 (kq ≤ k) ∧ Aside0 (Kd.R k43 43 w' w.heap.size (fun _ => True) v293 x3_1) ∧ Aside0 (Below w.heap.size w w'))
 case atStart => exact ⟨(y292), (0), (by first | rfl | (simp; done) | (simp [*]; done)), H', ⟨Nat.le_refl _⟩, ⟨rT_ HO294⟩, ⟨sABelo_14⟩⟩
 case round =>
  clear H'; (try clear c2); (try clear c2b0); (try clear c2b1); (try clear c3); (try clear c3b0); (try clear c3b1)
  obtain ⟨x3_1, x4_1, rfl, HA, HK1, HO_3, HB⟩ := hrel
  cases gk with
  | zero => exact absurd HA.out (by simp [laws_toJobS.l0])
  | succ k1 =>
   have H := HA.out; clear HA
   simp only [laws_toJobS.l0] at H
   by_cases c6 : x4_1 < (l0.length : Int)
   ·rw [if_pos c6] at H
    have c6b0 := decide_eq_true c6
    clear c6
    obtain ⟨c7, H⟩ := ifS_ H
    have c7b0 : decide (0 ≤ x4_1) = true := decide_eq_true c7
    clear c7; replace H := Option.bind_eq_some_iff.mp H
    obtain ⟨⟨t296, t297⟩, A80, H⟩ := H
    replace H : (if x4_1 < (x3_1.length : Int) then (laws_toJobS.l0 k1 l0 (x3_1.set (x4_1 : Int).toNat (⟨t296, t297⟩ : S43)) (wrap64 (x4_1 + 1))) else (none)) = some r := H
    have A8 := Aside0.mk A80; clear A80
    obtain ⟨c9, H⟩ := ifS_ H
    have c9b0 : decide (x4_1 < (x3_1.length : Int)) = true := decide_eq_true c9
    clear c9
    obtain ⟨y298, hy298⟩ : ∃ y_ : List (S43), y_ = (x3_1.set (x4_1 : Int).toNat (⟨t296, t297⟩ : S43)) := ⟨_, rfl⟩
    replace H : (laws_toJobS.l0 k1 l0 y298 (wrap64 (x4_1 + 1))) = some r := by first | (rw [hy298]; with_reducible exact H) | (have H2_ := (Option.bind_some _ _).symm.trans H; rw [hy298]; with_reducible exact H2_) | (have H2_ := (Option.bind_some _ _).symm.trans H; with_reducible exact H2_) | with_reducible exact H | (rw [hy298]; exact H) | exact H
    have Ny298 := Aside0.mk hy298; clear hy298; have H' := Aside0.mk H; clear H
    have p295 : 0 ≤ (x4_1 : Int) := dA_
    have q295 : x4_1 < (l0.length : Int) := dA_
    obtain ⟨ad295, e295, hx295_0, hx295_1⟩ := at_T115 HR0.out x4_1 p295 q295
    cases e295
    replace hx295_0 := hX_ HB hx295_0
    replace hx295_1 := hX_ HB hx295_1
    replace p295 := eq_true p295; replace q295 := eq_true q295
    go_wp2_with (first | ((with_reducible refine gate_callee (f := 90) rfl ?_); refine gL_ (some 20) Try.func90 #[.agg #[.int .i64 ((rd_T115 l0 x4_1).f0), .int .i64 ((rd_T115 l0 x4_1).f1)]] ?_; (with_reducible refine (laws_toJob.calls ((rd_T115 l0 x4_1).f0) ((rd_T115 l0 x4_1).f1) t296 t297 _ A8.out).mono ?_); rintro e w11 ⟨rfl, hb⟩; refine ⟨_, rfl, ?_⟩; replace HO_3 := rB_ HO_3 hb; replace HB := bS_ HB hb; (try clear hb); (try clear hk); have p10 : 0 ≤ (x4_1 : Int) := dA_; have q10 : (x4_1 : Int) < ((x3_1.length : Int) : Int) := dA_; obtain ⟨go10, co10, eo10, gb10, gl10, cl10, HG10⟩ := Kd.R_form HO_3.out (by omega); (first | cases eo10 | (injection eo10 with ea_ en_ ec_; (first | subst ea_ | (injection ea_ with ea_; subst ea_)); subst ec_; clear en_)); have GB10 := Aside0.mk gb10; have GG10 := Aside0.mk HG10; clear gb10 gl10 HG10; obtain ⟨ce10, hcl10, hM10, hcc10, hfr10⟩ := Kd.R_elem HO_3.out z43 (x4_1 : Int) p10 q10; obtain rfl := k43_openM hM10; have hx10_0 : w11.cell? ⟨go10, (x4_1 : Int).toNat * 2, none⟩ = some (.int .i64 ((rd_T43 x3_1 x4_1).f0)) := hcc10 0 _ rfl; have hx10_1 : w11.cell? ⟨go10, (x4_1 : Int).toNat * 2 + 1, none⟩ = some (.int .i64 ((rd_T43 x3_1 x4_1).f1)) := hcc10 1 _ rfl; have hf10_0 : w11.frozen? ⟨go10, (x4_1 : Int).toNat * 2, none⟩ = false := hfr10 0; have hf10_1 : w11.frozen? ⟨go10, (x4_1 : Int).toNat * 2 + 1, none⟩ = false := hfr10 1; clear hcl10 hcc10 hfr10 hM10; replace p10 := eq_true p10; replace q10 := eq_true q10; have HX12 := Aside0.mk (show Kd.R k43 43 w11 w.heap.size (fun _ => True) (.slice (some ⟨go10, 0, none⟩) x3_1.length co10) x3_1 from (rT_ HO_3)); obtain ⟨ce12, hcl12, hM12, hcc12, hfr12⟩ := Kd.R_elem HX12.out z43 (x4_1 : Int) dA_ (by have h_ : (x4_1 : Int) < ((x3_1.length : Int) : Int) := dA_; first | exact h_ | (have e_ := (Kd.R_reads' HO_3.out).1; omega) | simpa using h_); obtain rfl := k43_openM hM12; have HP12 := Kd.R_seg HX12.out (x4_1 : Int) dA_ (by have h_ : (x4_1 : Int) < ((x3_1.length : Int) : Int) := dA_; first | exact h_ | (have e_ := (Kd.R_reads' HO_3.out).1; omega) | simpa using h_) (seg := [.int .i64 t296, .int .i64 t297]) (j := 0) hcl12 hcc12 (show 2 ≤ 2 from by decide) (x' := (⟨t296, t297⟩ : S43)) (k43_mkM _ _ _ (⟨t296, t297⟩ : S43) ) (fun _ hk => hk); have hx12_0 := hcc12 0 _ rfl; (try simp only [show (k43).sz = 2 from rfl, Nat.mul_one, Nat.add_zero] at hx12_0); have hf12_0 := hfr12 0; (try simp only [show (k43).sz = 2 from rfl, Nat.mul_one, Nat.add_zero] at hf12_0); have hx12_1 := hcc12 1 _ rfl; (try simp only [show (k43).sz = 2 from rfl, Nat.mul_one, Nat.add_zero] at hx12_1); have hf12_1 := hfr12 1; (try simp only [show (k43).sz = 2 from rfl, Nat.mul_one, Nat.add_zero] at hf12_1); clear hcl12 hcc12 hfr12 hM12) | ((with_reducible refine gate_store (t := 43) (p := 21) rfl ?_); refine store_event (t := 43) (p := 21) (v := ?vo_w13) (w1 := ((w11.setCell ⟨go10, (x4_1 : Int).toNat * 2, none⟩ (.int .i64 t296)).setCell ⟨go10, (x4_1 : Int).toNat * 2 + 1, none⟩ (.int .i64 t297))) ?hg ?ho ?hn ?hr ?_; (case ho => rfl); (case hg => rfl); (case hn => rfl); (case hr => first | (go_simp; done) | (go_simp; rfl)); intro w13 hw; have hg : w11.grownBy w13 (some go10) := (by rw [hw]; exact HP12.2); have hp_ : Kd.R k43 43 w13 w.heap.size (fun _ => True) (.slice (some ⟨go10, 0, none⟩) x3_1.length co10) y298 := (by rw [hw, Ny298.out]; exact HP12.1); clear HP12; replace HO_3 := Aside0.mk (hp_); replace HB := Aside0.mk ((by rw [hw]; exact below_set (below_set (HB.out) GB10.out) GB10.out : Below w.heap.size w w13)); clear hg hw hp_))
    go_roundg k1
    case measure => have := HK1.out; omega
    case rel => exact ⟨(y298), (wrap64 (x4_1 + 1)), (by first | rfl | (simp; done) | (simp [*]; done)), H', ⟨by have := HK1.out; omega⟩, ⟨rT_ HO_3⟩, ⟨sABelo_14⟩⟩
   ·rw [if_neg c6] at H
    have c6b0 := decide_eq_false c6
    clear c6
    obtain rfl := Option.some.inj H
    go_wp2
    go_ret
    exact ⟨_, by first | rfl | (simp [errW_none, errW_some] <;> rfl) | (simp [*, errW_none, errW_some] <;> rfl), by (with_reducible repeat (first | apply Kd.R_alloc | apply Kd.R_drewN | apply Kd.R_drew)); exact HO_3.out, sABelo_14⟩

/-! ### laws_toRun: function 36 -/
def laws_toRun.f (k : Nat) (l0_0 : List (S110)) (l0_1 : List Int) (a0_2 : Int) (l0_3 : List (S115)) : Option ((List (S39)) × List Int × Int × (List (S43))) := (laws_toSuite.f k l0_0 l0_1).bind fun bt302 => ((laws_toJobS.f k l0_3).bind fun t308 => (some (bt302.1, bt302.2, a0_2, t308)))
theorem laws_toRun.mono : ∀ a0 a1 a2 a3 k, LeO (laws_toRun.f k a0 a1 a2 a3) (laws_toRun.f (k + 1) a0 a1 a2 a3) := by
 intro a0 a1 a2 a3 k
 unfold laws_toRun.f
 repeat' first
   | (with_reducible exact laws_toJobS.mono _ _)
   | (with_reducible exact laws_toSuite.mono _ _ _)
   | (with_reducible exact LeO.refl _)
   | (with_reducible exact LeO.none _)
   | (with_reducible refine LeO.ite ?_ ?_)
   | (with_reducible refine LeO.bind ?_ (fun _ => ?_))
   | exact laws_toJobS.mono _ _
   | exact laws_toSuite.mono _ _ _
   | exact LeO.none _
   | refine LeO.ite ?_ ?_
   | refine LeO.bind ?_ (fun _ => ?_)
set_option maxHeartbeats 8000000 in
set_option maxRecDepth 100000 in
theorem laws_toRun.calls (k : Nat) (A0_0 : Option Addr) (c0_0 : Nat) (l0_0 : List (S110)) (A0_1 : Option Addr) (c0_1 : Nat) (l0_1 : List Int) (a0_2 : Int) (A0_3 : Option Addr) (c0_3 : Nat) (l0_3 : List (S115)) (r1 : List (S39)) (r2 : List Int) (r3 : Int) (r4 : List (S43)) (w : World) (hr0_0 : Kd.C k110 w A0_0 l0_0.length l0_0) (hc0_0 : l0_0.length ≤ c0_0) (hr0_1 : Kd.C (Kd.int .i64) w A0_1 l0_1.length l0_1) (hc0_1 : l0_1.length ≤ c0_1) (hr0_3 : Kd.C k115 w A0_3 l0_3.length l0_3) (hc0_3 : l0_3.length ≤ c0_3) (h : laws_toRun.f k l0_0 l0_1 a0_2 l0_3 = some (r1, r2, r3, r4)) :
  Calls Try.prog 36 #[.agg #[.slice A0_0 l0_0.length c0_0, .slice A0_1 l0_1.length c0_1, .int .i64 a0_2, .slice A0_3 l0_3.length c0_3]] w fun e w' => ∃ v0_ v1_ v3_ : Value, e = .returned (.agg #[v0_, v1_, .int .i64 r3, v3_]) ∧ Kd.S k39 39 w' w.heap.size (fun k_ => some k_ ≠ (v1_ : Value).ownBlock) v0_ r1 ∧ Kd.R (Kd.int .i64) 2 w' w.heap.size (fun _ => True) v1_ r2 ∧ Kd.R k43 43 w' w.heap.size (fun _ => True) v3_ r4 ∧ Below w.heap.size w w' := by
 have hu64 := Try.underlying64; have hu31 := Try.underlying31; have hu54 := Try.underlying54; have hu27 := Try.underlying27; have HR0_0 := Aside0.mk hr0_0; have HC0_0 := Aside0.mk hc0_0; clear hr0_0 hc0_0; have HR0_1 := Aside0.mk hr0_1; have HC0_1 := Aside0.mk hc0_1; clear hr0_1 hc0_1; have HR0_3 := Aside0.mk hr0_3; have HC0_3 := Aside0.mk hc0_3; clear hr0_3 hc0_3
 have HB := Aside0.mk (Below.refl w.heap.size w)
 have H : ((laws_toSuite.f k l0_0 l0_1).bind fun bt302 => ((laws_toJobS.f k l0_3).bind fun t308 => (some (bt302.1, bt302.2, a0_2, t308)))) = some (r1, r2, r3, r4) := h
 clear h; replace H := Option.bind_eq_some_iff.mp H
 obtain ⟨⟨t302, t305⟩, A20, H⟩ := H
 replace H : ((laws_toJobS.f k l0_3).bind fun t308 => (some (t302, t305, a0_2, t308))) = some (r1, r2, r3, r4) := H
 have A2 := Aside0.mk A20; clear A20; replace H := Option.bind_eq_some_iff.mp H
 obtain ⟨t308, A30, H⟩ := H
 replace H : (some (t302, t305, a0_2, t308)) = some (r1, r2, r3, r4) := H
 have A3 := Aside0.mk A30; clear A30
 simp only [Option.some.injEq, Prod.mk.injEq] at H
 obtain ⟨rfl, rfl, rfl, rfl⟩ := H
 go_enter Try.func36, Try.ntmps36
 go_wp2_with (first | ((with_reducible refine gate_dst (N := 1) rfl ?_); refine box_event ?hg (N := 1) ?hd (cs := #[.slice A0_0 l0_0.length c0_0, .slice A0_1 l0_1.length c0_1, .int .i64 a0_2, .slice A0_3 l0_3.length c0_3]) (t := 64) ?hr ?_; (case hd => rfl); (case hg => rfl); (case hr => first | (go_simp; done) | (go_simp; rfl)); intro gb299 hg w4 hbox hb; have BK299 := Aside0.mk (hbox); have GW299 := gE_ HB hg; have GE299 := gE_ HB hg; replace HB := bS_ HB hb; clear hb hbox hg) | ((with_reducible refine gate_dst (N := 2) rfl ?_); refine box_event ?hg (N := 2) ?hd (cs := #[.slice none 0 0, .slice none 0 0, .int .i64 0, .slice none 0 0]) (t := 31) ?hr ?_; (case hd => rfl); (case hg => rfl); (case hr => first | (go_simp; done) | (go_simp; rfl)); intro gb300 hg w5 hbox hb; have BK300 := Aside0.mk (hbox); have GW300 := gE_ HB hg; have GE300 := gE_ HB hg; replace HB := bS_ HB hb; have NB299_300 := nL_ BK299 hg; have NB300_299 := nG_ BK299 hg; replace BK299 := bB_ BK299 hb; clear hb hbox hg) | ((with_reducible refine gate_dst (N := 3) rfl ?_); refine box_event ?hg (N := 3) ?hd (cs := #[.slice none 0 0, .slice none 0 0, .int .i64 0, .slice none 0 0]) (t := 31) ?hr ?_; (case hd => rfl); (case hg => rfl); (case hr => first | (go_simp; done) | (go_simp; rfl)); intro gb301 hg w6 hbox hb; have BK301 := Aside0.mk (hbox); have GW301 := gE_ HB hg; have GE301 := gE_ HB hg; replace HB := bS_ HB hb; have NB299_301 := nL_ BK299 hg; have NB301_299 := nG_ BK299 hg; replace BK299 := bB_ BK299 hb; have NB300_301 := nL_ BK300 hg; have NB301_300 := nG_ BK300 hg; replace BK300 := bB_ BK300 hb; clear hb hbox hg; have hnb7 := NB299_300.out; have hnc7 := NB300_299.out; have hnb8 := NB299_301.out; have hnc8 := NB301_299.out; obtain ⟨hcz9_0, hcz9_1, hcz9_2, hcz9_3, hfz9_0, hfz9_1, hfz9_2, hfz9_3⟩ := cf4_ BK299) | ((with_reducible refine gate_callee (f := 28) rfl ?_); refine gL_ (some 6) Try.func28 #[.agg #[.slice A0_0 l0_0.length c0_0, .slice A0_1 l0_1.length c0_1]] ?_; (with_reducible refine (laws_toSuite.calls k _ _ l0_0 _ _ l0_1 t302 t305 _ ?side1 ?side2 ?side3 ?side4 A2.out).mono ?_); (case side1 => exact cB_ HR0_0 HB); (case side2 => exact HC0_0.out); (case side3 => exact cB_ HR0_1 HB); (case side4 => exact HC0_1.out); rintro e w10 ⟨v303, v306, rfl, ho0, ho1, hb⟩; refine ⟨_, rfl, ?_⟩; have HO304 := sL_ ho0 HB; have HO307 := rL_ ho1 HB; replace BK299 := bB_ BK299 hb; replace BK300 := bB_ BK300 hb; replace BK301 := bB_ BK301 hb; replace HB := bS_ HB hb; (try clear hb); (try clear ho0); (try clear ho1); obtain ⟨Ao11, co11, eo11⟩ := Kd.S_slice HO304.out; subst eo11; have hnb12 := NB301_300.out; have hnc12 := NB300_301.out; obtain ⟨hcz13_0, hcz13_1, hcz13_2, hcz13_3, hfz13_0, hfz13_1, hfz13_2, hfz13_3⟩ := cf4_ BK301; obtain ⟨Ao14, co14, eo14⟩ := Kd.R_slice HO307.out; subst eo14; obtain ⟨hcz15_0, hcz15_1, hcz15_2, hcz15_3, hfz15_0, hfz15_1, hfz15_2, hfz15_3⟩ := cf4_ BK299) | ((with_reducible refine gate_callee (f := 73) rfl ?_); refine gL_ (some 13) Try.func73 #[.slice A0_3 l0_3.length c0_3] ?_; (with_reducible refine (laws_toJobS.calls k _ _ l0_3 t308 _ ?side1 ?side2 A3.out).mono ?_); (case side1 => exact cBF_ HR0_3 HB GE301); (case side2 => exact HC0_3.out); rintro e w16 ⟨v309, rfl, ho0, hb⟩; refine ⟨_, rfl, ?_⟩; replace HO304 := sBF_ HO304 BK301 hb; replace HO307 := rBF_ HO307 BK301 hb; have HO310 := rLF_ ho0 HB; replace BK299 := bBF_ BK299 NB299_301 hb; replace BK300 := bBF_ BK300 NB300_301 hb; replace BK301 := Aside0.mk (blk_below (g := gb301) (o := .cells #[.slice Ao11 t302.length co11, .slice Ao14 t305.length co14, .int .i64 a0_2, .slice none 0 0] 31 (0, 0)) (bP_ BK301) hb); replace HB := bSF_ HB GE301 hb; (try clear hb); (try clear ho0); obtain ⟨Ao17, co17, eo17⟩ := Kd.R_slice HO310.out; subst eo17; obtain ⟨hcz18_0, hcz18_1, hcz18_2, hcz18_3, hfz18_0, hfz18_1, hfz18_2, hfz18_3⟩ := cf4_ BK301; obtain ⟨hcz19_0, hcz19_1, hcz19_2, hcz19_3, hfz19_0, hfz19_1, hfz19_2, hfz19_3⟩ := cf4_ BK300))
 refine bodyPost_ret (results_cell_row rfl _ _ gb300 31 #[.slice Ao11 t302.length co11, .slice Ao14 t305.length co14, .int .i64 a0_2, .slice Ao17 t308.length co17] (0, 0) _ rfl (by (with_reducible repeat (first | refine blk_drewN ?_ _ | refine blk_drew ?_ | refine blk_alloc ?_ _)); refine blk_put (cs := #[.slice Ao11 t302.length co11, .slice Ao14 t305.length co14, .int .i64 a0_2, .slice none 0 0]) ?_ 3 _ rfl; (with_reducible repeat (first | refine blk_drewN ?_ _ | refine blk_drew ?_ | refine blk_alloc ?_ _)); refine blk_put (cs := #[.slice Ao11 t302.length co11, .slice Ao14 t305.length co14, .int .i64 0, .slice none 0 0]) ?_ 2 _ rfl; (with_reducible repeat (first | refine blk_drewN ?_ _ | refine blk_drew ?_ | refine blk_alloc ?_ _)); refine blk_put (cs := #[.slice Ao11 t302.length co11, .slice none 0 0, .int .i64 0, .slice none 0 0]) ?_ 1 _ rfl; (with_reducible repeat (first | refine blk_drewN ?_ _ | refine blk_drew ?_ | refine blk_alloc ?_ _)); refine blk_put (cs := #[.slice none 0 0, .slice none 0 0, .int .i64 0, .slice none 0 0]) ?_ 0 _ rfl; (with_reducible repeat (first | refine blk_drewN ?_ _ | refine blk_drew ?_ | refine blk_alloc ?_ _)); refine blk_far ?_ NB300_301.out _; exact bT_ BK300) Try.underlying31 rfl (by kernel_rfl)) rfl ?_
 exact ⟨_, _, _, by first | rfl | (simp [errW_none, errW_some] <;> rfl) | (simp [*, errW_none, errW_some] <;> rfl), by (with_reducible repeat (first | apply Kd.S_alloc | apply Kd.S_drewN | apply Kd.S_drew)); exact Kd.S_mono (Kd.S_far (p := ⟨gb300, 3, none⟩) (Kd.S_far (p := ⟨gb300, 2, none⟩) (Kd.S_far (p := ⟨gb300, 1, none⟩) (Kd.S_far (p := ⟨gb300, 0, none⟩) (Kd.S_far (p := ⟨gb301, 3, none⟩) (Kd.S_types (Kd.S_types HO304.out BK301.out (by decide)) BK300.out (by decide)) (fun _ hk => hk.1.2) (.slice Ao17 t308.length co17)) (fun _ hk => hk.2) (.slice Ao11 t302.length co11)) (fun _ hk => hk.2) (.slice Ao14 t305.length co14)) (fun _ hk => hk.2) (.int .i64 a0_2)) (fun _ hk => hk.2) (.slice Ao17 t308.length co17)) (fun _ hk => hk.1.1), by (with_reducible repeat (first | apply Kd.R_alloc | apply Kd.R_drewN | apply Kd.R_drew)); exact Kd.R_mono (Kd.R_far (p := ⟨gb300, 3, none⟩) (Kd.R_far (p := ⟨gb300, 2, none⟩) (Kd.R_far (p := ⟨gb300, 1, none⟩) (Kd.R_far (p := ⟨gb300, 0, none⟩) (Kd.R_far (p := ⟨gb301, 3, none⟩) (Kd.R_types (Kd.R_types HO307.out BK301.out (by decide)) BK300.out (by decide)) (fun _ hk => hk.1.2) (.slice Ao17 t308.length co17)) (fun _ hk => hk.2) (.slice Ao11 t302.length co11)) (fun _ hk => hk.2) (.slice Ao14 t305.length co14)) (fun _ hk => hk.2) (.int .i64 a0_2)) (fun _ hk => hk.2) (.slice Ao17 t308.length co17)) (fun _ hk => trivial), by (with_reducible repeat (first | apply Kd.R_alloc | apply Kd.R_drewN | apply Kd.R_drew)); exact Kd.R_mono (Kd.R_far (p := ⟨gb300, 3, none⟩) (Kd.R_far (p := ⟨gb300, 2, none⟩) (Kd.R_far (p := ⟨gb300, 1, none⟩) (Kd.R_far (p := ⟨gb300, 0, none⟩) (Kd.R_far (p := ⟨gb301, 3, none⟩) (Kd.R_types (Kd.R_types HO310.out BK301.out (by decide)) BK300.out (by decide)) (fun _ hk => hk.1.2) (.slice Ao17 t308.length co17)) (fun _ hk => hk.2) (.slice Ao11 t302.length co11)) (fun _ hk => hk.2) (.slice Ao14 t305.length co14)) (fun _ hk => hk.2) (.int .i64 a0_2)) (fun _ hk => hk.2) (.slice Ao17 t308.length co17)) (fun _ hk => trivial), sABelo_14⟩

end Go.Proofs.Ytjoghfehmhapbaa.QFnExactStuck
