/- impl's Run.running: a map of how many jobs run in each group; what it holds, key by key. -/
import Derived.Test.YtjoghfehmhapbaaQFnSuiteOncex0
import Derived.Test.YtjoghfehmhapbaaSq
import Derived.Maps.OwnOps
import Derived.Maps.OwnSet
import Derived.Maps.RangeWalk
set_option linter.unusedVariables false
set_option linter.unusedSimpArgs false
namespace Go.Proofs.Ytjoghfehmhapbaa.QFnSuiteOnce
open Go.RowKit Go.Proofs.YtjoghfehmhapbaaW.PrintWords Go.Proofs.YtjoghfehmhapbaaW.PrintLast Go.Proofs.YtjoghfehmhapbaaW.PrintMore Go.Proofs.Ytjoghfehmhapbaa.Sq Go.Maps

theorem lawI : Keyed Try.prog 2 := int_keyed Try.underlying2
theorem zeroI (w : World) : (zeroValue 2).run Try.prog w = .ok (.int .i64 0) w := by kernel_rfl
def cntG (l0 : List S39) (l3 : List S43) (g : Int) : Nat → Int
  | 0 => 0
  | n + 1 => cntG l0 l3 g n + (if (rd_T43 l3 (n : Int)).f0 = 1 ∧ (rd_T39 l0 (n : Int)).f1 = g then 1 else 0)
theorem cntG_bd (l0 : List S39) (l3 : List S43) (g : Int) : ∀ n : Nat, 0 ≤ cntG l0 l3 g n ∧ cntG l0 l3 g n ≤ n := by
  intro n
  induction n with
  | zero => exact ⟨Int.le_refl _, Int.le_refl _⟩
  | succ n ih =>
    simp only [cntG]
    by_cases c : (rd_T43 l3 (n : Int)).f0 = 1 ∧ (rd_T39 l0 (n : Int)).f1 = g
    · rw [if_pos c]; omega
    · rw [if_neg c]; omega
def Holds {H : Type} (D : DataW H) (l0 : List S39) (l3 : List S43) (n : Nat) : Prop :=
  IsMap D ∧ ∀ g : Int, D.atKey (.int .i64 g) (.lit (.int .i64 0)) = .lit (.int .i64 (cntG l0 l3 g n)) ∧ (Maps.has D (.int .i64 g) = true → 0 < cntG l0 l3 g n)
theorem holds_start {H : Type} (l0 : List S39) (l3 : List S43) : Holds (.map [] : DataW H) l0 l3 0 := ⟨isMap_empty, fun g => ⟨rfl, fun h => by simp [Maps.has] at h⟩⟩
theorem holds_stay {H : Type} {D : DataW H} {l0 : List S39} {l3 : List S43} {n : Nat} (h : Holds D l0 l3 n) (c : ¬ (rd_T43 l3 (n : Int)).f0 = 1) : Holds D l0 l3 (n + 1) := by
  refine ⟨h.1, fun g => ?_⟩
  simp only [cntG]
  rw [if_neg (fun x => c x.1), Int.add_zero]
  exact h.2 g
theorem holds_put {H : Type} {D : DataW H} {l0 : List S39} {l3 : List S43} {n : Nat} (h : Holds D l0 l3 n) (c : (rd_T43 l3 (n : Int)).f0 = 1) (hk : WideAt.IsKeyLit (.int .i64 (rd_T39 l0 (n : Int)).f1)) {x : Int} (hx : D.atKey (.int .i64 (rd_T39 l0 (n : Int)).f1) (.lit (.int .i64 0)) = .lit (.int .i64 x)) (hn : n ≤ 1048576) :
    Holds (D.put (.int .i64 (rd_T39 l0 (n : Int)).f1) (.lit (.int .i64 (wrap64 (x + 1))))) l0 l3 (n + 1) := by
  refine ⟨h.1.put _ _, fun g => ?_⟩
  have hb := cntG_bd l0 l3 (rd_T39 l0 (n : Int)).f1 n
  have e : x = cntG l0 l3 (rd_T39 l0 (n : Int)).f1 n := by
    have := (h.2 (rd_T39 l0 (n : Int)).f1).1
    rw [hx] at this
    injection this with this
    injection this
  have ew : wrap64 (x + 1) = x + 1 := by unfold wrap64; omega
  by_cases c2 : (rd_T39 l0 (n : Int)).f1 = g
  · simp only [cntG]
    rw [if_pos ⟨c, c2⟩, ← c2, atKey_put_same h.1 hk, ew, e]
    exact ⟨rfl, fun _ => by omega⟩
  · have hne : (.int .i64 g : Lit) ≠ .int .i64 (rd_T39 l0 (n : Int)).f1 := fun x => c2 (by injection x with _ x; exact x.symm)
    simp only [cntG]
    rw [if_neg (fun x => c2 x.2), Int.add_zero, atKey_put_other hne, has_put_other hne]
    exact h.2 g

set_option maxHeartbeats 8000000 in
set_option maxRecDepth 100000 in
theorem impl_running.callsM {H : Type} (A0 : Option Addr) (c0 : Nat) (l0 : List S39) (A1 : Option Addr) (c1 n1 : Nat) (a2 : Int) (A3 : Option Addr) (c3 : Nat) (l3 : List S43) (w : World) (hr0 : Kd.C k39 w A0 l0.length l0) (hr3 : Kd.C k43 w A3 l3.length l3) (hlen : l3.length ≤ l0.length) (hmax : l3.length ≤ 1048576)
    (hwf : ∀ q : Nat, q < l3.length → (rd_T43 l3 (q : Int)).f0 = 1 → (Lit.int .i64 (rd_T39 l0 (q : Int)).f1).wf = true) :
    Calls Try.prog 50 #[.agg #[.slice A0 l0.length c0, .slice A1 n1 c1, .int .i64 a2, .slice A3 l3.length c3]] w fun e w' => ∃ (B : Nat) (D : DataW H), e = .returned (.map (some B)) ∧ w'.ownsMap Try.prog 2 (plainElem (H := H) Try.prog 2) B l3.length D ∧ Holds D l0 l3 l3.length ∧ Below w.heap.size w w' ∧ w.heap.size ≤ B := by
  have hu31 := Try.underlying31
  have hu27 := Try.underlying27
  have hu43 := Try.underlying43
  have hmm := @run_makeMap Try.prog
  have HB := Aside0.mk (Below.refl w.heap.size w)
  go_enter Try.func50, Try.ntmps50
  go_wp2_with (first | ((with_reducible refine gate_dst (N := 1) rfl ?_); refine box_event ?hg (N := 1) ?hd (cs := #[.slice A0 l0.length c0, .slice A1 n1 c1, .int .i64 a2, .slice A3 l3.length c3]) (t := 31) ?hr ?_; (case hd => rfl); (case hg => rfl); (case hr => first | (go_simp; done) | (go_simp; rfl)); intro gb hg w5 hbox hb; have n0_ := Aside0.mk (below_step HB.out hb); have BK := Aside0.mk hbox; have GE := Aside0.mk (Nat.le_of_eq hg.symm : w.heap.size ≤ gb); clear HB hb hg hbox; have HB := n0_; clear n0_; have hcm_3 : (w5.alloc (.map #[] 0)).cell? ⟨gb, 3, none⟩ = some (.slice A3 l3.length c3) := (blk_cell (blk_alloc BK.out _) 3).trans rfl))
  go_loopw [10] (fun v10 wr => ∃ (q : Nat) (D : DataW H), q ≤ l3.length ∧ v10 = .int .i64 q ∧ Aside0 (wr.ownsMap Try.prog 2 (plainElem (H := H) Try.prog 2) w5.heap.size q D) ∧ Aside0 (Holds D l0 l3 q) ∧ Aside0 (Below w.heap.size w wr) ∧ Aside0 (wr.heap[gb]? = some (.cells #[.slice A0 l0.length c0, .slice A1 n1 c1, .int .i64 a2, .slice A3 l3.length c3] 31 (0, 0))) ∧ Aside0 (w5.heap.size < wr.heap.size))
    (fun v10 _ => l3.length - (intOf v10).toNat)
  case atStart => exact ⟨0, .map [], Nat.zero_le _, rfl, ⟨World.ownsMap_made _ _ _ _⟩, ⟨holds_start l0 l3⟩, ⟨below_alloc HB.out _⟩, ⟨blk_alloc BK.out _⟩, ⟨by simp⟩⟩
  case round =>
    obtain ⟨q, D, hq, rfl, HM, HD, HBr, BKr, HS⟩ := hrel
    by_cases hlt : q < l3.length
    · have b0 : decide ((q : Int) < (l3.length : Int)) = true := decide_eq_true (by omega)
      have p0 : 0 ≤ (q : Int) := by omega
      have q0 : (q : Int) < (l3.length : Int) := by omega
      have q1 : (q : Int) < (l0.length : Int) := by omega
      obtain ⟨ad3, e3, hx0, hx1⟩ := at_T43 hr3 (q : Int) p0 q0
      cases e3
      obtain ⟨ad0, B0, d0, e0, hy0, hy1, hy2, hy3, _, _⟩ := at_T39 hr0 (q : Int) p0 q1
      cases e0
      simp only [Int.toNat_natCast] at hx0 hx1 hy0 hy1
      have hbx := World.block_lt_of_cell? w _ hx0
      have hby := World.block_lt_of_cell? w _ hy0
      rw [add_block] at hbx hby
      have hl5 : w.heap.size ≤ wr.heap.size := HBr.out.size
      replace hx0 := (HBr.out.cell (World.block_lt_of_cell? w _ hx0)).trans hx0
      replace hx1 := (HBr.out.cell (World.block_lt_of_cell? w _ hx1)).trans hx1
      replace hy1 := (HBr.out.cell (World.block_lt_of_cell? w _ hy1)).trans hy1
      clear hy0 hy2 hy3
      replace p0 := eq_true p0
      replace q0 := eq_true q0
      replace q1 := eq_true q1
      by_cases hf : (rd_T43 l3 (q : Int)).f0 = 1
      · have f0b : ((rd_T43 l3 (q : Int)).f0 == 1) = true := beq_iff_eq.mpr hf
        have HF := Aside0.mk hf
        have HWF := Aside0.mk (hwf q hlt hf)
        clear hf
        go_wp2_with (first | ((with_reducible refine gate_dst (N := 5) rfl ?_); refine box_event ?hg (N := 5) ?hd (cs := #[.int .i64 0, .int .i64 0]) (t := 43) ?hr ?_; (case hd => rfl); (case hg => rfl); (case hr => first | (go_simp; done) | (go_simp; rfl)); intro g5 hg w6 hbox hb; have hgr_ := grown_of_below hb none; have n0_ := Aside0.mk (below_step HBr.out hb); have BK5 := Aside0.mk hbox; have n1_ := Aside0.mk (blk_below BKr.out hb); have hm5_ : w5.heap.size ≠ g5 := (by rw [hg]; exact Nat.ne_of_lt HS.out); have n2_ := Aside0.mk (((HM.out.kept hgr_ (by simp)).setCell (a := ⟨g5, 0, none⟩) hm5_ (.int .i64 (rd_T43 l3 (q : Int)).f0)).setCell (a := ⟨g5, 1, none⟩) hm5_ (.int .i64 (rd_T43 l3 (q : Int)).f1)); have n4_ := Aside0.mk (Nat.lt_of_lt_of_le HS.out hb.size : w5.heap.size < w6.heap.size); have hnb : gb ≠ g5 := (by rw [hg]; exact Nat.ne_of_lt (blk_lt BKr.out)); have hnc := Ne.symm hnb; have hn3 : ad3.block ≠ g5 := (by rw [hg]; exact Nat.ne_of_lt (Nat.lt_of_lt_of_le hbx hl5)); have hn0 : ad0.block ≠ g5 := (by rw [hg]; exact Nat.ne_of_lt (Nat.lt_of_lt_of_le hby hl5)); have hn0a : (ad0.add (q * 4)).block ≠ g5 := (by rw [add_block]; exact hn0); have hn0b := Ne.symm hn0a; have hn0c := Ne.symm hn0; have HG5 := Aside0.mk (by rw [hg]; exact hl5 : w.heap.size ≤ g5); replace hx0 := (hb.cell (World.block_lt_of_cell? wr _ hx0)).trans hx0; replace hx1 := (hb.cell (World.block_lt_of_cell? wr _ hx1)).trans hx1; replace hy1 := (hb.cell (World.block_lt_of_cell? wr _ hy1)).trans hy1; clear HBr BKr HM hg hgr_; have HBr := n0_; have BKr := n1_; have HM := n2_; have HS6 := n4_; clear n0_ n1_ n2_ n4_; have hcz0 : w6.cell? ⟨g5, 0, none⟩ = some (.int .i64 0) := (blk_cell BK5.out 0).trans rfl; have hcz1 : w6.cell? ⟨g5, 1, none⟩ = some (.int .i64 0) := (blk_cell BK5.out 1).trans rfl; have hfz0 := blk_frozen BK5.out 0; have hfz1 := blk_frozen BK5.out 1; have hcg0 : w6.cell? ⟨gb, 0, none⟩ = some (.slice (some ad0) l0.length c0) := (blk_cell BKr.out 0).trans rfl) | (at_lookup; refine wpList_lookup_own_int _ rfl _ _ 78 rfl 2 2 .i64 lawI Try.underlying78 Try.underlying2 (zeroI _) w5.heap.size q D rfl HM.out _ _ rfl (keyOf_int_mk Try.underlying2 HWF.out) ?_; intro c hat hwc) | (at_mapUpdate; refine wpList_mapUpdate_own _ rfl _ _ _ 78 rfl 2 2 lawI Try.underlying78 _ w5.heap.size q D rfl HM.out (by unfold maxLen; omega) _ _ _ rfl rfl (keyOf_int_mk Try.underlying2 HWF.out) _ [] (plainElem_int Try.underlying2 (wrap64_wf _)) ?_; intro w7 hown7 hgrow7))
        have hb2 : Below w.heap.size w ((w6.setCell ⟨g5, 0, none⟩ (.int .i64 (rd_T43 l3 (q : Int)).f0)).setCell ⟨g5, 1, none⟩ (.int .i64 (rd_T43 l3 (q : Int)).f1)) := below_set (below_set HBr.out HG5.out) HG5.out
        have hk2 : ((w6.setCell ⟨g5, 0, none⟩ (.int .i64 (rd_T43 l3 (q : Int)).f0)).setCell ⟨g5, 1, none⟩ (.int .i64 (rd_T43 l3 (q : Int)).f1)).heap[gb]? = some (.cells #[.slice (some ad0) l0.length c0, .slice A1 n1 c1, .int .i64 a2, .slice (some ad3) l3.length c3] 31 (0, 0)) := blk_far (blk_far BKr.out hnb _) hnb _
        have hb7 := hb2.grown hgrow7 hb2.size (fun k_ e_ => by cases e_; exact HB.out.size)
        have hk7 := (hgrow7.block gb (blk_lt hk2) (by intro e_; exact absurd (Option.some.inj e_) (Nat.ne_of_lt (blk_lt BK.out)))).trans hk2
        have hs7 : w5.heap.size < w7.heap.size := Nat.lt_of_lt_of_le HS6.out (by simpa using hgrow7.size)
        go_roundw
        case rel => exact ⟨q + 1, _, by omega, by go_num, ⟨hown7⟩, ⟨holds_put HD.out HF.out trivial hat (by omega)⟩, ⟨hb7⟩, ⟨hk7⟩, ⟨hs7⟩⟩
        case measure => simp [intOf]; omega
      · have f0b : ((rd_T43 l3 (q : Int)).f0 == 1) = false := beq_eq_false_iff_ne.mpr hf
        have HF := Aside0.mk hf
        clear hf
        go_wp2_with (first | ((with_reducible refine gate_dst (N := 5) rfl ?_); refine box_event ?hg (N := 5) ?hd (cs := #[.int .i64 0, .int .i64 0]) (t := 43) ?hr ?_; (case hd => rfl); (case hg => rfl); (case hr => first | (go_simp; done) | (go_simp; rfl)); intro g5 hg w6 hbox hb; have hgr_ := grown_of_below hb none; have n0_ := Aside0.mk (below_step HBr.out hb); have BK5 := Aside0.mk hbox; have n1_ := Aside0.mk (blk_below BKr.out hb); have hm5_ : w5.heap.size ≠ g5 := (by rw [hg]; exact Nat.ne_of_lt HS.out); have n2_ := Aside0.mk (((HM.out.kept hgr_ (by simp)).setCell (a := ⟨g5, 0, none⟩) hm5_ (.int .i64 (rd_T43 l3 (q : Int)).f0)).setCell (a := ⟨g5, 1, none⟩) hm5_ (.int .i64 (rd_T43 l3 (q : Int)).f1)); have n4_ := Aside0.mk (Nat.lt_of_lt_of_le HS.out hb.size : w5.heap.size < w6.heap.size); have hnb : gb ≠ g5 := (by rw [hg]; exact Nat.ne_of_lt (blk_lt BKr.out)); have hnc := Ne.symm hnb; have hn3 : ad3.block ≠ g5 := (by rw [hg]; exact Nat.ne_of_lt (Nat.lt_of_lt_of_le hbx hl5)); have hn0 : ad0.block ≠ g5 := (by rw [hg]; exact Nat.ne_of_lt (Nat.lt_of_lt_of_le hby hl5)); have hn0a : (ad0.add (q * 4)).block ≠ g5 := (by rw [add_block]; exact hn0); have hn0b := Ne.symm hn0a; have hn0c := Ne.symm hn0; have HG5 := Aside0.mk (by rw [hg]; exact hl5 : w.heap.size ≤ g5); replace hx0 := (hb.cell (World.block_lt_of_cell? wr _ hx0)).trans hx0; replace hx1 := (hb.cell (World.block_lt_of_cell? wr _ hx1)).trans hx1; replace hy1 := (hb.cell (World.block_lt_of_cell? wr _ hy1)).trans hy1; clear HBr BKr HM hg hgr_; have HBr := n0_; have BKr := n1_; have HM := n2_; have HS6 := n4_; clear n0_ n1_ n2_ n4_; have hcz0 : w6.cell? ⟨g5, 0, none⟩ = some (.int .i64 0) := (blk_cell BK5.out 0).trans rfl; have hcz1 : w6.cell? ⟨g5, 1, none⟩ = some (.int .i64 0) := (blk_cell BK5.out 1).trans rfl; have hfz0 := blk_frozen BK5.out 0; have hfz1 := blk_frozen BK5.out 1; have hcg0 : w6.cell? ⟨gb, 0, none⟩ = some (.slice (some ad0) l0.length c0) := (blk_cell BKr.out 0).trans rfl))
        have hb2 : Below w.heap.size w ((w6.setCell ⟨g5, 0, none⟩ (.int .i64 (rd_T43 l3 (q : Int)).f0)).setCell ⟨g5, 1, none⟩ (.int .i64 (rd_T43 l3 (q : Int)).f1)) := below_set (below_set HBr.out HG5.out) HG5.out
        have hk2 : ((w6.setCell ⟨g5, 0, none⟩ (.int .i64 (rd_T43 l3 (q : Int)).f0)).setCell ⟨g5, 1, none⟩ (.int .i64 (rd_T43 l3 (q : Int)).f1)).heap[gb]? = some (.cells #[.slice (some ad0) l0.length c0, .slice A1 n1 c1, .int .i64 a2, .slice (some ad3) l3.length c3] 31 (0, 0)) := blk_far (blk_far BKr.out hnb _) hnb _
        have hs7 : w5.heap.size < ((w6.setCell ⟨g5, 0, none⟩ (.int .i64 (rd_T43 l3 (q : Int)).f0)).setCell ⟨g5, 1, none⟩ (.int .i64 (rd_T43 l3 (q : Int)).f1)).heap.size := by simpa using HS6.out
        go_roundw
        case rel => exact ⟨q + 1, D, by omega, by go_num, ⟨HM.out.mono (Nat.le_succ _)⟩, ⟨holds_stay HD.out HF.out⟩, ⟨hb2⟩, ⟨hk2⟩, ⟨hs7⟩⟩
        case measure => simp [intOf]; omega
    · have b0 : decide ((q : Int) < (l3.length : Int)) = false := decide_eq_false (by omega)
      obtain rfl : q = l3.length := by omega
      go_wp2
      go_ret
      exact ⟨_, D, rfl, HM.out, HD.out, HBr.out, HB.out.size⟩
def impl_Run_running.f (_k : Nat) (l0 : List S39) (l1 : List Int) (_a2 : Int) (l3 : List S43) : Option Bool :=
  if (l3.length ≤ l0.length ∧ l3.length ≤ 1048576 ∧ l1.length ≤ 1048576) ∧ (∀ q ∈ List.range l3.length, (rd_T43 l3 (q : Int)).f0 = 1 → 1 ≤ (rd_T39 l0 (q : Int)).f1 ∧ (rd_T39 l0 (q : Int)).f1 ≤ (l1.length : Int)) then
    some (decide (∀ q ∈ List.range l3.length, (rd_T43 l3 (q : Int)).f0 = 1 → cntG l0 l3 (rd_T39 l0 (q : Int)).f1 l3.length ≤ rd l1 ((rd_T39 l0 (q : Int)).f1 - 1)))
  else none
theorem impl_Run_running.mono : ∀ a0 a1 a2 a3 k, LeO (impl_Run_running.f k a0 a1 a2 a3) (impl_Run_running.f (k + 1) a0 a1 a2 a3) := fun _ _ _ _ _ => LeO.refl _
theorem cntG_pos {l0 : List S39} {l3 : List S43} {g : Int} : ∀ n : Nat, 0 < cntG l0 l3 g n → ∃ q : Nat, q < n ∧ (rd_T43 l3 (q : Int)).f0 = 1 ∧ (rd_T39 l0 (q : Int)).f1 = g := by
  intro n
  induction n with
  | zero => intro h; simp [cntG] at h
  | succ n ih =>
    intro h
    simp only [cntG] at h
    by_cases c : (rd_T43 l3 (n : Int)).f0 = 1 ∧ (rd_T39 l0 (n : Int)).f1 = g
    · exact ⟨n, Nat.lt_succ_self n, c.1, c.2⟩
    · rw [if_neg c, Int.add_zero] at h
      obtain ⟨q, hq, h1, h2⟩ := ih h
      exact ⟨q, Nat.lt_succ_of_lt hq, h1, h2⟩
theorem cntG_mono (l0 : List S39) (l3 : List S43) (g : Int) (n d : Nat) : cntG l0 l3 g n ≤ cntG l0 l3 g (n + d) := by
  induction d with
  | zero => exact Int.le_refl _
  | succ d ih =>
    show cntG l0 l3 g n ≤ cntG l0 l3 g (n + d) + (if (rd_T43 l3 ((n + d : Nat) : Int)).f0 = 1 ∧ (rd_T39 l0 ((n + d : Nat) : Int)).f1 = g then 1 else 0)
    by_cases c : (rd_T43 l3 ((n + d : Nat) : Int)).f0 = 1 ∧ (rd_T39 l0 ((n + d : Nat) : Int)).f1 = g
    · rw [if_pos c]; omega
    · rw [if_neg c]; omega
theorem cntG_ge {l0 : List S39} {l3 : List S43} {g : Int} {q n : Nat} (hq : q < n) (hf : (rd_T43 l3 (q : Int)).f0 = 1) (hg : (rd_T39 l0 (q : Int)).f1 = g) : 1 ≤ cntG l0 l3 g n := by
  obtain ⟨d, rfl⟩ : ∃ d, n = q + 1 + d := ⟨n - (q + 1), by omega⟩
  refine Int.le_trans ?_ (cntG_mono l0 l3 g (q + 1) d)
  simp only [cntG]
  rw [if_pos ⟨hf, hg⟩]
  have := (cntG_bd l0 l3 g q).1
  omega
theorem runningf_some {k : Nat} {l0 : List S39} {l1 : List Int} {a : Int} {l3 : List S43} {t : Bool} (h : impl_Run_running.f k l0 l1 a l3 = some t) :
    (l3.length ≤ l0.length ∧ l3.length ≤ 1048576 ∧ l1.length ≤ 1048576) ∧ (∀ q : Nat, q < l3.length → (rd_T43 l3 (q : Int)).f0 = 1 → (1 ≤ (rd_T39 l0 (q : Int)).f1 ∧ (rd_T39 l0 (q : Int)).f1 ≤ (l1.length : Int)) ∧ (Lit.int .i64 (rd_T39 l0 (q : Int)).f1).wf = true) ∧
      (t = true ↔ ∀ q : Nat, q < l3.length → (rd_T43 l3 (q : Int)).f0 = 1 → cntG l0 l3 (rd_T39 l0 (q : Int)).f1 l3.length ≤ rd l1 ((rd_T39 l0 (q : Int)).f1 - 1)) := by
  unfold impl_Run_running.f at h
  by_cases c : (l3.length ≤ l0.length ∧ l3.length ≤ 1048576 ∧ l1.length ≤ 1048576) ∧ (∀ q ∈ List.range l3.length, (rd_T43 l3 (q : Int)).f0 = 1 → 1 ≤ (rd_T39 l0 (q : Int)).f1 ∧ (rd_T39 l0 (q : Int)).f1 ≤ (l1.length : Int))
  · rw [if_pos c] at h
    have h := Option.some.inj h
    refine ⟨c.1, fun q hq hf => ?_, ?_⟩
    · have := c.2 q (List.mem_range.mpr hq) hf
      exact ⟨this, WalkArith.wf_i64 (by have := c.1.2.2; omega)⟩
    · rw [← h]
      constructor
      · intro hd q hq hf
        exact of_decide_eq_true hd q (List.mem_range.mpr hq) hf
      · intro hd
        exact decide_eq_true (fun q hq hf => hd q (List.mem_range.mp hq) hf)
  · rw [if_neg c] at h; cases h
def Seen {H : Type} (D : DataW H) (l0 : List S39) (l1 : List Int) (l3 : List S43) (left : Lit → Bool) : Prop :=
  ∀ g : Int, Maps.has D (.int .i64 g) = true → left (.int .i64 g) = false → cntG l0 l3 g l3.length ≤ rd l1 (g - 1)
theorem seen_start {H : Type} (D : DataW H) (l0 : List S39) (l1 : List Int) (l3 : List S43) : Seen D l0 l1 l3 (Maps.has D) := fun g h h' => absurd h (by rw [h']; decide)
theorem entry_is {H : Type} {D : DataW H} {l0 : List S39} {l3 : List S43} (hD : Holds D l0 l3 l3.length) {x c : Int} (hat : ∀ zd, D.atKey (.int .i64 x) zd = .lit (.int .i64 c)) : c = cntG l0 l3 x l3.length ∧ ∃ q : Nat, q < l3.length ∧ (rd_T43 l3 (q : Int)).f0 = 1 ∧ (rd_T39 l0 (q : Int)).f1 = x := by
  have h0 := (hD.2 x).1
  rw [hat] at h0
  have e : c = cntG l0 l3 x l3.length := by
    injection h0 with h0
    injection h0
  exact ⟨e, cntG_pos _ ((hD.2 x).2 (has_true_of_atKey hat))⟩
theorem seen_step {H : Type} {D : DataW H} {l0 : List S39} {l1 : List Int} {l3 : List S43} {left : Lit → Bool} (h : Seen D l0 l1 l3 left) {x : Int} (hx : cntG l0 l3 x l3.length ≤ rd l1 (x - 1)) : Seen D l0 l1 l3 (fun z => left z && !z.sameKey (.int .i64 x)) := by
  intro g hg hl
  by_cases e : g = x
  · subst e; exact hx
  · refine h g hg ?_
    have hs : (Lit.int .i64 g).sameKey (.int .i64 x) = false := sameKey_ne (fun e2 => e (by injection e2))
    simpa [hs] using hl
theorem seen_end {H : Type} {D : DataW H} {l0 : List S39} {l1 : List Int} {l3 : List S43} {left : Lit → Bool} (hD : Holds D l0 l3 l3.length) (h : Seen D l0 l1 l3 left) (hl : ∀ kl, left kl = false) : ∀ q : Nat, q < l3.length → (rd_T43 l3 (q : Int)).f0 = 1 → cntG l0 l3 (rd_T39 l0 (q : Int)).f1 l3.length ≤ rd l1 ((rd_T39 l0 (q : Int)).f1 - 1) := by
  intro q hq hf
  refine h _ ?_ (hl _)
  cases hh : Maps.has D (.int .i64 (rd_T39 l0 (q : Int)).f1) with
  | true => rfl
  | false =>
    have e1 := (hD.2 (rd_T39 l0 (q : Int)).f1).1
    rw [atKey_of_not_has hh] at e1
    have e2 : (0 : Int) = cntG l0 l3 (rd_T39 l0 (q : Int)).f1 l3.length := by
      injection e1 with e1
      injection e1
    have := cntG_ge (l0 := l0) hq hf rfl
    omega
end Go.Proofs.Ytjoghfehmhapbaa.QFnSuiteOnce
