-- Written by a program of this session out of the printer's texts and contracts of its own.
import Derived.Test.YtjmpgngndnheaaaQFnRingKeptx0
import Derived.Test.YtjmpgngndnheaaaQFnRingKeptx1
import Derived.Test.YtjmpgngndnheaaaSq
import Derived.RegionTactic
import Derived.ChangeAlike
namespace Go.Proofs.Ytjmpgngndnheaaa.QFnRingKept
open Go.Proofs.Ytjmpgngndnheaaa.Sq Go.RowKit Go.Proofs.YtjmpgngndnheaaaW.PrintWords Go.Proofs.YtjmpgngndnheaaaW.PrintLast Go.Proofs.YtjmpgngndnheaaaW.PrintMore
attribute [local go_sem] max2_int min2_int max_two min_two max_three min_three max_four min_four   -- for this text's walks alone
set_option linter.unusedVariables false
set_option linter.unusedSimpArgs false
theorem sABelo_2 {b : Nat} {w W : World} (h : Below b w W := by repeat (first | (with_reducible first | exact Aside0.out (by assumption) | apply below_alloc | apply pw_below_drewN | apply below_drew1 | refine below_set ?_ (Aside0.out (by assumption))) | exact Aside0.out (by assumption))) : Below b w W := h

/-! ### impl_advect: function 30 -/
def impl_advect.l0 : Nat → List Int → Int → Int → List Int → List Int → List Int → List Int → Option (List Int × List Int)
 | 0, _, _, _, _, _, _, _ => none
 | k + 1, x1, x5, x7, x132000, x132001, x140000, x140001 => if x7 < x5 then (if 0 ≤ x7 then (if x7 < (x132000.length : Int) then (if x7 < (x132001.length : Int) then (if x7 < (x1.length : Int) then (if x5 = 0 then (none) else ((impl_advect_1.f (wrap64 (-(rd x1 x7))) (Int.tmod (wrap64 ((wrap64 (x7 + x5)) - 1)) x5) x132000 x132001 x7 (rd x132000 x7) (rd x132001 x7) x140000 x140001).bind fun bt143 => (if 0 ≤ (Int.tmod (wrap64 (x7 + 1)) x5) then (if (Int.tmod (wrap64 (x7 + 1)) x5) < (x1.length : Int) then ((impl_advect_1.f (rd x1 (Int.tmod (wrap64 (x7 + 1)) x5)) (Int.tmod (wrap64 (x7 + 1)) x5) x132000 x132001 x7 bt143.1 bt143.2.1 bt143.2.2.1 bt143.2.2.2).bind fun bt148 => (impl_advect.l0 k x1 x5 (wrap64 (x7 + 1)) x132000 x132001 bt148.2.2.1 bt148.2.2.2)) else (none)) else (none)))) else (none)) else (none)) else (none)) else (none)) else (some (x140000, x140001))
def impl_advect.f (k : Nat) (l0_0 : List Int) (l0_1 : List Int) (l1 : List Int) : Option (List Int × List Int) := (slices_Clone_int64_int64.f l0_0).bind fun t133 => ((slices_Clone_int64_int64.f l0_1).bind fun t136 => (impl_advect.l0 k l1 (l0_0.length : Int) 0 l0_0 l0_1 t133 t136))
theorem impl_advect.mono_l : ∀ k, (∀ y0 y1 y2 y3 y4 y5 y6, LeO (impl_advect.l0 k y0 y1 y2 y3 y4 y5 y6) (impl_advect.l0 (k + 1) y0 y1 y2 y3 y4 y5 y6))
 | 0 => fun _ _ _ _ _ _ _ r h => by simp [impl_advect.l0] at h
 | k + 1 => by
  have ih0 := impl_advect.mono_l k
  ·intro y0 y1 y2 y3 y4 y5 y6
   unfold impl_advect.l0
   repeat' first
   | (with_reducible exact ih0 _ _ _ _ _ _ _)
   | (with_reducible exact LeO.refl _)
   | (with_reducible exact LeO.none _)
   | (with_reducible refine LeO.ite ?_ ?_)
   | (with_reducible refine LeO.bind ?_ (fun _ => ?_))
   | exact ih0 _ _ _ _ _ _ _
   | exact LeO.none _
   | refine LeO.ite ?_ ?_
   | refine LeO.bind ?_ (fun _ => ?_)
theorem impl_advect.mono : ∀ a0 a1 a2 k, LeO (impl_advect.f k a0 a1 a2) (impl_advect.f (k + 1) a0 a1 a2) := by
 intro a0 a1 a2 k
 have ih0 := impl_advect.mono_l k
 unfold impl_advect.f
 repeat' first
   | (with_reducible exact ih0 _ _ _ _ _ _ _)
   | (with_reducible exact LeO.refl _)
   | (with_reducible exact LeO.none _)
   | (with_reducible refine LeO.ite ?_ ?_)
   | (with_reducible refine LeO.bind ?_ (fun _ => ?_))
   | exact ih0 _ _ _ _ _ _ _
   | exact LeO.none _
   | refine LeO.ite ?_ ?_
   | refine LeO.bind ?_ (fun _ => ?_)
def impl_advect.T2 : Bool × List (List Nat × List Nat) := (true, [([], []), ([0], [0]), ([1], [1]), ([], []), ([3], [3]), ([4, 2], [4]), ([2, 5], [2, 5]), ([], []), ([7, 6, 5, 0, 1, 2, 3, 4, 5, 6, 7], [6, 7])])
def impl_advect.B2 : List Nat := [0, 1, 3, 0, 8, 31, 63, 0, 255]
theorem impl_advect.tab2 : rtab .any (opsOf Try.f30 2) = impl_advect.T2 := by kernel_rfl
theorem impl_advect.bits2 : waitsOk impl_advect.T2.2 impl_advect.B2 = true := by kernel_rfl

/-- What impl.advect's loop keeps: the rows of out, the boxes of r, of the result, of out. -/
def AInv (w W : World) (gr gx go : Nat) (A0 : Option Addr) (c0 : Nat) (A1 : Option Addr) (c1 n0 n1 : Nat) (u0 u1 : Value) (o0 o1 : List Int) : Prop :=
 Kd.R (Kd.int .i64) 2 W w.heap.size (fun k_ => some k_ ≠ (u1 : Value).ownBlock) u0 o0 ∧ Kd.R (Kd.int .i64) 2 W w.heap.size (fun k_ => some k_ ≠ (u0 : Value).ownBlock) u1 o1 ∧
 W.heap[gr]? = some (.cells #[(.slice A0 n0 c0), (.slice A1 n1 c1)] 26 (0, 0)) ∧ W.heap[gx]? = some (.cells #[(.slice none 0 0), (.slice none 0 0)] 26 (0, 0)) ∧
 W.heap[go]? = some (.cells #[u0, u1] 26 (0, 0)) ∧ Below w.heap.size w W
section
variable {w W W1 : World} {gr gx go : Nat} {A0 : Option Addr} {c0 : Nat} {A1 : Option Addr} {c1 n0 n1 : Nat} {u0 u1 : Value} {o0 o1 : List Int}
theorem AInv.step (h : AInv w W gr gx go A0 c0 A1 c1 n0 n1 u0 u1 o0 o1) (hk : ∀ k, k < W.heap.size → (k = gr ∨ k = gx ∨ k = go ∨ u0.ownBlock = some k ∨ u1.ownBlock = some k) → W1.heap[k]? = W.heap[k]?) (hB : Below w.heap.size w W1) :
  AInv w W1 gr gx go A0 c0 A1 c1 n0 n1 u0 u1 o0 o1 := by
 obtain ⟨h0, h1, h2, h3, h4, h5⟩ := h
 exact ⟨Kd.R_reok rfl (Kd.R_step (Kd.R_tight rfl h0) (fun k hk0 hl => hk k hl (.inr (.inr (.inr (.inl hk0.symm)))))) (fun k e => h0.1 k e),
  Kd.R_reok rfl (Kd.R_step (Kd.R_tight rfl h1) (fun k hk0 hl => hk k hl (.inr (.inr (.inr (.inr hk0.symm)))))) (fun k e => h1.1 k e),
  (hk gr (blk_lt h2) (.inl rfl)).trans h2, (hk gx (blk_lt h3) (.inr (.inl rfl))).trans h3, (hk go (blk_lt h4) (.inr (.inr (.inl rfl)))).trans h4, hB⟩
theorem AInv.below (h : AInv w W gr gx go A0 c0 A1 c1 n0 n1 u0 u1 o0 o1) (hb : Below W.heap.size W W1) : AInv w W1 gr gx go A0 c0 A1 c1 n0 n1 u0 u1 o0 o1 :=
 h.step (fun k hk _ => hb.block k hk) (below_step h.2.2.2.2.2 hb)
theorem AInv.drew (h : AInv w W gr gx go A0 c0 A1 c1 n0 n1 u0 u1 o0 o1) : AInv w W.drew gr gx go A0 c0 A1 c1 n0 n1 u0 u1 o0 o1 := h.below (below_drew (Below.refl _ _))
/-- A store into a block that is none of these. -/
theorem AInv.set (h : AInv w W gr gx go A0 c0 A1 c1 n0 n1 u0 u1 o0 o1) {g : Nat} (hg : w.heap.size ≤ g) (hr : g ≠ gr) (hx : g ≠ gx) (ho : g ≠ go) (h0 : some g ≠ u0.ownBlock) (h1 : some g ≠ u1.ownBlock) (j : Nat) (v : Value) :
  AInv w (W.setCell ⟨g, j, none⟩ v) gr gx go A0 c0 A1 c1 n0 n1 u0 u1 o0 o1 :=
 h.step (fun k _ hk => Below.heap_setCell W ⟨g, j, none⟩ v k (by
  rintro rfl
  rcases hk with rfl | rfl | rfl | hk | hk
  ·exact hr rfl
  ·exact hx rfl
  ·exact ho rfl
  ·exact h0 hk.symm
  ·exact h1 hk.symm)) (below_set h.2.2.2.2.2 hg)
/-- A block that is told by its type, or that is new, is none of these. -/
theorem AInv.apart (h : AInv w W gr gx go A0 c0 A1 c1 n0 n1 u0 u1 o0 o1) {g t : Nat} {cs : Array Value} (hb : W.heap[g]? = some (.cells cs t (0, 0))) (h1 : t ≠ 26) (h2 : 2 ≠ t) : g ≠ gr ∧ g ≠ gx ∧ g ≠ go ∧ some g ≠ u0.ownBlock ∧ some g ≠ u1.ownBlock :=
 ⟨blk_ne hb h.2.2.1 h1, blk_ne hb h.2.2.2.1 h1, blk_ne hb h.2.2.2.2.1 h1, Kd.R_ne h.1 hb h2, Kd.R_ne h.2.1 hb h2⟩
theorem AInv.fresh (h : AInv w W gr gx go A0 c0 A1 c1 n0 n1 u0 u1 o0 o1) {g : Nat} (hg : W.heap.size ≤ g) : g ≠ gr ∧ g ≠ gx ∧ g ≠ go ∧ some g ≠ u0.ownBlock ∧ some g ≠ u1.ownBlock :=
 ⟨by have := blk_lt h.2.2.1; omega, by have := blk_lt h.2.2.2.1; omega, by have := blk_lt h.2.2.2.2.1; omega, fun e => by have := Kd.R_lt h.1 g e.symm; omega, fun e => by have := Kd.R_lt h.2.1 g e.symm; omega⟩
end

/-- A call of a closure, in a region whose order is open. -/
theorem goesC_ {P : Program} {ops : Array Oper} {Q : Exit → Act → World → Prop} {oi : Oper} {N : Option Tmp} {a : Act} {w : World} {K : Act → World → Prop} {f : FuncId} {fn : Func} {as_ : Array Operand} {ts : Array TypeId} (hf : P.funcs[f]? = some fn) (hname : (fn.name == "runtime.NumGoroutine") = false) (hb : fn.body.isSome = true) (t : Operand) (cap : Array Value) (ht : a.eval t = .func (.func f) #[] cap) (args : Array Value)
  (hw : Region.wanted oi (yielded ops a.tmps) = true) (hN : oi.dst = N) (hop : oi.op = .call { callee := .value t, args := as_, argTypes := ts }) (hargs : as_.map a.eval ++ cap = args)
  (h : Calls P f args w fun e w' => ∃ v, e = .returned v ∧ K (a.put N v) w') : if Region.wanted oi (yielded ops a.tmps) = true then Oper.wp P oi a w K Q else K (a.put N undef) w := by
 refine call_ f args hw hN ?_ h
 have he := enters_ hf hname hb args w
 unfold execOp
 simp [hop, resolve, Deferred.ofValue, ht, invoke, hargs, he]
section
variable {w W W1 : World} {gr gx go : Nat} {A0 : Option Addr} {c0 : Nat} {A1 : Option Addr} {c1 n0 n1 : Nat} {u0 u1 : Value} {o0 o1 p0 p1 : List Int}
/-- Behind the closure's call. -/
theorem AInv.called (h : AInv w W gr gx go A0 c0 A1 c1 n0 n1 u0 u1 o0 o1) {gm gt : Nat} {ok0 ok1 : Nat → Prop} (hk : Kept W W1 (fun k_ => (some k_ = u0.ownBlock ∨ some k_ = u1.ownBlock) ∨ (k_ = gm ∨ k_ = gt))) (hm : gm ≠ gr ∧ gm ≠ gx ∧ gm ≠ go ∧ some gm ≠ u0.ownBlock ∧ some gm ≠ u1.ownBlock) (ht : gt ≠ gr ∧ gt ≠ gx ∧ gt ≠ go ∧ some gt ≠ u0.ownBlock ∧ some gt ≠ u1.ownBlock)
  (h0 : Kd.R (Kd.int .i64) 2 W1 w.heap.size ok0 u0 p0) (h1 : Kd.R (Kd.int .i64) 2 W1 w.heap.size ok1 u1 p1) (hB : Below w.heap.size w W1) : AInv w W1 gr gx go A0 c0 A1 c1 n0 n1 u0 u1 p0 p1 := by
 have key : ∀ g, ∀ cs, W.heap[g]? = some (.cells cs 26 (0, 0)) → gm ≠ g → gt ≠ g → W1.heap[g]? = some (.cells cs 26 (0, 0)) := fun g cs hb e1 e2 =>
  (hk.2 g (blk_lt hb) (by
   rintro ((e | e) | (e | e))
   ·exact Kd.R_ne h.1 hb (by decide) e
   ·exact Kd.R_ne h.2.1 hb (by decide) e
   ·exact e1 e.symm
   ·exact e2 e.symm)).trans hb
 exact ⟨Kd.R_reok rfl h0 (fun k e => h.1.1 k e), Kd.R_reok rfl h1 (fun k e => h.2.1.1 k e), key _ _ h.2.2.1 hm.1 ht.1, key _ _ h.2.2.2.1 hm.2.1 ht.2.1, key _ _ h.2.2.2.2.1 hm.2.2.1 ht.2.2.1, hB⟩
theorem AInv.other (h : AInv w W gr gx go A0 c0 A1 c1 n0 n1 u0 u1 o0 o1) {gm gt g t : Nat} {cs : Array Value} (hk : Kept W W1 (fun k_ => (some k_ = u0.ownBlock ∨ some k_ = u1.ownBlock) ∨ (k_ = gm ∨ k_ = gt))) (hb : W.heap[g]? = some (.cells cs t (0, 0))) (h2 : 2 ≠ t) (h3 : g ≠ gm) (h4 : g ≠ gt) : W1.heap[g]? = some (.cells cs t (0, 0)) :=
 (hk.2 g (blk_lt hb) (by
   rintro ((e | e) | (e | e))
   ·exact Kd.R_ne h.1 hb h2 e
   ·exact Kd.R_ne h.2.1 hb h2 e
   ·exact h3 e
   ·exact h4 e)).trans hb
end
set_option maxHeartbeats 8000000 in
set_option maxRecDepth 100000 in
theorem impl_advect.calls (k : Nat) (A0_0 : Option Addr) (c0_0 : Nat) (l0_0 : List Int) (A0_1 : Option Addr) (c0_1 : Nat) (l0_1 : List Int) (A1 : Option Addr) (c1 : Nat) (l1 : List Int) (r1 : List Int) (r2 : List Int) (w : World) (hr0_0 : Kd.C (Kd.int .i64) w A0_0 l0_0.length l0_0) (hc0_0 : l0_0.length ≤ c0_0) (hr0_1 : Kd.C (Kd.int .i64) w A0_1 l0_1.length l0_1) (hc0_1 : l0_1.length ≤ c0_1) (hr1 : Kd.C (Kd.int .i64) w A1 l1.length l1) (hc1 : l1.length ≤ c1) (h : impl_advect.f k l0_0 l0_1 l1 = some (r1, r2)) :
  Calls Try.prog 30 #[.agg #[.slice A0_0 l0_0.length c0_0, .slice A0_1 l0_1.length c0_1], .slice A1 l1.length c1] w fun e w' => ∃ v0_ v1_ : Value, e = .returned (.agg #[v0_, v1_]) ∧ Kd.R (Kd.int .i64) 2 w' w.heap.size (fun k_ => some k_ ≠ (v1_ : Value).ownBlock) v0_ r1 ∧ Kd.R (Kd.int .i64) 2 w' w.heap.size (fun k_ => some k_ ≠ (v0_ : Value).ownBlock) v1_ r2 ∧ Below w.heap.size w w' := by
 have hu26 := Try.underlying26; have HR0_0 := Aside0.mk hr0_0; have HC0_0 := Aside0.mk hc0_0; clear hr0_0 hc0_0; have HR0_1 := Aside0.mk hr0_1; have HC0_1 := Aside0.mk hc0_1; clear hr0_1 hc0_1; have HR1 := Aside0.mk hr1; have HC1 := Aside0.mk hc1; clear hr1 hc1
 have HB := Aside0.mk (Below.refl w.heap.size w)
 have H : ((slices_Clone_int64_int64.f l0_0).bind fun t133 => ((slices_Clone_int64_int64.f l0_1).bind fun t136 => (impl_advect.l0 k l1 (l0_0.length : Int) 0 l0_0 l0_1 t133 t136))) = some (r1, r2) := h
 clear h; replace H := Option.bind_eq_some_iff.mp H
 obtain ⟨t133, A30, H⟩ := H
 replace H : ((slices_Clone_int64_int64.f l0_1).bind fun t136 => (impl_advect.l0 k l1 (l0_0.length : Int) 0 l0_0 l0_1 t133 t136)) = some (r1, r2) := H
 have A3 := Aside0.mk A30; clear A30; replace H := Option.bind_eq_some_iff.mp H
 obtain ⟨t136, A40, H⟩ := H
 replace H : (impl_advect.l0 k l1 (l0_0.length : Int) 0 l0_0 l0_1 t133 t136) = some (r1, r2) := H
 have A4 := Aside0.mk A40; clear A40; have H' := Aside0.mk H; clear H
 go_enter Try.func30, Try.ntmps30
 try go_wp2_with (first | ((with_reducible refine gate_dst (N := 2) rfl ?_); refine box_event ?hg (N := 2) ?hd (cs := #[.slice A0_0 l0_0.length c0_0, .slice A0_1 l0_1.length c0_1]) (t := 26) ?hr ?_; (case hd => rfl); (case hg => rfl); (case hr => first | (go_simp; done) | (go_simp; rfl)); intro gb131 hg w5 hbox hb; have BK131 := Aside0.mk (hbox); have GW131 := gE_ HB hg; have GE131 := gE_ HB hg; replace HB := bS_ HB hb; clear hb hbox hg) | ((with_reducible refine gate_dst (N := 4) rfl ?_); refine box_event ?hg (N := 4) ?hd (cs := #[.slice none 0 0, .slice none 0 0]) (t := 26) ?hr ?_; (case hd => rfl); (case hg => rfl); (case hr => first | (go_simp; done) | (go_simp; rfl)); intro gb132 hg w6 hbox hb; have BK132 := Aside0.mk (hbox); have GW132 := gE_ HB hg; have GE132 := gE_ HB hg; replace HB := bS_ HB hb; have NB131_132 := nL_ BK131 hg; have NB132_131 := nG_ BK131 hg; replace BK131 := bB_ BK131 hb; clear hb hbox hg; have hnb7 := NB131_132.out; have hnc7 := NB132_131.out; have hcz8_0 : w6.cell? ⟨gb131, 0, none⟩ = some (.slice A0_0 l0_0.length c0_0) := (blk_cell BK131.out 0).trans rfl; have hcz8_1 : w6.cell? ⟨gb131, 1, none⟩ = some (.slice A0_1 l0_1.length c0_1) := (blk_cell BK131.out 1).trans rfl; have hfz8_0 := blk_frozen BK131.out 0; have hfz8_1 := blk_frozen BK131.out 1))
 replace BK131 := Aside0.mk (blk_drew BK131.out)
 replace BK132 := Aside0.mk (blk_drew BK132.out)
 replace HB := Aside0.mk (below_drew1 HB.out)
 refine start_ (n := 9) (S := fun w' => w'.cell? ⟨gb131, 0, none⟩ = some (.slice A0_0 l0_0.length c0_0) ∧ w'.cell? ⟨gb131, 1, none⟩ = some (.slice A0_1 l0_1.length c0_1)) (ds := []) #[false, false, false, false, false, false, false, false, false] (by kernel_rfl) rfl rfl ⟨(blk_cell BK131.out 0).trans rfl, (blk_cell BK131.out 1).trans rfl⟩ (fun hHeld => ?_); refine with_tabW impl_advect.tab2 impl_advect.bits2 (fun HT_ HW_ => ?_)
 generalize w6.drew = w9 at BK131 BK132 HB hHeld ⊢
 refine pT_ 0 (some 14) #[true, false, false, false, false, false, false, false, false] HT_ ?_
 refine pT_ 3 (some 17) #[true, false, false, true, false, false, false, false, false] HT_ ?_
 refine tT_ 1 (some 15) #[true, true, false, true, false, false, false, false, false] HT_ HW_ hHeld ?_ (hy := by rintro w' ⟨s0, s1⟩; go_simp; with_reducible rfl)
 refine tT_ 4 (some 18) #[true, true, false, true, true, false, false, false, false] HT_ HW_ hHeld ?_ (hy := by rintro w' ⟨s0, s1⟩; go_simp; with_reducible rfl)
 refine join_ (σ := Value × Value × Nat) 1 #[true, true, true, true, true, true, true, true, false] (fun s_ => [(16, s_.1), (19, s_.2.1), (6, .pointer (some ⟨s_.2.2, 0, none⟩)), (20, .agg #[s_.1, s_.2.1])]) (fun s_ w' => (w'.cell? ⟨gb131, 0, none⟩ = some (.slice A0_0 l0_0.length c0_0) ∧ w'.cell? ⟨gb131, 1, none⟩ = some (.slice A0_1 l0_1.length c0_1)) ∧ (Kd.R (Kd.int .i64) 2 w' w.heap.size (fun k_ => some k_ ≠ (s_.2.1 : Value).ownBlock) s_.1 t133) ∧ (Kd.R (Kd.int .i64) 2 w' w.heap.size (fun k_ => some k_ ≠ (s_.1 : Value).ownBlock) s_.2.1 t136) ∧ (w'.heap[gb131]? = some (.cells #[.slice A0_0 l0_0.length c0_0, .slice A0_1 l0_1.length c0_1] 26 (0, 0))) ∧ (w'.heap[gb132]? = some (.cells #[.slice none 0 0, .slice none 0 0] 26 (0, 0))) ∧ (w'.heap[s_.2.2]? = some (.cells #[.slice none 0 0, .slice none 0 0] 26 (0, 0))) ∧ (w.heap.size ≤ s_.2.2) ∧ (w.heap.size ≤ s_.2.2) ∧ (gb131 ≠ s_.2.2) ∧ (s_.2.2 ≠ gb131) ∧ (gb132 ≠ s_.2.2) ∧ (s_.2.2 ≠ gb132) ∧ (Below w.heap.size w w')) ?_ ?_
 rotate_left
 ·intro hCont
  refine two_ (i := 2) (j := 7) (Ni := some 16) (Nj := some 6) #[true, true, true, true, true, false, false, false, false] #[true, true, false, true, true, false, false, true, false] rfl rfl rfl rfl (two_of HT_.out (by kernel_rfl)) (by decide) (by decide) (fun K hK => ?_) (fun K hK => ?_)
  ·skip
   refine goes_ Try.func32 (by kernel_rfl) rfl #[.slice A0_0 l0_0.length c0_0] (by rfl) rfl rfl (by (try simp only [List.map_toArray, List.map_cons, List.map_nil]); first | done | rfl | (simp only [List.length_drop, List.length_take]; rfl)) ?_
   with_reducible refine (slices_Clone_int64_int64.calls _ _ l0_0 t133 _ ?side1 ?side2 A3.out).mono ?_
   (case side1 => exact cB_ HR0_0 HB)
   (case side2 => exact HC0_0.out)
   rintro e w10 ⟨v134, rfl, ho0, hb⟩
   refine ⟨_, rfl, ?_⟩
   have HO135 := rL_ ho0 HB; replace BK131 := bB_ BK131 hb; replace BK132 := bB_ BK132 hb; replace HB := bS_ HB hb; (try clear hb); (try clear hb2); (try clear hk); (try clear hi); (try clear ho0)
   refine hK.out _ _ ⟨(blk_cell BK131.out 0).trans rfl, (blk_cell BK131.out 1).trans rfl⟩ (fun hHeld => ?_)
   clear hK K
   refine nS_ (some 16) ?_
   refine two_ (i := 5) (j := 7) (Ni := some 19) (Nj := some 6) #[true, true, true, true, true, true, false, false, false] #[true, true, true, true, true, false, false, true, false] rfl rfl rfl rfl (two_of HT_.out (by kernel_rfl)) (by decide) (by decide) (fun K hK => ?_) (fun K hK => ?_)
   ·skip
    refine goes_ Try.func32 (by kernel_rfl) rfl #[.slice A0_1 l0_1.length c0_1] (by rfl) rfl rfl (by (try simp only [List.map_toArray, List.map_cons, List.map_nil]); first | done | rfl | (simp only [List.length_drop, List.length_take]; rfl)) ?_
    with_reducible refine (slices_Clone_int64_int64.calls _ _ l0_1 t136 _ ?side1 ?side2 A4.out).mono ?_
    (case side1 => exact cB_ HR0_1 HB)
    (case side2 => exact HC0_1.out)
    rintro e w11 ⟨v137, rfl, ho0, hb⟩
    refine ⟨_, rfl, ?_⟩
    have HO138 := rL_ (rN_ ho0 HO135) HB
    replace HO135 := rE_ HO135 ho0 hb; replace BK131 := bB_ BK131 hb; replace BK132 := bB_ BK132 hb; replace HB := bS_ HB hb; (try clear hb); (try clear hb2); (try clear hk); (try clear hi); (try clear ho0)
    obtain ⟨Ao12, co12, eo12⟩ := Kd.R_slice HO138.out
    (first | subst eo12 | (injection eo12 with f1_ f2_ f3_; have f4_ := f1_.symm; have f5_ := f3_.symm; clear f1_ f2_ f3_; subst f4_; subst f5_))
    obtain ⟨Ao13, co13, eo13⟩ := Kd.R_slice HO135.out
    (first | subst eo13 | (injection eo13 with f1_ f2_ f3_; have f4_ := f1_.symm; have f5_ := f3_.symm; clear f1_ f2_ f3_; subst f4_; subst f5_))
    refine hK.out _ _ ⟨(blk_cell BK131.out 0).trans rfl, (blk_cell BK131.out 1).trans rfl⟩ (fun hHeld => ?_)
    clear hK K
    refine nS_ (some 19) ?_
    refine pT_ 6 (some 20) #[true, true, true, true, true, true, true, false, false] HT_ ?_
    refine one_ (i := 7) (N := some 6) #[true, true, true, true, true, true, true, true, false] rfl rfl (one_of HT_.out (by kernel_rfl)) (by decide) (fun K hK => ?_)
    refine box_step ?hg (N := 6) ?hd (cs := #[.slice none 0 0, .slice none 0 0]) (t := 26) ?hr ?_; (case hd => rfl); (case hg => rfl); (case hr => first | (go_simp; done) | (go_simp; rfl))
    intro gb139 hg w14 hbox hb
    replace HO135 := rB_ HO135 hb; replace HO138 := rB_ HO138 hb
    have BK139 := Aside0.mk (hbox)
    have GW139 := gE_ HB hg; have GE139 := gE_ HB hg; replace HB := bS_ HB hb; have NB131_139 := nL_ BK131 hg; have NB139_131 := nG_ BK131 hg; replace BK131 := bB_ BK131 hb; have NB132_139 := nL_ BK132 hg; have NB139_132 := nG_ BK132 hg; replace BK132 := bB_ BK132 hb; clear hb hbox hg
    refine hK.out _ _ ⟨(blk_cell BK131.out 0).trans rfl, (blk_cell BK131.out 1).trans rfl⟩ (fun hHeld => ?_)
    clear hK K
    refine nS_ (some 6) ?_
    exact norm_ (by simp only [putAll, Act.put, List.setIfInBounds_toArray, List.set_cons_zero, List.set_cons_succ]) (hCont (.slice Ao13 t133.length co13, .slice Ao12 t136.length co12, gb139) _ ⟨hHeld, (rM_ HO135), (rM_ HO138), (bT_ BK131), (bT_ BK132), (bT_ BK139), GW139.out, GE139.out, NB131_139.out, NB139_131.out, NB132_139.out, NB139_132.out, sABelo_2⟩)
   ·skip
    refine box_step ?hg (N := 6) ?hd (cs := #[.slice none 0 0, .slice none 0 0]) (t := 26) ?hr ?_; (case hd => rfl); (case hg => rfl); (case hr => first | (go_simp; done) | (go_simp; rfl))
    intro gb139 hg w11 hbox hb
    replace HO135 := rB_ HO135 hb
    have BK139 := Aside0.mk (hbox)
    have GW139 := gE_ HB hg; have GE139 := gE_ HB hg; replace HB := bS_ HB hb; have NB131_139 := nL_ BK131 hg; have NB139_131 := nG_ BK131 hg; replace BK131 := bB_ BK131 hb; have NB132_139 := nL_ BK132 hg; have NB139_132 := nG_ BK132 hg; replace BK132 := bB_ BK132 hb; clear hb hbox hg
    refine hK.out _ _ ⟨(blk_cell BK131.out 0).trans rfl, (blk_cell BK131.out 1).trans rfl⟩ (fun hHeld => ?_)
    clear hK K
    refine nS_ (some 6) ?_
    refine one_ (i := 5) (N := some 19) #[true, true, true, true, true, true, false, true, false] rfl rfl (one_of HT_.out (by kernel_rfl)) (by decide) (fun K hK => ?_)
    refine goes_ Try.func32 (by kernel_rfl) rfl #[.slice A0_1 l0_1.length c0_1] (by rfl) rfl rfl (by (try simp only [List.map_toArray, List.map_cons, List.map_nil]); first | done | rfl | (simp only [List.length_drop, List.length_take]; rfl)) ?_
    with_reducible refine (slices_Clone_int64_int64.calls _ _ l0_1 t136 _ ?side1 ?side2 A4.out).mono ?_
    (case side1 => exact cB_ HR0_1 HB)
    (case side2 => exact HC0_1.out)
    rintro e w12 ⟨v137, rfl, ho0, hb⟩
    refine ⟨_, rfl, ?_⟩
    have HO138 := rL_ (rN_ ho0 HO135) HB
    replace HO135 := rE_ HO135 ho0 hb; replace BK131 := bB_ BK131 hb; replace BK132 := bB_ BK132 hb; replace BK139 := bB_ BK139 hb; replace HB := bS_ HB hb; (try clear hb); (try clear hb2); (try clear hk); (try clear hi); (try clear ho0)
    obtain ⟨Ao13, co13, eo13⟩ := Kd.R_slice HO138.out
    (first | subst eo13 | (injection eo13 with f1_ f2_ f3_; have f4_ := f1_.symm; have f5_ := f3_.symm; clear f1_ f2_ f3_; subst f4_; subst f5_))
    obtain ⟨Ao14, co14, eo14⟩ := Kd.R_slice HO135.out
    (first | subst eo14 | (injection eo14 with f1_ f2_ f3_; have f4_ := f1_.symm; have f5_ := f3_.symm; clear f1_ f2_ f3_; subst f4_; subst f5_))
    refine hK.out _ _ ⟨(blk_cell BK131.out 0).trans rfl, (blk_cell BK131.out 1).trans rfl⟩ (fun hHeld => ?_)
    clear hK K
    refine nS_ (some 19) ?_
    refine pT_ 6 (some 20) #[true, true, true, true, true, true, true, true, false] HT_ ?_
    exact norm_ (by simp only [putAll, Act.put, List.setIfInBounds_toArray, List.set_cons_zero, List.set_cons_succ]) (hCont (.slice Ao14 t133.length co14, .slice Ao13 t136.length co13, gb139) _ ⟨hHeld, (rM_ HO135), (rM_ HO138), (bT_ BK131), (bT_ BK132), (bT_ BK139), GW139.out, GE139.out, NB131_139.out, NB139_131.out, NB132_139.out, NB139_132.out, sABelo_2⟩)
  ·skip
   refine box_step ?hg (N := 6) ?hd (cs := #[.slice none 0 0, .slice none 0 0]) (t := 26) ?hr ?_; (case hd => rfl); (case hg => rfl); (case hr => first | (go_simp; done) | (go_simp; rfl))
   intro gb139 hg w10 hbox hb
   have BK139 := Aside0.mk (hbox)
   have GW139 := gE_ HB hg; have GE139 := gE_ HB hg; replace HB := bS_ HB hb; have NB131_139 := nL_ BK131 hg; have NB139_131 := nG_ BK131 hg; replace BK131 := bB_ BK131 hb; have NB132_139 := nL_ BK132 hg; have NB139_132 := nG_ BK132 hg; replace BK132 := bB_ BK132 hb; clear hb hbox hg
   refine hK.out _ _ ⟨(blk_cell BK131.out 0).trans rfl, (blk_cell BK131.out 1).trans rfl⟩ (fun hHeld => ?_)
   clear hK K
   refine nS_ (some 6) ?_
   refine one_ (i := 2) (N := some 16) #[true, true, true, true, true, false, false, true, false] rfl rfl (one_of HT_.out (by kernel_rfl)) (by decide) (fun K hK => ?_)
   refine goes_ Try.func32 (by kernel_rfl) rfl #[.slice A0_0 l0_0.length c0_0] (by rfl) rfl rfl (by (try simp only [List.map_toArray, List.map_cons, List.map_nil]); first | done | rfl | (simp only [List.length_drop, List.length_take]; rfl)) ?_
   with_reducible refine (slices_Clone_int64_int64.calls _ _ l0_0 t133 _ ?side1 ?side2 A3.out).mono ?_
   (case side1 => exact cB_ HR0_0 HB)
   (case side2 => exact HC0_0.out)
   rintro e w11 ⟨v134, rfl, ho0, hb⟩
   refine ⟨_, rfl, ?_⟩
   have HO135 := rL_ ho0 HB; replace BK131 := bB_ BK131 hb; replace BK132 := bB_ BK132 hb; replace BK139 := bB_ BK139 hb; replace HB := bS_ HB hb; (try clear hb); (try clear hb2); (try clear hk); (try clear hi); (try clear ho0)
   refine hK.out _ _ ⟨(blk_cell BK131.out 0).trans rfl, (blk_cell BK131.out 1).trans rfl⟩ (fun hHeld => ?_)
   clear hK K
   refine nS_ (some 16) ?_
   refine one_ (i := 5) (N := some 19) #[true, true, true, true, true, true, false, true, false] rfl rfl (one_of HT_.out (by kernel_rfl)) (by decide) (fun K hK => ?_)
   refine goes_ Try.func32 (by kernel_rfl) rfl #[.slice A0_1 l0_1.length c0_1] (by rfl) rfl rfl (by (try simp only [List.map_toArray, List.map_cons, List.map_nil]); first | done | rfl | (simp only [List.length_drop, List.length_take]; rfl)) ?_
   with_reducible refine (slices_Clone_int64_int64.calls _ _ l0_1 t136 _ ?side1 ?side2 A4.out).mono ?_
   (case side1 => exact cB_ HR0_1 HB)
   (case side2 => exact HC0_1.out)
   rintro e w12 ⟨v137, rfl, ho0, hb⟩
   refine ⟨_, rfl, ?_⟩
   have HO138 := rL_ (rN_ ho0 HO135) HB
   replace HO135 := rE_ HO135 ho0 hb; replace BK131 := bB_ BK131 hb; replace BK132 := bB_ BK132 hb; replace BK139 := bB_ BK139 hb; replace HB := bS_ HB hb; (try clear hb); (try clear hb2); (try clear hk); (try clear hi); (try clear ho0)
   obtain ⟨Ao13, co13, eo13⟩ := Kd.R_slice HO138.out
   (first | subst eo13 | (injection eo13 with f1_ f2_ f3_; have f4_ := f1_.symm; have f5_ := f3_.symm; clear f1_ f2_ f3_; subst f4_; subst f5_))
   obtain ⟨Ao14, co14, eo14⟩ := Kd.R_slice HO135.out
   (first | subst eo14 | (injection eo14 with f1_ f2_ f3_; have f4_ := f1_.symm; have f5_ := f3_.symm; clear f1_ f2_ f3_; subst f4_; subst f5_))
   refine hK.out _ _ ⟨(blk_cell BK131.out 0).trans rfl, (blk_cell BK131.out 1).trans rfl⟩ (fun hHeld => ?_)
   clear hK K
   refine nS_ (some 19) ?_
   refine pT_ 6 (some 20) #[true, true, true, true, true, true, true, true, false] HT_ ?_
   exact norm_ (by simp only [putAll, Act.put, List.setIfInBounds_toArray, List.set_cons_zero, List.set_cons_succ]) (hCont (.slice Ao14 t133.length co14, .slice Ao13 t136.length co13, gb139) _ ⟨hHeld, (rM_ HO135), (rM_ HO138), (bT_ BK131), (bT_ BK132), (bT_ BK139), GW139.out, GE139.out, NB131_139.out, NB139_131.out, NB132_139.out, NB139_132.out, sABelo_2⟩)
 rintro ⟨v134, v137, gb139⟩ w15 ⟨hS_, h0_, h1_, h2_, h3_, h4_, h5_, h6_, h7_, h8_, h9_, h10_, h11_⟩
 try dsimp only at h0_ h1_ h2_ h3_ h4_ h5_ h6_ h7_ h8_ h9_ h10_ h11_
 have HO135 := Aside0.mk h0_; have HO138 := Aside0.mk h1_; replace BK131 := Aside0.mk h2_; replace BK132 := Aside0.mk h3_; have BK139 := Aside0.mk h4_; have GW139 := Aside0.mk h5_; have GE139 := Aside0.mk h6_; have NB131_139 := Aside0.mk h7_; have NB139_131 := Aside0.mk h8_; have NB132_139 := Aside0.mk h9_; have NB139_132 := Aside0.mk h10_; replace HB := Aside0.mk h11_; clear h0_ h1_ h2_ h3_ h4_ h5_ h6_ h7_ h8_ h9_ h10_ h11_
 have hHeld : w15.cell? ⟨gb131, 0, none⟩ = some (.slice A0_0 l0_0.length c0_0) ∧ w15.cell? ⟨gb131, 1, none⟩ = some (.slice A0_1 l0_1.length c0_1) := hS_
 obtain ⟨Ao16, co16, eo16⟩ := Kd.R_slice HO138.out
 (first | subst eo16 | (injection eo16 with f1_ f2_ f3_; have f4_ := f1_.symm; have f5_ := f3_.symm; clear f1_ f2_ f3_; subst f4_; subst f5_))
 obtain ⟨Ao17, co17, eo17⟩ := Kd.R_slice HO135.out
 (first | subst eo17 | (injection eo17 with f1_ f2_ f3_; have f4_ := f1_.symm; have f5_ := f3_.symm; clear f1_ f2_ f3_; subst f4_; subst f5_))
 refine norm_ (a' := ?_) ?_ ?_
 rotate_left
 ·simp only [putAll, Act.put, List.setIfInBounds_toArray, List.set_cons_zero, List.set_cons_succ]
  rfl
 refine one_ (i := 8) (N := none) #[true, true, true, true, true, true, true, true, true] rfl rfl (one_of HT_.out (by kernel_rfl)) (by decide) (fun K hK => ?_)
 have hs18 : w15.cell? ⟨gb139, 0, none⟩ = some (.slice none 0 0) := (blk_cell BK139.out 0).trans rfl
 have hfs18 := blk_frozen BK139.out 0; have hns18_0 := NB131_139.out; have hns18_1 := NB132_139.out; have hms18_0 := NB139_131.out; have hms18_1 := NB139_132.out
 have hs19 : w15.cell? ⟨gb139, 1, none⟩ = some (.slice none 0 0) := (blk_cell BK139.out 1).trans rfl
 have hfs19 := blk_frozen BK139.out 1; have hns19_0 := NB131_139.out; have hns19_1 := NB132_139.out; have hms19_0 := NB139_131.out; have hms19_1 := NB139_132.out
 refine skip_ (w1 := ?_) (by rfl) rfl ?_ ?_
 rotate_left
 ·go_simp
  rfl
 refine hK.out _ _ ⟨((cell_far (p := ⟨gb139, _, none⟩) NB131_139.out _).trans (((cell_far (p := ⟨gb139, _, none⟩) NB131_139.out _).trans (hHeld.1)))), ((cell_far (p := ⟨gb139, _, none⟩) NB131_139.out _).trans (((cell_far (p := ⟨gb139, _, none⟩) NB131_139.out _).trans (hHeld.2))))⟩ (fun hHeld => ?_)
 clear hK K
 refine done_ (done_of HT_.out (by kernel_rfl)) ?_
 have AI0 : Aside0 (AInv w (World.setCell (World.setCell w15 ⟨gb139, 0, none⟩ (.slice Ao17 t133.length co17)) ⟨gb139, 1, none⟩ (.slice Ao16 t136.length co16)) gb131 gb132 gb139 A0_0 c0_0 A0_1 c0_1 l0_0.length l0_1.length (.slice Ao17 t133.length co17) (.slice Ao16 t136.length co16) t133 t136) :=
  ⟨r_far2 rfl (r_far2 rfl HO135.out (Kd.R_ne HO135.out BK139.out (by decide)) _) (Kd.R_ne HO135.out BK139.out (by decide)) _, r_far2 rfl (r_far2 rfl HO138.out (Kd.R_ne HO138.out BK139.out (by decide)) _) (Kd.R_ne HO138.out BK139.out (by decide)) _,
   blk_far (blk_far BK131.out NB131_139.out _) NB131_139.out _, blk_far (blk_far BK132.out NB132_139.out _) NB132_139.out _, blk_put (cs := #[.slice Ao17 t133.length co17, .slice none 0 0]) (blk_put (cs := #[.slice none 0 0, .slice none 0 0]) BK139.out 0 _ rfl) 1 _ rfl, below_set (below_set HB.out GE139.out) GE139.out⟩
 generalize World.setCell (World.setCell w15 ⟨gb139, 0, none⟩ (.slice Ao17 t133.length co17)) ⟨gb139, 1, none⟩ (.slice Ao16 t136.length co16) = wS at AI0 ⊢
 clear hHeld HO135 HO138 BK131 BK132 BK139 HB
 go_wp2_with (first | ((with_reducible refine gate_dst (N := 7) rfl ?_); refine box_event ?hg (N := 7) ?hd (cs := #[.int .i64 0]) (t := 3) ?hr ?_; (case hd => rfl); (case hg => rfl); (case hr => first | (go_simp; done) | (go_simp; rfl)); intro gc hg wA hbox hb; have BKC := Aside0.mk hbox; have AI1 := Aside0.mk (AI0.out.below hb); have GC := Aside0.mk (show w.heap.size ≤ gc by (rw [hg]; exact below_size AI0.out.2.2.2.2.2)); clear hg hbox hb) | ((with_reducible refine gate_store (t := 3) (p := 7) rfl ?_); refine store_event (t := 3) (p := 7) (v := ?vo_wB) (w1 := (wA.setCell ⟨gc, 0, none⟩ (.int .i64 0))) ?hg ?ho ?hn ?hr ?_; (case ho => rfl); (case hg => rfl); (case hn => rfl); (case hr => have hqc := (blk_cell BKC.out 0).trans rfl; have hfc := blk_frozen BKC.out 0; first | (go_simp; done) | (go_simp; rfl)); intro wB hw; have AI2 := Aside0.mk (show AInv w wB gb131 gb132 gb139 A0_0 c0_0 A0_1 c0_1 l0_0.length l0_1.length (.slice Ao17 t133.length co17) (.slice Ao16 t136.length co16) t133 t136 by (rw [hw]; obtain ⟨q1, q2, q3, q4, q5⟩ := AI1.out.apart BKC.out (by decide) (by decide); exact AI1.out.set GC.out q1 q2 q3 q4 q5 _ _)); have BKC2 := Aside0.mk (show wB.heap[gc]? = some (.cells #[.int .i64 0] 3 (0, 0)) by (rw [hw]; exact blk_put (cs := #[.int .i64 0]) BKC.out 0 _ rfl)); clear hw))
 simp only [Act.put, List.setIfInBounds_toArray, List.set_cons_succ, List.set_cons_zero]
 go_loopg [7] k (fun kq v7 w' => ∃ (gc : Nat) (x : Int) (y0 y1 : List Int) (u0 u1 : Value), v7 = .pointer (some ⟨gc, 0, none⟩) ∧ Aside0 (impl_advect.l0 kq l1 (l0_0.length : Int) x l0_0 l0_1 y0 y1 = some (r1, r2)) ∧ Aside0 (kq ≤ k) ∧ Aside0 (AInv w w' gb131 gb132 gb139 A0_0 c0_0 A0_1 c0_1 l0_0.length l0_1.length u0 u1 y0 y1) ∧ Aside0 (w'.heap[gc]? = some (.cells #[.int .i64 x] 3 (0, 0))) ∧ Aside0 (w.heap.size ≤ gc))
 case atStart => exact ⟨gc, 0, t133, t136, _, _, rfl, H', ⟨Nat.le_refl _⟩, AI2, BKC2, GC⟩
 case round =>
  clear H' AI0 AI1 AI2 BKC BKC2 GC gc wA wB wS
  obtain ⟨gc, x, y0, y1, u0, u1, rfl, HA, HK1, AI, BKC, GC⟩ := hrel
  cases gk with
  | zero => exact absurd HA.out (by simp [impl_advect.l0])
  | succ k1 =>
   have H := HA.out; clear HA
   simp only [impl_advect.l0] at H
   have hqc : wr.cell? ⟨gc, 0, none⟩ = some (.int .i64 x) := (blk_cell BKC.out 0).trans rfl
   have hfc := blk_frozen BKC.out 0
   by_cases c20 : x < (l0_0.length : Int)
   rotate_left
   ·rw [if_neg c20] at H
    have c20b0 : decide (x < (l0_0.length : Int)) = false := decide_eq_false c20
    clear c20
    simp only [Option.some.injEq, Prod.mk.injEq] at H
    obtain ⟨rfl, rfl⟩ := H
    obtain ⟨Ao45, co45, eo45⟩ := Kd.R_slice AI.out.1
    subst eo45
    obtain ⟨Ao48, co48, eo48⟩ := Kd.R_slice AI.out.2.1
    subst eo48
    have hz0 : wr.cell? ⟨gb139, 0, none⟩ = some (.slice Ao45 y0.length co45) := (blk_cell AI.out.2.2.2.2.1 0).trans rfl
    have hz1 : wr.cell? ⟨gb139, 1, none⟩ = some (.slice Ao48 y1.length co48) := (blk_cell AI.out.2.2.2.2.1 1).trans rfl
    have hx0 : wr.cell? ⟨gb132, 0, none⟩ = some (.slice none 0 0) := (blk_cell AI.out.2.2.2.1 0).trans rfl
    have hx1 : wr.cell? ⟨gb132, 1, none⟩ = some (.slice none 0 0) := (blk_cell AI.out.2.2.2.1 1).trans rfl
    have hfx0 := blk_frozen AI.out.2.2.2.1 0; have hfx1 := blk_frozen AI.out.2.2.2.1 1; have hnb := NB132_139.out; have hnc := NB139_132.out
    go_wp2
    refine bodyPost_ret (results_cell_row rfl _ _ gb132 26 #[.slice Ao45 y0.length co45, .slice Ao48 y1.length co48] (0, 0) _ rfl (by (with_reducible repeat (first | refine blk_drewN ?_ _ | refine blk_drew ?_ | refine blk_alloc ?_ _)); refine blk_put (cs := #[.slice Ao45 y0.length co45, .slice none 0 0]) ?_ 1 _ rfl; (with_reducible repeat (first | refine blk_drewN ?_ _ | refine blk_drew ?_ | refine blk_alloc ?_ _)); refine blk_put (cs := #[.slice none 0 0, .slice none 0 0]) ?_ 0 _ rfl; (with_reducible repeat (first | refine blk_drewN ?_ _ | refine blk_drew ?_ | refine blk_alloc ?_ _)); exact AI.out.2.2.2.1) Try.underlying26 rfl (by kernel_rfl)) rfl ?_
    exact ⟨_, _, rfl, r_far2 rfl (r_far2 rfl AI.out.1 (Kd.R_ne AI.out.1 AI.out.2.2.2.1 (by decide)) _) (Kd.R_ne AI.out.1 AI.out.2.2.2.1 (by decide)) _, r_far2 rfl (r_far2 rfl AI.out.2.1 (Kd.R_ne AI.out.2.1 AI.out.2.2.2.1 (by decide)) _) (Kd.R_ne AI.out.2.1 AI.out.2.2.2.1 (by decide)) _, below_set (below_set AI.out.2.2.2.2.2 GE132.out) GE132.out⟩
   rw [if_pos c20] at H
   have c20b0 : decide (x < (l0_0.length : Int)) = true := decide_eq_true c20
   obtain ⟨c21, H⟩ := ifS_ H
   obtain ⟨c22, H⟩ := ifS_ H
   obtain ⟨c23, H⟩ := ifS_ H
   obtain ⟨c24, H⟩ := ifS_ H
   by_cases c25 : (l0_0.length : Int) = 0
   ·rw [if_pos c25] at H
    exact absurd H (by simp)
   rw [if_neg c25] at H
   have c25b0 : ((l0_0.length : Int) == 0) = false := beq_eq_false_iff_ne.mpr c25
   have c25b1 : ((l0_0.length : Int) != 0) = true := bne_iff_ne.mpr c25
   have c25b2 : ¬ (l0_0 = []) := fun h_ => c25 (by rw [h_]; rfl)
   replace H := Option.bind_eq_some_iff.mp H
   obtain ⟨⟨t235, t236, t237, t238⟩, A260, H⟩ := H
   have A26 := Aside0.mk A260; clear A260
   obtain ⟨ji27, hji27⟩ : ∃ j_ : Int, (Int.tmod (wrap64 (x + 1)) (l0_0.length : Int)) = j_ := ⟨_, rfl⟩
   rw [hji27] at H
   obtain ⟨c28, H⟩ := ifS_ H
   obtain ⟨c29, H⟩ := ifS_ H
   replace H := Option.bind_eq_some_iff.mp H
   obtain ⟨⟨t240, t241, t242, t243⟩, A300, H⟩ := H
   have A30 := Aside0.mk A300; clear A300; have H' := Aside0.mk H; clear H
   have c21b0 : decide (0 ≤ x) = true := decide_eq_true c21
   have c23b0 : decide (x < (l0_1.length : Int)) = true := decide_eq_true c23
   have c24b0 : decide (x < (l1.length : Int)) = true := decide_eq_true c24
   have c28b0 := decide_eq_true c28; have c29b0 := decide_eq_true c29
   have hq0 : wr.cell? ⟨gb131, 0, none⟩ = some (.slice A0_0 l0_0.length c0_0) := (blk_cell AI.out.2.2.1 0).trans rfl
   have hq1 : wr.cell? ⟨gb131, 1, none⟩ = some (.slice A0_1 l0_1.length c0_1) := (blk_cell AI.out.2.2.1 1).trans rfl
   obtain ⟨ad0, e0, hx0⟩ := Kd.at_int HR0_0.out x c21 c20
   cases e0
   replace hx0 := (AI.out.2.2.2.2.2.cell (World.block_lt_of_cell? w _ hx0)).trans hx0
   obtain ⟨ad1, e1, hx1⟩ := Kd.at_int HR0_1.out x c21 c23
   cases e1
   replace hx1 := (AI.out.2.2.2.2.2.cell (World.block_lt_of_cell? w _ hx1)).trans hx1
   obtain ⟨ad2, e2, hx2⟩ := Kd.at_int HR1.out x c21 c24
   cases e2
   have hw2 := hx2
   replace hx2 := (AI.out.2.2.2.2.2.cell (World.block_lt_of_cell? w _ hx2)).trans hx2
   obtain ⟨ad3, e3, hx3⟩ := Kd.at_int HR1.out ji27 c28 c29
   obtain rfl : ad2 = ad3 := by injection e3
   clear e3; have hw3 := hx3
   replace hx3 := (AI.out.2.2.2.2.2.cell (World.block_lt_of_cell? w _ hx3)).trans hx3
   replace c28 := eq_true c28; replace c29 := eq_true c29
   have hmf_ : ∀ (fn : Fn) (first cap : Array Value) (w : World), (Instr.makeFunc fn first cap).run Try.prog w = .ok (.func fn first cap) w := fun _ _ _ _ => rfl
   replace c20 := eq_true c20; replace c21 := eq_true c21; replace c23 := eq_true c23; replace c24 := eq_true c24; clear c22
   go_wp2
   refine start_ (n := 14) (S := fun w' => w'.cell? ⟨gb131, 0, none⟩ = some (.slice (some ad0) l0_0.length c0_0) ∧ w'.cell? ⟨gb131, 1, none⟩ = some (.slice (some ad1) l0_1.length c0_1) ∧ w'.cell? ⟨gc, 0, none⟩ = some (.int .i64 x) ∧ w'.cell? (ad0.add x.toNat) = some (.int .i64 (rd l0_0 x)) ∧ w'.cell? (ad1.add x.toNat) = some (.int .i64 (rd l0_1 x))) (ds := [13]) #[false, false, false, false, false, false, false, false, false, false, false, false, false, false] (by kernel_rfl) rfl rfl ⟨hq0, hq1, hqc, hx0, hx1⟩ (fun hHeld => ?_)
   refine pB_ 0 (some 26) #[true, false, false, false, false, false, false, false, false, false, false, false, false, false] ?_
   refine pB_ 5 (some 31) #[true, false, false, false, false, true, false, false, false, false, false, false, false, false] ?_
   refine tB_ 1 (some 27) #[true, true, false, false, false, true, false, false, false, false, false, false, false, false] hHeld ?_ (hy := by rintro w' ⟨s0, s1, s2, s3, s4⟩; go_simp; with_reducible rfl)
   refine tB_ 2 (some 28) #[true, true, true, false, false, true, false, false, false, false, false, false, false, false] hHeld ?_ (hy := by rintro w' ⟨s0, s1, s2, s3, s4⟩; go_simp; with_reducible rfl)
   refine pB_ 3 (some 29) #[true, true, true, true, false, true, false, false, false, false, false, false, false, false] ?_
   refine tB_ 4 (some 30) #[true, true, true, true, true, true, false, false, false, false, false, false, false, false] hHeld ?_ (hy := by rintro w' ⟨s0, s1, s2, s3, s4⟩; go_simp; with_reducible rfl)
   refine tB_ 6 (some 32) #[true, true, true, true, true, true, true, false, false, false, false, false, false, false] hHeld ?_ (hy := by rintro w' ⟨s0, s1, s2, s3, s4⟩; go_simp; with_reducible rfl)
   refine tB_ 7 (some 33) #[true, true, true, true, true, true, true, true, false, false, false, false, false, false] hHeld ?_ (hy := by rintro w' ⟨s0, s1, s2, s3, s4⟩; go_simp; with_reducible rfl)
   refine pB_ 8 (some 34) #[true, true, true, true, true, true, true, true, true, false, false, false, false, false] ?_
   refine tB_ 9 (some 35) #[true, true, true, true, true, true, true, true, true, true, false, false, false, false] hHeld ?_ (hy := by rintro w' ⟨s0, s1, s2, s3, s4⟩; go_simp; with_reducible rfl)
   refine join_ (σ := Nat × Nat) 2 #[true, true, true, true, true, true, true, true, true, true, true, true, false, false] (fun s_ => [(8, .pointer (some ⟨s_.1, 0, none⟩)), (9, .pointer (some ⟨s_.2, 0, none⟩))]) (fun s_ w_ => ((w_.cell? ⟨gb131, 0, none⟩ = some (.slice (some ad0) l0_0.length c0_0) ∧ w_.cell? ⟨gb131, 1, none⟩ = some (.slice (some ad1) l0_1.length c0_1) ∧ w_.cell? ⟨gc, 0, none⟩ = some (.int .i64 x) ∧ w_.cell? (ad0.add x.toNat) = some (.int .i64 (rd l0_0 x)) ∧ w_.cell? (ad1.add x.toNat) = some (.int .i64 (rd l0_1 x))) ∧ w_.heap[s_.1]? = some (.cells #[.int .i64 0] 2 (0, 0)) ∧ w_.heap[s_.2]? = some (.cells #[.int .i64 0] 2 (0, 0)) ∧ s_.1 ≠ s_.2 ∧ wr.heap.size ≤ s_.1 ∧ wr.heap.size ≤ s_.2 ∧ Below wr.heap.size wr w_)) ?_ ?_
   rotate_left
   ·intro hCont
    refine two_ (i := 10) (j := 11) (Ni := some 8) (Nj := some 9) #[true, true, true, true, true, true, true, true, true, true, true, false, false, false] #[true, true, true, true, true, true, true, true, true, true, false, true, false, false] rfl rfl rfl rfl (by kernel_rfl) (by decide) (by decide) (fun K hK => ?_) (fun K hK => ?_)
    ·skip
     refine box_step ?hg (N := 8) ?hd (cs := #[.int .i64 0]) (t := 2) ?hr ?_; (case hd => rfl); (case hg => rfl); (case hr => first | (go_simp; done) | (go_simp; rfl))
     intro gm hg wz hbox hb
     have BL1 := Aside0.mk (below_step (below_drew (Below.refl wr.heap.size wr)) hb)
     have BA := Aside0.mk hbox
     have GA := Aside0.mk (show wr.heap.size ≤ gm by (rw [hg]; exact Nat.le_refl _))
     clear hbox hg hHeld hb
     refine hK.out _ _ ⟨(BL1.out.cell (World.block_lt_of_cell? wr _ hq0)).trans hq0, (BL1.out.cell (World.block_lt_of_cell? wr _ hq1)).trans hq1, (BL1.out.cell (World.block_lt_of_cell? wr _ hqc)).trans hqc, (BL1.out.cell (World.block_lt_of_cell? wr _ hx0)).trans hx0, (BL1.out.cell (World.block_lt_of_cell? wr _ hx1)).trans hx1⟩ (fun hHeld => ?_)
     clear hK K
     refine nS_ (some 8) ?_
     refine one_ (i := 11) (N := some 9) #[true, true, true, true, true, true, true, true, true, true, true, true, false, false] rfl rfl (by kernel_rfl) (by decide) (fun K hK => ?_)
     refine box_step ?hg (N := 9) ?hd (cs := #[.int .i64 0]) (t := 2) ?hr ?_; (case hd => rfl); (case hg => rfl); (case hr => first | (go_simp; done) | (go_simp; rfl))
     intro gt hg wz hbox hb
     have BL2 := Aside0.mk (below_step BL1.out hb)
     have BA2 := Aside0.mk (blk_below BA.out hb)
     have BB := Aside0.mk hbox
     have GB := Aside0.mk (show wr.heap.size ≤ gt by (rw [hg]; exact BL1.out.size))
     have NE := Aside0.mk (show gm ≠ gt by (rw [hg]; exact Nat.ne_of_lt (blk_lt BA.out)))
     clear hbox hg hHeld hb
     refine hK.out _ _ ⟨(BL2.out.cell (World.block_lt_of_cell? wr _ hq0)).trans hq0, (BL2.out.cell (World.block_lt_of_cell? wr _ hq1)).trans hq1, (BL2.out.cell (World.block_lt_of_cell? wr _ hqc)).trans hqc, (BL2.out.cell (World.block_lt_of_cell? wr _ hx0)).trans hx0, (BL2.out.cell (World.block_lt_of_cell? wr _ hx1)).trans hx1⟩ (fun hHeld => ?_)
     clear hK K
     refine nS_ (some 9) ?_
     exact norm_ (by simp only [putAll, Act.put, List.setIfInBounds_toArray, List.set_cons_zero, List.set_cons_succ]) (hCont (gm, gt) _ ⟨hHeld, BA2.out, BB.out, NE.out, GA.out, GB.out, BL2.out⟩)
    ·skip
     refine box_step ?hg (N := 9) ?hd (cs := #[.int .i64 0]) (t := 2) ?hr ?_; (case hd => rfl); (case hg => rfl); (case hr => first | (go_simp; done) | (go_simp; rfl))
     intro gt hg wz hbox hb
     have BL1 := Aside0.mk (below_step (below_drew (Below.refl wr.heap.size wr)) hb)
     have BA := Aside0.mk hbox
     have GA := Aside0.mk (show wr.heap.size ≤ gt by (rw [hg]; exact Nat.le_refl _))
     clear hbox hg hHeld hb
     refine hK.out _ _ ⟨(BL1.out.cell (World.block_lt_of_cell? wr _ hq0)).trans hq0, (BL1.out.cell (World.block_lt_of_cell? wr _ hq1)).trans hq1, (BL1.out.cell (World.block_lt_of_cell? wr _ hqc)).trans hqc, (BL1.out.cell (World.block_lt_of_cell? wr _ hx0)).trans hx0, (BL1.out.cell (World.block_lt_of_cell? wr _ hx1)).trans hx1⟩ (fun hHeld => ?_)
     clear hK K
     refine nS_ (some 9) ?_
     refine one_ (i := 10) (N := some 8) #[true, true, true, true, true, true, true, true, true, true, true, true, false, false] rfl rfl (by kernel_rfl) (by decide) (fun K hK => ?_)
     refine box_step ?hg (N := 8) ?hd (cs := #[.int .i64 0]) (t := 2) ?hr ?_; (case hd => rfl); (case hg => rfl); (case hr => first | (go_simp; done) | (go_simp; rfl))
     intro gm hg wz hbox hb
     have BL2 := Aside0.mk (below_step BL1.out hb)
     have BA2 := Aside0.mk (blk_below BA.out hb)
     have BB := Aside0.mk hbox
     have GB := Aside0.mk (show wr.heap.size ≤ gm by (rw [hg]; exact BL1.out.size))
     have NE := Aside0.mk (show gt ≠ gm by (rw [hg]; exact Nat.ne_of_lt (blk_lt BA.out)))
     clear hbox hg hHeld hb
     refine hK.out _ _ ⟨(BL2.out.cell (World.block_lt_of_cell? wr _ hq0)).trans hq0, (BL2.out.cell (World.block_lt_of_cell? wr _ hq1)).trans hq1, (BL2.out.cell (World.block_lt_of_cell? wr _ hqc)).trans hqc, (BL2.out.cell (World.block_lt_of_cell? wr _ hx0)).trans hx0, (BL2.out.cell (World.block_lt_of_cell? wr _ hx1)).trans hx1⟩ (fun hHeld => ?_)
     clear hK K
     refine nS_ (some 8) ?_
     exact norm_ (by simp only [putAll, Act.put, List.setIfInBounds_toArray, List.set_cons_zero, List.set_cons_succ]) (hCont (gm, gt) _ ⟨hHeld, BB.out, BA2.out, Ne.symm NE.out, GB.out, GA.out, BL2.out⟩)
   rintro ⟨gm, gt⟩ wf ⟨hHeld, hbm, hbt, hmt, hgm, hgt, hbl⟩
   have hbm : wf.heap[gm]? = some (.cells #[.int .i64 0] 2 (0, 0)) := hbm
   have hbt : wf.heap[gt]? = some (.cells #[.int .i64 0] 2 (0, 0)) := hbt
   have hmt : gm ≠ gt := hmt
   have hgm : wr.heap.size ≤ gm := hgm
   have hgt : wr.heap.size ≤ gt := hgt
   have hbl : Below wr.heap.size wr wf := hbl
   have hHeld : wf.cell? ⟨gb131, 0, none⟩ = some (.slice (some ad0) l0_0.length c0_0) ∧ wf.cell? ⟨gb131, 1, none⟩ = some (.slice (some ad1) l0_1.length c0_1) ∧ wf.cell? ⟨gc, 0, none⟩ = some (.int .i64 x) ∧ wf.cell? (ad0.add x.toNat) = some (.int .i64 (rd l0_0 x)) ∧ wf.cell? (ad1.add x.toNat) = some (.int .i64 (rd l0_1 x)) := hHeld
   have BM := Aside0.mk hbm; have BT := Aside0.mk hbt; have NMT := Aside0.mk hmt; have GM := Aside0.mk hgm; have GT := Aside0.mk hgt; have BLF := Aside0.mk hbl; clear hbm hbt hmt hgm hgt hbl
   refine norm_ (a' := ?_) ?_ ?_
   rotate_left
   ·simp only [putAll, Act.put, List.setIfInBounds_toArray, List.set_cons_zero, List.set_cons_succ]
    rfl
   refine one_ (i := 12) (N := none) #[true, true, true, true, true, true, true, true, true, true, true, true, true, false] rfl rfl (by kernel_rfl) (by decide) (fun K hK => ?_)
   have hs_ := (blk_cell BM.out 0).trans rfl
   have hfs_ := blk_frozen BM.out 0
   refine skip_ (w1 := World.setCell wf ⟨gm, 0, none⟩ (.int .i64 (rd l0_0 x))) (by rfl) rfl ?_ ?_
   ·go_simp
   clear hs_ hfs_
   refine hK.out _ _ ⟨((cell_far (p := ⟨gm, 0, none⟩) (Nat.ne_of_lt (Nat.lt_of_lt_of_le (World.block_lt_of_cell? wr _ hq0) GM.out)) _).trans hHeld.1), ((cell_far (p := ⟨gm, 0, none⟩) (Nat.ne_of_lt (Nat.lt_of_lt_of_le (World.block_lt_of_cell? wr _ hq1) GM.out)) _).trans hHeld.2.1), ((cell_far (p := ⟨gm, 0, none⟩) (Nat.ne_of_lt (Nat.lt_of_lt_of_le (World.block_lt_of_cell? wr _ hqc) GM.out)) _).trans hHeld.2.2.1), ((cell_far (p := ⟨gm, 0, none⟩) (Nat.ne_of_lt (Nat.lt_of_lt_of_le (World.block_lt_of_cell? wr _ hx0) GM.out)) _).trans hHeld.2.2.2.1), ((cell_far (p := ⟨gm, 0, none⟩) (Nat.ne_of_lt (Nat.lt_of_lt_of_le (World.block_lt_of_cell? wr _ hx1) GM.out)) _).trans hHeld.2.2.2.2)⟩ (fun hHeld => ?_)
   clear hK K
   refine last_ (i := 13) (N := none) #[true, true, true, true, true, true, true, true, true, true, true, true, true, true] rfl rfl (by kernel_rfl) (by decide) (fun K hK => ?_)
   have hs_ : (World.setCell wf ⟨gm, 0, none⟩ (.int .i64 (rd l0_0 x))).cell? ⟨gt, 0, none⟩ = some (.int .i64 0) := (cell_far (p := ⟨gm, 0, none⟩) (Ne.symm NMT.out) _).trans ((blk_cell BT.out 0).trans rfl)
   have hfs_ := blk_frozen (blk_far (p := ⟨gm, 0, none⟩) BT.out (Ne.symm NMT.out) (.int .i64 (rd l0_0 x))) 0
   refine skip_ (w1 := World.setCell (World.setCell wf ⟨gm, 0, none⟩ (.int .i64 (rd l0_0 x))) ⟨gt, 0, none⟩ (.int .i64 (rd l0_1 x))) (by rfl) rfl ?_ ?_
   ·go_simp
   clear hs_ hfs_
   refine hK.out _ _ ?_
   clear hK K
   refine done_ (by kernel_rfl) ?_
   clear hHeld
   have AM : Aside0 (gm ≠ gb131 ∧ gm ≠ gb132 ∧ gm ≠ gb139 ∧ some gm ≠ u0.ownBlock ∧ some gm ≠ u1.ownBlock) := ⟨AI.out.fresh GM.out⟩
   have AT : Aside0 (gt ≠ gb131 ∧ gt ≠ gb132 ∧ gt ≠ gb139 ∧ some gt ≠ u0.ownBlock ∧ some gt ≠ u1.ownBlock) := ⟨AI.out.fresh GT.out⟩
   have GM2 : Aside0 (w.heap.size ≤ gm) := ⟨Nat.le_trans AI.out.2.2.2.2.2.size GM.out⟩
   have GT2 : Aside0 (w.heap.size ≤ gt) := ⟨Nat.le_trans AI.out.2.2.2.2.2.size GT.out⟩
   have AI_ : Aside0 (AInv w (World.setCell (World.setCell wf ⟨gm, 0, none⟩ (.int .i64 (rd l0_0 x))) ⟨gt, 0, none⟩ (.int .i64 (rd l0_1 x))) gb131 gb132 gb139 (some ad0) c0_0 (some ad1) c0_1 l0_0.length l0_1.length u0 u1 y0 y1) :=
    ⟨((AI.out.below BLF.out).set GM2.out AM.out.1 AM.out.2.1 AM.out.2.2.1 AM.out.2.2.2.1 AM.out.2.2.2.2 _ _).set GT2.out AT.out.1 AT.out.2.1 AT.out.2.2.1 AT.out.2.2.2.1 AT.out.2.2.2.2 _ _⟩
   have BKC_ : Aside0 ((World.setCell (World.setCell wf ⟨gm, 0, none⟩ (.int .i64 (rd l0_0 x))) ⟨gt, 0, none⟩ (.int .i64 (rd l0_1 x))).heap[gc]? = some (.cells #[.int .i64 x] 3 (0, 0))) :=
    ⟨blk_far (blk_far (blk_below BKC.out BLF.out) (blk_ne (blk_below BKC.out BLF.out) BM.out (by decide)) _) (blk_ne (blk_below BKC.out BLF.out) BT.out (by decide)) _⟩
   have BM_ : Aside0 ((World.setCell (World.setCell wf ⟨gm, 0, none⟩ (.int .i64 (rd l0_0 x))) ⟨gt, 0, none⟩ (.int .i64 (rd l0_1 x))).heap[gm]? = some (.cells #[.int .i64 (rd l0_0 x)] 2 (0, 0))) := ⟨blk_far (blk_put (cs := #[.int .i64 0]) BM.out 0 _ rfl) NMT.out _⟩
   have BT_ : Aside0 ((World.setCell (World.setCell wf ⟨gm, 0, none⟩ (.int .i64 (rd l0_0 x))) ⟨gt, 0, none⟩ (.int .i64 (rd l0_1 x))).heap[gt]? = some (.cells #[.int .i64 (rd l0_1 x)] 2 (0, 0))) := ⟨blk_put (cs := #[.int .i64 0]) (blk_far BT.out (Ne.symm NMT.out) _) 0 _ rfl⟩
   generalize World.setCell (World.setCell wf ⟨gm, 0, none⟩ (.int .i64 (rd l0_0 x))) ⟨gt, 0, none⟩ (.int .i64 (rd l0_1 x)) = w6 at AI_ BKC_ BM_ BT_ ⊢
   clear BM BT GM GT hq0 hq1 hqc hfc hx0 hx1 hx2 hx3
   have HX2 := fun (W_ : World) (hb_ : Below w.heap.size w W_) => (hb_.cell (World.block_lt_of_cell? w _ hw2)).trans hw2
   have HX3 := fun (W_ : World) (hb_ : Below w.heap.size w W_) => (hb_.cell (World.block_lt_of_cell? w _ hw3)).trans hw3
   have HX2 := Aside0.mk HX2; have HX3 := Aside0.mk HX3; clear hw2 hw3 AI BKC BLF
   have AI := AI_; have BKC := BKC_; have BM := BM_; have BT := BT_; have GM := GM2; have GT := GT2; clear AI_ BKC_ BM_ BT_ GM2 GT2
   go_wp2
   have AI_ := Aside0.mk AI.out.drew; have BKC_ := Aside0.mk (blk_drew BKC.out); have BM_ := Aside0.mk (blk_drew BM.out); have BT_ := Aside0.mk (blk_drew BT.out); clear AI BKC BM BT; have AI := AI_; have BKC := BKC_; have BM := BM_; have BT := BT_; clear AI_ BKC_ BM_ BT_
   refine start_ (n := 13) (S := fun w' => w'.cell? ⟨gc, 0, none⟩ = some (.int .i64 x) ∧ w'.cell? (ad2.add x.toNat) = some (.int .i64 (rd l1 x))) (ds := [12]) #[false, false, false, false, false, false, false, false, false, false, false, false, false] (by kernel_rfl) rfl rfl ⟨(blk_cell BKC.out 0).trans rfl, HX2.out _ AI.out.2.2.2.2.2⟩ (fun hHeld => ?_)
   generalize w6.drew = w7 at AI BKC BM BT hHeld ⊢
   refine pB_ 0 (some 37) #[true, false, false, false, false, false, false, false, false, false, false, false, false] ?_
   refine pB_ 1 (some 38) #[true, true, false, false, false, false, false, false, false, false, false, false, false] ?_
   refine pB_ 7 (some 44) #[true, true, false, false, false, false, false, true, false, false, false, false, false] ?_
   refine pB_ 10 (some 47) #[true, true, false, false, false, false, false, true, false, false, true, false, false] ?_
   refine tB_ 2 (some 39) #[true, true, true, false, false, false, false, true, false, false, true, false, false] hHeld ?_ (hy := by rintro w' ⟨s0, s1⟩; go_simp; with_reducible rfl)
   refine pB_ 3 (some 40) #[true, true, true, true, false, false, false, true, false, false, true, false, false] ?_
   refine tB_ 4 (some 41) #[true, true, true, true, true, false, false, true, false, false, true, false, false] hHeld ?_ (hy := by rintro w' ⟨s0, s1⟩; go_simp; with_reducible rfl)
   refine pB_ 5 (some 42) #[true, true, true, true, true, true, false, true, false, false, true, false, false] ?_
   refine tB_ 6 (some 43) #[true, true, true, true, true, true, true, true, false, false, true, false, false] hHeld ?_ (hy := by rintro w' ⟨s0, s1⟩; go_simp; with_reducible rfl)
   refine pB_ 8 (some 45) #[true, true, true, true, true, true, true, true, true, false, true, false, false] ?_
   refine pB_ 9 (some 46) #[true, true, true, true, true, true, true, true, true, true, true, false, false] ?_
   refine pB_ 11 (some 48) #[true, true, true, true, true, true, true, true, true, true, true, true, false] ?_
   refine last_ (i := 12) (N := some 49) #[true, true, true, true, true, true, true, true, true, true, true, true, true] rfl rfl (by kernel_rfl) (by decide) (fun K hK => ?_)
   obtain ⟨hc0, hc1, hc2, hc3, hc4, hc5⟩ := AI.out
   have hd0 := fun k_ (e_ : some k_ = u0.ownBlock) => hc0.1 k_ e_.symm; have hd1 := fun k_ (e_ : some k_ = u1.ownBlock) => hc1.1 k_ e_.symm
   refine goesC_ Try.func41 (by kernel_rfl) rfl (.tmp 37) #[.pointer (some ⟨gb131, 0, none⟩), .pointer (some ⟨gc, 0, none⟩), .pointer (some ⟨gm, 0, none⟩), .pointer (some ⟨gt, 0, none⟩), .pointer (some ⟨gb139, 0, none⟩)] (by rfl) #[.int .i64 (wrap64 (-(rd l1 x))), .int .i64 (Int.tmod (wrap64 ((wrap64 (x + (l0_0.length : Int))) - 1)) (l0_0.length : Int)), .pointer (some ⟨gb131, 0, none⟩), .pointer (some ⟨gc, 0, none⟩), .pointer (some ⟨gm, 0, none⟩), .pointer (some ⟨gt, 0, none⟩), .pointer (some ⟨gb139, 0, none⟩)] (by rfl) rfl rfl (by (try simp only [List.map_toArray, List.map_cons, List.map_nil]); rfl) ?_
   with_reducible refine (impl_advect_1.calls (wrap64 (-(rd l1 x))) (Int.tmod (wrap64 ((wrap64 (x + (l0_0.length : Int))) - 1)) (l0_0.length : Int)) _ _ l0_0 _ _ l0_1 x (rd l0_0 x) (rd l0_1 x) (fun k_ => some k_ = u0.ownBlock) u0 y0 (fun k_ => some k_ = u1.ownBlock) u1 y1 t235 t236 t237 t238 w _ gb131 gc gm gt gb139 hc5 (Kd.C_below HR0_0.out hc5) (Kd.R_tight rfl hc0) hd0 (Kd.R_tight rfl hc1) hd1 hc2 BKC.out BM.out BT.out hc4 NMT.out AM.out.2.2.2.1 AM.out.2.2.2.2 AT.out.2.2.2.1 AT.out.2.2.2.2 GM.out GT.out A26.out).mono ?_
   rintro e w8 ⟨rfl, hy0, hy1, hym, hyt, hb, hkp⟩
   refine ⟨_, rfl, ?_⟩
   clear hc0 hc1 hc2 hc3 hc4 hc5 hd0 hd1
   have AI_ := Aside0.mk (AI.out.called hkp AM.out AT.out hy0 hy1 hb)
   have BKC_ := Aside0.mk (AI.out.other hkp BKC.out (by decide) (blk_ne BKC.out BM.out (by decide)) (blk_ne BKC.out BT.out (by decide)))
   have BM_ := Aside0.mk hym; have BT_ := Aside0.mk hyt; clear hy0 hy1 hym hyt hb hkp AI BKC BM BT
   have AI := AI_; have BKC := BKC_; have BM := BM_; have BT := BT_; clear AI_ BKC_ BM_ BT_
   refine hK.out _ _ ?_
   clear hK K
   refine nS_ (some 49) ?_
   refine done_ (by kernel_rfl) ?_
   go_wp2
   have AI_ := Aside0.mk AI.out.drew; have BKC_ := Aside0.mk (blk_drew BKC.out); have BM_ := Aside0.mk (blk_drew BM.out); have BT_ := Aside0.mk (blk_drew BT.out); clear AI BKC BM BT; have AI := AI_; have BKC := BKC_; have BM := BM_; have BT := BT_; clear AI_ BKC_ BM_ BT_
   refine start_ (n := 13) (S := fun w' => w'.cell? ⟨gc, 0, none⟩ = some (.int .i64 x) ∧ w'.cell? (ad2.add ji27.toNat) = some (.int .i64 (rd l1 ji27))) (ds := [12]) #[false, false, false, false, false, false, false, false, false, false, false, false, false] (by kernel_rfl) rfl rfl ⟨(blk_cell BKC.out 0).trans rfl, HX3.out _ AI.out.2.2.2.2.2⟩ (fun hHeld => ?_)
   generalize w8.drew = w9 at AI BKC BM BT hHeld ⊢
   refine pB_ 0 (some 50) #[true, false, false, false, false, false, false, false, false, false, false, false, false] ?_
   refine pB_ 1 (some 51) #[true, true, false, false, false, false, false, false, false, false, false, false, false] ?_
   refine pB_ 4 (some 54) #[true, true, false, false, true, false, false, false, false, false, false, false, false] ?_
   refine pB_ 10 (some 60) #[true, true, false, false, true, false, false, false, false, false, true, false, false] ?_
   refine tB_ 2 (some 52) #[true, true, true, false, true, false, false, false, false, false, true, false, false] hHeld ?_ (hy := by rintro w' ⟨s0, s1⟩; go_simp; with_reducible rfl)
   refine pB_ 3 (some 53) #[true, true, true, true, true, false, false, false, false, false, true, false, false] ?_
   refine pB_ 5 (some 55) #[true, true, true, true, true, true, false, false, false, false, true, false, false] ?_
   refine pB_ 6 (some 56) #[true, true, true, true, true, true, true, false, false, false, true, false, false] ?_
   refine tB_ 7 (some 57) #[true, true, true, true, true, true, true, true, false, false, true, false, false] hHeld ?_ (hy := by rintro w' ⟨s0, s1⟩; go_simp; with_reducible rfl)
   refine tB_ 8 (some 58) #[true, true, true, true, true, true, true, true, true, false, true, false, false] hHeld ?_ (hy := by rintro w' ⟨s0, s1⟩; go_simp; with_reducible rfl)
   refine pB_ 9 (some 59) #[true, true, true, true, true, true, true, true, true, true, true, false, false] ?_
   refine pB_ 11 (some 61) #[true, true, true, true, true, true, true, true, true, true, true, true, false] ?_
   refine last_ (i := 12) (N := some 62) #[true, true, true, true, true, true, true, true, true, true, true, true, true] rfl rfl (by kernel_rfl) (by decide) (fun K hK => ?_)
   obtain ⟨hc0, hc1, hc2, hc3, hc4, hc5⟩ := AI.out
   have hd0 := fun k_ (e_ : some k_ = u0.ownBlock) => hc0.1 k_ e_.symm; have hd1 := fun k_ (e_ : some k_ = u1.ownBlock) => hc1.1 k_ e_.symm
   refine goesC_ Try.func41 (by kernel_rfl) rfl (.tmp 50) #[.pointer (some ⟨gb131, 0, none⟩), .pointer (some ⟨gc, 0, none⟩), .pointer (some ⟨gm, 0, none⟩), .pointer (some ⟨gt, 0, none⟩), .pointer (some ⟨gb139, 0, none⟩)] (by rfl) #[.int .i64 (rd l1 ji27), .int .i64 ji27, .pointer (some ⟨gb131, 0, none⟩), .pointer (some ⟨gc, 0, none⟩), .pointer (some ⟨gm, 0, none⟩), .pointer (some ⟨gt, 0, none⟩), .pointer (some ⟨gb139, 0, none⟩)] (by rfl) rfl rfl (by (try simp only [List.map_toArray, List.map_cons, List.map_nil]); rfl) ?_
   with_reducible refine (impl_advect_1.calls (rd l1 ji27) ji27 _ _ l0_0 _ _ l0_1 x t235 t236 (fun k_ => some k_ = u0.ownBlock) u0 t237 (fun k_ => some k_ = u1.ownBlock) u1 t238 t240 t241 t242 t243 w _ gb131 gc gm gt gb139 hc5 (Kd.C_below HR0_0.out hc5) (Kd.R_tight rfl hc0) hd0 (Kd.R_tight rfl hc1) hd1 hc2 BKC.out BM.out BT.out hc4 NMT.out AM.out.2.2.2.1 AM.out.2.2.2.2 AT.out.2.2.2.1 AT.out.2.2.2.2 GM.out GT.out A30.out).mono ?_
   rintro e w10 ⟨rfl, hy0, hy1, hym, hyt, hb, hkp⟩
   refine ⟨_, rfl, ?_⟩
   clear hc0 hc1 hc2 hc3 hc4 hc5 hd0 hd1
   have AI_ := Aside0.mk (AI.out.called hkp AM.out AT.out hy0 hy1 hb)
   have BKC_ := Aside0.mk (AI.out.other hkp BKC.out (by decide) (blk_ne BKC.out BM.out (by decide)) (blk_ne BKC.out BT.out (by decide)))
   have BM_ := Aside0.mk hym; have BT_ := Aside0.mk hyt; clear hy0 hy1 hym hyt hb hkp AI BKC BM BT
   have AI := AI_; have BKC := BKC_; have BM := BM_; have BT := BT_; clear AI_ BKC_ BM_ BT_
   refine hK.out _ _ ?_
   clear hK K
   refine nS_ (some 62) ?_
   refine done_ (by kernel_rfl) ?_
   clear hHeld
   have hqc : w10.cell? ⟨gc, 0, none⟩ = some (.int .i64 x) := (blk_cell BKC.out 0).trans rfl
   go_wp2_with (first | ((with_reducible refine gate_dst (N := 7) rfl ?_); refine box_event ?hg (N := 7) ?hd (cs := #[.int .i64 0]) (t := 3) ?hr ?_; (case hd => rfl); (case hg => rfl); (case hr => first | (go_simp; done) | (go_simp; rfl)); intro gn hg wA hbox hb; have BKN := Aside0.mk hbox; have AI1 := Aside0.mk (AI.out.below hb); have GN := Aside0.mk (show w.heap.size ≤ gn by (rw [hg]; exact below_size AI.out.2.2.2.2.2)); clear hg hbox hb hqc; have hqn : wA.cell? ⟨gn, 0, none⟩ = some (.int .i64 0) := (blk_cell BKN.out 0).trans rfl; have hfn := blk_frozen BKN.out 0))
   go_roundg k1
   case measure => have := HK1.out; omega
   case rel => exact ⟨gn, wrap64 (x + 1), t242, t243, u0, u1, rfl, H', ⟨by have := HK1.out; omega⟩, ⟨by obtain ⟨q1, q2, q3, q4, q5⟩ := AI1.out.apart BKN.out (by decide) (by decide); repeat (first | exact AI1.out | refine AInv.set ?_ GN.out q1 q2 q3 q4 q5 _ _)⟩, ⟨by first | exact blk_put (cs := #[.int .i64 x]) (blk_put (cs := #[.int .i64 0]) BKN.out 0 _ rfl) 0 _ rfl | exact blk_put (cs := #[.int .i64 0]) BKN.out 0 _ rfl⟩, GN⟩

/-! ### impl_Advect: function 10 -/
def impl_Advect.f (k : Nat) (l0_0 : List Int) (l0_1 : List Int) (l1 : List Int) (a2 : Int) : Option (List Int × List Int × Bool) := (impl_windsOk.f k l0_0 l0_1 l1).bind fun t154 => (if t154 = true then ((impl_in.f a2 1 8).bind fun t155 => (if t155 = true then ((impl_advect.f k l0_0 l0_1 l1).bind fun bt156 => (some (bt156.1, bt156.2, true))) else (some (([] : List Int), ([] : List Int), false)))) else (some (([] : List Int), ([] : List Int), false)))
theorem impl_Advect.mono : ∀ a0 a1 a2 a3 k, LeO (impl_Advect.f k a0 a1 a2 a3) (impl_Advect.f (k + 1) a0 a1 a2 a3) := by
 intro a0 a1 a2 a3 k
 unfold impl_Advect.f
 repeat' first
   | (with_reducible exact impl_advect.mono _ _ _ _)
   | (with_reducible exact impl_windsOk.mono _ _ _ _)
   | (with_reducible exact LeO.refl _)
   | (with_reducible exact LeO.none _)
   | (with_reducible refine LeO.ite ?_ ?_)
   | (with_reducible refine LeO.bind ?_ (fun _ => ?_))
   | exact impl_advect.mono _ _ _ _
   | exact impl_windsOk.mono _ _ _ _
   | exact LeO.none _
   | refine LeO.ite ?_ ?_
   | refine LeO.bind ?_ (fun _ => ?_)
set_option maxHeartbeats 8000000 in
set_option maxRecDepth 100000 in
theorem impl_Advect.calls (k : Nat) (A0_0 : Option Addr) (c0_0 : Nat) (l0_0 : List Int) (A0_1 : Option Addr) (c0_1 : Nat) (l0_1 : List Int) (A1 : Option Addr) (c1 : Nat) (l1 : List Int) (a2 : Int) (r1 : List Int) (r2 : List Int) (r3 : Bool) (w : World) (hr0_0 : Kd.C (Kd.int .i64) w A0_0 l0_0.length l0_0) (hc0_0 : l0_0.length ≤ c0_0) (hr0_1 : Kd.C (Kd.int .i64) w A0_1 l0_1.length l0_1) (hc0_1 : l0_1.length ≤ c0_1) (hr1 : Kd.C (Kd.int .i64) w A1 l1.length l1) (hc1 : l1.length ≤ c1) (h : impl_Advect.f k l0_0 l0_1 l1 a2 = some (r1, r2, r3)) :
  Calls Try.prog 10 #[.agg #[.slice A0_0 l0_0.length c0_0, .slice A0_1 l0_1.length c0_1], .slice A1 l1.length c1, .int .i64 a2] w fun e w' => ∃ v0_ v1_ : Value, e = .returned (.tuple #[.agg #[v0_, v1_], .bool r3]) ∧ Kd.R (Kd.int .i64) 2 w' w.heap.size (fun k_ => some k_ ≠ (v1_ : Value).ownBlock) v0_ r1 ∧ Kd.R (Kd.int .i64) 2 w' w.heap.size (fun k_ => some k_ ≠ (v0_ : Value).ownBlock) v1_ r2 ∧ Below w.heap.size w w' := by
 have hu26 := Try.underlying26; have HR0_0 := Aside0.mk hr0_0; have HC0_0 := Aside0.mk hc0_0; clear hr0_0 hc0_0; have HR0_1 := Aside0.mk hr0_1; have HC0_1 := Aside0.mk hc0_1; clear hr0_1 hc0_1; have HR1 := Aside0.mk hr1; have HC1 := Aside0.mk hc1; clear hr1 hc1
 have HB := Aside0.mk (Below.refl w.heap.size w)
 have H : ((impl_windsOk.f k l0_0 l0_1 l1).bind fun t154 => (if t154 = true then ((impl_in.f a2 1 8).bind fun t155 => (if t155 = true then ((impl_advect.f k l0_0 l0_1 l1).bind fun bt156 => (some (bt156.1, bt156.2, true))) else (some (([] : List Int), ([] : List Int), false)))) else (some (([] : List Int), ([] : List Int), false)))) = some (r1, r2, r3) := h
 clear h; replace H := Option.bind_eq_some_iff.mp H
 obtain ⟨t154, A40, H⟩ := H
 replace H : (if t154 = true then ((impl_in.f a2 1 8).bind fun t155 => (if t155 = true then ((impl_advect.f k l0_0 l0_1 l1).bind fun bt156 => (some (bt156.1, bt156.2, true))) else (some (([] : List Int), ([] : List Int), false)))) else (some (([] : List Int), ([] : List Int), false))) = some (r1, r2, r3) := H
 have A4 := Aside0.mk A40; clear A40
 by_cases c5 : t154 = true
 ·subst c5
  have H1 : ((impl_in.f a2 1 8).bind fun t155 => (if t155 = true then ((impl_advect.f k l0_0 l0_1 l1).bind fun bt156 => (some (bt156.1, bt156.2, true))) else (some (([] : List Int), ([] : List Int), false)))) = some (r1, r2, r3) := by rw [if_pos rfl] at H; exact H
  clear H; have H := H1; clear H1; replace H := Option.bind_eq_some_iff.mp H
  obtain ⟨t155, A60, H⟩ := H
  replace H : (if t155 = true then ((impl_advect.f k l0_0 l0_1 l1).bind fun bt156 => (some (bt156.1, bt156.2, true))) else (some (([] : List Int), ([] : List Int), false))) = some (r1, r2, r3) := H
  have A6 := Aside0.mk A60; clear A60
  by_cases c7 : t155 = true
  ·subst c7
   have H1 : ((impl_advect.f k l0_0 l0_1 l1).bind fun bt156 => (some (bt156.1, bt156.2, true))) = some (r1, r2, r3) := by rw [if_pos rfl] at H; exact H
   clear H; have H := H1; clear H1; replace H := Option.bind_eq_some_iff.mp H
   obtain ⟨⟨t156, t159⟩, A80, H⟩ := H
   replace H : (some (t156, t159, true)) = some (r1, r2, r3) := H
   have A8 := Aside0.mk A80; clear A80
   simp only [Option.some.injEq, Prod.mk.injEq] at H
   obtain ⟨rfl, rfl, rfl⟩ := H
   go_enter Try.func10, Try.ntmps10
   go_wp2_with (first | ((with_reducible refine gate_dst (N := 3) rfl ?_); refine box_event ?hg (N := 3) ?hd (cs := #[.slice A0_0 l0_0.length c0_0, .slice A0_1 l0_1.length c0_1]) (t := 26) ?hr ?_; (case hd => rfl); (case hg => rfl); (case hr => first | (go_simp; done) | (go_simp; rfl)); intro gb152 hg w9 hbox hb; have BK152 := Aside0.mk (hbox); have GW152 := gE_ HB hg; have GE152 := gE_ HB hg; replace HB := bS_ HB hb; clear hb hbox hg) | ((with_reducible refine gate_dst (N := 6) rfl ?_); refine box_event ?hg (N := 6) ?hd (cs := #[.slice none 0 0, .slice none 0 0]) (t := 26) ?hr ?_; (case hd => rfl); (case hg => rfl); (case hr => first | (go_simp; done) | (go_simp; rfl)); intro gb153 hg w10 hbox hb; have BK153 := Aside0.mk (hbox); have GW153 := gE_ HB hg; have GE153 := gE_ HB hg; replace HB := bS_ HB hb; have NB152_153 := nL_ BK152 hg; have NB153_152 := nG_ BK152 hg; replace BK152 := bB_ BK152 hb; clear hb hbox hg; have hnb11 := NB152_153.out; have hnc11 := NB153_152.out; have hcz12_0 : w10.cell? ⟨gb152, 0, none⟩ = some (.slice A0_0 l0_0.length c0_0) := (blk_cell BK152.out 0).trans rfl; have hcz12_1 : w10.cell? ⟨gb152, 1, none⟩ = some (.slice A0_1 l0_1.length c0_1) := (blk_cell BK152.out 1).trans rfl; have hfz12_0 := blk_frozen BK152.out 0; have hfz12_1 := blk_frozen BK152.out 1) | ((with_reducible refine gate_callee (f := 28) rfl ?_); refine gL_ (some 10) Try.func28 #[.agg #[.slice A0_0 l0_0.length c0_0, .slice A0_1 l0_1.length c0_1], .slice A1 l1.length c1] ?_; (with_reducible refine (impl_windsOk.calls k _ _ l0_0 _ _ l0_1 _ _ l1 true _ ?side1 ?side2 ?side3 ?side4 ?side5 ?side6 A4.out).mono ?_); (case side1 => exact cB_ HR0_0 HB); (case side2 => exact HC0_0.out); (case side3 => exact cB_ HR0_1 HB); (case side4 => exact HC0_1.out); (case side5 => exact cB_ HR1 HB); (case side6 => exact HC1.out); rintro e w13 ⟨rfl, hb⟩; refine ⟨_, rfl, ?_⟩; replace BK152 := bB_ BK152 hb; replace BK153 := bB_ BK153 hb; replace HB := bS_ HB hb; (try clear hb); (try clear hb2); (try clear hk); (try clear hi)) | (go_at_call 29; (with_reducible refine (impl_in.calls a2 1 8 true _ A6.out).mono ?_); rintro e w' ⟨rfl, ⟨nd, rfl⟩⟩; (try (rw [drewN_self w13]; generalize hq_ : World.drewN w13 _ = w13; have n0_ : Aside0 (w13.heap[gb152]? = some (.cells #[.slice A0_0 l0_0.length c0_0, .slice A0_1 l0_1.length c0_1] 26 (0, 0))) := ⟨by rw [← hq_]; exact (bT_ BK152)⟩; have n1_ : Aside0 (w13.heap[gb153]? = some (.cells #[.slice none 0 0, .slice none 0 0] 26 (0, 0))) := ⟨by rw [← hq_]; exact (bT_ BK153)⟩; have n2_ : Aside0 (Below w.heap.size w w13) := ⟨by rw [← hq_]; exact sABelo_2⟩; clear BK152 BK153 HB hq_; have BK152 := n0_; have BK153 := n1_; have HB := n2_; clear n0_ n1_ n2_)); have hcz14_0 : w13.cell? ⟨gb152, 0, none⟩ = some (.slice A0_0 l0_0.length c0_0) := (blk_cell BK152.out 0).trans rfl; have hcz14_1 : w13.cell? ⟨gb152, 1, none⟩ = some (.slice A0_1 l0_1.length c0_1) := (blk_cell BK152.out 1).trans rfl; have hfz14_0 := blk_frozen BK152.out 0; have hfz14_1 := blk_frozen BK152.out 1) | ((with_reducible refine gate_callee (f := 30) rfl ?_); refine gL_ (some 20) Try.func30 #[.agg #[.slice A0_0 l0_0.length c0_0, .slice A0_1 l0_1.length c0_1], .slice A1 l1.length c1] ?_; (with_reducible refine (impl_advect.calls k _ _ l0_0 _ _ l0_1 _ _ l1 t156 t159 _ ?side1 ?side2 ?side3 ?side4 ?side5 ?side6 A8.out).mono ?_); (case side1 => exact cB_ HR0_0 HB); (case side2 => exact HC0_0.out); (case side3 => exact cB_ HR0_1 HB); (case side4 => exact HC0_1.out); (case side5 => exact cB_ HR1 HB); (case side6 => exact HC1.out); rintro e w15 ⟨v157, v160, rfl, ho0, ho1, hb⟩; refine ⟨_, rfl, ?_⟩; have HO158 := rL_ ho0 HB; have HO161 := rL_ ho1 HB; replace BK152 := bB_ BK152 hb; replace BK153 := bB_ BK153 hb; replace HB := bS_ HB hb; (try clear hb); (try clear hb2); (try clear hk); (try clear hi); (try clear ho0); (try clear ho1); obtain ⟨Ao16, co16, eo16⟩ := Kd.R_slice HO158.out; subst eo16; have hcz17_0 : w15.cell? ⟨gb153, 0, none⟩ = some (.slice none 0 0) := (blk_cell BK153.out 0).trans rfl; have hcz17_1 : w15.cell? ⟨gb153, 1, none⟩ = some (.slice none 0 0) := (blk_cell BK153.out 1).trans rfl; have hfz17_0 := blk_frozen BK153.out 0; have hfz17_1 := blk_frozen BK153.out 1; obtain ⟨Ao18, co18, eo18⟩ := Kd.R_slice HO161.out; subst eo18))
   refine bodyPost_ret (results_ct rfl _ _ gb153 26 #[.slice Ao16 t156.length co16, .slice Ao18 t159.length co18] (0, 0) _ rfl (by (with_reducible repeat (first | refine blk_drewN ?_ _ | refine blk_drew ?_ | refine blk_alloc ?_ _)); refine blk_put (cs := #[.slice Ao16 t156.length co16, .slice none 0 0]) ?_ 1 _ rfl; (with_reducible repeat (first | refine blk_drewN ?_ _ | refine blk_drew ?_ | refine blk_alloc ?_ _)); refine blk_put (cs := #[.slice none 0 0, .slice none 0 0]) ?_ 0 _ rfl; exact bT_ BK153) Try.underlying26 rfl (by kernel_rfl)) rfl ?_
   exact ⟨_, _, by first | rfl | (simp [errW_none, errW_some] <;> rfl) | (simp [*, errW_none, errW_some] <;> rfl), by (with_reducible repeat (first | apply Kd.R_alloc | apply Kd.R_drewN | apply Kd.R_drew)); exact Kd.R_mono (Kd.R_far (p := ⟨gb153, 1, none⟩) (Kd.R_far (p := ⟨gb153, 0, none⟩) (Kd.R_types HO158.out BK153.out (by decide)) (fun _ hk => hk.2) (.slice Ao16 t156.length co16)) (fun _ hk => hk.2) (.slice Ao18 t159.length co18)) (fun _ hk => hk.1), by (with_reducible repeat (first | apply Kd.R_alloc | apply Kd.R_drewN | apply Kd.R_drew)); exact Kd.R_mono (Kd.R_far (p := ⟨gb153, 1, none⟩) (Kd.R_far (p := ⟨gb153, 0, none⟩) (Kd.R_types HO161.out BK153.out (by decide)) (fun _ hk => hk.2) (.slice Ao16 t156.length co16)) (fun _ hk => hk.2) (.slice Ao18 t159.length co18)) (fun _ hk => hk.1), sABelo_2⟩
  ·replace c7 := Bool.eq_false_iff.mpr c7
   subst c7
   have H1 : (some (([] : List Int), ([] : List Int), false)) = some (r1, r2, r3) := by rw [if_neg (show ¬ (false = true) by decide)] at H; exact H
   clear H; have H := H1; clear H1
   simp only [Option.some.injEq, Prod.mk.injEq] at H
   obtain ⟨rfl, rfl, rfl⟩ := H
   go_enter Try.func10, Try.ntmps10
   go_wp2_with (first | ((with_reducible refine gate_dst (N := 3) rfl ?_); refine box_event ?hg (N := 3) ?hd (cs := #[.slice A0_0 l0_0.length c0_0, .slice A0_1 l0_1.length c0_1]) (t := 26) ?hr ?_; (case hd => rfl); (case hg => rfl); (case hr => first | (go_simp; done) | (go_simp; rfl)); intro gb152 hg w19 hbox hb; have BK152 := Aside0.mk (hbox); have GW152 := gE_ HB hg; have GE152 := gE_ HB hg; replace HB := bS_ HB hb; clear hb hbox hg) | ((with_reducible refine gate_dst (N := 6) rfl ?_); refine box_event ?hg (N := 6) ?hd (cs := #[.slice none 0 0, .slice none 0 0]) (t := 26) ?hr ?_; (case hd => rfl); (case hg => rfl); (case hr => first | (go_simp; done) | (go_simp; rfl)); intro gb153 hg w20 hbox hb; have BK153 := Aside0.mk (hbox); have GW153 := gE_ HB hg; have GE153 := gE_ HB hg; replace HB := bS_ HB hb; have NB152_153 := nL_ BK152 hg; have NB153_152 := nG_ BK152 hg; replace BK152 := bB_ BK152 hb; clear hb hbox hg; have hnb21 := NB152_153.out; have hnc21 := NB153_152.out; have hcz22_0 : w20.cell? ⟨gb152, 0, none⟩ = some (.slice A0_0 l0_0.length c0_0) := (blk_cell BK152.out 0).trans rfl; have hcz22_1 : w20.cell? ⟨gb152, 1, none⟩ = some (.slice A0_1 l0_1.length c0_1) := (blk_cell BK152.out 1).trans rfl; have hfz22_0 := blk_frozen BK152.out 0; have hfz22_1 := blk_frozen BK152.out 1) | ((with_reducible refine gate_callee (f := 28) rfl ?_); refine gL_ (some 10) Try.func28 #[.agg #[.slice A0_0 l0_0.length c0_0, .slice A0_1 l0_1.length c0_1], .slice A1 l1.length c1] ?_; (with_reducible refine (impl_windsOk.calls k _ _ l0_0 _ _ l0_1 _ _ l1 true _ ?side1 ?side2 ?side3 ?side4 ?side5 ?side6 A4.out).mono ?_); (case side1 => exact cB_ HR0_0 HB); (case side2 => exact HC0_0.out); (case side3 => exact cB_ HR0_1 HB); (case side4 => exact HC0_1.out); (case side5 => exact cB_ HR1 HB); (case side6 => exact HC1.out); rintro e w23 ⟨rfl, hb⟩; refine ⟨_, rfl, ?_⟩; replace BK152 := bB_ BK152 hb; replace BK153 := bB_ BK153 hb; replace HB := bS_ HB hb; (try clear hb); (try clear hb2); (try clear hk); (try clear hi)) | (go_at_call 29; (with_reducible refine (impl_in.calls a2 1 8 false _ A6.out).mono ?_); rintro e w' ⟨rfl, ⟨nd, rfl⟩⟩; (try (rw [drewN_self w23]; generalize hq_ : World.drewN w23 _ = w23; have n0_ : Aside0 (w23.heap[gb152]? = some (.cells #[.slice A0_0 l0_0.length c0_0, .slice A0_1 l0_1.length c0_1] 26 (0, 0))) := ⟨by rw [← hq_]; exact (bT_ BK152)⟩; have n1_ : Aside0 (w23.heap[gb153]? = some (.cells #[.slice none 0 0, .slice none 0 0] 26 (0, 0))) := ⟨by rw [← hq_]; exact (bT_ BK153)⟩; have n2_ : Aside0 (Below w.heap.size w w23) := ⟨by rw [← hq_]; exact sABelo_2⟩; clear BK152 BK153 HB hq_; have BK152 := n0_; have BK153 := n1_; have HB := n2_; clear n0_ n1_ n2_)); have hcz24_0 : w23.cell? ⟨gb153, 0, none⟩ = some (.slice none 0 0) := (blk_cell BK153.out 0).trans rfl; have hcz24_1 : w23.cell? ⟨gb153, 1, none⟩ = some (.slice none 0 0) := (blk_cell BK153.out 1).trans rfl; have hfz24_0 := blk_frozen BK153.out 0; have hfz24_1 := blk_frozen BK153.out 1))
   refine bodyPost_ret (results_ct rfl _ _ gb153 26 #[.slice none 0 0, .slice none 0 0] (0, 0) _ rfl (by (with_reducible repeat (first | refine blk_drewN ?_ _ | refine blk_drew ?_ | refine blk_alloc ?_ _)); refine blk_put (cs := #[.slice none 0 0, .slice none 0 0]) ?_ 1 _ rfl; (with_reducible repeat (first | refine blk_drewN ?_ _ | refine blk_drew ?_ | refine blk_alloc ?_ _)); refine blk_put (cs := #[.slice none 0 0, .slice none 0 0]) ?_ 0 _ rfl; exact bT_ BK153) Try.underlying26 rfl (by kernel_rfl)) rfl ?_
   exact ⟨_, _, by first | rfl | (simp [errW_none, errW_some] <;> rfl) | (simp [*, errW_none, errW_some] <;> rfl), by first | exact Kd.R_nil _ _ _ _ _ | exact Kd.N_nil _ _ _ _ _ | exact Kd.V_nil _ _ _ _ _ | exact Kd.Q_nil _ _ _ _ _ | exact Kd.S_nil _ _ _ _ _, by first | exact Kd.R_nil _ _ _ _ _ | exact Kd.N_nil _ _ _ _ _ | exact Kd.V_nil _ _ _ _ _ | exact Kd.Q_nil _ _ _ _ _ | exact Kd.S_nil _ _ _ _ _, sABelo_2⟩
 ·replace c5 := Bool.eq_false_iff.mpr c5
  subst c5
  have H1 : (some (([] : List Int), ([] : List Int), false)) = some (r1, r2, r3) := by rw [if_neg (show ¬ (false = true) by decide)] at H; exact H
  clear H; have H := H1; clear H1
  simp only [Option.some.injEq, Prod.mk.injEq] at H
  obtain ⟨rfl, rfl, rfl⟩ := H
  go_enter Try.func10, Try.ntmps10
  go_wp2_with (first | ((with_reducible refine gate_dst (N := 3) rfl ?_); refine box_event ?hg (N := 3) ?hd (cs := #[.slice A0_0 l0_0.length c0_0, .slice A0_1 l0_1.length c0_1]) (t := 26) ?hr ?_; (case hd => rfl); (case hg => rfl); (case hr => first | (go_simp; done) | (go_simp; rfl)); intro gb152 hg w25 hbox hb; have BK152 := Aside0.mk (hbox); have GW152 := gE_ HB hg; have GE152 := gE_ HB hg; replace HB := bS_ HB hb; clear hb hbox hg) | ((with_reducible refine gate_dst (N := 6) rfl ?_); refine box_event ?hg (N := 6) ?hd (cs := #[.slice none 0 0, .slice none 0 0]) (t := 26) ?hr ?_; (case hd => rfl); (case hg => rfl); (case hr => first | (go_simp; done) | (go_simp; rfl)); intro gb153 hg w26 hbox hb; have BK153 := Aside0.mk (hbox); have GW153 := gE_ HB hg; have GE153 := gE_ HB hg; replace HB := bS_ HB hb; have NB152_153 := nL_ BK152 hg; have NB153_152 := nG_ BK152 hg; replace BK152 := bB_ BK152 hb; clear hb hbox hg; have hnb27 := NB152_153.out; have hnc27 := NB153_152.out; have hcz28_0 : w26.cell? ⟨gb152, 0, none⟩ = some (.slice A0_0 l0_0.length c0_0) := (blk_cell BK152.out 0).trans rfl; have hcz28_1 : w26.cell? ⟨gb152, 1, none⟩ = some (.slice A0_1 l0_1.length c0_1) := (blk_cell BK152.out 1).trans rfl; have hfz28_0 := blk_frozen BK152.out 0; have hfz28_1 := blk_frozen BK152.out 1) | ((with_reducible refine gate_callee (f := 28) rfl ?_); refine gL_ (some 10) Try.func28 #[.agg #[.slice A0_0 l0_0.length c0_0, .slice A0_1 l0_1.length c0_1], .slice A1 l1.length c1] ?_; (with_reducible refine (impl_windsOk.calls k _ _ l0_0 _ _ l0_1 _ _ l1 false _ ?side1 ?side2 ?side3 ?side4 ?side5 ?side6 A4.out).mono ?_); (case side1 => exact cB_ HR0_0 HB); (case side2 => exact HC0_0.out); (case side3 => exact cB_ HR0_1 HB); (case side4 => exact HC0_1.out); (case side5 => exact cB_ HR1 HB); (case side6 => exact HC1.out); rintro e w29 ⟨rfl, hb⟩; refine ⟨_, rfl, ?_⟩; replace BK152 := bB_ BK152 hb; replace BK153 := bB_ BK153 hb; replace HB := bS_ HB hb; (try clear hb); (try clear hb2); (try clear hk); (try clear hi); have hcz30_0 : w29.cell? ⟨gb153, 0, none⟩ = some (.slice none 0 0) := (blk_cell BK153.out 0).trans rfl; have hcz30_1 : w29.cell? ⟨gb153, 1, none⟩ = some (.slice none 0 0) := (blk_cell BK153.out 1).trans rfl; have hfz30_0 := blk_frozen BK153.out 0; have hfz30_1 := blk_frozen BK153.out 1))
  refine bodyPost_ret (results_ct rfl _ _ gb153 26 #[.slice none 0 0, .slice none 0 0] (0, 0) _ rfl (by (with_reducible repeat (first | refine blk_drewN ?_ _ | refine blk_drew ?_ | refine blk_alloc ?_ _)); refine blk_put (cs := #[.slice none 0 0, .slice none 0 0]) ?_ 1 _ rfl; (with_reducible repeat (first | refine blk_drewN ?_ _ | refine blk_drew ?_ | refine blk_alloc ?_ _)); refine blk_put (cs := #[.slice none 0 0, .slice none 0 0]) ?_ 0 _ rfl; exact bT_ BK153) Try.underlying26 rfl (by kernel_rfl)) rfl ?_
  exact ⟨_, _, by first | rfl | (simp [errW_none, errW_some] <;> rfl) | (simp [*, errW_none, errW_some] <;> rfl), by first | exact Kd.R_nil _ _ _ _ _ | exact Kd.N_nil _ _ _ _ _ | exact Kd.V_nil _ _ _ _ _ | exact Kd.Q_nil _ _ _ _ _ | exact Kd.S_nil _ _ _ _ _, by first | exact Kd.R_nil _ _ _ _ _ | exact Kd.N_nil _ _ _ _ _ | exact Kd.V_nil _ _ _ _ _ | exact Kd.Q_nil _ _ _ _ _ | exact Kd.S_nil _ _ _ _ _, sABelo_2⟩

/-! ### spec_l2In: function 26 -/
def spec_l2In.f (a0 : Int) (a1 : Int) (a2 : Int) : Option (Bool) := if a0 ≥ a1 then (some (decide (a0 ≤ a2))) else (some false)
set_option maxHeartbeats 8000000 in
set_option maxRecDepth 100000 in
theorem spec_l2In.calls (a0 : Int) (a1 : Int) (a2 : Int) (r : Bool) (w : World) (h : spec_l2In.f a0 a1 a2 = some r) :
  Calls Try.prog 26 #[.int .i64 a0, .int .i64 a1, .int .i64 a2] w fun e w' => e = .returned (.bool r) ∧ Drawn0 w w' := by
 have H : (if a0 ≥ a1 then (some (decide (a0 ≤ a2))) else (some false)) = some r := h
 clear h
 by_cases c4 : a0 ≥ a1
 ·rw [if_pos c4] at H
  have c4b0 : decide (a1 ≤ a0) = true := decide_eq_true c4
  clear c4
  obtain rfl := Option.some.inj H
  go_enter Try.func26, Try.ntmps26
  go_wp2
  go_ret
  exact ⟨by first | rfl | (simp; done) | (simp [*]; done), by repeat (first | exact Drawn0.refl _ | apply Drawn0.step)⟩
 ·rw [if_neg c4] at H
  have c4b0 : decide (a1 ≤ a0) = false := decide_eq_false c4
  clear c4
  obtain rfl := Option.some.inj H
  go_enter Try.func26, Try.ntmps26
  go_wp2
  go_ret
  exact ⟨by first | rfl | (simp; done) | (simp [*]; done), by repeat (first | exact Drawn0.refl _ | apply Drawn0.step)⟩

end Go.Proofs.Ytjmpgngndnheaaa.QFnRingKept
