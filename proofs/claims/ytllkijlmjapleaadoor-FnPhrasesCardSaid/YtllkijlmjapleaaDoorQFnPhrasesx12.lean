-- Written by a program of this session out of the printer's texts and contracts of its own.
import Derived.Test.YtllkijlmjapleaaDoorSq
import Derived.Test.YtllkijlmjapleaaDoorQFnPhrasesx0
import Derived.Test.YtllkijlmjapleaaDoorQFnPhrasesx4
import Derived.Test.YtllkijlmjapleaaDoorQFnPhrasesx10
namespace Go.Proofs.YtllkijlmjapleaaDoor.QFnPhrases
open Go.RowKit Go.Proofs.YtllkijlmjapleaaDoorW.PrintWords Go.Proofs.YtllkijlmjapleaaDoorW.PrintLast Go.Proofs.YtllkijlmjapleaaDoorW.PrintMore Go.Proofs.YtllkijlmjapleaaDoor.Sq
attribute [local go_sem] max2_int min2_int max_two min_two max_three min_three max_four min_four   -- for this text's walks alone
set_option linter.unusedVariables false
set_option linter.unusedSimpArgs false
theorem sABelo_12 {b : Nat} {w W : World} (h : Below b w W := by repeat (first | (with_reducible first | exact Aside0.out (by assumption) | apply below_alloc | apply pw_below_drewN | apply below_drew1 | refine below_set ?_ (IsS60.ge (Aside0.out (by assumption)))) | exact Aside0.out (by assumption))) : Below b w W := h
theorem sAIsS60_12 {w0 W : World} {g : Nat} {f0 : List Int} {f1 : Int} (h : IsS60 w0 W g f0 f1 := by repeat (first | (with_reducible first | exact Aside0.out (by assumption) | apply IsS60.alloc | apply IsS60.drewN | apply IsS60.drew | apply IsS60.set_1) | exact Aside0.out (by assumption))) : IsS60 w0 W g f0 f1 := h

/-! ### spec_DrawReadPhrase: function 14 -/
def spec_DrawReadPhrase.j0 : Nat → Int → ByteArray → List Int → Int → Option (ByteArray × Int)
 | 0, _, _, _, _ => none
 | k + 1, x5, x6, x329000, x329001 => (spec_l1Rd_once.f x329000 x329001 9).bind fun bt350 => (if bt350.1 = true then ((spec_l1Rd_below.f x329000 bt350.2 5).bind fun bt352 => (some (x6, bt352.1))) else (some (x6, x5)))
def spec_DrawReadPhrase.f (k : Nat) (l0 : List Int) : Option (ByteArray × Int) := (spec_l1Open.f l0).bind fun bt326 => ((spec_l1Rd_below.f bt326.1 bt326.2 3).bind fun bt329 => ((spec_l1Rd_say.f k bt326.1 bt329.2).bind fun bt331 => ((spec_Phrase.f k bt331.1 bt331.2.1 bt331.2.2.1 bt331.2.2.2.1 bt331.2.2.2.2.1 (wrap64 (1 + bt329.1))).bind fun t337 => ((spec_l1Rd_once.f bt326.1 bt331.2.2.2.2.2 3).bind fun bt338 => (if bt338.1 = true then ((spec_l1Rd_below.f bt326.1 bt338.2 (t337.size : Int)).bind fun bt340 => (if 0 ≤ bt340.1 then (if bt340.1 ≤ (t337.size : Int) then ((some (([(⟨#[48]⟩ : ByteArray), (⟨#[32]⟩ : ByteArray), (⟨#[49]⟩ : ByteArray), (⟨#[46]⟩ : ByteArray), (⟨#[115]⟩ : ByteArray), (⟨#[]⟩ : ByteArray)] : List ByteArray) : List ByteArray)).bind fun y342 => ((spec_l1Rd_below.f bt326.1 bt340.2 6).bind fun bt345 => (if 0 ≤ bt345.1 then (if bt345.1 < (y342.length : Int) then (if (t337.extract 0 (bt340.1 : Int).toNat).size + (rdOf ByteArray.empty y342 bt345.1).size ≤ 9223372036854775807 then ((spec_l1Rd_below.f bt326.1 bt345.2 2).bind fun bt348 => (if 0 ≤ (wrap64 (bt340.1 + bt348.1)) then (if (wrap64 (bt340.1 + bt348.1)) ≤ (t337.size : Int) then (if ((t337.extract 0 (bt340.1 : Int).toNat) ++ (rdOf ByteArray.empty y342 bt345.1)).size + (t337.extract ((wrap64 (bt340.1 + bt348.1)) : Int).toNat t337.size).size ≤ 9223372036854775807 then (spec_DrawReadPhrase.j0 k (wrap64 (1 + bt329.1)) (((t337.extract 0 (bt340.1 : Int).toNat) ++ (rdOf ByteArray.empty y342 bt345.1)) ++ (t337.extract ((wrap64 (bt340.1 + bt348.1)) : Int).toNat t337.size)) bt326.1 bt348.2) else (none)) else (none)) else (none))) else (none)) else (none)) else (none)))) else (none)) else (none))) else (spec_DrawReadPhrase.j0 k (wrap64 (1 + bt329.1)) t337 bt326.1 bt338.2))))))
theorem spec_DrawReadPhrase.mono_l : ∀ k, (∀ y0 y1 y2 y3, LeO (spec_DrawReadPhrase.j0 k y0 y1 y2 y3) (spec_DrawReadPhrase.j0 (k + 1) y0 y1 y2 y3))
 | 0 => fun _ _ _ _ r h => by simp [spec_DrawReadPhrase.j0] at h
 | k + 1 => by
  have ih0 := spec_DrawReadPhrase.mono_l k
  ·intro y0 y1 y2 y3
   unfold spec_DrawReadPhrase.j0
   repeat' first
   | (with_reducible exact ih0 _ _ _ _)
   | (with_reducible exact spec_Phrase.mono _ _ _ _ _ _ _)
   | (with_reducible exact spec_l1Rd_say.mono _ _ _)
   | (with_reducible exact LeO.refl _)
   | (with_reducible exact LeO.none _)
   | (with_reducible refine LeO.ite ?_ ?_)
   | (with_reducible refine LeO.bind ?_ (fun _ => ?_))
   | exact ih0 _ _ _ _
   | exact spec_Phrase.mono _ _ _ _ _ _ _
   | exact spec_l1Rd_say.mono _ _ _
   | exact LeO.none _
   | refine LeO.ite ?_ ?_
   | refine LeO.bind ?_ (fun _ => ?_)
theorem spec_DrawReadPhrase.mono : ∀ a0 k, LeO (spec_DrawReadPhrase.f k a0) (spec_DrawReadPhrase.f (k + 1) a0) := by
 intro a0 k
 have ih0 := spec_DrawReadPhrase.mono_l k
 unfold spec_DrawReadPhrase.f
 repeat' first
   | (with_reducible exact ih0 _ _ _ _)
   | (with_reducible exact spec_Phrase.mono _ _ _ _ _ _ _)
   | (with_reducible exact spec_l1Rd_say.mono _ _ _)
   | (with_reducible exact LeO.refl _)
   | (with_reducible exact LeO.none _)
   | (with_reducible refine LeO.ite ?_ ?_)
   | (with_reducible refine LeO.bind ?_ (fun _ => ?_))
   | exact ih0 _ _ _ _
   | exact spec_Phrase.mono _ _ _ _ _ _ _
   | exact spec_l1Rd_say.mono _ _ _
   | exact LeO.none _
   | refine LeO.ite ?_ ?_
   | refine LeO.bind ?_ (fun _ => ?_)
def spec_DrawReadPhrase.T6 : Bool × List (List Nat × List Nat) := (true, [([], []), ([], []), ([0, 1], [0, 1]), ([], []), ([], []), ([4], [4]), ([3, 5], [3, 5]), ([6], [6]), ([2, 7], [2, 7]), ([], []), ([], []), ([], []), ([11, 5], [11]), ([10, 12], [10, 12]), ([9, 13], [9, 13]), ([8, 14], [8, 14]), ([15, 12, 0, 1, 2, 3, 4, 5, 6, 7, 8, 9, 10, 11, 12, 13, 14, 15], [0, 9, 15])])
def spec_DrawReadPhrase.B6 : List Nat := [0, 0, 3, 0, 0, 16, 56, 120, 255, 0, 0, 0, 2096, 7216, 15920, 32767, 65535]
theorem spec_DrawReadPhrase.tab6 : rtab .any (opsOf Tryd.f14 6) = spec_DrawReadPhrase.T6 := by kernel_rfl
theorem spec_DrawReadPhrase.bits6 : waitsOk spec_DrawReadPhrase.T6.2 spec_DrawReadPhrase.B6 = true := by kernel_rfl
set_option maxHeartbeats 8000000 in
set_option maxRecDepth 100000 in
theorem spec_DrawReadPhrase.calls (k : Nat) (A0 : Option Addr) (c0 : Nat) (l0 : List Int) (r1 : ByteArray) (r2 : Int) (w : World) (hr0 : Kd.C (Kd.int .u8) w A0 l0.length l0) (hc0 : l0.length ≤ c0) (h : spec_DrawReadPhrase.f k l0 = some (r1, r2)) :
  Calls Tryd.prog 14 #[.slice A0 l0.length c0] w fun e w' => e = .returned (.tuple #[.string r1, .int .i64 r2]) ∧ Below w.heap.size w w' := by
 have HR0 := Aside0.mk hr0; have HC0 := Aside0.mk hc0; clear hr0 hc0
 have HB := Aside0.mk (Below.refl w.heap.size w)
 have H : ((spec_l1Open.f l0).bind fun bt326 => ((spec_l1Rd_below.f bt326.1 bt326.2 3).bind fun bt329 => ((spec_l1Rd_say.f k bt326.1 bt329.2).bind fun bt331 => ((spec_Phrase.f k bt331.1 bt331.2.1 bt331.2.2.1 bt331.2.2.2.1 bt331.2.2.2.2.1 (wrap64 (1 + bt329.1))).bind fun t337 => ((spec_l1Rd_once.f bt326.1 bt331.2.2.2.2.2 3).bind fun bt338 => (if bt338.1 = true then ((spec_l1Rd_below.f bt326.1 bt338.2 (t337.size : Int)).bind fun bt340 => (if 0 ≤ bt340.1 then (if bt340.1 ≤ (t337.size : Int) then ((some (([(⟨#[48]⟩ : ByteArray), (⟨#[32]⟩ : ByteArray), (⟨#[49]⟩ : ByteArray), (⟨#[46]⟩ : ByteArray), (⟨#[115]⟩ : ByteArray), (⟨#[]⟩ : ByteArray)] : List ByteArray) : List ByteArray)).bind fun y342 => ((spec_l1Rd_below.f bt326.1 bt340.2 6).bind fun bt345 => (if 0 ≤ bt345.1 then (if bt345.1 < (y342.length : Int) then (if (t337.extract 0 (bt340.1 : Int).toNat).size + (rdOf ByteArray.empty y342 bt345.1).size ≤ 9223372036854775807 then ((spec_l1Rd_below.f bt326.1 bt345.2 2).bind fun bt348 => (if 0 ≤ (wrap64 (bt340.1 + bt348.1)) then (if (wrap64 (bt340.1 + bt348.1)) ≤ (t337.size : Int) then (if ((t337.extract 0 (bt340.1 : Int).toNat) ++ (rdOf ByteArray.empty y342 bt345.1)).size + (t337.extract ((wrap64 (bt340.1 + bt348.1)) : Int).toNat t337.size).size ≤ 9223372036854775807 then (spec_DrawReadPhrase.j0 k (wrap64 (1 + bt329.1)) (((t337.extract 0 (bt340.1 : Int).toNat) ++ (rdOf ByteArray.empty y342 bt345.1)) ++ (t337.extract ((wrap64 (bt340.1 + bt348.1)) : Int).toNat t337.size)) bt326.1 bt348.2) else (none)) else (none)) else (none))) else (none)) else (none)) else (none)))) else (none)) else (none))) else (spec_DrawReadPhrase.j0 k (wrap64 (1 + bt329.1)) t337 bt326.1 bt338.2))))))) = some (r1, r2) := h
 clear h; replace H := Option.bind_eq_some_iff.mp H
 obtain ⟨⟨t326, t327⟩, A20, H⟩ := H
 replace H : ((spec_l1Rd_below.f t326 t327 3).bind fun bt329 => ((spec_l1Rd_say.f k t326 bt329.2).bind fun bt331 => ((spec_Phrase.f k bt331.1 bt331.2.1 bt331.2.2.1 bt331.2.2.2.1 bt331.2.2.2.2.1 (wrap64 (1 + bt329.1))).bind fun t337 => ((spec_l1Rd_once.f t326 bt331.2.2.2.2.2 3).bind fun bt338 => (if bt338.1 = true then ((spec_l1Rd_below.f t326 bt338.2 (t337.size : Int)).bind fun bt340 => (if 0 ≤ bt340.1 then (if bt340.1 ≤ (t337.size : Int) then ((some (([(⟨#[48]⟩ : ByteArray), (⟨#[32]⟩ : ByteArray), (⟨#[49]⟩ : ByteArray), (⟨#[46]⟩ : ByteArray), (⟨#[115]⟩ : ByteArray), (⟨#[]⟩ : ByteArray)] : List ByteArray) : List ByteArray)).bind fun y342 => ((spec_l1Rd_below.f t326 bt340.2 6).bind fun bt345 => (if 0 ≤ bt345.1 then (if bt345.1 < (y342.length : Int) then (if (t337.extract 0 (bt340.1 : Int).toNat).size + (rdOf ByteArray.empty y342 bt345.1).size ≤ 9223372036854775807 then ((spec_l1Rd_below.f t326 bt345.2 2).bind fun bt348 => (if 0 ≤ (wrap64 (bt340.1 + bt348.1)) then (if (wrap64 (bt340.1 + bt348.1)) ≤ (t337.size : Int) then (if ((t337.extract 0 (bt340.1 : Int).toNat) ++ (rdOf ByteArray.empty y342 bt345.1)).size + (t337.extract ((wrap64 (bt340.1 + bt348.1)) : Int).toNat t337.size).size ≤ 9223372036854775807 then (spec_DrawReadPhrase.j0 k (wrap64 (1 + bt329.1)) (((t337.extract 0 (bt340.1 : Int).toNat) ++ (rdOf ByteArray.empty y342 bt345.1)) ++ (t337.extract ((wrap64 (bt340.1 + bt348.1)) : Int).toNat t337.size)) t326 bt348.2) else (none)) else (none)) else (none))) else (none)) else (none)) else (none)))) else (none)) else (none))) else (spec_DrawReadPhrase.j0 k (wrap64 (1 + bt329.1)) t337 t326 bt338.2)))))) = some (r1, r2) := H
 have A2 := Aside0.mk A20; clear A20; replace H := Option.bind_eq_some_iff.mp H
 obtain ⟨⟨t329, t330⟩, A30, H⟩ := H
 replace H : ((spec_l1Rd_say.f k t326 t330).bind fun bt331 => ((spec_Phrase.f k bt331.1 bt331.2.1 bt331.2.2.1 bt331.2.2.2.1 bt331.2.2.2.2.1 (wrap64 (1 + t329))).bind fun t337 => ((spec_l1Rd_once.f t326 bt331.2.2.2.2.2 3).bind fun bt338 => (if bt338.1 = true then ((spec_l1Rd_below.f t326 bt338.2 (t337.size : Int)).bind fun bt340 => (if 0 ≤ bt340.1 then (if bt340.1 ≤ (t337.size : Int) then ((some (([(⟨#[48]⟩ : ByteArray), (⟨#[32]⟩ : ByteArray), (⟨#[49]⟩ : ByteArray), (⟨#[46]⟩ : ByteArray), (⟨#[115]⟩ : ByteArray), (⟨#[]⟩ : ByteArray)] : List ByteArray) : List ByteArray)).bind fun y342 => ((spec_l1Rd_below.f t326 bt340.2 6).bind fun bt345 => (if 0 ≤ bt345.1 then (if bt345.1 < (y342.length : Int) then (if (t337.extract 0 (bt340.1 : Int).toNat).size + (rdOf ByteArray.empty y342 bt345.1).size ≤ 9223372036854775807 then ((spec_l1Rd_below.f t326 bt345.2 2).bind fun bt348 => (if 0 ≤ (wrap64 (bt340.1 + bt348.1)) then (if (wrap64 (bt340.1 + bt348.1)) ≤ (t337.size : Int) then (if ((t337.extract 0 (bt340.1 : Int).toNat) ++ (rdOf ByteArray.empty y342 bt345.1)).size + (t337.extract ((wrap64 (bt340.1 + bt348.1)) : Int).toNat t337.size).size ≤ 9223372036854775807 then (spec_DrawReadPhrase.j0 k (wrap64 (1 + t329)) (((t337.extract 0 (bt340.1 : Int).toNat) ++ (rdOf ByteArray.empty y342 bt345.1)) ++ (t337.extract ((wrap64 (bt340.1 + bt348.1)) : Int).toNat t337.size)) t326 bt348.2) else (none)) else (none)) else (none))) else (none)) else (none)) else (none)))) else (none)) else (none))) else (spec_DrawReadPhrase.j0 k (wrap64 (1 + t329)) t337 t326 bt338.2))))) = some (r1, r2) := H
 have A3 := Aside0.mk A30; clear A30; replace H := Option.bind_eq_some_iff.mp H
 obtain ⟨⟨t331, t332, t333, t334, t335, t336⟩, A40, H⟩ := H
 replace H : ((spec_Phrase.f k t331 t332 t333 t334 t335 (wrap64 (1 + t329))).bind fun t337 => ((spec_l1Rd_once.f t326 t336 3).bind fun bt338 => (if bt338.1 = true then ((spec_l1Rd_below.f t326 bt338.2 (t337.size : Int)).bind fun bt340 => (if 0 ≤ bt340.1 then (if bt340.1 ≤ (t337.size : Int) then ((some (([(⟨#[48]⟩ : ByteArray), (⟨#[32]⟩ : ByteArray), (⟨#[49]⟩ : ByteArray), (⟨#[46]⟩ : ByteArray), (⟨#[115]⟩ : ByteArray), (⟨#[]⟩ : ByteArray)] : List ByteArray) : List ByteArray)).bind fun y342 => ((spec_l1Rd_below.f t326 bt340.2 6).bind fun bt345 => (if 0 ≤ bt345.1 then (if bt345.1 < (y342.length : Int) then (if (t337.extract 0 (bt340.1 : Int).toNat).size + (rdOf ByteArray.empty y342 bt345.1).size ≤ 9223372036854775807 then ((spec_l1Rd_below.f t326 bt345.2 2).bind fun bt348 => (if 0 ≤ (wrap64 (bt340.1 + bt348.1)) then (if (wrap64 (bt340.1 + bt348.1)) ≤ (t337.size : Int) then (if ((t337.extract 0 (bt340.1 : Int).toNat) ++ (rdOf ByteArray.empty y342 bt345.1)).size + (t337.extract ((wrap64 (bt340.1 + bt348.1)) : Int).toNat t337.size).size ≤ 9223372036854775807 then (spec_DrawReadPhrase.j0 k (wrap64 (1 + t329)) (((t337.extract 0 (bt340.1 : Int).toNat) ++ (rdOf ByteArray.empty y342 bt345.1)) ++ (t337.extract ((wrap64 (bt340.1 + bt348.1)) : Int).toNat t337.size)) t326 bt348.2) else (none)) else (none)) else (none))) else (none)) else (none)) else (none)))) else (none)) else (none))) else (spec_DrawReadPhrase.j0 k (wrap64 (1 + t329)) t337 t326 bt338.2)))) = some (r1, r2) := H
 have A4 := Aside0.mk A40; clear A40; replace H := Option.bind_eq_some_iff.mp H
 obtain ⟨t337, A50, H⟩ := H
 replace H : ((spec_l1Rd_once.f t326 t336 3).bind fun bt338 => (if bt338.1 = true then ((spec_l1Rd_below.f t326 bt338.2 (t337.size : Int)).bind fun bt340 => (if 0 ≤ bt340.1 then (if bt340.1 ≤ (t337.size : Int) then ((some (([(⟨#[48]⟩ : ByteArray), (⟨#[32]⟩ : ByteArray), (⟨#[49]⟩ : ByteArray), (⟨#[46]⟩ : ByteArray), (⟨#[115]⟩ : ByteArray), (⟨#[]⟩ : ByteArray)] : List ByteArray) : List ByteArray)).bind fun y342 => ((spec_l1Rd_below.f t326 bt340.2 6).bind fun bt345 => (if 0 ≤ bt345.1 then (if bt345.1 < (y342.length : Int) then (if (t337.extract 0 (bt340.1 : Int).toNat).size + (rdOf ByteArray.empty y342 bt345.1).size ≤ 9223372036854775807 then ((spec_l1Rd_below.f t326 bt345.2 2).bind fun bt348 => (if 0 ≤ (wrap64 (bt340.1 + bt348.1)) then (if (wrap64 (bt340.1 + bt348.1)) ≤ (t337.size : Int) then (if ((t337.extract 0 (bt340.1 : Int).toNat) ++ (rdOf ByteArray.empty y342 bt345.1)).size + (t337.extract ((wrap64 (bt340.1 + bt348.1)) : Int).toNat t337.size).size ≤ 9223372036854775807 then (spec_DrawReadPhrase.j0 k (wrap64 (1 + t329)) (((t337.extract 0 (bt340.1 : Int).toNat) ++ (rdOf ByteArray.empty y342 bt345.1)) ++ (t337.extract ((wrap64 (bt340.1 + bt348.1)) : Int).toNat t337.size)) t326 bt348.2) else (none)) else (none)) else (none))) else (none)) else (none)) else (none)))) else (none)) else (none))) else (spec_DrawReadPhrase.j0 k (wrap64 (1 + t329)) t337 t326 bt338.2))) = some (r1, r2) := H
 have A5 := Aside0.mk A50; clear A50; replace H := Option.bind_eq_some_iff.mp H
 obtain ⟨⟨t338, t339⟩, A60, H⟩ := H
 replace H : (if t338 = true then ((spec_l1Rd_below.f t326 t339 (t337.size : Int)).bind fun bt340 => (if 0 ≤ bt340.1 then (if bt340.1 ≤ (t337.size : Int) then ((some (([(⟨#[48]⟩ : ByteArray), (⟨#[32]⟩ : ByteArray), (⟨#[49]⟩ : ByteArray), (⟨#[46]⟩ : ByteArray), (⟨#[115]⟩ : ByteArray), (⟨#[]⟩ : ByteArray)] : List ByteArray) : List ByteArray)).bind fun y342 => ((spec_l1Rd_below.f t326 bt340.2 6).bind fun bt345 => (if 0 ≤ bt345.1 then (if bt345.1 < (y342.length : Int) then (if (t337.extract 0 (bt340.1 : Int).toNat).size + (rdOf ByteArray.empty y342 bt345.1).size ≤ 9223372036854775807 then ((spec_l1Rd_below.f t326 bt345.2 2).bind fun bt348 => (if 0 ≤ (wrap64 (bt340.1 + bt348.1)) then (if (wrap64 (bt340.1 + bt348.1)) ≤ (t337.size : Int) then (if ((t337.extract 0 (bt340.1 : Int).toNat) ++ (rdOf ByteArray.empty y342 bt345.1)).size + (t337.extract ((wrap64 (bt340.1 + bt348.1)) : Int).toNat t337.size).size ≤ 9223372036854775807 then (spec_DrawReadPhrase.j0 k (wrap64 (1 + t329)) (((t337.extract 0 (bt340.1 : Int).toNat) ++ (rdOf ByteArray.empty y342 bt345.1)) ++ (t337.extract ((wrap64 (bt340.1 + bt348.1)) : Int).toNat t337.size)) t326 bt348.2) else (none)) else (none)) else (none))) else (none)) else (none)) else (none)))) else (none)) else (none))) else (spec_DrawReadPhrase.j0 k (wrap64 (1 + t329)) t337 t326 t339)) = some (r1, r2) := H
 have A6 := Aside0.mk A60; clear A60; have HC7 := Aside0.mk H; clear H
 go_enter Tryd.func14, Tryd.ntmps14
 go_upto_if 18 with (first | ((with_reducible refine gate_callee (f := 26) rfl ?_); refine gL_ (some 9) Tryd.func26 #[.slice A0 l0.length c0] ?_; (with_reducible refine (spec_l1Open.calls _ _ l0 t326 t327 w _ ?side1 ?side2 ?side3 A2.out).mono ?_); (case side1 => repeat (first | (with_reducible first | exact HB.out | apply below_alloc | apply pw_below_drewN | apply below_drew1) | exact HB.out)); (case side2 => exact HR0.out); (case side3 => exact HC0.out); rintro e w8 ⟨g328, rfl, hi, hb, hb2⟩; refine ⟨_, rfl, ?_⟩; replace HB := Aside0.mk (hb); have HI328 := Aside0.mk (hi); (try clear hb); (try clear hb2); (try clear hi)) | ((with_reducible refine gate_callee (f := 28) rfl ?_); refine gL_ (some 11) Tryd.func28 #[.pointer (some ⟨g328, 0, none⟩), .int .i64 3] ?_; (with_reducible refine (spec_l1Rd_below.calls g328 t326 t327 3 t329 t330 w _ ?side1 ?side2 A3.out).mono ?_); (case side1 => repeat (first | (with_reducible first | exact HI328.out | apply IsS60.alloc | apply IsS60.drewN | apply IsS60.drew | apply IsS60.set_1) | exact HI328.out)); (case side2 => repeat (first | (with_reducible first | exact HB.out | apply below_alloc | apply pw_below_drewN | apply below_drew1 | refine below_set ?_ (IsS60.ge HI328.out)) | exact HB.out)); rintro e w9 ⟨rfl, hi, hb, hk⟩; refine ⟨_, rfl, ?_⟩; replace HB := Aside0.mk (hb); replace HI328 := Aside0.mk (hi); (try clear hb); (try clear hb2); (try clear hk); (try clear hi)) | ((with_reducible refine gate_callee (f := 27) rfl ?_); refine gL_ (some 14) Tryd.func27 #[.pointer (some ⟨g328, 0, none⟩)] ?_; (with_reducible refine (spec_l1Rd_say.calls k g328 t326 t330 t331 t332 t333 t334 t335 t336 w _ ?side1 ?side2 A4.out).mono ?_); (case side1 => repeat (first | (with_reducible first | exact HI328.out | apply IsS60.alloc | apply IsS60.drewN | apply IsS60.drew | apply IsS60.set_1) | exact HI328.out)); (case side2 => repeat (first | (with_reducible first | exact HB.out | apply below_alloc | apply pw_below_drewN | apply below_drew1 | refine below_set ?_ (IsS60.ge HI328.out)) | exact HB.out)); rintro e w10 ⟨rfl, hi, hb, hk⟩; refine ⟨_, rfl, ?_⟩; replace HB := Aside0.mk (hb); replace HI328 := Aside0.mk (hi); (try clear hb); (try clear hb2); (try clear hk); (try clear hi)) | ((with_reducible refine gate_callee (f := 6) rfl ?_); refine gL_ (some 16) Tryd.func6 #[.agg #[.int .i64 t331, .int .i64 t332, .int .i64 t333, .int .i64 t334, .int .i64 t335], .int .i64 (wrap64 (1 + t329))] ?_; (with_reducible refine (spec_Phrase.calls k t331 t332 t333 t334 t335 (wrap64 (1 + t329)) t337 _ A5.out).mono ?_); rintro e w11 ⟨rfl, hb⟩; refine ⟨_, rfl, ?_⟩; replace HB := Aside0.mk (below_step sABelo_12 hb); replace HI328 := Aside0.mk (IsS60.below sAIsS60_12 hb); (try clear hb); (try clear hb2); (try clear hk); (try clear hi)) | ((with_reducible refine gate_callee (f := 29) rfl ?_); refine gL_ (some 18) Tryd.func29 #[.pointer (some ⟨g328, 0, none⟩), .int .i64 3] ?_; (with_reducible refine (spec_l1Rd_once.calls g328 t326 t336 3 t338 t339 w _ ?side1 ?side2 A6.out).mono ?_); (case side1 => repeat (first | (with_reducible first | exact HI328.out | apply IsS60.alloc | apply IsS60.drewN | apply IsS60.drew | apply IsS60.set_1) | exact HI328.out)); (case side2 => repeat (first | (with_reducible first | exact HB.out | apply below_alloc | apply pw_below_drewN | apply below_drew1 | refine below_set ?_ (IsS60.ge HI328.out)) | exact HB.out)); rintro e w12 ⟨rfl, hi, hb, hk⟩; refine ⟨_, rfl, ?_⟩; replace HB := Aside0.mk (hb); replace HI328 := Aside0.mk (hi); (try clear hb); (try clear hb2); (try clear hk); (try clear hi)))
 (try simp only [Act.put, List.setIfInBounds_toArray, List.set_cons_zero, List.set_cons_succ])
 go_cut [6] (fun v6 wc => ∃ (kq : Nat) (x6_6 : ByteArray) (x329001_6 : Int), v6 = .string x6_6 ∧ Aside0 (spec_DrawReadPhrase.j0 kq (wrap64 (1 + t329)) x6_6 t326 x329001_6 = some (r1, r2)) ∧ Aside0 (kq ≤ k) ∧ Aside0 (IsS60 w wc g328 t326 x329001_6) ∧ Aside0 (Below w.heap.size w wc))
 case first =>
  have H := HC7.out; clear HC7
  by_cases c13 : t338 = true
  ·subst c13
   replace H := ifT_ H; replace H := Option.bind_eq_some_iff.mp H
   obtain ⟨⟨t340, t341⟩, A140, H⟩ := H
   replace H : (if 0 ≤ t340 then (if t340 ≤ (t337.size : Int) then ((some (([(⟨#[48]⟩ : ByteArray), (⟨#[32]⟩ : ByteArray), (⟨#[49]⟩ : ByteArray), (⟨#[46]⟩ : ByteArray), (⟨#[115]⟩ : ByteArray), (⟨#[]⟩ : ByteArray)] : List ByteArray) : List ByteArray)).bind fun y342 => ((spec_l1Rd_below.f t326 t341 6).bind fun bt345 => (if 0 ≤ bt345.1 then (if bt345.1 < (y342.length : Int) then (if (t337.extract 0 (t340 : Int).toNat).size + (rdOf ByteArray.empty y342 bt345.1).size ≤ 9223372036854775807 then ((spec_l1Rd_below.f t326 bt345.2 2).bind fun bt348 => (if 0 ≤ (wrap64 (t340 + bt348.1)) then (if (wrap64 (t340 + bt348.1)) ≤ (t337.size : Int) then (if ((t337.extract 0 (t340 : Int).toNat) ++ (rdOf ByteArray.empty y342 bt345.1)).size + (t337.extract ((wrap64 (t340 + bt348.1)) : Int).toNat t337.size).size ≤ 9223372036854775807 then (spec_DrawReadPhrase.j0 k (wrap64 (1 + t329)) (((t337.extract 0 (t340 : Int).toNat) ++ (rdOf ByteArray.empty y342 bt345.1)) ++ (t337.extract ((wrap64 (t340 + bt348.1)) : Int).toNat t337.size)) t326 bt348.2) else (none)) else (none)) else (none))) else (none)) else (none)) else (none)))) else (none)) else (none)) = some (r1, r2) := H
   have A14 := Aside0.mk A140; clear A140
   obtain ⟨c15, H⟩ := ifS_ H
   have c15b0 := eq_true c15
   have c15b1 : decide (0 ≤ t340) = true := decide_eq_true c15
   clear c15
   obtain ⟨c16, H⟩ := ifS_ H
   have c16b0 := eq_true c16
   have c16b1 : decide (t340 ≤ (t337.size : Int)) = true := decide_eq_true c16
   clear c16
   obtain ⟨y342, hy342⟩ : ∃ y_ : List ByteArray, y_ = (([(⟨#[48]⟩ : ByteArray), (⟨#[32]⟩ : ByteArray), (⟨#[49]⟩ : ByteArray), (⟨#[46]⟩ : ByteArray), (⟨#[115]⟩ : ByteArray), (⟨#[]⟩ : ByteArray)] : List ByteArray)) := ⟨_, rfl⟩
   replace H : ((spec_l1Rd_below.f t326 t341 6).bind fun bt345 => (if 0 ≤ bt345.1 then (if bt345.1 < (y342.length : Int) then (if (t337.extract 0 (t340 : Int).toNat).size + (rdOf ByteArray.empty y342 bt345.1).size ≤ 9223372036854775807 then ((spec_l1Rd_below.f t326 bt345.2 2).bind fun bt348 => (if 0 ≤ (wrap64 (t340 + bt348.1)) then (if (wrap64 (t340 + bt348.1)) ≤ (t337.size : Int) then (if ((t337.extract 0 (t340 : Int).toNat) ++ (rdOf ByteArray.empty y342 bt345.1)).size + (t337.extract ((wrap64 (t340 + bt348.1)) : Int).toNat t337.size).size ≤ 9223372036854775807 then (spec_DrawReadPhrase.j0 k (wrap64 (1 + t329)) (((t337.extract 0 (t340 : Int).toNat) ++ (rdOf ByteArray.empty y342 bt345.1)) ++ (t337.extract ((wrap64 (t340 + bt348.1)) : Int).toNat t337.size)) t326 bt348.2) else (none)) else (none)) else (none))) else (none)) else (none)) else (none))) = some (r1, r2) := by first | (rw [hy342]; with_reducible exact H) | (have H2_ := (Option.bind_some _ _).symm.trans H; rw [hy342]; with_reducible exact H2_) | (have H2_ := (Option.bind_some _ _).symm.trans H; with_reducible exact H2_) | with_reducible exact H | (rw [hy342]; exact H) | exact H
   have Ny342 := Aside0.mk hy342; clear hy342; replace H := Option.bind_eq_some_iff.mp H
   obtain ⟨⟨t345, t346⟩, A170, H⟩ := H
   replace H : (if 0 ≤ t345 then (if t345 < (y342.length : Int) then (if (t337.extract 0 (t340 : Int).toNat).size + (rdOf ByteArray.empty y342 t345).size ≤ 9223372036854775807 then ((spec_l1Rd_below.f t326 t346 2).bind fun bt348 => (if 0 ≤ (wrap64 (t340 + bt348.1)) then (if (wrap64 (t340 + bt348.1)) ≤ (t337.size : Int) then (if ((t337.extract 0 (t340 : Int).toNat) ++ (rdOf ByteArray.empty y342 t345)).size + (t337.extract ((wrap64 (t340 + bt348.1)) : Int).toNat t337.size).size ≤ 9223372036854775807 then (spec_DrawReadPhrase.j0 k (wrap64 (1 + t329)) (((t337.extract 0 (t340 : Int).toNat) ++ (rdOf ByteArray.empty y342 t345)) ++ (t337.extract ((wrap64 (t340 + bt348.1)) : Int).toNat t337.size)) t326 bt348.2) else (none)) else (none)) else (none))) else (none)) else (none)) else (none)) = some (r1, r2) := H
   have A17 := Aside0.mk A170; clear A170
   obtain ⟨c18, H⟩ := ifS_ H
   have c18b0 : decide (0 ≤ t345) = true := decide_eq_true c18
   clear c18
   (first | rw [c18b0] | (simp only [i64_w, i32_w]; rw [c18b0]) | skip)
   obtain ⟨c19, H⟩ := ifS_ H
   have c19b0 : decide (t345 < (y342.length : Int)) = true := decide_eq_true c19
   clear c19
   obtain ⟨c20, H⟩ := ifS_ H
   have c20b0 := eq_true c20
   have c20b1 : decide ((t337.extract 0 (t340 : Int).toNat).size + (rdOf ByteArray.empty y342 t345).size ≤ 9223372036854775807) = true := decide_eq_true c20
   try have c20b2 : (9223372036854775807 < (t337.extract 0 (t340 : Int).toNat).size + (rdOf ByteArray.empty y342 t345).size) = False := eq_false (Nat.not_lt.2 c20)
   replace H := Option.bind_eq_some_iff.mp H
   obtain ⟨⟨t348, t349⟩, A210, H⟩ := H
   replace H : (if 0 ≤ (wrap64 (t340 + t348)) then (if (wrap64 (t340 + t348)) ≤ (t337.size : Int) then (if ((t337.extract 0 (t340 : Int).toNat) ++ (rdOf ByteArray.empty y342 t345)).size + (t337.extract ((wrap64 (t340 + t348)) : Int).toNat t337.size).size ≤ 9223372036854775807 then (spec_DrawReadPhrase.j0 k (wrap64 (1 + t329)) (((t337.extract 0 (t340 : Int).toNat) ++ (rdOf ByteArray.empty y342 t345)) ++ (t337.extract ((wrap64 (t340 + t348)) : Int).toNat t337.size)) t326 t349) else (none)) else (none)) else (none)) = some (r1, r2) := H
   have A21 := Aside0.mk A210; clear A210
   obtain ⟨ji22, hji22⟩ : ∃ j_ : Int, (wrap64 (t340 + t348)) = j_ := ⟨_, rfl⟩
   replace H : (if 0 ≤ (ji22) then (if (ji22) ≤ (t337.size : Int) then (if ((t337.extract 0 (t340 : Int).toNat) ++ (rdOf ByteArray.empty y342 t345)).size + (t337.extract ((ji22) : Int).toNat t337.size).size ≤ 9223372036854775807 then (spec_DrawReadPhrase.j0 k (wrap64 (1 + t329)) (((t337.extract 0 (t340 : Int).toNat) ++ (rdOf ByteArray.empty y342 t345)) ++ (t337.extract ((ji22) : Int).toNat t337.size)) t326 t349) else (none)) else (none)) else (none)) = some (r1, r2) := by first | (rw [hji22] at H; exact H) | (simp only [hji22] at H ⊢; exact H)
   (try rw [hji22] at A14)
   (try rw [hji22] at A17)
   (try rw [hji22] at A21)
   have hji22w : (IntKind.i64.wrap (t340 + t348)) = ji22 := (i64_w _).trans hji22
   obtain ⟨c23, H⟩ := ifS_ H
   have c23b0 := eq_true c23
   have c23b1 : decide (0 ≤ (ji22)) = true := decide_eq_true c23
   clear c23
   obtain ⟨c24, H⟩ := ifS_ H
   have c24b0 := eq_true c24
   have c24b1 : decide ((ji22) ≤ (t337.size : Int)) = true := decide_eq_true c24
   clear c24
   obtain ⟨c25, H⟩ := ifS_ H
   have c25b0 := eq_true c25
   have c25b1 : decide (((t337.extract 0 (t340 : Int).toNat) ++ (rdOf ByteArray.empty y342 t345)).size + (t337.extract ((ji22) : Int).toNat t337.size).size ≤ 9223372036854775807) = true := decide_eq_true c25
   try have c25b2 : (9223372036854775807 < ((t337.extract 0 (t340 : Int).toNat) ++ (rdOf ByteArray.empty y342 t345)).size + (t337.extract ((ji22) : Int).toNat t337.size).size) = False := eq_false (Nat.not_lt.2 c25)
   (try (have c25b3 := c25b2; simp only [ByteArray.size_append] at c25b3))
   have H' := Aside0.mk H; clear H
   try go_wp2_with (first | ((with_reducible refine gate_callee (f := 28) rfl ?_); refine gL_ (some 22) Tryd.func28 #[.pointer (some ⟨g328, 0, none⟩), .int .i64 (t337.size : Int)] ?_; (with_reducible refine (spec_l1Rd_below.calls g328 t326 t339 (t337.size : Int) t340 t341 w _ ?side1 ?side2 A14.out).mono ?_); (case side1 => repeat (first | (with_reducible first | exact HI328.out | apply IsS60.alloc | apply IsS60.drewN | apply IsS60.drew | apply IsS60.set_1) | exact HI328.out)); (case side2 => repeat (first | (with_reducible first | exact HB.out | apply below_alloc | apply pw_below_drewN | apply below_drew1 | refine below_set ?_ (IsS60.ge HI328.out)) | exact HB.out)); rintro e w26 ⟨rfl, hi, hb, hk⟩; refine ⟨_, rfl, ?_⟩; replace HB := Aside0.mk (hb); replace HI328 := Aside0.mk (hi); (try clear hb); (try clear hb2); (try clear hk); (try clear hi)))
   have pi347 : (0 ≤ (t345 : Int)) = True := eq_true dA_
   have qi347 : (t345 < (y342.length : Int)) = True := eq_true dA_
   replace HI328 := Aside0.mk (IsS60.drew HI328.out)
   replace HB := Aside0.mk (below_drew1 HB.out)
   refine start_ (n := 17) (S := fun w' => True) (ds := []) #[false, false, false, false, false, false, false, false, false, false, false, false, false, false, false, false, false] (by kernel_rfl) rfl rfl trivial (fun hHeld => ?_); refine with_tabW spec_DrawReadPhrase.tab6 spec_DrawReadPhrase.bits6 (fun HT_ HW_ => ?_)
   generalize w26.drew = w27 at HI328 HB hHeld ⊢
   refine pT_ 0 (some 23) #[true, false, false, false, false, false, false, false, false, false, false, false, false, false, false, false, false] HT_ ?_
   refine pT_ 1 (some 24) #[true, true, false, false, false, false, false, false, false, false, false, false, false, false, false, false, false] HT_ ?_
   refine pT_ 4 (some 27) #[true, true, false, false, true, false, false, false, false, false, false, false, false, false, false, false, false] HT_ ?_
   refine pT_ 9 (some 32) #[true, true, false, false, true, false, false, false, false, true, false, false, false, false, false, false, false] HT_ ?_
   refine pT_ 10 (some 33) #[true, true, false, false, true, false, false, false, false, true, true, false, false, false, false, false, false] HT_ ?_
   refine pT_ 11 (some 34) #[true, true, false, false, true, false, false, false, false, true, true, true, false, false, false, false, false] HT_ ?_
   refine inv_at [2, 3, 5, 6, 7, 8, 12, 13, 14, 15, 16] (fun a0_ b a w' => ∃ (v343 : Value) (adz_v343 : Addr) (m6_ : Value), a = putSel a0_ b [(2, 25, .string (t337.extract 0 (t340 : Int).toNat)), (3, 26, v343), (5, 28, .int .i64 t345), (6, 29, m6_), (7, 30, .string (rdOf ByteArray.empty y342 t345)), (8, 31, .string ((t337.extract 0 (t340 : Int).toNat) ++ (rdOf ByteArray.empty y342 t345))), (12, 35, .int .i64 t348), (13, 36, .int .i64 ji22), (14, 37, .string (t337.extract ((ji22) : Int).toNat t337.size)), (15, 38, .string (((t337.extract 0 (t340 : Int).toNat) ++ (rdOf ByteArray.empty y342 t345)) ++ (t337.extract ((ji22) : Int).toNat t337.size))), (16, 6, .string (((t337.extract 0 (t340 : Int).toNat) ++ (rdOf ByteArray.empty y342 t345)) ++ (t337.extract ((ji22) : Int).toNat t337.size)))] ∧ (b 5 = false → IsS60 w w' g328 t326 t341) ∧ (Below w.heap.size w w') ∧ (b 3 = true → Kd.R Kd.string 9 w' w.heap.size (fun _ => True) v343 y342) ∧ (b 3 = true → ∃ c_, (v343 : Value) = .slice (some adz_v343) y342.length c_) ∧ (b 5 = true → b 12 = false → IsS60 w w' g328 t326 t346) ∧ (b 12 = true → IsS60 w w' g328 t326 t349) ∧ (b 6 = true → (m6_ : Value) = .pointer (some (adz_v343.add (t345).toNat)))) HT_.out HW_.out (by kernel_rfl) (by kernel_rfl) ?_ ?_ ?_
   ·exact ⟨.bool false, ⟨0, 0, none⟩, .bool false, by simp only [putSel, Bool.false_eq_true, if_false], fun _ => HI328.out, HB.out, fun h_ => absurd h_ (by decide), fun h_ => absurd h_ (by decide), fun h_ => absurd h_ (by decide), fun h_ => absurd h_ (by decide), fun h_ => absurd h_ (by decide)⟩
   ·skip
    clear HB HI328
    refine steps_cons ?_ ?_
    ·rintro b a w' ⟨v343, adz_v343, m6_, ha, Q_HI328, Q_HB, Q_HO344, Q_HA_HO344, Q_HI328_e5, Q_HI328_e12, Q_X6_⟩ hb_ hon hoff
     refine ⟨_, rfl, fun K hK => ?_⟩
     have e23 : a.tmps[23]? = some (.string t337) := by rw [ha]; exact (putSel_off rfl).trans rfl
     have e24 : a.tmps[24]? = some (.int .i64 t340) := by rw [ha]; exact (putSel_off rfl).trans rfl
     replace ha := Aside0.mk ha; have HB := Aside0.mk Q_HB
     refine value_ (w1 := w') (v := .string (t337.extract 0 (t340 : Int).toNat)) (by rfl) rfl ?_ ?_
     ·go_simp
      (try simp only [i64_w])
      try rfl
     refine hK.out _ _ ⟨v343, adz_v343, m6_, (by rw [ha.out]; exact putSel_upk 0 hb_ rfl rfl rfl), Q_HI328, Q_HB, Q_HO344, Q_HA_HO344, Q_HI328_e5, Q_HI328_e12, Q_X6_⟩
    refine steps_cons ?_ ?_
    ·rintro b a w' ⟨v343, adz_v343, m6_, ha, Q_HI328, Q_HB, Q_HO344, Q_HA_HO344, Q_HI328_e5, Q_HI328_e12, Q_X6_⟩ hb_ hon hoff
     refine ⟨_, rfl, fun K hK => ?_⟩
     replace ha := Aside0.mk ha; have HB := Aside0.mk Q_HB
     refine Kd.R_lit_step Kd.string _ 9 ?hg (N := 26) ?hd (xs := ([(⟨#[48]⟩ : ByteArray), (⟨#[32]⟩ : ByteArray), (⟨#[49]⟩ : ByteArray), (⟨#[46]⟩ : ByteArray), (⟨#[115]⟩ : ByteArray), (⟨#[]⟩ : ByteArray)] : List ByteArray)) (inner := [.string (⟨#[48]⟩ : ByteArray), .string (⟨#[32]⟩ : ByteArray), .string (⟨#[49]⟩ : ByteArray), .string (⟨#[46]⟩ : ByteArray), .string (⟨#[115]⟩ : ByteArray), .string (⟨#[]⟩ : ByteArray)]) (ok := fun _ => True) (okp := fun _ => True) ?hr ?hp (fun _ hk => hk) trivial (Below.refl _ _) (Nat.le_refl _) (by simp) ?_; (case hd => rfl); (case hg => rfl); (case hr => first | (go_simp; done) | (go_simp; rfl)); (case hp => exact (Reps.one (show Kd.M Kd.string _ _ _ (⟨#[48]⟩ : ByteArray) [.string (⟨#[48]⟩ : ByteArray)] from rfl) (Reps.one (show Kd.M Kd.string _ _ _ (⟨#[32]⟩ : ByteArray) [.string (⟨#[32]⟩ : ByteArray)] from rfl) (Reps.one (show Kd.M Kd.string _ _ _ (⟨#[49]⟩ : ByteArray) [.string (⟨#[49]⟩ : ByteArray)] from rfl) (Reps.one (show Kd.M Kd.string _ _ _ (⟨#[46]⟩ : ByteArray) [.string (⟨#[46]⟩ : ByteArray)] from rfl) (Reps.one (show Kd.M Kd.string _ _ _ (⟨#[115]⟩ : ByteArray) [.string (⟨#[115]⟩ : ByteArray)] from rfl) (Reps.one (show Kd.M Kd.string _ _ _ (⟨#[]⟩ : ByteArray) [.string (⟨#[]⟩ : ByteArray)] from rfl) (Reps.none _ _))))))))
     intro v343 w28 ho29 hb hg_ hnew_
     clear hg_ hnew_
     (first | rw [← Ny342.out] at ho29 | (simp only [Int.reduceToNat] at ho29; rw [← Ny342.out] at ho29))
     have n0_ := rL_ ho29 HB; have n2_ := bS_ HB hb
     have z_HI328 := fun (h0_ : b 5 = false) => (show IsS60 w w28 g328 t326 t341 from by first | exact (IsS60.below (by repeat (first | (with_reducible first | exact (Q_HI328 h0_) | apply IsS60.alloc | apply IsS60.drewN | apply IsS60.drew | apply IsS60.set_1) | exact (Q_HI328 h0_))) hb))
     have z_HI328_e5 := fun (h0_ : b 5 = true) (h1_ : b 12 = false) => (show IsS60 w w28 g328 t326 t346 from by first | exact (IsS60.below (by repeat (first | (with_reducible first | exact (Q_HI328_e5 h0_ h1_) | apply IsS60.alloc | apply IsS60.drewN | apply IsS60.drew | apply IsS60.set_1) | exact (Q_HI328_e5 h0_ h1_))) hb))
     have z_HI328_e12 := fun (h0_ : b 12 = true) => (show IsS60 w w28 g328 t326 t349 from by first | exact (IsS60.below (by repeat (first | (with_reducible first | exact (Q_HI328_e12 h0_) | apply IsS60.alloc | apply IsS60.drewN | apply IsS60.drew | apply IsS60.set_1) | exact (Q_HI328_e12 h0_))) hb))
     clear HB; have HO344 := n0_; have HB := n2_; clear n0_ n2_ hb ho29
     obtain ⟨Ao30, co30, eo30⟩ := Kd.R_slice HO344.out
     subst eo30
     obtain ⟨ado30, fo30, _⟩ := Kd.at_string (Kd.R_reads' HO344.out).2.2 0 (by decide) (by rw [Ny342.out]; simp)
     cases fo30
     refine hK.out _ _ ⟨.slice (some ado30) y342.length co30, ado30, m6_, (by rw [ha.out]; exact putSel_upk 1 hb_ rfl rfl rfl), z_HI328, sABelo_12, fun _ => (rT_ HO344), fun _ => ⟨_, rfl⟩, z_HI328_e5, z_HI328_e12, fun h0_ => absurd ((hoff 6 (by kernel_rfl)).symm.trans h0_) (by decide)⟩
    refine steps_cons ?_ ?_
    ·rintro b a w' ⟨v343, adz_v343, m6_, ha, Q_HI328, Q_HB, Q_HO344, Q_HA_HO344, Q_HI328_e5, Q_HI328_e12, Q_X6_⟩ hb_ hon hoff
     refine ⟨_, rfl, fun K hK => ?_⟩
     have e27 : a.tmps[27]? = some (.pointer (some ⟨g328, 0, none⟩)) := by rw [ha]; exact (putSel_off rfl).trans rfl
     replace ha := Aside0.mk ha
     have HI328 := Aside0.mk (Q_HI328 hb_)
     have HB := Aside0.mk Q_HB
     refine goes_ Tryd.func28 (by kernel_rfl) rfl #[.pointer (some ⟨g328, 0, none⟩), .int .i64 6] (by rfl) rfl rfl (by first | (simp only [List.map_toArray, List.map_cons, List.map_nil, Act.eval, Array.getD_eq_getD_getElem?, Option.getD_some, e27]; done) | (simp only [List.map_toArray, List.map_cons, List.map_nil, Act.eval, Array.getD_eq_getD_getElem?, Option.getD_some, e27]; rfl)) ?_
     with_reducible refine (spec_l1Rd_below.calls g328 t326 t341 6 t345 t346 w _ ?side1 ?side2 A17.out).mono ?_
     (case side1 => repeat (first | (with_reducible first | exact HI328.out | apply IsS60.alloc | apply IsS60.drewN | apply IsS60.drew | apply IsS60.set_1) | exact HI328.out))
     (case side2 => repeat (first | (with_reducible first | exact HB.out | apply below_alloc | apply pw_below_drewN | apply below_drew1 | refine below_set ?_ (IsS60.ge HI328.out)) | exact HB.out))
     rintro e w28 ⟨rfl, hi, hb, hk⟩
     refine ⟨_, rfl, ?_⟩
     have n0_ := Aside0.mk (hb)
     have n1_ := Aside0.mk (hi)
     have z_HO344 := fun (h0_ : b 3 = true) => (show Kd.R Kd.string 9 w28 w.heap.size (fun _ => True) v343 y342 from by first | exact (Kd.R_mono (Kd.R_keep (IsS60.apart (show IsS60 w _ g328 t326 t341 from sAIsS60_12) (by (with_reducible repeat (first | apply Kd.R_alloc | apply Kd.R_drewN | apply Kd.R_drew)); exact (Q_HO344 h0_)) (by decide)) hk (fun _ h => h.2)) (fun _ h => h.1)) | exact Kd.R_mono (Kd.R_mono (Kd.R_keep (IsS60.apart (show IsS60 w _ g328 t326 t341 from sAIsS60_12) (by (with_reducible repeat (first | apply Kd.R_alloc | apply Kd.R_drewN | apply Kd.R_drew)); exact (Q_HO344 h0_)) (by decide)) hk (fun _ h => h.2)) (fun _ h => h.1)) (fun _ h_ => by first | trivial | exact h_ | exact h_.1))
     clear HB HI328; have HB := n0_; have HI328 := n1_; clear n0_ n1_; (try clear hb); (try clear hb2); (try clear hk); (try clear hi)
     refine hK.out _ _ ⟨v343, adz_v343, m6_, (by rw [ha.out]; exact putSel_upk 2 hb_ rfl rfl rfl), fun h0_ => absurd ((up_self b 5).symm.trans h0_) (by decide), sABelo_12, z_HO344, Q_HA_HO344, fun _ _ => sAIsS60_12, fun h0_ => absurd ((hoff 12 (by kernel_rfl)).symm.trans h0_) (by decide), fun h0_ => absurd ((hoff 6 (by kernel_rfl)).symm.trans h0_) (by decide)⟩
    refine steps_cons ?_ ?_
    ·rintro b a w' ⟨v343, adz_v343, m6_, ha, Q_HI328, Q_HB, Q_HO344, Q_HA_HO344, Q_HI328_e5, Q_HI328_e12, Q_X6_⟩ hb_ hon hoff
     refine ⟨_, rfl, fun K hK => ?_⟩
     have e26 : a.tmps[26]? = some (v343) := by rw [ha]; exact putSel_on (e := (3, 26, v343)) 1 rfl rfl (hon 3 (by kernel_rfl)) rfl
     have e28 : a.tmps[28]? = some (.int .i64 t345) := by rw [ha]; exact putSel_on (e := (5, 28, .int .i64 t345)) 2 rfl rfl (hon 5 (by kernel_rfl)) rfl
     replace ha := Aside0.mk ha; have HB := Aside0.mk Q_HB
     have HO344 := Aside0.mk (Q_HO344 (hon 3 (by kernel_rfl)))
     have HA_HO344 := Aside0.mk (Q_HA_HO344 (hon 3 (by kernel_rfl)))
     obtain ⟨c_, hv_⟩ := HA_HO344.out
     rw [hv_] at e26
     refine value_ (w1 := w') (v := .pointer (some (adz_v343.add (t345).toNat))) (by rfl) rfl ?_ ?_
     ·go_simp
      (try simp only [i64_w])
      try rfl
     refine hK.out _ _ ⟨v343, adz_v343, (.pointer (some (adz_v343.add (t345).toNat))), (by rw [ha.out]; exact putSel_upk 3 hb_ rfl rfl rfl), fun h0_ => absurd ((hon 5 (by kernel_rfl)).symm.trans h0_) (by decide), Q_HB, Q_HO344, Q_HA_HO344, Q_HI328_e5, Q_HI328_e12, fun _ => rfl⟩
    refine steps_cons ?_ ?_
    ·rintro b a w' ⟨v343, adz_v343, m6_, ha, Q_HI328, Q_HB, Q_HO344, Q_HA_HO344, Q_HI328_e5, Q_HI328_e12, Q_X6_⟩ hb_ hon hoff
     refine ⟨_, rfl, fun K hK => ?_⟩
     have e29 : a.tmps[29]? = some (m6_) := by rw [ha]; exact putSel_on (e := (6, 29, m6_)) 3 rfl rfl (hon 6 (by kernel_rfl)) rfl
     rw [Q_X6_ (hon 6 (by kernel_rfl))] at e29
     replace ha := Aside0.mk ha; have HB := Aside0.mk Q_HB
     have HO344 := Aside0.mk (Q_HO344 (hon 3 (by kernel_rfl)))
     have HA_HO344 := Aside0.mk (Q_HA_HO344 (hon 3 (by kernel_rfl)))
     obtain ⟨c_, hv_⟩ := HA_HO344.out
     have hF_ := HO344.out
     rw [hv_] at hF_
     obtain ⟨ad_, ea_, hx_⟩ := Kd.at_string (Kd.R_reads' hF_).2.2 t345 (of_eq_true pi347) (of_eq_true qi347)
     cases ea_
     refine value_ (w1 := w') (v := .string (rdOf ByteArray.empty y342 t345)) (by rfl) rfl ?_ ?_
     ·go_simp
      (try simp only [i64_w])
      try rfl
     refine hK.out _ _ ⟨v343, adz_v343, m6_, (by rw [ha.out]; exact putSel_upk 4 hb_ rfl rfl rfl), fun h0_ => absurd ((hon 5 (by kernel_rfl)).symm.trans h0_) (by decide), Q_HB, Q_HO344, Q_HA_HO344, Q_HI328_e5, Q_HI328_e12, Q_X6_⟩
    refine steps_cons ?_ ?_
    ·rintro b a w' ⟨v343, adz_v343, m6_, ha, Q_HI328, Q_HB, Q_HO344, Q_HA_HO344, Q_HI328_e5, Q_HI328_e12, Q_X6_⟩ hb_ hon hoff
     refine ⟨_, rfl, fun K hK => ?_⟩
     have e25 : a.tmps[25]? = some (.string (t337.extract 0 (t340 : Int).toNat)) := by rw [ha]; exact putSel_on (e := (2, 25, .string (t337.extract 0 (t340 : Int).toNat))) 0 rfl rfl (hon 2 (by kernel_rfl)) rfl
     have e30 : a.tmps[30]? = some (.string (rdOf ByteArray.empty y342 t345)) := by rw [ha]; exact putSel_on (e := (7, 30, .string (rdOf ByteArray.empty y342 t345))) 4 rfl rfl (hon 7 (by kernel_rfl)) rfl
     replace ha := Aside0.mk ha; have HB := Aside0.mk Q_HB
     have HO344 := Aside0.mk (Q_HO344 (hon 3 (by kernel_rfl)))
     have HA_HO344 := Aside0.mk (Q_HA_HO344 (hon 3 (by kernel_rfl)))
     refine value_ (w1 := w') (v := .string ((t337.extract 0 (t340 : Int).toNat) ++ (rdOf ByteArray.empty y342 t345))) (by rfl) rfl ?_ ?_
     ·go_simp
      (try simp only [i64_w])
      try first | rfl | (have q_ := c20; simp only [ByteArray.size_append, ByteArray.size_extract, Nat.sub_zero] at q_; have q0_ := of_eq_true c16b0; omega)
     refine hK.out _ _ ⟨v343, adz_v343, m6_, (by rw [ha.out]; exact putSel_upk 5 hb_ rfl rfl rfl), fun h0_ => absurd ((hon 5 (by kernel_rfl)).symm.trans h0_) (by decide), Q_HB, Q_HO344, Q_HA_HO344, Q_HI328_e5, Q_HI328_e12, Q_X6_⟩
    refine steps_cons ?_ ?_
    ·rintro b a w' ⟨v343, adz_v343, m6_, ha, Q_HI328, Q_HB, Q_HO344, Q_HA_HO344, Q_HI328_e5, Q_HI328_e12, Q_X6_⟩ hb_ hon hoff
     refine ⟨_, rfl, fun K hK => ?_⟩
     have e34 : a.tmps[34]? = some (.pointer (some ⟨g328, 0, none⟩)) := by rw [ha]; exact (putSel_off rfl).trans rfl
     replace ha := Aside0.mk ha; have HB := Aside0.mk Q_HB
     have HI328 := Aside0.mk (Q_HI328_e5 (hon 5 (by kernel_rfl)) hb_)
     refine goes_ Tryd.func28 (by kernel_rfl) rfl #[.pointer (some ⟨g328, 0, none⟩), .int .i64 2] (by rfl) rfl rfl (by first | (simp only [List.map_toArray, List.map_cons, List.map_nil, Act.eval, Array.getD_eq_getD_getElem?, Option.getD_some, e34]; done) | (simp only [List.map_toArray, List.map_cons, List.map_nil, Act.eval, Array.getD_eq_getD_getElem?, Option.getD_some, e34]; rfl)) ?_
     with_reducible refine (spec_l1Rd_below.calls g328 t326 t346 2 t348 t349 w _ ?side1 ?side2 A21.out).mono ?_
     (case side1 => repeat (first | (with_reducible first | exact HI328.out | apply IsS60.alloc | apply IsS60.drewN | apply IsS60.drew | apply IsS60.set_1) | exact HI328.out))
     (case side2 => repeat (first | (with_reducible first | exact HB.out | apply below_alloc | apply pw_below_drewN | apply below_drew1 | refine below_set ?_ (IsS60.ge HI328.out)) | exact HB.out))
     rintro e w30 ⟨rfl, hi, hb, hk⟩
     refine ⟨_, rfl, ?_⟩
     have n0_ := Aside0.mk (hb)
     have n1_ := Aside0.mk (hi)
     have z_HO344 := fun (h0_ : b 3 = true) => (show Kd.R Kd.string 9 w30 w.heap.size (fun _ => True) v343 y342 from by first | exact (Kd.R_mono (Kd.R_keep (IsS60.apart (show IsS60 w _ g328 t326 t346 from sAIsS60_12) (by (with_reducible repeat (first | apply Kd.R_alloc | apply Kd.R_drewN | apply Kd.R_drew)); exact (Q_HO344 h0_)) (by decide)) hk (fun _ h => h.2)) (fun _ h => h.1)) | exact Kd.R_mono (Kd.R_mono (Kd.R_keep (IsS60.apart (show IsS60 w _ g328 t326 t346 from sAIsS60_12) (by (with_reducible repeat (first | apply Kd.R_alloc | apply Kd.R_drewN | apply Kd.R_drew)); exact (Q_HO344 h0_)) (by decide)) hk (fun _ h => h.2)) (fun _ h => h.1)) (fun _ h_ => by first | trivial | exact h_ | exact h_.1))
     clear HB HI328; have HB := n0_; have HI328 := n1_; clear n0_ n1_; (try clear hb); (try clear hb2); (try clear hk); (try clear hi)
     refine hK.out _ _ ⟨v343, adz_v343, m6_, (by rw [ha.out]; exact putSel_upk 6 hb_ rfl rfl rfl), fun h0_ => absurd ((hon 5 (by kernel_rfl)).symm.trans h0_) (by decide), sABelo_12, z_HO344, Q_HA_HO344, fun _ h1_ => absurd ((up_self b 12).symm.trans h1_) (by decide), fun _ => sAIsS60_12, Q_X6_⟩
    refine steps_cons ?_ ?_
    ·rintro b a w' ⟨v343, adz_v343, m6_, ha, Q_HI328, Q_HB, Q_HO344, Q_HA_HO344, Q_HI328_e5, Q_HI328_e12, Q_X6_⟩ hb_ hon hoff
     refine ⟨_, rfl, fun K hK => ?_⟩
     have e33 : a.tmps[33]? = some (.int .i64 t340) := by rw [ha]; exact (putSel_off rfl).trans rfl
     have e35 : a.tmps[35]? = some (.int .i64 t348) := by rw [ha]; exact putSel_on (e := (12, 35, .int .i64 t348)) 6 rfl rfl (hon 12 (by kernel_rfl)) rfl
     replace ha := Aside0.mk ha; have HB := Aside0.mk Q_HB
     have HI328 := Aside0.mk (Q_HI328_e12 (hon 12 (by kernel_rfl)))
     refine value_ (w1 := w') (v := .int .i64 ji22) (by rfl) rfl ?_ ?_
     ·go_simp
      (try simp only [i64_w])
      try rfl
     refine hK.out _ _ ⟨v343, adz_v343, m6_, (by rw [ha.out]; exact putSel_upk 7 hb_ rfl rfl rfl), fun h0_ => absurd ((hon 5 (by kernel_rfl)).symm.trans h0_) (by decide), Q_HB, Q_HO344, Q_HA_HO344, fun _ h1_ => absurd ((hon 12 (by kernel_rfl)).symm.trans h1_) (by decide), Q_HI328_e12, Q_X6_⟩
    refine steps_cons ?_ ?_
    ·rintro b a w' ⟨v343, adz_v343, m6_, ha, Q_HI328, Q_HB, Q_HO344, Q_HA_HO344, Q_HI328_e5, Q_HI328_e12, Q_X6_⟩ hb_ hon hoff
     refine ⟨_, rfl, fun K hK => ?_⟩
     have e32 : a.tmps[32]? = some (.string t337) := by rw [ha]; exact (putSel_off rfl).trans rfl
     have e36 : a.tmps[36]? = some (.int .i64 ji22) := by rw [ha]; exact putSel_on (e := (13, 36, .int .i64 ji22)) 7 rfl rfl (hon 13 (by kernel_rfl)) rfl
     replace ha := Aside0.mk ha; have HB := Aside0.mk Q_HB
     have HI328 := Aside0.mk (Q_HI328_e12 (hon 12 (by kernel_rfl)))
     refine value_ (w1 := w') (v := .string (t337.extract ((ji22) : Int).toNat t337.size)) (by rfl) rfl ?_ ?_
     ·go_simp
      (try simp only [i64_w])
      try rfl
     refine hK.out _ _ ⟨v343, adz_v343, m6_, (by rw [ha.out]; exact putSel_upk 8 hb_ rfl rfl rfl), fun h0_ => absurd ((hon 5 (by kernel_rfl)).symm.trans h0_) (by decide), Q_HB, Q_HO344, Q_HA_HO344, fun _ h1_ => absurd ((hon 12 (by kernel_rfl)).symm.trans h1_) (by decide), Q_HI328_e12, Q_X6_⟩
    refine steps_cons ?_ ?_
    ·rintro b a w' ⟨v343, adz_v343, m6_, ha, Q_HI328, Q_HB, Q_HO344, Q_HA_HO344, Q_HI328_e5, Q_HI328_e12, Q_X6_⟩ hb_ hon hoff
     refine ⟨_, rfl, fun K hK => ?_⟩
     have e31 : a.tmps[31]? = some (.string ((t337.extract 0 (t340 : Int).toNat) ++ (rdOf ByteArray.empty y342 t345))) := by rw [ha]; exact putSel_on (e := (8, 31, .string ((t337.extract 0 (t340 : Int).toNat) ++ (rdOf ByteArray.empty y342 t345)))) 5 rfl rfl (hon 8 (by kernel_rfl)) rfl
     have e37 : a.tmps[37]? = some (.string (t337.extract ((ji22) : Int).toNat t337.size)) := by rw [ha]; exact putSel_on (e := (14, 37, .string (t337.extract ((ji22) : Int).toNat t337.size))) 8 rfl rfl (hon 14 (by kernel_rfl)) rfl
     replace ha := Aside0.mk ha; have HB := Aside0.mk Q_HB
     have HO344 := Aside0.mk (Q_HO344 (hon 3 (by kernel_rfl)))
     have HA_HO344 := Aside0.mk (Q_HA_HO344 (hon 3 (by kernel_rfl)))
     have HI328 := Aside0.mk (Q_HI328_e12 (hon 12 (by kernel_rfl)))
     refine value_ (w1 := w') (v := .string (((t337.extract 0 (t340 : Int).toNat) ++ (rdOf ByteArray.empty y342 t345)) ++ (t337.extract ((ji22) : Int).toNat t337.size))) (by rfl) rfl ?_ ?_
     ·go_simp
      (try simp only [i64_w])
      try first | rfl | (have q_ := c25; simp only [ByteArray.size_append, ByteArray.size_extract, Nat.sub_zero] at q_; have q0_ := of_eq_true c16b0; have q1_ := of_eq_true c24b0; omega)
     refine hK.out _ _ ⟨v343, adz_v343, m6_, (by rw [ha.out]; exact putSel_upk 9 hb_ rfl rfl rfl), fun h0_ => absurd ((hon 5 (by kernel_rfl)).symm.trans h0_) (by decide), Q_HB, Q_HO344, Q_HA_HO344, fun _ h1_ => absurd ((hon 12 (by kernel_rfl)).symm.trans h1_) (by decide), Q_HI328_e12, Q_X6_⟩
    refine steps_cons ?_ ?_
    ·rintro b a w' ⟨v343, adz_v343, m6_, ha, Q_HI328, Q_HB, Q_HO344, Q_HA_HO344, Q_HI328_e5, Q_HI328_e12, Q_X6_⟩ hb_ hon hoff
     refine ⟨_, rfl, fun K hK => ?_⟩
     have e38 : a.tmps[38]? = some (.string (((t337.extract 0 (t340 : Int).toNat) ++ (rdOf ByteArray.empty y342 t345)) ++ (t337.extract ((ji22) : Int).toNat t337.size))) := by rw [ha]; exact putSel_on (e := (15, 38, .string (((t337.extract 0 (t340 : Int).toNat) ++ (rdOf ByteArray.empty y342 t345)) ++ (t337.extract ((ji22) : Int).toNat t337.size)))) 9 rfl rfl (hon 15 (by kernel_rfl)) rfl
     replace ha := Aside0.mk ha; have HB := Aside0.mk Q_HB
     have HO344 := Aside0.mk (Q_HO344 (hon 3 (by kernel_rfl)))
     have HA_HO344 := Aside0.mk (Q_HA_HO344 (hon 3 (by kernel_rfl)))
     have HI328 := Aside0.mk (Q_HI328_e12 (hon 12 (by kernel_rfl)))
     refine value_ (w1 := w') (v := .string (((t337.extract 0 (t340 : Int).toNat) ++ (rdOf ByteArray.empty y342 t345)) ++ (t337.extract ((ji22) : Int).toNat t337.size))) (by rfl) rfl ?_ ?_
     ·go_simp
      (try simp only [i64_w])
      try first | rfl | (have q_ := c25; simp only [ByteArray.size_append, ByteArray.size_extract, Nat.sub_zero] at q_; have q0_ := of_eq_true c16b0; have q1_ := of_eq_true c24b0; omega)
     refine hK.out _ _ ⟨v343, adz_v343, m6_, (by rw [ha.out]; exact putSel_upk 10 hb_ rfl rfl rfl), fun h0_ => absurd ((hon 5 (by kernel_rfl)).symm.trans h0_) (by decide), Q_HB, Q_HO344, Q_HA_HO344, fun _ h1_ => absurd ((hon 12 (by kernel_rfl)).symm.trans h1_) (by decide), Q_HI328_e12, Q_X6_⟩
    exact steps_nil
   rintro b a w33 hall ⟨v343, adz_v343, m6_, ha, Q_HI328, Q_HB, Q_HO344, Q_HA_HO344, Q_HI328_e5, Q_HI328_e12, Q_X6_⟩
   clear HB HI328
   have hb2_ := hall 2 (by kernel_rfl)
   have hb3_ := hall 3 (by kernel_rfl)
   have hb5_ := hall 5 (by kernel_rfl)
   have hb6_ := hall 6 (by kernel_rfl)
   have hb7_ := hall 7 (by kernel_rfl)
   have hb8_ := hall 8 (by kernel_rfl)
   have hb12_ := hall 12 (by kernel_rfl)
   have hb13_ := hall 13 (by kernel_rfl)
   have hb14_ := hall 14 (by kernel_rfl)
   have hb15_ := hall 15 (by kernel_rfl)
   have hb16_ := hall 16 (by kernel_rfl)
   subst ha
   obtain rfl := Q_X6_ hb6_
   simp only [putSel, hb2_, hb3_, hb5_, hb6_, hb7_, hb8_, hb12_, hb13_, hb14_, hb15_, hb16_, if_true, Act.put, List.setIfInBounds_toArray, List.set_cons_zero, List.set_cons_succ]
   clear Q_HI328; have HB := Aside0.mk Q_HB; clear Q_HB
   have HO344 := Aside0.mk (Q_HO344 hb3_)
   clear Q_HO344
   have HA_HO344 := Aside0.mk (Q_HA_HO344 hb3_)
   clear Q_HA_HO344 Q_HI328_e5
   have HI328 := Aside0.mk (Q_HI328_e12 hb12_)
   clear Q_HI328_e12 hall hb2_ hb3_ hb5_ hb6_ hb7_ hb8_ hb12_ hb13_ hb14_ hb15_ hb16_
   obtain ⟨co34, eo34⟩ := HA_HO344.out
   clear HA_HO344
   subst eo34
   try go_wp2
   (try subst hji22)
   go_meet
   case rel => exact ⟨_, (((t337.extract 0 (t340 : Int).toNat) ++ (rdOf ByteArray.empty y342 t345)) ++ (t337.extract (((wrap64 (t340 + t348))) : Int).toNat t337.size)), (t349), (by first | rfl | (simp; done) | (simp only [← hji22] <;> (first | rfl | simp)) | (simp [*]; done)), H', ⟨by first | omega | exact Nat.le_refl _⟩, ⟨sAIsS60_12⟩, ⟨sABelo_12⟩⟩
  ·replace c13 := Bool.eq_false_iff.mpr c13
   subst c13
   replace H := ifF_ H; have H' := Aside0.mk H; clear H
   go_wp2
   go_meet
   case rel => exact ⟨_, (t337), (t339), (by first | rfl | (simp; done) | (simp [*]; done)), H', ⟨by first | omega | exact Nat.le_refl _⟩, ⟨sAIsS60_12⟩, ⟨sABelo_12⟩⟩
 case rest =>
  clear HC7
  obtain ⟨kq, x6_6, x329001_6, rfl, HA, HJ6, HI328, HB⟩ := hcut
  cases kq with
  | zero => exact absurd HA.out (by simp [spec_DrawReadPhrase.j0])
  | succ kj6 =>
   have H := HA.out; clear HA
   simp only [spec_DrawReadPhrase.j0] at H
   replace H := Option.bind_eq_some_iff.mp H
   obtain ⟨⟨t350, t351⟩, A350, H⟩ := H
   replace H : (if t350 = true then ((spec_l1Rd_below.f t326 t351 5).bind fun bt352 => (some (x6_6, bt352.1))) else (some (x6_6, (wrap64 (1 + t329))))) = some (r1, r2) := H
   have A35 := Aside0.mk A350; clear A350
   by_cases c36 : t350 = true
   ·subst c36
    replace H := ifT_ H; replace H := Option.bind_eq_some_iff.mp H
    obtain ⟨⟨t352, t353⟩, A370, H⟩ := H
    replace H : (some (x6_6, t352)) = some (r1, r2) := H
    have A37 := Aside0.mk A370; clear A370
    simp only [Option.some.injEq, Prod.mk.injEq] at H
    obtain ⟨rfl, rfl⟩ := H
    go_wp2_with (first | ((with_reducible refine gate_callee (f := 29) rfl ?_); refine gL_ (some 40) Tryd.func29 #[.pointer (some ⟨g328, 0, none⟩), .int .i64 9] ?_; (with_reducible refine (spec_l1Rd_once.calls g328 t326 x329001_6 9 true t351 w _ ?side1 ?side2 A35.out).mono ?_); (case side1 => repeat (first | (with_reducible first | exact HI328.out | apply IsS60.alloc | apply IsS60.drewN | apply IsS60.drew | apply IsS60.set_1) | exact HI328.out)); (case side2 => repeat (first | (with_reducible first | exact HB.out | apply below_alloc | apply pw_below_drewN | apply below_drew1 | refine below_set ?_ (IsS60.ge HI328.out)) | exact HB.out)); rintro e w38 ⟨rfl, hi, hb, hk⟩; refine ⟨_, rfl, ?_⟩; replace HB := Aside0.mk (hb); replace HI328 := Aside0.mk (hi); (try clear hb); (try clear hb2); (try clear hk); (try clear hi)) | ((with_reducible refine gate_callee (f := 28) rfl ?_); refine gL_ (some 42) Tryd.func28 #[.pointer (some ⟨g328, 0, none⟩), .int .i64 5] ?_; (with_reducible refine (spec_l1Rd_below.calls g328 t326 t351 5 t352 t353 w _ ?side1 ?side2 A37.out).mono ?_); (case side1 => repeat (first | (with_reducible first | exact HI328.out | apply IsS60.alloc | apply IsS60.drewN | apply IsS60.drew | apply IsS60.set_1) | exact HI328.out)); (case side2 => repeat (first | (with_reducible first | exact HB.out | apply below_alloc | apply pw_below_drewN | apply below_drew1 | refine below_set ?_ (IsS60.ge HI328.out)) | exact HB.out)); rintro e w39 ⟨rfl, hi, hb, hk⟩; refine ⟨_, rfl, ?_⟩; replace HB := Aside0.mk (hb); replace HI328 := Aside0.mk (hi); (try clear hb); (try clear hb2); (try clear hk); (try clear hi)))
    go_ret2
    exact ⟨by first | rfl | (simp [errW_none, errW_some] <;> rfl) | (simp [*, errW_none, errW_some] <;> rfl), sABelo_12⟩
   ·replace c36 := Bool.eq_false_iff.mpr c36
    subst c36
    replace H := ifF_ H
    simp only [Option.some.injEq, Prod.mk.injEq] at H
    obtain ⟨rfl, rfl⟩ := H
    go_wp2_with (first | ((with_reducible refine gate_callee (f := 29) rfl ?_); refine gL_ (some 40) Tryd.func29 #[.pointer (some ⟨g328, 0, none⟩), .int .i64 9] ?_; (with_reducible refine (spec_l1Rd_once.calls g328 t326 x329001_6 9 false t351 w _ ?side1 ?side2 A35.out).mono ?_); (case side1 => repeat (first | (with_reducible first | exact HI328.out | apply IsS60.alloc | apply IsS60.drewN | apply IsS60.drew | apply IsS60.set_1) | exact HI328.out)); (case side2 => repeat (first | (with_reducible first | exact HB.out | apply below_alloc | apply pw_below_drewN | apply below_drew1 | refine below_set ?_ (IsS60.ge HI328.out)) | exact HB.out)); rintro e w40 ⟨rfl, hi, hb, hk⟩; refine ⟨_, rfl, ?_⟩; replace HB := Aside0.mk (hb); replace HI328 := Aside0.mk (hi); (try clear hb); (try clear hb2); (try clear hk); (try clear hi)))
    go_ret2
    exact ⟨by first | rfl | (simp [errW_none, errW_some] <;> rfl) | (simp [*, errW_none, errW_some] <;> rfl), sABelo_12⟩

end Go.Proofs.YtllkijlmjapleaaDoor.QFnPhrases
