/- What is said in a tongue, plainly: both sides' words. Conditions: the numbers lie where a Say's may lie. -/
import Derived.Test.YtllkijlmjapleaaDoorLib
import Derived.Test.YtllkijlmjapleaaDoorQFnPhrasesx9
import Derived.Test.YtllkijlmjapleaaDoorQFnPhrasesx7
import Derived.Lib.ItoaLen
set_option linter.unusedVariables false
set_option linter.unusedSimpArgs false
namespace Go.Proofs.YtllkijlmjapleaaDoor.QFnPhrases
open Go.RowKit Go.Proofs.YtllkijlmjapleaaDoorW.PrintWords Go.Proofs.YtllkijlmjapleaaDoor.Opn Go.Proofs.YtllkijlmjapleaaDoor.Pl

/-- Bytes as a string. -/
def B (l : List UInt8) : ByteArray := ⟨l.toArray⟩
theorem B_app (a b : List UInt8) : B a ++ B b = B (a ++ b) := by
  apply ByteArray.ext
  rw [ByteArray.data_append]
  simp [B]
theorem B_size (a : List UInt8) : (B a).size = a.length := by simp [B, ByteArray.size]

/-- The digits of a number above 0; none of 0. -/
def digs (u : Nat) : List UInt8 := if u = 0 then [] else Lib.decDigits u
theorem digs_step (u : Nat) (h : 0 < u) : digs u = digs (u / 10) ++ [UInt8.ofNat (48 + u % 10)] := by
  unfold digs
  rw [if_neg (by omega), Lib.decDigits]
  by_cases h1 : u < 10
  · rw [dif_pos h1, if_pos (by omega), Nat.mod_eq_of_lt h1]
    rfl
  · rw [dif_neg h1, if_neg (by omega)]
theorem u64 {n : Int} (h0 : 0 ≤ n) (h1 : n < 18446744073709551616) : IntKind.u64.wrap n = n := by
  have e : n % 18446744073709551616 = n := Int.emod_eq_of_lt h0 h1
  simpa [IntKind.wrap, IntKind.bits, IntKind.signed] using e
theorem digit_ev (x0 : Int) (hx : 0 ≤ x0) : ∀ (u : Nat) (acc : List UInt8), u ≤ 1000000000000 → acc.length + u ≤ 2000000000000 → Ev (fun k => spec_l1Dec.l0 k x0 (B acc) (u : Int)) (B (digs u ++ acc)) := by
  intro u
  induction u using Nat.strongRecOn with
  | _ u ih =>
    intro acc hu ha
    by_cases h0 : u = 0
    · subst h0
      refine Ev.step (f := fun _ => some (B (digs 0 ++ acc))) (fun k => ?_) (Ev.now _)
      simp only [spec_l1Dec.l0]
      rw [if_neg (by decide), if_neg (by omega)]
      rfl
    · have ht : Int.tmod (u : Int) 10 = ((u % 10 : Nat) : Int) := rfl
      have hd : Int.tdiv (u : Int) 10 = ((u / 10 : Nat) : Int) := rfl
      have hn := ih (u / 10) (by omega) (UInt8.ofNat (48 + u % 10) :: acc) (by omega) (by rw [List.length_cons]; omega)
      rw [digs_step u (by omega), List.append_assoc]
      refine Ev.step (fun k => ?_) hn
      have hs : strOfNums [(IntKind.u64.wrap (48 + Int.tmod (u : Int) 10)) % 256] = B [UInt8.ofNat (48 + u % 10)] := by
        rw [ht, u64 (by omega) (by omega), Int.emod_eq_of_lt (by omega) (by omega)]
        have : (48 + ((u % 10 : Nat) : Int)).toNat = 48 + u % 10 := by omega
        simp only [strOfNums, List.map_cons, List.map_nil, this]
        rfl
      simp only [spec_l1Dec.l0]
      rw [if_pos (by omega)]
      simp only [Option.bind_some]
      rw [hs, if_pos (by rw [B_size, B_size, List.length_singleton]; omega), hd, u64 (by omega) (by omega), B_app]
      rfl
theorem dec_ev (n : Int) (h0 : 0 ≤ n) (h1 : n ≤ 1000000000000) : Ev (fun k => spec_l1Dec.f k n) (B (Lib.itoa n)) := by
  unfold spec_l1Dec.f
  by_cases hz : n = 0
  · subst hz
    rw [show Lib.itoa 0 = [48] by decide +kernel]
    simp only [if_true]
    exact Ev.now (B [48])
  · simp only [if_neg hz, if_neg (show ¬ n < 0 by omega)]
    obtain ⟨u, rfl⟩ : ∃ u : Nat, n = (u : Int) := ⟨n.toNat, by omega⟩
    have h := digit_ev (u : Int) h0 u [] (by omega) (by simp; omega)
    rw [List.append_nil] at h
    have e : Lib.itoa (u : Int) = digs u := by
      unfold Lib.itoa digs
      rw [if_neg (by omega), if_neg (by omega), Int.toNat_natCast]
    rw [e, u64 (by omega) (by omega)]
    exact Ev.step (fun k => by simp only [spec_l1Dec.j0]; rfl) h
theorem implDec (n : Int) (h0 : 0 ≤ n) (h1 : n ≤ 1000000000000) : impl_dec.f n = some (B (Lib.itoa n)) := by
  unfold impl_dec.f
  rw [if_pos ⟨by omega, by omega⟩]
  rfl
theorem dec_len (n : Int) (h0 : 0 ≤ n) (h1 : n ≤ 1000000000000) : (Lib.itoa n).length ≤ 21 := Lib.itoa_length_le n (by omega) (by omega)


/-- A tongue's words. -/
structure Tg where
  calm : List UInt8
  before : List UInt8
  between : List UInt8
  up : List UInt8
  down : List UInt8
  dry : List UInt8
  inn : List UInt8
  one : List UInt8
  many : List UInt8
  dirs : List (List UInt8)
  rains : List (List UInt8)
def tg1 : Tg := { calm := [99, 97, 108, 109], before := [], between := [32], up := [44, 32, 114, 105, 115, 105, 110, 103, 32, 116, 111, 32], down := [44, 32, 102, 97, 108, 108, 105, 110, 103, 32, 116, 111, 32], dry := [100, 114, 121], inn := [32, 105, 110, 32], one := [112, 108, 97, 99, 101], many := [112, 108, 97, 99, 101, 115], dirs := [[], [110, 111, 114, 116, 104, 45, 101, 97, 115, 116], [101, 97, 115, 116], [115, 111, 117, 116, 104, 45, 101, 97, 115, 116], [115, 111, 117, 116, 104], [115, 111, 117, 116, 104, 45, 119, 101, 115, 116], [119, 101, 115, 116], [110, 111, 114, 116, 104, 45, 119, 101, 115, 116], [110, 111, 114, 116, 104]], rains := [[], [114, 97, 105, 110], [115, 110, 111, 119], [104, 97, 105, 108]] }
def tg2 : Tg := { calm := [119, 105, 110, 100, 115, 116, 105, 108, 108], before := [], between := [32, 83, 116, 195, 164, 114, 107, 101, 32], up := [44, 32, 122, 117, 110, 101, 104, 109, 101, 110, 100, 32], down := [44, 32, 97, 98, 110, 101, 104, 109, 101, 110, 100, 32], dry := [116, 114, 111, 99, 107, 101, 110], inn := [32, 97, 110, 32], one := [79, 114, 116], many := [79, 114, 116, 101, 110], dirs := [[], [78, 111, 114, 100, 111, 115, 116], [79, 115, 116], [83, 195, 188, 100, 111, 115, 116], [83, 195, 188, 100], [83, 195, 188, 100, 119, 101, 115, 116], [87, 101, 115, 116], [78, 111, 114, 100, 119, 101, 115, 116], [78, 111, 114, 100]], rains := [[], [82, 101, 103, 101, 110], [83, 99, 104, 110, 101, 101], [72, 97, 103, 101, 108]] }
def tg3 : Tg := { calm := [99, 105, 115, 122, 97], before := [119, 105, 97, 116, 114, 32], between := [44, 32, 115, 105, 197, 130, 97, 32], up := [44, 32, 119, 122, 114, 111, 115, 116, 32, 100, 111, 32], down := [44, 32, 115, 112, 97, 100, 101, 107, 32, 100, 111, 32], dry := [115, 117, 99, 104, 111], inn := [32, 119, 32], one := [109, 105, 101, 106, 115, 99, 117], many := [109, 105, 101, 106, 115, 99, 97, 99, 104], dirs := [[], [112, 195, 179, 197, 130, 110, 111, 99, 110, 111, 45, 119, 115, 99, 104, 111, 100, 110, 105], [119, 115, 99, 104, 111, 100, 110, 105], [112, 111, 197, 130, 117, 100, 110, 105, 111, 119, 111, 45, 119, 115, 99, 104, 111, 100, 110, 105], [112, 111, 197, 130, 117, 100, 110, 105, 111, 119, 121], [112, 111, 197, 130, 117, 100, 110, 105, 111, 119, 111, 45, 122, 97, 99, 104, 111, 100, 110, 105], [122, 97, 99, 104, 111, 100, 110, 105], [112, 195, 179, 197, 130, 110, 111, 99, 110, 111, 45, 122, 97, 99, 104, 111, 100, 110, 105], [112, 195, 179, 197, 130, 110, 111, 99, 110, 121]], rains := [[], [100, 101, 115, 122, 99, 122], [197, 155, 110, 105, 101, 103], [103, 114, 97, 100]] }
def tg (t : Nat) : Tg := if t = 1 then tg1 else if t = 2 then tg2 else tg3
/-- No word is long. -/
def Short (T : Tg) : Prop := (T.calm.length ≤ 100 ∧ T.before.length ≤ 100 ∧ T.between.length ≤ 100 ∧ T.up.length ≤ 100 ∧ T.down.length ≤ 100 ∧ T.dry.length ≤ 100 ∧ T.inn.length ≤ 100 ∧ T.one.length ≤ 100 ∧ T.many.length ≤ 100) ∧ (∀ j, j < 9 → (T.dirs.getD j []).length ≤ 100) ∧ (∀ j, j < 4 → (T.rains.getD j []).length ≤ 100)
theorem short (t : Nat) : Short (tg t) := by
  unfold tg Short
  split
  · decide
  · split
    · decide
    · decide

def windL (T : Tg) (d f : Nat) : List UInt8 := if d = 0 then T.calm else T.before ++ (T.dirs.getD d [] ++ (T.between ++ Lib.itoa (f : Int)))
def laterL (T : Tg) (f l : Nat) : List UInt8 := if l > f then T.up ++ Lib.itoa (l : Int) else if l < f then T.down ++ Lib.itoa (l : Int) else []
def rainL (T : Tg) (r p : Nat) : List UInt8 := if r = 0 then T.dry else T.rains.getD r [] ++ (T.inn ++ (Lib.itoa (p : Int) ++ ([32] ++ (if p = 1 then T.one else T.many))))
theorem b46 : (⟨#[46]⟩ : ByteArray) = B [46] := rfl
theorem b32 : (⟨#[32]⟩ : ByteArray) = B [32] := rfl
theorem b4632 : (⟨#[46, 32]⟩ : ByteArray) = B [46, 32] := rfl
theorem b0 : (⟨#[]⟩ : ByteArray) = B [] := rfl
theorem num_len (n : Nat) (h : n ≤ 1000) : (Lib.itoa (n : Int)).length ≤ 21 := dec_len n (by omega) (by omega)
theorem implNum (n : Nat) (h : n ≤ 1000) : impl_dec.f (n : Int) = some (B (Lib.itoa (n : Int))) := implDec n (by omega) (by omega)
theorem numEv (n : Nat) (h : n ≤ 1000) : Ev (fun k => spec_l1Dec.f k (n : Int)) (B (Lib.itoa (n : Int))) := dec_ev n (by omega) (by omega)
theorem wind_len (T : Tg) (hT : Short T) (d f : Nat) (hd : d ≤ 8) (hf : f ≤ 1000) : (windL T d f).length ≤ 400 := by
  obtain ⟨⟨h1, h2, h3, h4, h5, h6, h7, h8, h9⟩, hds, _⟩ := hT
  have := hds d (by omega)
  have := num_len f hf
  unfold windL
  split
  · omega
  · simp only [List.length_append]; omega
theorem later_len (T : Tg) (hT : Short T) (f l : Nat) (hl : l ≤ 1000) : (laterL T f l).length ≤ 150 := by
  obtain ⟨⟨h1, h2, h3, h4, h5, h6, h7, h8, h9⟩, _, _⟩ := hT
  have := num_len l hl
  unfold laterL
  split
  · simp only [List.length_append]; omega
  · split
    · simp only [List.length_append]; omega
    · simp
theorem rain_len (T : Tg) (hT : Short T) (r p : Nat) (hr : r ≤ 3) (hp : p ≤ 1000) : (rainL T r p).length ≤ 400 := by
  obtain ⟨⟨h1, h2, h3, h4, h5, h6, h7, h8, h9⟩, _, hrs⟩ := hT
  have := hrs r (by omega)
  have := num_len p hp
  unfold rainL
  split
  · omega
  · simp only [List.length_append, List.length_cons, List.length_nil]
    split <;> omega
theorem tgDir (T : Tg) (d : Nat) (h : d ≤ 8) : tgAt (B T.calm) (B T.before) (B T.between) (B T.up) (B T.down) (B T.dry) (B T.inn) (B T.one) (B T.many) (B (T.dirs.getD 0 [])) (B (T.dirs.getD 1 [])) (B (T.dirs.getD 2 [])) (B (T.dirs.getD 3 [])) (B (T.dirs.getD 4 [])) (B (T.dirs.getD 5 [])) (B (T.dirs.getD 6 [])) (B (T.dirs.getD 7 [])) (B (T.dirs.getD 8 [])) (B (T.rains.getD 0 [])) (B (T.rains.getD 1 [])) (B (T.rains.getD 2 [])) (B (T.rains.getD 3 [])) (9 + (d : Int).toNat) = B (T.dirs.getD d []) := by
  have : d = 0 ∨ d = 1 ∨ d = 2 ∨ d = 3 ∨ d = 4 ∨ d = 5 ∨ d = 6 ∨ d = 7 ∨ d = 8 := by omega
  rcases this with rfl | rfl | rfl | rfl | rfl | rfl | rfl | rfl | rfl <;> rfl
theorem tgRain (T : Tg) (r : Nat) (h : r ≤ 3) : tgAt (B T.calm) (B T.before) (B T.between) (B T.up) (B T.down) (B T.dry) (B T.inn) (B T.one) (B T.many) (B (T.dirs.getD 0 [])) (B (T.dirs.getD 1 [])) (B (T.dirs.getD 2 [])) (B (T.dirs.getD 3 [])) (B (T.dirs.getD 4 [])) (B (T.dirs.getD 5 [])) (B (T.dirs.getD 6 [])) (B (T.dirs.getD 7 [])) (B (T.dirs.getD 8 [])) (B (T.rains.getD 0 [])) (B (T.rains.getD 1 [])) (B (T.rains.getD 2 [])) (B (T.rains.getD 3 [])) (18 + (r : Int).toNat) = B (T.rains.getD r []) := by
  have : r = 0 ∨ r = 1 ∨ r = 2 ∨ r = 3 := by omega
  rcases this with rfl | rfl | rfl | rfl <;> rfl
theorem wind_tail (T : Tg) (hT : Short T) (x : List UInt8) (hx : x.length ≤ 400) (f l : Nat) (hl : l ≤ 12) :
    Ev (fun k => impl_tongue_wind.j0 k (f : Int) (l : Int) (B x) (B T.calm) (B T.before) (B T.between) (B T.up) (B T.down) (B T.dry) (B T.inn) (B T.one) (B T.many) (B (T.dirs.getD 0 [])) (B (T.dirs.getD 1 [])) (B (T.dirs.getD 2 [])) (B (T.dirs.getD 3 [])) (B (T.dirs.getD 4 [])) (B (T.dirs.getD 5 [])) (B (T.dirs.getD 6 [])) (B (T.dirs.getD 7 [])) (B (T.dirs.getD 8 [])) (B (T.rains.getD 0 [])) (B (T.rains.getD 1 [])) (B (T.rains.getD 2 [])) (B (T.rains.getD 3 []))) (B (x ++ (laterL T f l ++ [46]))) := by
  have hs := hT
  obtain ⟨⟨h1, h2, h3, h4, h5, h6, h7, h8, h9⟩, _, _⟩ := hs
  have hn := num_len l (by omega)
  refine Ev.step (f := fun _ => some (B (x ++ (laterL T f l ++ [46])))) (fun k => ?_) (Ev.now _)
  rw [impl_tongue_wind.j0, implNum l (by omega), b46]
  unfold laterL
  by_cases c1 : l > f
  · rw [if_pos (by omega), if_pos c1]
    simp only [Option.bind_some, B_app, B_size, List.length_append, List.length_singleton]
    rw [if_pos (by omega), if_pos (by omega), if_pos (by omega)]
    simp only [List.append_assoc]
  · rw [if_neg (by omega), if_neg c1]
    by_cases c2 : l < f
    · rw [if_pos (by omega), if_pos c2]
      simp only [Option.bind_some, B_app, B_size, List.length_append, List.length_singleton]
      rw [if_pos (by omega), if_pos (by omega), if_pos (by omega)]
      simp only [List.append_assoc]
    · rw [if_neg (by omega), if_neg c2]
      simp only [B_app, B_size, List.length_singleton]
      rw [if_pos (by omega)]
      rfl
theorem implWind (T : Tg) (hT : Short T) (d f l : Nat) (hd : d ≤ 8) (hf : f ≤ 12) (hl : l ≤ 12) :
    Ev (fun k => impl_tongue_wind.f k (B T.calm) (B T.before) (B T.between) (B T.up) (B T.down) (B T.dry) (B T.inn) (B T.one) (B T.many) (B (T.dirs.getD 0 [])) (B (T.dirs.getD 1 [])) (B (T.dirs.getD 2 [])) (B (T.dirs.getD 3 [])) (B (T.dirs.getD 4 [])) (B (T.dirs.getD 5 [])) (B (T.dirs.getD 6 [])) (B (T.dirs.getD 7 [])) (B (T.dirs.getD 8 [])) (B (T.rains.getD 0 [])) (B (T.rains.getD 1 [])) (B (T.rains.getD 2 [])) (B (T.rains.getD 3 [])) (d : Int) (f : Int) (l : Int)) (B (windL T d f ++ (laterL T f l ++ [46]))) := by
  have hs := hT
  obtain ⟨⟨h1, h2, h3, h4, h5, h6, h7, h8, h9⟩, hds, _⟩ := hs
  have hdl := hds d (by omega)
  have hn := num_len f (by omega)
  have hw := wind_len T hT d f hd (by omega)
  have ht := wind_tail T hT (windL T d f) hw f l hl
  unfold impl_tongue_wind.f
  unfold windL at ht ⊢
  rw [tgDir T d hd, implNum f (by omega)]
  by_cases c : d = 0
  · rw [if_pos c] at ht ⊢
    simp only [if_neg (show ¬ (d : Int) > 0 by omega)]
    exact ht
  · rw [if_neg c] at ht ⊢
    simp only [if_pos (show (d : Int) > 0 by omega), if_pos (show (d : Int) < 9 by omega), Option.bind_some, B_app, B_size, List.length_append]
    simp only [if_pos (show T.before.length + (T.dirs.getD d []).length ≤ 9223372036854775807 by omega), if_pos (show T.before.length + (T.dirs.getD d []).length + T.between.length ≤ 9223372036854775807 by omega), if_pos (show T.before.length + (T.dirs.getD d []).length + T.between.length + (Lib.itoa (f : Int)).length ≤ 9223372036854775807 by omega)]
    simp only [List.append_assoc] at ht ⊢
    exact ht
theorem implRain (T : Tg) (hT : Short T) (r p : Nat) (hr : r ≤ 3) (hp : p ≤ 100) :
    impl_tongue_rain.f (B T.calm) (B T.before) (B T.between) (B T.up) (B T.down) (B T.dry) (B T.inn) (B T.one) (B T.many) (B (T.dirs.getD 0 [])) (B (T.dirs.getD 1 [])) (B (T.dirs.getD 2 [])) (B (T.dirs.getD 3 [])) (B (T.dirs.getD 4 [])) (B (T.dirs.getD 5 [])) (B (T.dirs.getD 6 [])) (B (T.dirs.getD 7 [])) (B (T.dirs.getD 8 [])) (B (T.rains.getD 0 [])) (B (T.rains.getD 1 [])) (B (T.rains.getD 2 [])) (B (T.rains.getD 3 [])) (r : Int) (p : Int) = some (B (rainL T r p ++ [46])) := by
  obtain ⟨⟨h1, h2, h3, h4, h5, h6, h7, h8, h9⟩, _, hrs⟩ := hT
  have hrl := hrs r (by omega)
  have hn := num_len p (by omega)
  unfold impl_tongue_rain.f rainL
  rw [tgRain T r hr, implNum p (by omega), b46, b32]
  by_cases c : r = 0
  · rw [if_pos (by omega), if_pos c]
    simp only [B_app, B_size]
    rw [if_pos (by omega)]
  · rw [if_neg (by omega), if_neg c, if_pos (by omega), if_pos (by omega)]
    by_cases c2 : p = 1
    · rw [if_pos (by omega), if_pos c2]
      simp only [Option.bind_some, B_app, B_size, List.length_append, List.length_singleton]
      rw [if_pos (by omega), if_pos (by omega), if_pos (by omega), if_pos (by omega), if_pos (by omega)]
      simp only [List.append_assoc]
    · rw [if_neg (by omega), if_neg c2]
      simp only [Option.bind_some, B_app, B_size, List.length_append, List.length_singleton]
      rw [if_pos (by omega), if_pos (by omega), if_pos (by omega), if_pos (by omega), if_pos (by omega)]
      simp only [List.append_assoc]
theorem specDir (t d : Nat) (ht : t = 1 ∨ t = 2 ∨ t = 3) (hd : d ≤ 8) : spec_l23Dir.f (t : Int) (d : Int) = some (B ((tg t).dirs.getD d [])) := by
  have : d = 0 ∨ d = 1 ∨ d = 2 ∨ d = 3 ∨ d = 4 ∨ d = 5 ∨ d = 6 ∨ d = 7 ∨ d = 8 := by omega
  rcases ht with rfl | rfl | rfl <;> rcases this with rfl | rfl | rfl | rfl | rfl | rfl | rfl | rfl | rfl <;> rfl
theorem specWind (t d f l r p : Nat) (ht : t = 1 ∨ t = 2 ∨ t = 3) (hd : d ≤ 8) (hf : f ≤ 12) :
    Ev (fun k => spec_l23Wind.f k (d : Int) (f : Int) (l : Int) (r : Int) (p : Int) (t : Int)) (B (windL (tg t) d f)) := by
  obtain ⟨⟨h1, h2, h3, h4, h5, h6, h7, h8, h9⟩, hds, _⟩ := short t
  have hdl := hds d (by omega)
  have hn := num_len f (by omega)
  unfold spec_l23Wind.f windL
  rw [specDir t d ht hd]
  simp only [Option.bind_some]
  refine Ev_bind _ (numEv f (by omega)) ?_
  by_cases c : d = 0
  · rw [if_pos c]
    simp only [if_pos (show (d : Int) = 0 by omega)]
    rcases ht with rfl | rfl | rfl <;> exact Ev_const rfl
  · rw [if_neg c]
    simp only [if_neg (show ¬ (d : Int) = 0 by omega)]
    rcases ht with rfl | rfl | rfl
    · have e : (⟨#[32]⟩ : ByteArray) = B (tg 1).between := rfl
      have hb : (tg 1).between.length = 1 := rfl
      have e2 : (tg 1).before = [] := rfl
      simp only [if_pos (show ((1 : Nat) : Int) = 1 from rfl), e, B_app, B_size, List.length_append, hb]
      rw [if_pos (by omega), if_pos (by omega), e2]
      simp only [List.append_assoc, List.nil_append]
      exact Ev.now _
    · have e : (⟨#[32, 83, 116, 195, 164, 114, 107, 101, 32]⟩ : ByteArray) = B (tg 2).between := rfl
      have hb : (tg 2).between.length = 9 := rfl
      have e2 : (tg 2).before = [] := rfl
      simp only [if_neg (show ¬ ((2 : Nat) : Int) = 1 by decide), if_pos (show ((2 : Nat) : Int) = 2 from rfl), e, B_app, B_size, List.length_append, hb]
      rw [if_pos (by omega), if_pos (by omega), e2]
      simp only [List.append_assoc, List.nil_append]
      exact Ev.now _
    · have e : (⟨#[44, 32, 115, 105, 197, 130, 97, 32]⟩ : ByteArray) = B (tg 3).between := rfl
      have e3 : (⟨#[119, 105, 97, 116, 114, 32]⟩ : ByteArray) = B (tg 3).before := rfl
      have hb : (tg 3).between.length = 8 := rfl
      have hb2 : (tg 3).before.length = 6 := rfl
      simp only [if_neg (show ¬ ((3 : Nat) : Int) = 1 by decide), if_neg (show ¬ ((3 : Nat) : Int) = 2 by decide), e, e3, B_app, B_size, List.length_append, hb, hb2]
      rw [if_pos (by omega), if_pos (by omega), if_pos (by omega)]
      simp only [List.append_assoc]
      exact Ev.now _
theorem specLater (t d f l r p : Nat) (ht : t = 1 ∨ t = 2 ∨ t = 3) (hl : l ≤ 12) :
    Ev (fun k => spec_l23Later.f k (d : Int) (f : Int) (l : Int) (r : Int) (p : Int) (t : Int)) (B (laterL (tg t) f l)) := by
  obtain ⟨⟨h1, h2, h3, h4, h5, h6, h7, h8, h9⟩, hds, _⟩ := short t
  have hn := num_len l (by omega)
  unfold spec_l23Later.f laterL
  by_cases c1 : l > f
  · rw [if_pos c1]
    simp only [if_pos (show (l : Int) > (f : Int) by omega), Option.bind_some]
    have key : ∀ x : ByteArray, x = B (tg t).up → Ev (fun k => (spec_l1Dec.f k (l : Int)).bind fun t134 => (if x.size + t134.size ≤ 9223372036854775807 then (some (x ++ t134)) else (none))) (B ((tg t).up ++ Lib.itoa (l : Int))) := by
      rintro x rfl
      refine Ev_bind _ (numEv l (by omega)) ?_
      simp only [B_app, B_size]
      rw [if_pos (by omega)]
      exact Ev.now _
    rcases ht with rfl | rfl | rfl <;> exact key _ rfl
  · rw [if_neg c1]
    simp only [if_neg (show ¬ (l : Int) > (f : Int) by omega)]
    by_cases c2 : l < f
    · rw [if_pos c2]
      simp only [if_pos (show (l : Int) < (f : Int) by omega), Option.bind_some]
      have key : ∀ x : ByteArray, x = B (tg t).down → Ev (fun k => (spec_l1Dec.f k (l : Int)).bind fun t134 => (if x.size + t134.size ≤ 9223372036854775807 then (some (x ++ t134)) else (none))) (B ((tg t).down ++ Lib.itoa (l : Int))) := by
        rintro x rfl
        refine Ev_bind _ (numEv l (by omega)) ?_
        simp only [B_app, B_size]
        rw [if_pos (by omega)]
        exact Ev.now _
      rcases ht with rfl | rfl | rfl <;> exact key _ rfl
    · rw [if_neg c2]
      simp only [if_neg (show ¬ (l : Int) < (f : Int) by omega)]
      exact Ev.now _
theorem rain_key (p : Nat) (hp : p ≤ 100) (X Y Z : List UInt8) (hX : X.length ≤ 100) (hY : Y.length ≤ 100) (hZ : Z.length ≤ 100) :
    Ev (fun k => if (B X).size + (B Y).size ≤ 9223372036854775807 then ((spec_l1Dec.f k (p : Int)).bind fun t => (if (B X ++ B Y).size + t.size ≤ 9223372036854775807 then (if ((B X ++ B Y) ++ t).size + 1 ≤ 9223372036854775807 then (if (((B X ++ B Y) ++ t) ++ (⟨#[32]⟩ : ByteArray)).size + (B Z).size ≤ 9223372036854775807 then (some ((((B X ++ B Y) ++ t) ++ (⟨#[32]⟩ : ByteArray)) ++ B Z)) else (none)) else (none)) else (none))) else (none)) (B (X ++ (Y ++ (Lib.itoa (p : Int) ++ ([32] ++ Z))))) := by
  have hn := num_len p (by omega)
  simp only [b32]
  simp only [if_pos (show (B X).size + (B Y).size ≤ 9223372036854775807 by rw [B_size, B_size]; omega)]
  refine Ev_bind _ (numEv p (by omega)) ?_
  simp only [B_app, B_size, List.length_append, List.length_singleton]
  rw [if_pos (by omega), if_pos (by omega), if_pos (by omega)]
  simp only [List.append_assoc]
  exact Ev.now _
theorem specRain (t d f l r p : Nat) (ht : t = 1 ∨ t = 2 ∨ t = 3) (hr : r ≤ 3) (hp : p ≤ 100) :
    Ev (fun k => spec_l23Rain.f k (d : Int) (f : Int) (l : Int) (r : Int) (p : Int) (t : Int)) (B (rainL (tg t) r p)) := by
  obtain ⟨⟨h1, h2, h3, h4, h5, h6, h7, h8, h9⟩, _, hrs⟩ := short t
  have hrl := hrs r (by omega)
  have hr4 : r = 0 ∨ r = 1 ∨ r = 2 ∨ r = 3 := by omega
  unfold rainL
  by_cases c : r = 0
  · subst c
    rw [if_pos rfl]
    rcases ht with rfl | rfl | rfl <;> exact Ev_const rfl
  · rw [if_neg c]
    have hw : wrap64 ((wrap64 ((wrap64 ((t : Int) - 1)) * 3)) + (r : Int)) = ((3 * (t - 1) + r : Nat) : Int) := by
      rw [w64 (n := (t : Int) - 1) (by omega) (by omega), w64 (n := ((t : Int) - 1) * 3) (by omega) (by omega), w64 (by omega) (by omega)]
      omega
    unfold spec_l23Rain.f
    simp only [hw]
    by_cases c2 : p = 1
    · rw [if_pos c2]
      have k1 := rain_key p hp ((tg t).rains.getD r []) (tg t).inn (tg t).one hrl h7 h8
      simp only [if_pos (show (p : Int) = 1 by omega)]
      rcases ht with rfl | rfl | rfl <;> rcases hr4 with rfl | rfl | rfl | rfl <;> first | exact absurd rfl c | (simp +decide only [Option.bind_some, ↓reduceIte]; exact k1)
    · rw [if_neg c2]
      have k1 := rain_key p hp ((tg t).rains.getD r []) (tg t).inn (tg t).many hrl h7 h9
      simp only [if_neg (show ¬ (p : Int) = 1 by omega)]
      rcases ht with rfl | rfl | rfl <;> rcases hr4 with rfl | rfl | rfl | rfl <;> first | exact absurd rfl c | (simp +decide only [Option.bind_some, ↓reduceIte]; exact k1)

end Go.Proofs.YtllkijlmjapleaaDoor.QFnPhrases
