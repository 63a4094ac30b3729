/- Runes, plainly: the reference's rune at a place is the library's; both cut a text into the same pieces. Condition: the text has at most 2^20 bytes. -/
import Derived.Test.YtgdlmbnnfngieaaDoorLib
import Derived.Test.YtgdlmbnnfngieaaDoorQFnExactTitlex4
import Derived.Shelf.Unicode.DecodeLastEight
import Derived.Lib.RuneCountTail
import Derived.Lib.TrimU
set_option linter.unusedVariables false
set_option linter.unusedSimpArgs false
namespace Go.Proofs.YtgdlmbnnfngieaaDoor.QFnExactTitle
open Go.RowKit Go.Proofs.YtgdlmbnnfngieaaDoorW.PrintWords Go.Proofs.YtgdlmbnnfngieaaDoor.Opn Go.Proofs.YtgdlmbnnfngieaaDoor.Pl

/-- The byte at a place, as a number. -/
def gb (s : ByteArray) (j : Nat) : Nat := (s.get! j).toNat
theorem gb_lt (s : ByteArray) (j : Nat) : gb s j < 256 := UInt8.toNat_lt _
theorem bt_gb (s : ByteArray) (j : Nat) (h : j < s.size) : bt s (j : Int) = (gb s j : Int) := by
  unfold bt gb
  rw [dif_pos (by rw [Int.toNat_natCast]; exact h)]
  have e : s.get! j = s[j]'h := by
    simp only [ByteArray.get!, ByteArray.size] at *
    rw [getElem!_pos s.data j h]
    rfl
  rw [e]
  rfl
/-- What the reference tells of a rune. -/
def runeOf (d : Nat × Nat) : Int × Int := if d = (65533, 1) then (-1, 1) else ((d.1 : Int), (d.2 : Int))
theorem dec_eq (s : ByteArray) (i : Nat) : Utf8.decode s i = (if gb s i < 0x80 then (gb s i, 1)
  else if gb s i / 32 = 6 ∧ i + 1 < s.size ∧ gb s (i + 1) / 64 = 2 then
    (if (gb s i % 32) * 64 + gb s (i + 1) % 64 ≥ 0x80 then ((gb s i % 32) * 64 + gb s (i + 1) % 64, 2) else (65533, 1))
  else if gb s i / 16 = 14 ∧ (i + 1 < s.size ∧ gb s (i + 1) / 64 = 2) ∧ (i + 2 < s.size ∧ gb s (i + 2) / 64 = 2) then
    (if (gb s i % 16) * 4096 + (gb s (i + 1) % 64) * 64 + gb s (i + 2) % 64 ≥ 0x800 ∧ Utf8.valid (((gb s i % 16) * 4096 + (gb s (i + 1) % 64) * 64 + gb s (i + 2) % 64 : Nat) : Int) = true then ((gb s i % 16) * 4096 + (gb s (i + 1) % 64) * 64 + gb s (i + 2) % 64, 3) else (65533, 1))
  else if gb s i / 8 = 30 ∧ (i + 1 < s.size ∧ gb s (i + 1) / 64 = 2) ∧ (i + 2 < s.size ∧ gb s (i + 2) / 64 = 2) ∧ (i + 3 < s.size ∧ gb s (i + 3) / 64 = 2) then
    (if (gb s i % 8) * 262144 + (gb s (i + 1) % 64) * 4096 + (gb s (i + 2) % 64) * 64 + gb s (i + 3) % 64 ≥ 0x10000 ∧ Utf8.valid (((gb s i % 8) * 262144 + (gb s (i + 1) % 64) * 4096 + (gb s (i + 2) % 64) * 64 + gb s (i + 3) % 64 : Nat) : Int) = true then ((gb s i % 8) * 262144 + (gb s (i + 1) % 64) * 4096 + (gb s (i + 2) % 64) * 64 + gb s (i + 3) % 64, 4) else (65533, 1))
  else (65533, 1)) := by
  unfold Utf8.decode gb Utf8.runeError
  simp only [Nat.add_zero, beq_iff_eq, Bool.and_eq_true, decide_eq_true_eq, and_assoc, ge_iff_le]
theorem valid_iff (c : Nat) : (Utf8.valid (c : Int) = true) = (c < 55296 ∨ (57344 ≤ c ∧ c ≤ 1114111)) := by
  unfold Utf8.valid
  simp only [Bool.or_eq_true, Bool.and_eq_true, decide_eq_true_eq, eq_iff_iff]
  omega

theorem cont_ok (k : Nat) (s : ByteArray) (at' n : Nat) (low r : Int) (i : Nat) (hs : s.size ≤ 1048576) (hi : i < n) (h1 : at' + i < s.size) (h2 : gb s (at' + i) / 64 = 2) (hr : 0 ≤ r) (hr2 : r ≤ 1000000000) :
    spec_l4Rune.l0 (k + 1) s (at' : Int) (n : Int) low r (i : Int) = spec_l4Rune.l0 k s (at' : Int) (n : Int) low (r * 64 + (gb s (at' + i) : Int) - 128) ((i + 1 : Nat) : Int) := by
  have hb := bt_gb s (at' + i) h1
  have hl := gb_lt s (at' + i)
  rw [spec_l4Rune.l0, if_pos (by omega), w64 (n := (at' : Int) + (i : Int)) (by omega) (by omega), show (at' : Int) + (i : Int) = ((at' + i : Nat) : Int) by omega, hb]
  rw [if_neg (by omega), if_pos (by omega), if_pos (by omega), if_neg (by omega), if_neg (by omega)]
  rw [w64 (n := (gb s (at' + i) : Int)) (by omega) (by omega), w64 (n := r * 64) (by omega) (by omega), w64 (n := r * 64 + (gb s (at' + i) : Int)) (by omega) (by omega), w64 (by omega) (by omega), w64 (by omega) (by omega)]
  rfl
theorem cont_bad (k : Nat) (s : ByteArray) (at' n : Nat) (low r : Int) (i : Nat) (hs : s.size ≤ 1048576) (hat : at' < s.size) (hi : i < n) (hn : n ≤ 4) (h : ¬ (at' + i < s.size ∧ gb s (at' + i) / 64 = 2)) :
    spec_l4Rune.l0 (k + 1) s (at' : Int) (n : Int) low r (i : Int) = some (-1, 1) := by
  have hl := gb_lt s (at' + i)
  rw [spec_l4Rune.l0, if_pos (by omega), w64 (n := (at' : Int) + (i : Int)) (by omega) (by omega), show (at' : Int) + (i : Int) = ((at' + i : Nat) : Int) by omega]
  by_cases h1 : at' + i < s.size
  · have hb := bt_gb s (at' + i) h1
    rw [hb, if_neg (by omega), if_pos (by omega), if_pos (by omega)]
    by_cases h2 : gb s (at' + i) < 128
    · rw [if_pos (by omega)]
    · rw [if_neg (by omega), if_pos (by omega)]
  · rw [if_pos (by omega)]
theorem cont_end (k : Nat) (s : ByteArray) (at' n : Nat) (low : Int) (r : Nat) (hl : 0 ≤ low) :
    spec_l4Rune.l0 (k + 1) s (at' : Int) (n : Int) low (r : Int) (n : Int) = some (if (r : Int) ≥ low ∧ (r < 55296 ∨ (57344 ≤ r ∧ r ≤ 1114111)) then ((r : Int), (n : Int)) else (-1, 1)) := by
  rw [spec_l4Rune.l0, if_neg (by omega)]
  repeat' split
  all_goals first | rfl | omega
theorem rune_eq (s : ByteArray) (i : Nat) (hs : s.size ≤ 1048576) (hi : i < s.size) (k : Nat) : spec_l4Rune.f (k + 9) s (i : Int) = some (runeOf (Utf8.decode s i)) := by
  have hb := bt_gb s i hi
  have hl := gb_lt s i
  rw [dec_eq]
  simp only [valid_iff]
  unfold spec_l4Rune.f
  rw [if_pos (by omega), if_pos (by omega), hb, w64 (n := (gb s i : Int)) (by omega) (by omega)]
  by_cases h0 : gb s i < 128
  · rw [if_pos (by omega), if_pos h0]
    unfold runeOf
    rw [if_neg (by intro h; injection h with h1 _; omega)]
    rfl
  rw [if_neg (by omega), if_neg h0]
  -- one byte that goes on
  have hj2 : ∀ (m n : Nat) (low r : Int), spec_l4Rune.j2 (m + 1) s (i : Int) (n : Int) low r = spec_l4Rune.l0 m s (i : Int) (n : Int) low r ((1 : Nat) : Int) := fun m n low r => by rw [spec_l4Rune.j2]; rfl
  by_cases h1 : gb s i / 32 = 6
  · rw [if_pos (by omega), decide_eq_true (by omega), spec_l4Rune.j0, if_pos rfl, w64 (by omega) (by omega)]
    have e := hj2 (k + 7) 2 128 ((gb s i : Int) - 192)
    rw [show ((2 : Nat) : Int) = 2 from rfl] at e
    rw [e]
    by_cases c1 : i + 1 < s.size ∧ gb s (i + 1) / 64 = 2
    · rw [if_pos ⟨h1, c1⟩, show (2 : Int) = ((2 : Nat) : Int) from rfl, cont_ok _ s i 2 128 _ 1 hs (by omega) c1.1 c1.2 (by omega) (by omega)]
      have hl1 := gb_lt s (i + 1)
      have er : ((gb s i : Int) - 192) * 64 + (gb s (i + 1) : Int) - 128 = (((gb s i % 32) * 64 + gb s (i + 1) % 64 : Nat) : Int) := by omega
      rw [er, show ((1 + 1 : Nat) : Int) = ((2 : Nat) : Int) from rfl, cont_end _ s i 2 128 _ (by omega)]
      obtain ⟨r, hr⟩ : ∃ r, (gb s i % 32) * 64 + gb s (i + 1) % 64 = r := ⟨_, rfl⟩
      rw [hr]
      have hr2 : r < 2048 := by omega
      by_cases c2 : r ≥ 128
      · rw [if_pos (by omega), if_pos c2]
        unfold runeOf
        rw [if_neg (by intro h; injection h with _ h2; omega)]
      · rw [if_neg (by omega), if_neg c2]
        rfl
    · rw [if_neg (fun h => c1 h.2), if_neg (by omega), if_neg (by omega), show (2 : Int) = ((2 : Nat) : Int) from rfl, cont_bad _ s i 2 128 _ 1 hs hi (by omega) (by omega) c1]
      rfl
  have hj0 : spec_l4Rune.j0 (k + 9) s (i : Int) (gb s i : Int) false = (if gb s i ≥ 224 then spec_l4Rune.j1 (k + 8) s (i : Int) (gb s i : Int) (decide (gb s i < 240)) else some (-1, 1)) := by
    rw [spec_l4Rune.j0, if_neg (by decide)]
    by_cases h2 : gb s i ≥ 224
    · rw [if_pos (by omega), if_pos h2]
      rw [show decide ((gb s i : Int) < 240) = decide (gb s i < 240) from decide_eq_decide.2 (by omega)]
    · rw [if_neg (by omega), if_neg h2, spec_l4Rune.j1, if_neg (by decide), if_neg (by omega)]
  have hg : (if (gb s i : Int) ≥ 192 then spec_l4Rune.j0 (k + 9) s (i : Int) (gb s i : Int) (decide ((gb s i : Int) < 224)) else spec_l4Rune.j0 (k + 9) s (i : Int) (gb s i : Int) false) = spec_l4Rune.j0 (k + 9) s (i : Int) (gb s i : Int) false := by
    by_cases h2 : gb s i ≥ 192
    · rw [if_pos (by omega), decide_eq_false (by omega)]
    · rw [if_neg (by omega)]
  rw [hg, hj0]
  rw [if_neg (show ¬ (gb s i / 32 = 6 ∧ _) from fun h => h1 h.1)]
  by_cases h2 : gb s i ≥ 224
  case neg =>
    rw [if_neg h2, if_neg (by omega), if_neg (by omega)]
    rfl
  rw [if_pos h2]
  by_cases h3 : gb s i / 16 = 14
  · rw [decide_eq_true (by omega), spec_l4Rune.j1, if_pos rfl, w64 (by omega) (by omega)]
    have e := hj2 (k + 6) 3 2048 ((gb s i : Int) - 224)
    rw [show ((3 : Nat) : Int) = 3 from rfl] at e
    rw [e, show (3 : Int) = ((3 : Nat) : Int) from rfl, if_neg (show ¬ (gb s i / 8 = 30 ∧ _) from fun h => by omega)]
    by_cases c1 : i + 1 < s.size ∧ gb s (i + 1) / 64 = 2
    · rw [cont_ok _ s i 3 2048 _ 1 hs (by omega) c1.1 c1.2 (by omega) (by omega)]
      by_cases c2 : i + 2 < s.size ∧ gb s (i + 2) / 64 = 2
      · have hl1 := gb_lt s (i + 1)
        have hl2 := gb_lt s (i + 2)
        rw [if_pos ⟨h3, c1, c2⟩, show (1 + 1 : Nat) = 2 from rfl, cont_ok _ s i 3 2048 _ 2 hs (by omega) c2.1 c2.2 (by omega) (by omega)]
        have er : (((gb s i : Int) - 224) * 64 + (gb s (i + 1) : Int) - 128) * 64 + (gb s (i + 2) : Int) - 128 = (((gb s i % 16) * 4096 + (gb s (i + 1) % 64) * 64 + gb s (i + 2) % 64 : Nat) : Int) := by omega
        rw [er, show (2 + 1 : Nat) = 3 from rfl, cont_end _ s i 3 2048 _ (by omega)]
        obtain ⟨r, hr⟩ : ∃ r, (gb s i % 16) * 4096 + (gb s (i + 1) % 64) * 64 + gb s (i + 2) % 64 = r := ⟨_, rfl⟩
        rw [hr]
        by_cases c3 : r ≥ 2048 ∧ (r < 55296 ∨ (57344 ≤ r ∧ r ≤ 1114111))
        · rw [if_pos (by omega), if_pos c3]
          unfold runeOf
          rw [if_neg (by intro h; injection h with _ h2; omega)]
        · rw [if_neg (by omega), if_neg c3]
          rfl
      · rw [if_neg (fun h => c2 h.2.2), show (1 + 1 : Nat) = 2 from rfl, cont_bad _ s i 3 2048 _ 2 hs hi (by omega) (by omega) c2]
        rfl
    · rw [if_neg (fun h => c1 h.2.1), cont_bad _ s i 3 2048 _ 1 hs hi (by omega) (by omega) c1]
      rfl
  rw [decide_eq_false (by omega), spec_l4Rune.j1, if_neg (by decide)]
  rw [if_neg (show ¬ (gb s i / 16 = 14 ∧ _) from fun h => h3 h.1)]
  by_cases h4 : gb s i / 8 = 30
  case neg =>
    rw [if_neg (show ¬ (gb s i / 8 = 30 ∧ _) from fun h => h4 h.1)]
    by_cases h5 : (gb s i : Int) ≥ 240
    · rw [if_pos h5, if_neg (by omega)]
      rfl
    · rw [if_neg h5]
      rfl
  rw [if_pos (show (gb s i : Int) ≥ 240 by omega), if_pos (show (gb s i : Int) < 248 by omega), w64 (by omega) (by omega)]
  have e := hj2 (k + 6) 4 65536 ((gb s i : Int) - 240)
  rw [show ((4 : Nat) : Int) = 4 from rfl] at e
  rw [e, show (4 : Int) = ((4 : Nat) : Int) from rfl]
  by_cases c1 : i + 1 < s.size ∧ gb s (i + 1) / 64 = 2
  case neg =>
    rw [if_neg (fun h => c1 h.2.1), cont_bad _ s i 4 65536 _ 1 hs hi (by omega) (by omega) c1]
    rfl
  rw [cont_ok _ s i 4 65536 _ 1 hs (by omega) c1.1 c1.2 (by omega) (by omega), show (1 + 1 : Nat) = 2 from rfl]
  by_cases c2 : i + 2 < s.size ∧ gb s (i + 2) / 64 = 2
  case neg =>
    rw [if_neg (fun h => c2 h.2.2.1), cont_bad _ s i 4 65536 _ 2 hs hi (by omega) (by omega) c2]
    rfl
  rw [cont_ok _ s i 4 65536 _ 2 hs (by omega) c2.1 c2.2 (by omega) (by omega), show (2 + 1 : Nat) = 3 from rfl]
  by_cases c3 : i + 3 < s.size ∧ gb s (i + 3) / 64 = 2
  case neg =>
    rw [if_neg (fun h => c3 h.2.2.2), cont_bad _ s i 4 65536 _ 3 hs hi (by omega) (by omega) c3]
    rfl
  have hl1 := gb_lt s (i + 1)
  have hl2 := gb_lt s (i + 2)
  have hl3 := gb_lt s (i + 3)
  rw [cont_ok _ s i 4 65536 _ 3 hs (by omega) c3.1 c3.2 (by omega) (by omega), show (3 + 1 : Nat) = 4 from rfl]
  have er : ((((gb s i : Int) - 240) * 64 + (gb s (i + 1) : Int) - 128) * 64 + (gb s (i + 2) : Int) - 128) * 64 + (gb s (i + 3) : Int) - 128 = (((gb s i % 8) * 262144 + (gb s (i + 1) % 64) * 4096 + (gb s (i + 2) % 64) * 64 + gb s (i + 3) % 64 : Nat) : Int) := by omega
  rw [if_pos (show gb s i / 8 = 30 ∧ (i + 1 < s.size ∧ gb s (i + 1) / 64 = 2) ∧ (i + 2 < s.size ∧ gb s (i + 2) / 64 = 2) ∧ (i + 3 < s.size ∧ gb s (i + 3) / 64 = 2) from ⟨h4, c1, c2, c3⟩)]
  rw [er, cont_end _ s i 4 65536 _ (by omega)]
  obtain ⟨r, hr⟩ : ∃ r, (gb s i % 8) * 262144 + (gb s (i + 1) % 64) * 4096 + (gb s (i + 2) % 64) * 64 + gb s (i + 3) % 64 = r := ⟨_, rfl⟩
  rw [hr]
  by_cases c3 : r ≥ 65536 ∧ (r < 55296 ∨ (57344 ≤ r ∧ r ≤ 1114111))
  · rw [if_pos (by omega), if_pos c3]
    unfold runeOf
    rw [if_neg (by intro h; injection h with _ h2; omega)]
  · rw [if_neg (by omega), if_neg c3]
    rfl
/-- How many bytes a rune has. -/
def wid (s : ByteArray) (i : Nat) : Nat := (Utf8.decode s i).2
theorem wid_pos (s : ByteArray) (i : Nat) : 1 ≤ wid s i := Lib.width_pos s i
theorem go_tail (s : ByteArray) (i : Nat) (h : i < s.size) : Lib.decodeGo (s.extract i s.size) = Utf8.decode s i := by
  unfold Lib.decodeGo
  rw [if_neg (by rw [Lib.tail_size]; omega), Lib.tail_decode, Nat.add_zero]
theorem wid_le (s : ByteArray) (i : Nat) (h : i < s.size) : i + wid s i ≤ s.size := by
  have := Lib.decodeGo_le_size (s.extract i s.size)
  rw [go_tail s i h, Lib.tail_size] at this
  unfold wid
  omega
theorem runeOf_snd (s : ByteArray) (i : Nat) : (runeOf (Utf8.decode s i)).2 = (wid s i : Int) := by
  unfold runeOf wid
  split
  · rename_i h; rw [h]; rfl
  · rfl
/-- A text in pieces. -/
def pieces (s : ByteArray) : Nat → Nat → List ByteArray
  | 0, _ => []
  | f + 1, i => if i < s.size then s.extract i (i + wid s i) :: pieces s f (i + wid s i) else []
theorem pieces_len (s : ByteArray) : ∀ f i, (pieces s f i).length ≤ f := by
  intro f
  induction f with
  | zero => intro i; exact Nat.le_refl _
  | succ f ih =>
    intro i
    unfold pieces
    split
    · have := ih (i + wid s i)
      rw [List.length_cons]; omega
    · exact Nat.zero_le _
/-- Its runes; a bad byte is -1. -/
def runeNos (s : ByteArray) : Nat → Nat → List Int
  | 0, _ => []
  | f + 1, i => if i < s.size then (runeOf (Utf8.decode s i)).1 :: runeNos s f (i + wid s i) else []
theorem runeNos_len (s : ByteArray) : ∀ f i, (runeNos s f i).length = (pieces s f i).length := by
  intro f
  induction f with
  | zero => intro i; rfl
  | succ f ih =>
    intro i
    unfold pieces runeNos
    split
    · rw [List.length_cons, List.length_cons, ih]
    · rfl

end Go.Proofs.YtgdlmbnnfngieaaDoor.QFnExactTitle
