/- The library's Delete of one element, called with a row of the call's own. -/
import Derived.Test.YtopfdmodbhopiaaDelPlain
import Derived.Test.YtopfdmodbhopiaaSortLib
set_option linter.unusedVariables false
set_option linter.unusedSimpArgs false
namespace Go.Proofs.Ytopfdmodbhopiaa.Srt
open Go Go.RowKit Go.Proofs.YtopfdmodbhopiaaW.PrintWords

theorem heap_put {w : World} {g : Nat} {cur : Array Value} (hg : w.heap[g]? = some (.cells cur 2 (0, 0))) (m : Nat) (s : List Int) :
    (Sort.putRow (Value.int .i64) (Sort.ahead w m) g 0 s.toArray).heap[g]? = some (.cells (Sort.putCells (Value.int .i64) 0 s.toArray cur) 2 (0, 0)) := by
  show (w.heap.modify g (Sort.onCells (Sort.putCells (Value.int .i64) 0 s.toArray)))[g]? = _
  rw [Array.getElem?_modify, if_pos rfl, hg]
  rfl
theorem heap_keep {w : World} {g : Nat} (m : Nat) (s : List Int) (k : Nat) (hne : k ≠ g) :
    (Sort.putRow (Value.int .i64) (Sort.ahead w m) g 0 s.toArray).heap[k]? = w.heap[k]? := by
  show (w.heap.modify g (Sort.onCells (Sort.putCells (Value.int .i64) 0 s.toArray)))[k]? = _
  rw [Array.getElem?_modify, if_neg (fun e => hne e.symm)]
theorem heap_size {w : World} {g : Nat} (m : Nat) (s : List Int) : (Sort.putRow (Value.int .i64) (Sort.ahead w m) g 0 s.toArray).heap.size = w.heap.size := by
  show (w.heap.modify g (Sort.onCells (Sort.putCells (Value.int .i64) 0 s.toArray))).size = _
  simp

theorem del_calls {w0 w : World} {base : Nat} {ok : Nat → Prop} {g c : Nat} {l : List Int} {i j : Int} (h : (Kd.int .i64).R 2 w base ok (.slice (some ⟨g, 0, none⟩) l.length c) l) (hB : Below w0.heap.size w0 w) (hb : w0.heap.size ≤ base)
    (hi : 0 ≤ i) (hil : i < (l.length : Int)) (hj : j = i + 1) :
    Calls Try.prog 64 #[.slice (some ⟨g, 0, none⟩) l.length c, .int .i64 i, .int .i64 j] w fun e w' => e = .returned (.slice (some ⟨g, 0, none⟩) (l.eraseIdx i.toNat).length c) ∧
      (Kd.int .i64).R 2 w' base ok (.slice (some ⟨g, 0, none⟩) (l.eraseIdx i.toNat).length c) (l.eraseIdx i.toNat) ∧ Below w0.heap.size w0 w' ∧ w.grownBy w' (some g) := by
  obtain ⟨_, _, hbg, hok, cur, hg, hn, hm, hs, ht⟩ := own_int h
  obtain ⟨n, rfl⟩ : ∃ n : Nat, i = (n : Int) := ⟨i.toNat, by omega⟩
  subst hj
  have hnl : n < l.length := by omega
  have hlen : (l.eraseIdx n).length = l.length - 1 := by rw [List.length_eraseIdx, if_pos hnl]
  have hm' : c ≤ 9223372036854775807 := hm
  have hc := Try.slices_Delete g 0 c n (n + 1) l.toArray w (holds_int h) (by simpa using hn) hm' (by omega) (by simpa using (show n + 1 ≤ l.length by omega))
  rw [Int.toNat_natCast]
  have e1 : l.toArray.size = l.length := by simp
  rw [e1, show ((n + 1 : Nat) : Int) = (n : Int) + 1 by omega, show l.length - (n + 1 - n) = (l.eraseIdx n).length by omega] at hc
  refine hc.mono fun e w' ⟨h1, m, h2⟩ => ?_
  have es : (l.toArray.toList.take n ++ l.toArray.toList.drop (n + 1) ++ List.replicate (n + 1 - n) (0 : Int)) = l.eraseIdx n ++ [0] := by
    rw [List.eraseIdx_eq_take_drop_succ, show n + 1 - n = 1 by omega]
    rfl
  rw [es] at h2
  subst h2
  obtain ⟨p1, p2⟩ := put_cells cur l (l.eraseIdx n ++ [0]) (by rw [List.length_append, hlen]; simp; omega) (by omega)
  have ptake : (Sort.putCells (Value.int .i64) 0 (l.eraseIdx n ++ [0]).toArray cur).toList.take (l.eraseIdx n).length = (l.eraseIdx n).map (Value.int .i64) := by
    have p3 := congrArg (List.take (l.eraseIdx n).length) p2
    rw [List.take_take, Nat.min_eq_left (by simp), List.map_append, List.take_left' (by simp)] at p3
    exact p3
  have hgr : w.grownBy (Sort.putRow (Value.int .i64) (Sort.ahead w m) g 0 (l.eraseIdx n ++ [0]).toArray) (some g) :=
    ⟨rfl, rfl, rfl, by rw [heap_size]; exact Nat.le_refl _, fun k _ hne => heap_keep m _ k (fun e => hne (by rw [e]))⟩
  refine ⟨h1, ⟨fun k hk => ?_, (l.eraseIdx n).map (Value.int .i64), ⟨by show ((l.eraseIdx n).map (Value.int .i64)).length = (l.eraseIdx n).length * 1; simp, .inr ⟨g, c, _, rfl, hbg, heap_put hg m _, by omega, hm, ?_, ?_⟩⟩, reps_int _ _ _ _⟩, hB.grown hgr (by have := hB.size; omega) (fun k hk => ?_), hgr⟩
  · have : k = g := by simpa [Value.ownBlock] using hk.symm
    rw [this]; exact hok
  · show (Sort.putCells (Value.int .i64) 0 (l.eraseIdx n ++ [0]).toArray cur).size = c * 1
    omega
  · show (Sort.putCells (Value.int .i64) 0 (l.eraseIdx n ++ [0]).toArray cur).toList.take ((l.eraseIdx n).length * 1) = _
    rw [Nat.mul_one]; exact ptake
  · injection hk with hk
    subst hk; omega

end Go.Proofs.Ytopfdmodbhopiaa.Srt
