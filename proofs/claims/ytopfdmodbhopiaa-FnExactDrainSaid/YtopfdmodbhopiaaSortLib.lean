/- A row of whole numbers of the call's own, and the library's sort in it: what was a row of l is a row of l in order. -/
import Derived.Test.YtopfdmodbhopiaaWWords
import Derived.Sort.Row
import Derived.Sort.Grow
set_option linter.unusedVariables false
set_option linter.unusedSimpArgs false
namespace Go.Proofs.Ytopfdmodbhopiaa.Srt
open Go Go.RowKit Go.Proofs.YtopfdmodbhopiaaW.PrintWords

def ordI (l : List Int) : List Int := l.mergeSort (fun x y => decide (x ≤ y))
theorem ordI_len (l : List Int) : (ordI l).length = l.length := by simp [ordI, List.length_mergeSort]

theorem int_inner {l : List Int} {cs : List Value} {w : World} {base : Nat} {ok : Nat → Prop} (h : Reps ((Kd.int .i64).M w base ok) 1 l cs) : cs = l.map (Value.int .i64) := by
  obtain ⟨h1, h2⟩ := h
  apply List.ext_getElem?
  intro j
  by_cases hj : j < l.length
  · have h3 := h2 j l[j] (List.getElem?_eq_getElem hj)
    have h4 : (cs.drop (j * 1)).take 1 = [Value.int .i64 l[j]] := h3
    rw [Nat.mul_one] at h4
    have hjc : j < cs.length := by omega
    rw [List.getElem?_map, List.getElem?_eq_getElem hj, List.getElem?_eq_getElem hjc]
    have h5 := congrArg (fun x => x[0]?) h4
    simp only [List.getElem?_take, List.getElem?_drop] at h5
    simpa [List.getElem?_eq_getElem hjc] using h5
  · rw [List.getElem?_eq_none (by omega), List.getElem?_eq_none (by simpa using hj)]

theorem reps_int (l : List Int) (w : World) (base : Nat) (ok : Nat → Prop) : Reps ((Kd.int .i64).M w base ok) 1 l (l.map (Value.int .i64)) := by
  refine ⟨by simp, fun j p hj => ?_⟩
  have hjl : j < l.length := (List.getElem?_eq_some_iff.1 hj).1
  have hp : l[j] = p := (List.getElem?_eq_some_iff.1 hj).2
  show ((l.map (Value.int .i64)).drop (j * 1)).take 1 = [Value.int .i64 p]
  rw [Nat.mul_one, List.drop_eq_getElem_cons (by simpa using hjl), List.getElem_map, hp]
  rfl

/-- an own row of whole numbers, in memory -/
theorem own_int {w : World} {base : Nat} {ok : Nat → Prop} {g n c : Nat} {q} {l : List Int} (h : (Kd.int .i64).R 2 w base ok (.slice (some ⟨g, n, q⟩) l.length c) l) :
    n = 0 ∧ q = none ∧ base ≤ g ∧ ok g ∧ ∃ cur : Array Value, w.heap[g]? = some (.cells cur 2 (0, 0)) ∧ l.length ≤ c ∧ c ≤ maxLen ∧ cur.size = c ∧ cur.toList.take l.length = l.map (Value.int .i64) := by
  obtain ⟨h0, inner, ⟨ho1, ho⟩, hr⟩ := h
  have e := int_inner hr
  rcases ho with ⟨e2, _⟩ | ⟨g', cap, cur, e2, hb, hg, hn, hm, hs, ht⟩
  · cases e2
  · injection e2 with e3 e4 e5
    injection e3 with e6
    injection e6 with e7 e8 e9
    subst e7 e8 e9 e5
    have hs' : cur.size = c * 1 := hs
    refine ⟨rfl, rfl, hb, h0 _ rfl, cur, hg, hn, hm, by omega, ?_⟩
    have ht' : cur.toList.take (l.length * 1) = inner := ht
    rw [Nat.mul_one] at ht'
    rw [ht', e]

theorem holds_int {w : World} {base : Nat} {ok : Nat → Prop} {g n c : Nat} {q} {l : List Int} (h : (Kd.int .i64).R 2 w base ok (.slice (some ⟨g, n, q⟩) l.length c) l) :
    Sort.Holds (Value.int .i64) w g 0 l.toArray := by
  obtain ⟨_, _, _, _, cur, hg, hn, hm, hs, ht⟩ := own_int h
  intro j hj
  have hjl : j < l.length := by simpa using hj
  have hcell : cur[j]? = some (Value.int .i64 l[j]) := by
    have h5 := congrArg (fun x => x[j]?) ht
    simp only [List.getElem?_take, List.getElem?_map] at h5
    rw [if_pos hjl] at h5
    simpa [List.getElem?_eq_getElem hjl] using h5
  constructor
  · rw [Nat.zero_add, blk_cell hg j, hcell]
    congr 2
    rw [getElem!_pos l.toArray j (by simpa using hjl)]
    simp
  · exact blk_frozen hg _

theorem heap_sorted {w : World} {g : Nat} {cur : Array Value} {l : List Int} (hg : w.heap[g]? = some (.cells cur 2 (0, 0))) (m : Nat) (os : Array Obj) (s : List Int) :
    (Sort.grow (Sort.putRow (Value.int .i64) (Sort.ahead w m) g 0 s.toArray) os).heap[g]? = some (.cells (Sort.putCells (Value.int .i64) 0 s.toArray cur) 2 (0, 0)) := by
  have hlt := blk_lt hg
  show ((w.heap.modify g (Sort.onCells (Sort.putCells (Value.int .i64) 0 s.toArray))) ++ os)[g]? = _
  rw [Array.getElem?_append_left (by simpa using hlt), Array.getElem?_modify, if_pos rfl, hg]
  rfl
theorem heap_other {w : World} {g : Nat} (m : Nat) (os : Array Obj) (s : List Int) (k : Nat) (hk : k < w.heap.size) (hne : k ≠ g) :
    (Sort.grow (Sort.putRow (Value.int .i64) (Sort.ahead w m) g 0 s.toArray) os).heap[k]? = w.heap[k]? := by
  show ((w.heap.modify g (Sort.onCells (Sort.putCells (Value.int .i64) 0 s.toArray))) ++ os)[k]? = _
  rw [Array.getElem?_append_left (by simpa using hk), Array.getElem?_modify, if_neg (fun e => hne e.symm)]

theorem put_cells (cur : Array Value) (l : List Int) (s : List Int) (hs : s.length = l.length) (hc : l.length ≤ cur.size) :
    (Sort.putCells (Value.int .i64) 0 s.toArray cur).size = cur.size ∧ (Sort.putCells (Value.int .i64) 0 s.toArray cur).toList.take s.length = s.map (Value.int .i64) := by
  refine ⟨by simp [Sort.putCells], ?_⟩
  apply List.ext_getElem?
  intro j
  rw [List.getElem?_take]
  by_cases hj : j < s.length
  · have hjc : j < cur.size := by omega
    rw [if_pos hj, List.getElem?_map, List.getElem?_eq_getElem hj]
    simp only [Sort.putCells, Array.getElem?_toList, Array.getElem?_mapIdx, Array.getElem?_eq_getElem hjc, Option.map_some]
    rw [if_pos ⟨Nat.zero_le _, by simpa using hj⟩]
    congr 2
    rw [Nat.sub_zero, getElem!_pos s.toArray j (by simpa using hj)]
    simp
  · rw [if_neg hj, List.getElem?_eq_none (by simpa using hj)]

/-- The row behind the sort. -/
theorem sorted_row {w0 w : World} {base : Nat} {ok : Nat → Prop} {g n c : Nat} {q} {l : List Int} (h : (Kd.int .i64).R 2 w base ok (.slice (some ⟨g, n, q⟩) l.length c) l) (hB : Below w0.heap.size w0 w) (hb : w0.heap.size ≤ base) (m : Nat) (os : Array Obj) :
    (Kd.int .i64).R 2 (Sort.grow (Sort.putRow (Value.int .i64) (Sort.ahead w m) g 0 (ordI l).toArray) os) base ok (.slice (some ⟨g, 0, none⟩) (ordI l).length c) (ordI l)
     ∧ Below w0.heap.size w0 (Sort.grow (Sort.putRow (Value.int .i64) (Sort.ahead w m) g 0 (ordI l).toArray) os) := by
  obtain ⟨_, _, hbg, hok, cur, hg, hn, hm, hs, ht⟩ := own_int h
  have hl := ordI_len l
  obtain ⟨p1, p2⟩ := put_cells cur l (ordI l) hl (by omega)
  refine ⟨⟨fun k hk => ?_, (ordI l).map (Value.int .i64), ⟨by show ((ordI l).map (Value.int .i64)).length = (ordI l).length * 1; simp, .inr ⟨g, c, _, rfl, hbg, heap_sorted (l := l) hg m os (ordI l), by omega, hm, ?_, ?_⟩⟩, reps_int _ _ _ _⟩, hB.trans ⟨rfl, rfl, rfl, ?_, fun k hk => ?_⟩⟩
  · have : k = g := by simpa [Value.ownBlock] using hk.symm
    rw [this]; exact hok
  · show (Sort.putCells (Value.int .i64) 0 (ordI l).toArray cur).size = c * 1
    omega
  · show (Sort.putCells (Value.int .i64) 0 (ordI l).toArray cur).toList.take ((ordI l).length * 1) = _
    rw [Nat.mul_one]; exact p2
  · show w.heap.size ≤ ((w.heap.modify g (Sort.onCells (Sort.putCells (Value.int .i64) 0 (ordI l).toArray))) ++ os).size
    simp
  · exact heap_other m os (ordI l) k (by have := hB.size; omega) (by omega)

end Go.Proofs.Ytopfdmodbhopiaa.Srt
