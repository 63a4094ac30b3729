/- FnPhrases, plainly: what is said is read back; in another tongue it says nothing; what is read is what is said. No condition. -/
import Derived.Test.YtllkijlmjapleaaDoorSearchLib
import Derived.Test.YtllkijlmjapleaaDoorRdLib
import Derived.Test.YtllkijlmjapleaaDoorStatFnPhrases
set_option linter.unusedVariables false
set_option linter.unusedSimpArgs false
namespace Go.Proofs.YtllkijlmjapleaaDoor.QFnPhrases
open Go.RowKit Go.Proofs.YtllkijlmjapleaaDoorW.PrintWords Go.Proofs.YtllkijlmjapleaaDoor.Opn Go.Proofs.YtllkijlmjapleaaDoor.Pl

theorem sayOk_eq (d f l r p : Int) : impl_sayOk.f d f l r p = spec_l23Ok.f d f l r p := rfl
theorem implSay (t d f l r p : Nat) (ht : t = 1 ∨ t = 2 ∨ t = 3) (hd : d ≤ 8) (hf : f ≤ 12) (hl : l ≤ 12) (hr : r ≤ 3) (hp : p ≤ 100) :
    Ev (fun k => impl_Phrase.j0 k (t : Int) false (d : Int) (f : Int) (l : Int) (r : Int) (p : Int)) (B (sayL (tg t) d f l r p)) := by
  have h1 := wind_len (tg t) (short t) d f hd (by omega)
  have h2 := later_len (tg t) (short t) f l (by omega)
  have h3 := rain_len (tg t) (short t) r p hr (by omega)
  refine Ev.step (fun k => by rw [impl_Phrase.j0, if_neg (by decide), implAt t ht, Option.bind_some, implRain (tg t) (short t) r p hr hp]) (Ev_bind _ (implWind (tg t) (short t) d f l hd hf hl) ?_)
  simp only [b32, Option.bind_some, B_app, B_size, List.length_append, List.length_cons, List.length_nil]
  rw [if_pos (by omega), if_pos (by omega)]
  unfold sayL
  simp only [List.append_assoc, List.cons_append, List.nil_append]
  exact Ev.now _
theorem implSayF (t d f l r p : Nat) (ht : t = 1 ∨ t = 2 ∨ t = 3) (hd : d ≤ 8) (hf : f ≤ 12) (hl : l ≤ 12) (hr : r ≤ 3) (hp : p ≤ 100) (hb : (((f : Int) == 0) == ((d : Int) == 0)) = true) (hc : (((p : Int) == 0) == ((r : Int) == 0)) = true) :
    Ev (fun k => impl_Phrase.f k (d : Int) (f : Int) (l : Int) (r : Int) (p : Int) (t : Int)) (B (sayL (tg t) d f l r p)) := by
  unfold impl_Phrase.f
  simp only [sayOk_eq, okVal d f l r p hd hf hl hr hp hb, inI, Option.bind_some, decide_eq_true (show (1 : Int) ≤ (t : Int) ∧ (t : Int) ≤ 3 by omega), if_true, hc, Bool.not_true]
  exact implSay t d f l r p ht hd hf hl hr hp

/-- What reading tells, in full. -/
theorem reads (s : ByteArray) (t : Int) : ∃ R, Ev (fun k => spec_ReadPhrase.f k s t) R ∧ Ev (fun k => impl_ReadPhrase.f k s t) R ∧
    ((R = (0, 0, 0, 0, 0, false) ∧ ∀ n : Nat, t = (n : Int) → (n = 1 ∨ n = 2 ∨ n = 3) → ∀ d f l r p : Nat, Valid d f l r p → sayL (tg n) d f l r p ≠ s.data.toList) ∨
     ∃ n d f l r p : Nat, t = (n : Int) ∧ (n = 1 ∨ n = 2 ∨ n = 3) ∧ Valid d f l r p ∧ sayL (tg n) d f l r p = s.data.toList ∧ R = ((d : Int), (f : Int), (l : Int), (r : Int), (p : Int), true)) := by
  unfold spec_ReadPhrase.f impl_ReadPhrase.f
  simp only [in2, inI, Option.bind_some]
  have hfalse : Ev (fun k => spec_ReadPhrase.j0 k s t true) (0, 0, 0, 0, 0, false) := Ev.step (f := fun _ => some (0, 0, 0, 0, 0, false)) (fun k => by rw [spec_ReadPhrase.j0, if_pos rfl]) (Ev.now _)
  by_cases ht : 1 ≤ t ∧ t ≤ 3
  case neg =>
    rw [decide_eq_false ht]
    simp only [Bool.false_eq_true, if_false]
    exact ⟨_, hfalse, Ev.now _, Or.inl ⟨rfl, fun n e hn => by exfalso; omega⟩⟩
  rw [decide_eq_true ht]
  simp only [if_true]
  obtain ⟨t, rfl⟩ : ∃ n : Nat, t = (n : Int) := ⟨t.toNat, by omega⟩
  have ht3 : t = 1 ∨ t = 2 ∨ t = 3 := by omega
  rw [implAt t ht3]
  simp only [Option.bind_some]
  obtain ⟨R, h1, h2, h3⟩ := both0 (L := s.data.toList) ht3 9 0 (by omega)
  have hi : Ev (fun k => impl_ReadPhrase.l0 k s 0 (B (tg t).calm) (B (tg t).before) (B (tg t).between) (B (tg t).up) (B (tg t).down) (B (tg t).dry) (B (tg t).inn) (B (tg t).one) (B (tg t).many) (B ((tg t).dirs.getD 0 [])) (B ((tg t).dirs.getD 1 [])) (B ((tg t).dirs.getD 2 [])) (B ((tg t).dirs.getD 3 [])) (B ((tg t).dirs.getD 4 [])) (B ((tg t).dirs.getD 5 [])) (B ((tg t).dirs.getD 6 [])) (B ((tg t).dirs.getD 7 [])) (B ((tg t).dirs.getD 8 [])) (B ((tg t).rains.getD 0 [])) (B ((tg t).rains.getD 1 [])) (B ((tg t).rains.getD 2 [])) (B ((tg t).rains.getD 3 []))) R := by
    conv at h2 => unfold il0; rw [← B_of s]
    exact h2
  have hs1 : Ev (fun k => spec_ReadPhrase.j0 k s (t : Int) false) R := by
    refine Ev.step (fun k => by rw [spec_ReadPhrase.j0, if_neg (by decide)]) ?_
    conv at h1 => unfold sl0; rw [← B_of s]
    exact h1
  have hl : s.data.toList.length = s.size := Array.length_toList
  have hR : (R = (0, 0, 0, 0, 0, false) ∧ ∀ n : Nat, (t : Int) = (n : Int) → (n = 1 ∨ n = 2 ∨ n = 3) → ∀ d f l r p : Nat, Valid d f l r p → sayL (tg n) d f l r p ≠ s.data.toList) ∨
     ∃ n d f l r p : Nat, (t : Int) = (n : Int) ∧ (n = 1 ∨ n = 2 ∨ n = 3) ∧ Valid d f l r p ∧ sayL (tg n) d f l r p = s.data.toList ∧ R = ((d : Int), (f : Int), (l : Int), (r : Int), (p : Int), true) := by
    rcases h3 with ⟨e, h4⟩ | ⟨d, f, l, r, p, hv, hsay, e⟩
    · refine Or.inl ⟨e, fun n en hn d f l r p hv => ?_⟩
      obtain rfl : t = n := by omega
      exact h4 d f l r p (by unfold Gx; omega) hv
    · exact Or.inr ⟨t, d, f, l, r, p, rfl, ht3, hv, hsay, e⟩
  by_cases hz : (s.size : Int) > 200
  · rw [decide_eq_true hz]
    rcases h3 with ⟨rfl, _⟩ | ⟨d, f, l, r, p, hv, hsay, _⟩
    · exact ⟨_, hfalse, hi, hR⟩
    · exfalso
      have := say_len t d f l r p hv.1 hv.2.1 hv.2.2.1 hv.2.2.2.1 hv.2.2.2.2.1
      rw [hsay] at this
      omega
  · rw [decide_eq_false hz]
    exact ⟨_, hs1, hi, hR⟩
/-- What saying tells, in full. -/
theorem says (d f l r p t : Int) : ∃ R, Ev (fun k => spec_Phrase.f k d f l r p t) R ∧ Ev (fun k => impl_Phrase.f k d f l r p t) R ∧
    (R = B [] ∨ ∃ n d' f' l' r' p' : Nat, t = (n : Int) ∧ d = (d' : Int) ∧ f = (f' : Int) ∧ l = (l' : Int) ∧ r = (r' : Int) ∧ p = (p' : Int) ∧ (n = 1 ∨ n = 2 ∨ n = 3) ∧ Valid d' f' l' r' p' ∧ R = B (sayL (tg n) d' f' l' r' p')) := by
  unfold spec_Phrase.f impl_Phrase.f
  obtain ⟨b, hb, hok⟩ := sayOk_val d f l r p
  simp only [sayOk_eq, hb, in2, inI, Option.bind_some]
  by_cases hq : b = true ∧ (1 ≤ t ∧ t ≤ 3)
  · obtain ⟨rfl, ht⟩ := hq
    obtain ⟨⟨d0, d1⟩, ⟨f0, f1⟩, ⟨l0, l1⟩, ⟨r0, r1⟩, ⟨p0, p1⟩, g1, g2⟩ := hok rfl
    obtain ⟨d, rfl⟩ : ∃ n : Nat, d = (n : Int) := ⟨d.toNat, by omega⟩
    obtain ⟨f, rfl⟩ : ∃ n : Nat, f = (n : Int) := ⟨f.toNat, by omega⟩
    obtain ⟨l, rfl⟩ : ∃ n : Nat, l = (n : Int) := ⟨l.toNat, by omega⟩
    obtain ⟨r, rfl⟩ : ∃ n : Nat, r = (n : Int) := ⟨r.toNat, by omega⟩
    obtain ⟨p, rfl⟩ : ∃ n : Nat, p = (n : Int) := ⟨p.toNat, by omega⟩
    obtain ⟨t, rfl⟩ : ∃ n : Nat, t = (n : Int) := ⟨t.toNat, by omega⟩
    refine ⟨B (sayL (tg t) d f l r p), ?_, ?_, Or.inr ⟨t, d, f, l, r, p, rfl, rfl, rfl, rfl, rfl, rfl, by omega, ⟨by omega, by omega, by omega, by omega, by omega, by omega, by omega⟩, rfl⟩⟩
    · rw [decide_eq_true ht]
      simp only [if_true, Bool.not_true]
      exact specSay t d f l r p (by omega) (by omega) (by omega) (by omega) (by omega) (by omega)
    · rw [decide_eq_true ht]
      simp only [if_true, Bool.not_true]
      exact implSay t d f l r p (by omega) (by omega) (by omega) (by omega) (by omega) (by omega)
  · have e1 : Ev (fun k => spec_Phrase.j0 k t true d f l r p) (B []) := Ev.step (f := fun _ => some (B [])) (fun k => by rw [spec_Phrase.j0, if_pos rfl]; rfl) (Ev.now _)
    have e2 : Ev (fun k => impl_Phrase.j0 k t true d f l r p) (B []) := Ev.step (f := fun _ => some (B [])) (fun k => by rw [impl_Phrase.j0, if_pos rfl]; rfl) (Ev.now _)
    refine ⟨B [], ?_, ?_, Or.inl rfl⟩
    · cases b with
      | false => simp only [Bool.false_eq_true, if_false]; exact e1
      | true =>
        rw [decide_eq_false (fun h => hq ⟨rfl, h⟩)]
        simp only [if_true, Bool.not_false]
        exact e1
    · by_cases ht : 1 ≤ t ∧ t ≤ 3
      · rw [decide_eq_true ht]
        cases b with
        | false => simp only [if_true, Bool.not_false]; exact e2
        | true => exact absurd ⟨rfl, ht⟩ hq
      · rw [decide_eq_false ht]
        simp only [Bool.false_eq_true, if_false]
        exact e2
theorem say_pos (t d f l r p : Nat) : sayL (tg t) d f l r p ≠ [] := by
  unfold sayL
  intro h
  have := congrArg List.length h
  simp only [List.length_append, List.length_cons, List.length_nil] at this
  omega

/-- A drawn say is within what a Say's numbers may be. -/
theorem rdSay {b : List Int} {p : Int} (h : RdOk b p) : ∃ d f l r q p', Ev (fun k => spec_l1Rd_say.f k b p) (d, f, l, r, q, p') ∧ RdOk b p' ∧ Valid d.toNat f.toNat l.toNat r.toNat q.toNat ∧ 0 ≤ d ∧ 0 ≤ f ∧ 0 ≤ l ∧ 0 ≤ r ∧ 0 ≤ q := by
  unfold spec_l1Rd_say.f
  obtain ⟨d, p1, e1, d0, d1, h1⟩ := rdBelow h 9 (by decide)
  obtain ⟨f, p2, e2, f0, f1, h2⟩ := rdBelow h1 12 (by decide)
  obtain ⟨l, p3, e3, l0, l1, h3⟩ := rdBelow h2 13 (by decide)
  obtain ⟨r, p4, e4, r0, r1, h4⟩ := rdBelow h3 4 (by decide)
  obtain ⟨q, p5, e5, q0, q1, h5⟩ := rdBelow h4 100 (by decide)
  obtain ⟨o, p6, e6, h6⟩ := rdOnce h5 3 (by decide)
  simp only [e1, e2, e3, e4, e5, e6, Option.bind_some]
  have key : ∀ (q : Int), 1 ≤ q → q ≤ 100 → ∃ d' f' l' r' q' p', Ev (fun k => spec_l1Rd_say.j0 k b p6 d (wrap64 (1 + f)) l r q) (d', f', l', r', q', p') ∧ RdOk b p' ∧ Valid d'.toNat f'.toNat l'.toNat r'.toNat q'.toNat ∧ 0 ≤ d' ∧ 0 ≤ f' ∧ 0 ≤ l' ∧ 0 ≤ r' ∧ 0 ≤ q' := by
    intro q q2 q3
    rw [w64 (n := 1 + f) (by omega) (by omega)]
    obtain ⟨o2, p7, e7, h7⟩ := rdOnce h6 3 (by decide)
    have key2 : ∀ l : Int, 0 ≤ l → l ≤ 12 → ∃ d' f' l' r' q' p', Ev (fun k => spec_l1Rd_say.j1 k b p7 d (1 + f) l r q) (d', f', l', r', q', p') ∧ RdOk b p' ∧ Valid d'.toNat f'.toNat l'.toNat r'.toNat q'.toNat ∧ 0 ≤ d' ∧ 0 ≤ f' ∧ 0 ≤ l' ∧ 0 ≤ r' ∧ 0 ≤ q' := by
      intro l l2 l3
      by_cases cd : d = 0
      · by_cases cr : r = 0
        · refine ⟨d, 0, l, r, 0, p7, Ev.step (f := fun _ => some (d, 0, l, r, 0, p7)) (fun k => ?_) (Ev.now _), h7, ⟨by omega, by omega, by omega, by omega, by omega, by omega, by omega⟩, by omega, by omega, by omega, by omega, by omega⟩
          rw [spec_l1Rd_say.j1, if_pos cd, if_pos cr]
        · refine ⟨d, 0, l, r, q, p7, Ev.step (f := fun _ => some (d, 0, l, r, q, p7)) (fun k => ?_) (Ev.now _), h7, ⟨by omega, by omega, by omega, by omega, by omega, by omega, by omega⟩, by omega, by omega, by omega, by omega, by omega⟩
          rw [spec_l1Rd_say.j1, if_pos cd, if_neg cr]
      · by_cases cr : r = 0
        · refine ⟨d, 1 + f, l, r, 0, p7, Ev.step (f := fun _ => some (d, 1 + f, l, r, 0, p7)) (fun k => ?_) (Ev.now _), h7, ⟨by omega, by omega, by omega, by omega, by omega, by omega, by omega⟩, by omega, by omega, by omega, by omega, by omega⟩
          rw [spec_l1Rd_say.j1, if_neg cd, if_pos cr]
        · refine ⟨d, 1 + f, l, r, q, p7, Ev.step (f := fun _ => some (d, 1 + f, l, r, q, p7)) (fun k => ?_) (Ev.now _), h7, ⟨by omega, by omega, by omega, by omega, by omega, by omega, by omega⟩, by omega, by omega, by omega, by omega, by omega⟩
          rw [spec_l1Rd_say.j1, if_neg cd, if_neg cr]
    cases o2 with
    | true =>
      obtain ⟨d', f', l', r', q', p', e, rest⟩ := key2 (1 + f) (by omega) (by omega)
      refine ⟨d', f', l', r', q', p', Ev.step (fun k => ?_) e, rest⟩
      rw [spec_l1Rd_say.j0, e7, Option.bind_some, if_pos rfl]
    | false =>
      obtain ⟨d', f', l', r', q', p', e, rest⟩ := key2 l (by omega) (by omega)
      refine ⟨d', f', l', r', q', p', Ev.step (fun k => ?_) e, rest⟩
      rw [spec_l1Rd_say.j0, e7, Option.bind_some]
      rfl
  cases o with
  | true => simp only [if_true]; exact key 1 (by omega) (by omega)
  | false =>
    simp only [Bool.false_eq_true, if_false, w64 (n := 1 + q) (by omega) (by omega)]
    exact key (1 + q) (by omega) (by omega)

theorem rdListB (l : List ByteArray) (i : Int) (h0 : 0 ≤ i) (h : i < (l.length : Int)) (hs : ∀ x ∈ l, x.size ≤ 10) : (rdOf ByteArray.empty l i).size ≤ 10 := by
  unfold rdOf
  rw [List.getD_eq_getElem?_getD, List.getElem?_eq_getElem (by omega)]
  exact hs _ (List.getElem_mem _)
/-- Something is drawn. -/
theorem drawPhrase {b : List Int} (h : RdOk b 0) : ∃ d f l r p t, Ev (fun k => spec_DrawPhrase.f k b) (d, f, l, r, p, t) := by
  unfold spec_DrawPhrase.f spec_l1Open.f
  simp only [Option.bind_some]
  obtain ⟨d, f, l, r, q, p1, e1, h1, _⟩ := rdSay h
  obtain ⟨v, p2, e2, v0, v1, h2⟩ := rdBelow h1 16 (by decide)
  obtain ⟨i, p3, a1, a2, a3, h3⟩ := rdBelow h2 3 (by decide)
  obtain ⟨u, p4, a4, _, _, _⟩ := rdBelow h3 5 (by decide)
  obtain ⟨i2, p5, a5, a6, a7, h5⟩ := rdBelow h2 2 (by decide)
  obtain ⟨u2, p6, a8, _, _, _⟩ := rdBelow h5 5 (by decide)
  obtain ⟨u3, p7, a9, _, _, _⟩ := rdBelow h2 5 (by decide)
  have b0 : i < (([(-1), 9, 0] : List Int).length : Int) := a3
  have b1 : i < (([(-1), 13, 0] : List Int).length : Int) := a3
  have b2 : i < (([0, 100, 101] : List Int).length : Int) := a3
  have b3 : i2 < (([(-1), 4] : List Int).length : Int) := a7
  by_cases c0 : v = 0
  · refine ⟨rd [(-1), 9, 0] i, f, l, r, q, u, Ev_bind _ e1 ?_⟩
    simp only [e2, Option.bind_some, if_pos c0, a1, a4, if_pos a2, if_pos b0]
    exact Ev.now _
  by_cases c1 : v = 1
  · refine ⟨d, rd [(-1), 13, 0] i, l, r, q, u, Ev_bind _ e1 ?_⟩
    simp only [e2, Option.bind_some, if_neg c0, if_pos c1, a1, a4, if_pos a2, if_pos b1]
    exact Ev.now _
  by_cases c2 : v = 2
  · refine ⟨d, f, l, r, rd [0, 100, 101] i, u, Ev_bind _ e1 ?_⟩
    simp only [e2, Option.bind_some, if_neg c0, if_neg c1, if_pos c2, a1, a4, if_pos a2, if_pos b2]
    exact Ev.now _
  by_cases c3 : v = 3
  · refine ⟨d, f, l, rd [(-1), 4] i2, q, u2, Ev_bind _ e1 ?_⟩
    simp only [e2, Option.bind_some, if_neg c0, if_neg c1, if_neg c2, if_pos c3, a5, a8, if_pos a6, if_pos b3]
    exact Ev.now _
  · refine ⟨d, f, l, r, q, u3, Ev_bind _ e1 ?_⟩
    simp only [e2, Option.bind_some, if_neg c0, if_neg c1, if_neg c2, if_neg c3, a9]
    exact Ev.now _
theorem drawRead0 {b : List Int} {p : Int} (h : RdOk b p) (t : Int) (s : ByteArray) : ∃ t', Ev (fun k => spec_DrawReadPhrase.j0 k t s b p) (s, t') := by
  obtain ⟨o, p1, e1, h1⟩ := rdOnce h 9 (by decide)
  cases o with
  | true =>
    obtain ⟨u, p2, e2, _, _, _⟩ := rdBelow h1 5 (by decide)
    refine ⟨u, Ev.step (f := fun _ => some (s, u)) (fun k => ?_) (Ev.now _)⟩
    rw [spec_DrawReadPhrase.j0, e1, Option.bind_some, if_pos rfl, e2]
    rfl
  | false =>
    refine ⟨t, Ev.step (f := fun _ => some (s, t)) (fun k => ?_) (Ev.now _)⟩
    rw [spec_DrawReadPhrase.j0, e1, Option.bind_some]
    rfl
theorem drawRead {b : List Int} (h : RdOk b 0) : ∃ s t, Ev (fun k => spec_DrawReadPhrase.f k b) (s, t) := by
  unfold spec_DrawReadPhrase.f spec_l1Open.f
  simp only [Option.bind_some]
  obtain ⟨v, p1, e1, v0, v1, h1⟩ := rdBelow h 3 (by decide)
  obtain ⟨d, f, l, r, q, p2, e2, h2, hv, d0, f0, l0, r0, q0⟩ := rdSay h1
  rw [e1]
  simp only [Option.bind_some, w64 (n := 1 + v) (by omega) (by omega)]
  obtain ⟨n, hn⟩ : ∃ n : Nat, 1 + v = (n : Int) := ⟨(1 + v).toNat, by omega⟩
  rw [hn]
  have hsay : Ev (fun k => spec_Phrase.f k d f l r q (n : Int)) (B (sayL (tg n) d.toNat f.toNat l.toNat r.toNat q.toNat)) := by
    have := specSayF n d.toNat f.toNat l.toNat r.toNat q.toNat (by omega) hv.1 hv.2.1 hv.2.2.1 hv.2.2.2.1 hv.2.2.2.2.1 ((par_iff _ _).2 hv.2.2.2.2.2.1) ((par_iff _ _).2 hv.2.2.2.2.2.2)
    rw [show ((d.toNat : Nat) : Int) = d by omega, show ((f.toNat : Nat) : Int) = f by omega, show ((l.toNat : Nat) : Int) = l by omega, show ((r.toNat : Nat) : Int) = r by omega, show ((q.toNat : Nat) : Int) = q by omega] at this
    exact this
  have hlen := say_len n d.toNat f.toNat l.toNat r.toNat q.toNat hv.1 hv.2.1 hv.2.2.1 hv.2.2.2.1 hv.2.2.2.2.1
  have hpos := say_pos n d.toNat f.toNat l.toNat r.toNat q.toNat
  generalize sayL (tg n) d.toNat f.toNat l.toNat r.toNat q.toNat = L at hsay hlen hpos
  have hL : 1 ≤ L.length := by
    cases L with
    | nil => exact absurd rfl hpos
    | cons a r => rw [List.length_cons]; omega
  obtain ⟨o, p3, e3, h3⟩ := rdOnce h2 3 (by decide)
  have hsz : (B L).size = L.length := B_size L
  cases o with
  | false =>
    obtain ⟨t', e⟩ := drawRead0 h3 (n : Int) (B L)
    refine ⟨B L, t', Ev_bind _ e2 (Ev_bind _ hsay ?_)⟩
    simp only [e3, Option.bind_some, Bool.false_eq_true, if_false]
    exact e
  | true =>
    obtain ⟨i, p4, e4, i0, i1, h4⟩ := rdBelow h3 ((B L).size : Int) (by omega)
    obtain ⟨j, p5, e5, j0, j1, h5⟩ := rdBelow h4 6 (by decide)
    obtain ⟨m, p6, e6, m0, m1, h6⟩ := rdBelow h5 2 (by decide)
    have hj := rdListB [(⟨#[48]⟩ : ByteArray), (⟨#[32]⟩ : ByteArray), (⟨#[49]⟩ : ByteArray), (⟨#[46]⟩ : ByteArray), (⟨#[115]⟩ : ByteArray), (⟨#[]⟩ : ByteArray)] j j0 (by simpa using j1) (by
      intro x hx
      simp only [List.mem_cons, List.not_mem_nil, or_false] at hx
      rcases hx with rfl | rfl | rfl | rfl | rfl | rfl <;> decide)
    have ha : ((B L).extract 0 i.toNat).size ≤ 200 := by rw [ByteArray.size_extract]; omega
    have hc : ((B L).extract (i + m).toNat (B L).size).size ≤ 200 := by rw [ByteArray.size_extract]; omega
    obtain ⟨t', e⟩ := drawRead0 h6 (n : Int) ((((B L).extract 0 i.toNat) ++ (rdOf ByteArray.empty [(⟨#[48]⟩ : ByteArray), (⟨#[32]⟩ : ByteArray), (⟨#[49]⟩ : ByteArray), (⟨#[46]⟩ : ByteArray), (⟨#[115]⟩ : ByteArray), (⟨#[]⟩ : ByteArray)] j)) ++ ((B L).extract (i + m).toNat (B L).size))
    have hwm : wrap64 (i + m) = i + m := w64 (by omega) (by omega)
    have k1 : i ≤ ((B L).size : Int) := by omega
    have k2 : j < (([(⟨#[48]⟩ : ByteArray), (⟨#[32]⟩ : ByteArray), (⟨#[49]⟩ : ByteArray), (⟨#[46]⟩ : ByteArray), (⟨#[115]⟩ : ByteArray), (⟨#[]⟩ : ByteArray)] : List ByteArray).length : Int) := j1
    have k3 : ((B L).extract 0 i.toNat).size + (rdOf ByteArray.empty [(⟨#[48]⟩ : ByteArray), (⟨#[32]⟩ : ByteArray), (⟨#[49]⟩ : ByteArray), (⟨#[46]⟩ : ByteArray), (⟨#[115]⟩ : ByteArray), (⟨#[]⟩ : ByteArray)] j).size ≤ 9223372036854775807 := by omega
    have k4 : 0 ≤ i + m := by omega
    have k5 : i + m ≤ ((B L).size : Int) := by omega
    have k6 : (((B L).extract 0 i.toNat) ++ (rdOf ByteArray.empty [(⟨#[48]⟩ : ByteArray), (⟨#[32]⟩ : ByteArray), (⟨#[49]⟩ : ByteArray), (⟨#[46]⟩ : ByteArray), (⟨#[115]⟩ : ByteArray), (⟨#[]⟩ : ByteArray)] j)).size + ((B L).extract (i + m).toNat (B L).size).size ≤ 9223372036854775807 := by rw [ByteArray.size_append]; omega
    refine ⟨((((B L).extract 0 i.toNat) ++ (rdOf ByteArray.empty [(⟨#[48]⟩ : ByteArray), (⟨#[32]⟩ : ByteArray), (⟨#[49]⟩ : ByteArray), (⟨#[46]⟩ : ByteArray), (⟨#[115]⟩ : ByteArray), (⟨#[]⟩ : ByteArray)] j)) ++ ((B L).extract (i + m).toNat (B L).size)), t', Ev_bind _ e2 (Ev_bind _ hsay ?_)⟩
    simp only [e3, if_true, e4, e5, e6, Option.bind_some, hwm, if_pos i0, if_pos k1, if_pos j0, if_pos k2, if_pos k3, if_pos k4, if_pos k5, if_pos k6]
    exact e
theorem Pure.FnPhrases : FnPhrases_Pure := by
  intro c0 c1 w0 w1
  refine Ev.rounds (g := fun k => laws_FnPhrases.f k c0 c1) ?_
  unfold laws_FnPhrases.f laws_big.f
  simp only [Option.bind_some]
  have fin : Ev (fun k => laws_FnPhrases.j0 k c0 c1 true) true := Ev.step (f := fun _ => some true) (fun k => by rw [laws_FnPhrases.j0, if_pos rfl]) (Ev.now _)
  by_cases g1 : (c0.length : Int) > 1048576
  · simp only [decide_eq_true g1, if_true]; exact fin
  simp only [decide_eq_false g1, Bool.false_eq_true, if_false]
  by_cases g2 : (c1.length : Int) > 1048576
  · simp only [decide_eq_true g2]; exact fin
  simp only [decide_eq_false g2]
  have hb0 : RdOk c0 0 := ⟨by omega, fun i hi => by rw [rd_lt c0 i hi]; exact wfU8_range (wfL_get w0 i hi), by omega, by omega⟩
  have hb1 : RdOk c1 0 := ⟨by omega, fun i hi => by rw [rd_lt c1 i hi]; exact wfU8_range (wfL_get w1 i hi), by omega, by omega⟩
  have second : Ev (fun k => laws_FnPhrases.j1 k c1) true := by
    obtain ⟨s, t, e1⟩ := drawRead hb1
    obtain ⟨R, e2, e3, e4⟩ := reads s t
    refine Ev.step (fun k => by rw [laws_FnPhrases.j1]) (Ev_bind _ e1 (Ev_bind _ e2 (Ev_bind _ e3 ?_)))
    rcases e4 with ⟨rfl, _⟩ | ⟨n, d, f, l, r, p, rfl, hn, hv, hs, rfl⟩
    · simp only [beq_self_eq_true, if_true, Bool.false_eq_true, if_false]
      exact Ev.now _
    · simp only [beq_self_eq_true, if_true]
      have hi : Ev (fun k => impl_Phrase.f k (d : Int) (f : Int) (l : Int) (r : Int) (p : Int) (n : Int)) (B (sayL (tg n) d f l r p)) := implSayF n d f l r p hn hv.1 hv.2.1 hv.2.2.1 hv.2.2.2.1 hv.2.2.2.2.1 ((par_iff _ _).2 hv.2.2.2.2.2.1) ((par_iff _ _).2 hv.2.2.2.2.2.2)
      refine Ev_bind _ hi ?_
      have e5 : ((B (sayL (tg n) d f l r p)).toList == s.toList) = true := by
        rw [hs, ← B_of s]
        exact beq_self_eq_true _
      rw [e5]
      exact Ev.now _
  obtain ⟨d, f, l, r, p, t, e1⟩ := drawPhrase hb0
  obtain ⟨R, e2, e3, e4⟩ := says d f l r p t
  refine Ev.step (fun k => by rw [laws_FnPhrases.j0, if_neg (by decide)]) (Ev_bind _ e1 (Ev_bind _ e2 (Ev_bind _ e3 ?_)))
  simp only [if_true]
  rcases e4 with rfl | ⟨n, d, f, l, r, p, rfl, rfl, rfl, rfl, rfl, rfl, hn, hv, rfl⟩
  · simp only [if_pos (show (B []).toList = ([] : List UInt8) from B_toList [])]
    exact second
  · simp only [if_neg (show ¬ (B (sayL (tg n) d f l r p)).toList = ([] : List UInt8) by rw [B_toList]; exact say_pos n d f l r p)]
    obtain ⟨R1, _, q1, q2⟩ := reads (B (sayL (tg n) d f l r p)) (n : Int)
    obtain ⟨R2, _, q3, q4⟩ := reads (B (sayL (tg n) d f l r p)) (wrap64 ((Int.tmod (n : Int) 3) + 1))
    refine Ev_bind _ q1 (Ev_bind _ q3 ?_)
    have hL : (B (sayL (tg n) d f l r p)).data.toList = sayL (tg n) d f l r p := rfl
    rcases q2 with ⟨_, no⟩ | ⟨n', d', f', l', r', p', en, hn', hv', hs, rfl⟩
    · exact absurd hL.symm (no n rfl hn d f l r p hv)
    · obtain ⟨rfl, rfl, rfl, rfl, rfl, rfl⟩ := say_inj hn' hn hv' hv (hs.trans hL)
      rcases q4 with ⟨rfl, _⟩ | ⟨n2, d2, f2, l2, r2, p2, en2, hn2, hv2, hs2, _⟩
      · simp only [beq_self_eq_true, Bool.not_true, Bool.or_self, Bool.false_eq_true, if_false, if_true]
        exact second
      · exfalso
        obtain ⟨e, _⟩ := say_inj hn2 hn hv2 hv (hs2.trans hL)
        subst e
        rcases hn with rfl | rfl | rfl <;> exact absurd en2 (by decide +kernel)
end Go.Proofs.YtllkijlmjapleaaDoor.QFnPhrases
