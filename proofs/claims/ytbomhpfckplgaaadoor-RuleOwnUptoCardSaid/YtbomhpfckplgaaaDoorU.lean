/- Encodings, edges and steps of a list of bytes (numbers): plain theory. What the document's layer 2 answers, in plain terms: encodings, edges, steps. The decoding of a string of bytes, in plain terms. The document's steps and tables, and the program's edges, in plain terms. The document's steps and tables are the program's edges counted by a ruler. -/
import Derived.Test.YtbomhpfckplgaaaDoorPx10
import Derived.Test.YtbomhpfckplgaaaDoorU0
import Derived.Test.YtbomhpfckplgaaaDoorH
import Derived.Lib.DecodeN
import Derived.Lib.RuneCountTail
import Derived.Test.YtbomhpfckplgaaaDoorPx11
namespace Go.Proofs.YtbomhpfckplgaaaDoor.Utf
/-- the byte in a place, -1 outside -/
def at_ (b : List Int) (p : Nat) : Int := b.getD p (-1)
def tail (x : Int) : Prop := 0x80 ≤ x ∧ x ≤ 0xbf
instance (x : Int) : Decidable (tail x) := by unfold tail; infer_instance

def three (x y : Int) : Prop := (x = 0xe0 ∧ 0xa0 ≤ y ∧ y ≤ 0xbf) ∨ (0xe1 ≤ x ∧ x ≤ 0xec ∧ tail y) ∨ (x = 0xed ∧ 0x80 ≤ y ∧ y ≤ 0x9f) ∨ (0xee ≤ x ∧ x ≤ 0xef ∧ tail y)
def four (x y : Int) : Prop := (x = 0xf0 ∧ 0x90 ≤ y ∧ y ≤ 0xbf) ∨ (0xf1 ≤ x ∧ x ≤ 0xf3 ∧ tail y) ∨ (x = 0xf4 ∧ 0x80 ≤ y ∧ y ≤ 0x8f)
instance (x y : Int) : Decidable (three x y) := by unfold three; infer_instance
instance (x y : Int) : Decidable (four x y) := by unfold four; infer_instance

/-- how many bytes the encoding has that these four begin with; 0: none -/
def long4 (x y z w : Int) : Nat :=
  if 0 ≤ x ∧ x ≤ 0x7f then 1
  else if (0xc2 ≤ x ∧ x ≤ 0xdf) ∧ tail y then 2
  else if tail z ∧ three x y then 3
  else if tail z ∧ tail w ∧ four x y then 4
  else 0

theorem long4_le (x y z w : Int) : long4 x y z w ≤ 4 := by unfold long4; repeat (first | split | omega)
theorem long4_tail {x y z w : Int} (h : tail x) : long4 x y z w = 0 := by
  unfold long4 tail three four at *
  repeat (first | rw [if_neg (by omega)])
theorem long4_y {x y z w : Int} (h : 1 < long4 x y z w) : tail y := by
  unfold long4 at h
  (repeat' split at h) <;> (try simp only [tail, three, four] at *) <;> omega
theorem long4_z {x y z w : Int} (h : 2 < long4 x y z w) : tail z := by
  unfold long4 at h
  (repeat' split at h) <;> (try simp only [tail, three, four] at *) <;> omega
theorem long4_w {x y z w : Int} (h : 3 < long4 x y z w) : tail w := by
  unfold long4 at h
  (repeat' split at h) <;> (try simp only [tail, three, four] at *) <;> omega
theorem long4_x {x y z w : Int} (h : 0 < long4 x y z w) : 0 ≤ x := by
  unfold long4 at h
  (repeat' split at h) <;> (try simp only [tail, three, four] at *) <;> omega

def long (b : List Int) (p : Nat) : Nat := long4 (at_ b p) (at_ b (p + 1)) (at_ b (p + 2)) (at_ b (p + 3))
def width (b : List Int) (p : Nat) : Nat := if long b p = 0 then 1 else long b p

theorem at_drop (b : List Int) (p q : Nat) : at_ (b.drop p) q = at_ b (p + q) := by simp [at_, List.getD_eq_getElem?_getD]
theorem long_drop (b : List Int) (p q : Nat) : long (b.drop p) q = long b (p + q) := by simp [long, at_drop, Nat.add_assoc]
theorem width_drop (b : List Int) (p q : Nat) : width (b.drop p) q = width b (p + q) := by simp [width, long_drop]
theorem long_le4 (b : List Int) (p : Nat) : long b p ≤ 4 := long4_le _ _ _ _
theorem width_pos (b : List Int) (p : Nat) : 0 < width b p := by unfold width; split <;> omega
theorem width_le4 (b : List Int) (p : Nat) : width b p ≤ 4 := by have := long_le4 b p; unfold width; split <;> omega
theorem long_le_width (b : List Int) (p : Nat) : long b p ≤ width b p := by unfold width; split <;> omega

theorem long_in {b : List Int} {p k : Nat} (h : k < long b p) : 0 < k → tail (at_ b (p + k)) := by
  intro hk
  have h4 := long_le4 b p
  obtain rfl | rfl | rfl : k = 1 ∨ k = 2 ∨ k = 3 := by omega
  · exact long4_y h
  · exact long4_z h
  · exact long4_w h
theorem long_tail {b : List Int} {p : Nat} (h : tail (at_ b p)) : long b p = 0 := long4_tail h
theorem long_within {b : List Int} {p k : Nat} (h : k < long b p) (hk : 0 < k) : long b (p + k) = 0 := long_tail (long_in h hk)
theorem at_lt {b : List Int} {p : Nat} (h : 0 ≤ at_ b p) : p < b.length := by
  rcases Nat.lt_or_ge p b.length with h1 | h1
  · exact h1
  · simp [at_, List.getD_eq_getElem?_getD, List.getElem?_eq_none h1] at h
theorem long_end {b : List Int} {p : Nat} (h : 0 < long b p) : p + long b p ≤ b.length := by
  rcases Nat.lt_or_ge (long b p) 2 with h1 | h1
  · have := at_lt (long4_x h); omega
  · have h2 : tail (at_ b (p + (long b p - 1))) := long_in (by omega) (by omega)
    have := at_lt (b := b) (p := p + (long b p - 1)) (by unfold tail at h2; omega)
    omega
theorem width_end {b : List Int} {p : Nat} (h : p < b.length) : p + width b p ≤ b.length := by
  unfold width
  split
  · omega
  · exact long_end (by omega)

/-- does an encoding go over the place? -/
def inside (b : List Int) (p : Nat) : Bool := (List.range 3).any fun j => decide (j + 1 ≤ p) && decide (j + 1 < long b (p - (j + 1)))
theorem inside_iff {b : List Int} {p : Nat} : inside b p = true ↔ ∃ k, 0 < k ∧ k ≤ p ∧ k < long b (p - k) := by
  unfold inside
  rw [List.any_eq_true]
  constructor
  · rintro ⟨j, hj, h⟩
    simp at h
    exact ⟨j + 1, by omega, h.1, h.2⟩
  · rintro ⟨k, h0, h1, h2⟩
    have := long_le4 b (p - k)
    refine ⟨k - 1, by simp; omega, ?_⟩
    simp
    have e : k - 1 + 1 = k := by omega
    rw [e]
    exact ⟨by omega, h2⟩
theorem inside_zero (b : List Int) : inside b 0 = false := by
  rw [Bool.eq_false_iff]; intro h
  obtain ⟨k, h0, h1, _⟩ := inside_iff.1 h
  omega
theorem inside_mid {b : List Int} {p k : Nat} (h0 : 0 < k) (h : k < width b p) : inside b (p + k) = true := by
  rw [inside_iff]
  refine ⟨k, h0, by omega, ?_⟩
  have e : p + k - k = p := by omega
  rw [e]
  unfold width at h
  split at h <;> omega
/-- behind a step from an edge there is an edge -/
theorem inside_next {b : List Int} {p : Nat} (h : inside b p = false) : inside b (p + width b p) = false := by
  rw [Bool.eq_false_iff]; intro hi
  obtain ⟨k, h0, h1, h2⟩ := inside_iff.1 hi
  have hw := width_pos b p
  rcases Nat.lt_trichotomy (p + width b p - k) p with hq | hq | hq
  · have : inside b p = true := by
      rw [inside_iff]
      refine ⟨p - (p + width b p - k), by omega, by omega, ?_⟩
      have e : p - (p - (p + width b p - k)) = p + width b p - k := by omega
      rw [e]; omega
    rw [h] at this; cases this
  · rw [hq] at h2
    have := long_le_width b p
    omega
  · have : long b (p + (width b p - k)) = 0 := by
      refine long_within ?_ (by omega)
      have hkw : width b p - k < width b p := by omega
      have h1 : 1 < width b p := by omega
      have : width b p = long b p := by
        unfold width at h1 ⊢
        by_cases h0 : long b p = 0
        · rw [if_pos h0] at h1; omega
        · rw [if_neg h0]
      omega
    have e : p + width b p - k = p + (width b p - k) := by omega
    rw [e] at h2; omega
theorem inside_len (b : List Int) : inside b b.length = false := by
  rw [Bool.eq_false_iff]; intro hi
  obtain ⟨k, h0, h1, h2⟩ := inside_iff.1 hi
  have := long_end (b := b) (p := b.length - k) (by omega)
  omega
theorem inside_beyond {b : List Int} {p : Nat} (h : b.length ≤ p) : inside b p = false := by
  rw [Bool.eq_false_iff]; intro hi
  obtain ⟨k, h0, h1, h2⟩ := inside_iff.1 hi
  have := long_end (b := b) (p := p - k) (by omega)
  omega

/-- the steps, one behind the other -/
def segs (b : List Int) : List (List Int) := if _h : b = [] then [] else b.take (width b 0) :: segs (b.drop (width b 0))
termination_by b.length
decreasing_by
  have := width_pos b 0
  have : 0 < b.length := List.length_pos_iff.2 ‹_›
  simp; omega

theorem segs_nil : segs [] = [] := by rw [segs]; simp
theorem segs_cons {b : List Int} (h : b ≠ []) : segs b = b.take (width b 0) :: segs (b.drop (width b 0)) := by rw [segs, dif_neg h]
theorem segs_flatten (b : List Int) : (segs b).flatten = b := by
  fun_induction segs b with
  | case1 => rfl
  | case2 b h ih => rw [List.flatten_cons, ih, List.take_append_drop]
theorem segs_inj {a b : List Int} (h : segs a = segs b) : a = b := by rw [← segs_flatten a, ← segs_flatten b, h]
/-- a step alone is the same step -/
theorem at_take {b : List Int} {n q : Nat} (h : q < n) : at_ (b.take n) q = at_ b q := by simp [at_, List.getD_eq_getElem?_getD, h]
theorem at_take_ge {b : List Int} {n q : Nat} (h : n ≤ q) : at_ (b.take n) q = -1 := by
  have : ¬ q < n := by omega
  simp [at_, List.getD_eq_getElem?_getD, List.getElem?_take, this]
/-- what stands ahead of an edge is told by the bytes ahead of it alone -/
theorem long_take {b : List Int} {n q : Nat} (h : q + long b q ≤ n) (h0 : 0 < long b q) : long (b.take n) q = long b q := by
  have hl := long_le4 b q
  have e0 : at_ (b.take n) q = at_ b q := at_take (by omega)
  unfold long at h h0 hl ⊢
  rw [e0]
  have a1 : q + 1 < n → at_ (b.take n) (q + 1) = at_ b (q + 1) := fun h => at_take h
  have a2 : q + 2 < n → at_ (b.take n) (q + 2) = at_ b (q + 2) := fun h => at_take h
  have a3 : q + 3 < n → at_ (b.take n) (q + 3) = at_ b (q + 3) := fun h => at_take h
  generalize at_ (b.take n) (q + 1) = y' at *
  generalize at_ (b.take n) (q + 2) = z' at *
  generalize at_ (b.take n) (q + 3) = w' at *
  generalize at_ b q = x at *
  generalize at_ b (q + 1) = y at *
  generalize at_ b (q + 2) = z at *
  generalize at_ b (q + 3) = w at *
  unfold long4 at *
  by_cases c1 : 0 ≤ x ∧ x ≤ 0x7f
  · rw [if_pos c1, if_pos c1]
  rw [if_neg c1] at h h0 hl ⊢
  rw [if_neg c1]
  by_cases c2 : (0xc2 ≤ x ∧ x ≤ 0xdf) ∧ tail y
  · rw [if_pos c2] at h h0 hl ⊢
    rw [a1 (by omega), if_pos c2]
  rw [if_neg c2] at h h0 hl ⊢
  by_cases c3 : tail z ∧ three x y
  · rw [if_pos c3] at h h0 hl ⊢
    rw [a1 (by omega), a2 (by omega), if_neg c2, if_pos c3]
  rw [if_neg c3] at h h0 hl ⊢
  by_cases c4 : tail z ∧ tail w ∧ four x y
  · rw [if_pos c4] at h h0 hl ⊢
    rw [a1 (by omega), a2 (by omega), a3 (by omega), if_neg c2, if_neg c3, if_pos c4]
  rw [if_neg c4] at h0
  omega
theorem long_take_zero {b : List Int} {n q : Nat} (h : long b q = 0) : long (b.take n) q = 0 := by
  rcases Nat.eq_zero_or_pos (long (b.take n) q) with h0 | h0
  · exact h0
  · exfalso
    have he := long_end h0
    have hl : (b.take n).length ≤ n := by simp; omega
    have hl4 := long_le4 (b.take n) q
    have key : long b q = long (b.take n) q := by
      have e0 : at_ (b.take n) q = at_ b q := at_take (by omega)
      unfold long at he h0 hl4 ⊢
      rw [e0] at he h0 hl4 ⊢
      have a1 : q + 1 < n → at_ (b.take n) (q + 1) = at_ b (q + 1) := fun h => at_take h
      have a2 : q + 2 < n → at_ (b.take n) (q + 2) = at_ b (q + 2) := fun h => at_take h
      have a3 : q + 3 < n → at_ (b.take n) (q + 3) = at_ b (q + 3) := fun h => at_take h
      generalize at_ (b.take n) (q + 1) = y' at *
      generalize at_ (b.take n) (q + 2) = z' at *
      generalize at_ (b.take n) (q + 3) = w' at *
      generalize at_ b q = x at *
      generalize at_ b (q + 1) = y at *
      generalize at_ b (q + 2) = z at *
      generalize at_ b (q + 3) = w at *
      unfold long4 at *
      by_cases c1 : 0 ≤ x ∧ x ≤ 0x7f
      · rw [if_pos c1, if_pos c1]
      rw [if_neg c1] at he h0 hl4 ⊢
      rw [if_neg c1]
      by_cases c2 : (0xc2 ≤ x ∧ x ≤ 0xdf) ∧ tail y'
      · rw [if_pos c2] at he h0 hl4 ⊢
        rw [← a1 (by omega), if_pos c2]
      rw [if_neg c2] at he h0 hl4 ⊢
      by_cases c3 : tail z' ∧ three x y'
      · rw [if_pos c3] at he h0 hl4 ⊢
        rw [← a1 (by omega), ← a2 (by omega), if_neg c2, if_pos c3]
      rw [if_neg c3] at he h0 hl4 ⊢
      by_cases c4 : tail z' ∧ tail w' ∧ four x y'
      · rw [if_pos c4] at he h0 hl4 ⊢
        rw [← a1 (by omega), ← a2 (by omega), ← a3 (by omega), if_neg c2, if_neg c3, if_pos c4]
      rw [if_neg c4] at h0
      omega
    omega
theorem inside_of_drop {b : List Int} {w q : Nat} (h : inside (b.drop w) q = true) : inside b (w + q) = true := by
  rw [inside_iff] at h ⊢
  obtain ⟨k, h0, h1, h2⟩ := h
  refine ⟨k, h0, by omega, ?_⟩
  rw [long_drop] at h2
  have e : w + q - k = w + (q - k) := by omega
  rw [e]; exact h2
theorem edge_drop {b : List Int} {w q : Nat} (h : inside b (w + q) = false) : inside (b.drop w) q = false := by
  rw [Bool.eq_false_iff] at h ⊢
  exact fun hi => h (inside_of_drop hi)
theorem width_le_of_edge {b : List Int} {e : Nat} (h : inside b e = false) (h0 : 0 < e) : width b 0 ≤ e := by
  rcases Nat.lt_or_ge e (width b 0) with h1 | h1
  · have := inside_mid (b := b) (p := 0) h0 h1
    simp [h] at this
  · exact h1
theorem width_take {b : List Int} {e : Nat} (h : width b 0 ≤ e) : width (b.take e) 0 = width b 0 := by
  rcases Nat.eq_zero_or_pos (long b 0) with h0 | h0
  · have := long_take_zero (n := e) h0
    simp [width, h0, this]
  · have hl : long b 0 ≤ e := by have := long_le_width b 0; omega
    have := long_take (b := b) (n := e) (q := 0) (by omega) h0
    simp [width, this]
/-- cut at an edge, the steps are the same ones -/
theorem segs_cut (b : List Int) : ∀ e, e ≤ b.length → inside b e = false → segs b = segs (b.take e) ++ segs (b.drop e) := by
  fun_induction segs b with
  | case1 => intro e he _; simp [segs_nil]
  | case2 b h ih =>
    intro e he hi
    rcases Nat.eq_zero_or_pos e with h0 | h0
    · subst h0
      rw [List.take_zero, segs_nil, List.drop_zero, List.nil_append, segs_cons h]
    · have hw := width_le_of_edge hi h0
      have hwp := width_pos b 0
      have e1 : width (b.take e) 0 = width b 0 := width_take hw
      have hne : b.take e ≠ [] := by
        have hl : 0 < b.length := List.length_pos_iff.2 h
        refine List.ne_nil_of_length_pos ?_
        rw [List.length_take]
        omega
      rw [segs_cons hne, e1, List.cons_append]
      have e2 : (b.take e).take (width b 0) = b.take (width b 0) := by rw [List.take_take, Nat.min_eq_left hw]
      have e3 : (b.take e).drop (width b 0) = (b.drop (width b 0)).take (e - width b 0) := by rw [List.drop_take]
      have e4 : b.drop e = (b.drop (width b 0)).drop (e - width b 0) := by rw [List.drop_drop]; congr 1; omega
      rw [e2, e3, e4]
      congr 1
      exact ih (e - width b 0) (by simp; omega) (edge_drop (by rw [Nat.add_sub_cancel' hw]; exact hi))
theorem segs_pos {b s : List Int} (h : s ∈ segs b) : s ≠ [] := by
  fun_induction segs b with
  | case1 => simp at h
  | case2 b hb ih =>
    rcases List.mem_cons.1 h with rfl | h
    · have hl : 0 < b.length := List.length_pos_iff.2 hb
      have := width_pos b 0
      refine List.ne_nil_of_length_pos ?_
      rw [List.length_take]
      omega
    · exact ih h
theorem segs_length_le (b : List Int) : (segs b).length ≤ b.length := by
  fun_induction segs b with
  | case1 => simp
  | case2 b hb ih =>
    have := width_pos b 0
    have : 0 < b.length := List.length_pos_iff.2 hb
    simp at ih ⊢
    omega
end Go.Proofs.YtbomhpfckplgaaaDoor.Utf
namespace Go.Proofs.YtbomhpfckplgaaaDoor.P
open Go.RowKit Go.Proofs.YtbomhpfckplgaaaDoorW.PrintWords Utf
set_option linter.unusedVariables false
set_option linter.unusedSimpArgs false

theorem at_nat (l : List Int) (p : Nat) (h : p < l.length) : at_ l p = l[p] := by
  unfold at_
  rw [List.getD_eq_getElem?_getD, List.getElem?_eq_getElem h]
  rfl
theorem at_no (l : List Int) (p : Nat) (h : l.length ≤ p) : at_ l p = -1 := by
  unfold at_
  rw [List.getD_eq_getElem?_getD, List.getElem?_eq_none h]
  rfl
theorem rd_at {l : List Int} {p : Nat} (h : p < l.length) : rd l (p : Int) = at_ l p := by rw [rd_nat l p h, at_nat l p h]
theorem at_byte {l : List Int} (hl : Bytes l) {p : Nat} (h : p < l.length) : 0 ≤ at_ l p ∧ at_ l p ≤ 255 := by rw [at_nat l p h]; exact hl _ (List.getElem_mem h)
theorem at_range {l : List Int} (hl : Bytes l) (p : Nat) : -1 ≤ at_ l p ∧ at_ l p ≤ 255 := by
  rcases Nat.lt_or_ge p l.length with h | h
  · have := at_byte hl h; omega
  · rw [at_no l p h]; omega
theorem ref_at {l : List Int} (hl : Bytes l) (p : Nat) : galleyref02_at.f l (p : Int) = some (at_ l p) := by
  unfold galleyref02_at.f
  rw [if_neg (by omega)]
  rcases Nat.lt_or_ge p l.length with h | h
  · rw [if_neg (by omega), if_pos (by omega), if_pos (by omega), rd_at h]
    have := at_byte hl h
    rw [w64 (by omega) (by omega)]
  · rw [if_pos (by omega), at_no l p h]
theorem ref_in (a lo hi : Int) : galleyref02_in.f a lo hi = some (decide (lo ≤ a ∧ a ≤ hi)) := by
  unfold galleyref02_in.f
  by_cases h : a ≥ lo
  · rw [if_pos h]
    congr 1
    simp
    intro _; exact h
  · rw [if_neg h]
    congr 1
    simp
    intro h2; exact absurd h2 h
theorem three_iff (x y : Int) : three x y ↔ (x = 224 ∧ (160 ≤ y ∧ y ≤ 191)) ∨ ((225 ≤ x ∧ x ≤ 236) ∧ (128 ≤ y ∧ y ≤ 191)) ∨ (x = 237 ∧ (128 ≤ y ∧ y ≤ 159)) ∨ ((238 ≤ x ∧ x ≤ 239) ∧ (128 ≤ y ∧ y ≤ 191)) := by
  unfold three tail
  simp only [and_assoc]
theorem four_iff (x y : Int) : four x y ↔ (x = 240 ∧ (144 ≤ y ∧ y ≤ 191)) ∨ ((241 ≤ x ∧ x ≤ 243) ∧ (128 ≤ y ∧ y ≤ 191)) ∨ (x = 244 ∧ (128 ≤ y ∧ y ≤ 143)) := by
  unfold four tail
  simp only [and_assoc]
theorem ref_long4 (k : Nat) (x y z w : Int) (l : List Int) (a : Int) (h0 : galleyref02_at.f l a = some x) (h1 : galleyref02_at.f l (wrap64 (a + 1)) = some y) (h2 : galleyref02_at.f l (wrap64 (a + 2)) = some z) (h3 : galleyref02_at.f l (wrap64 (a + 3)) = some w) :
    galleyref02_Long.f (k + 3) l a = some (long4 x y z w : Int) := by
  unfold galleyref02_Long.f
  rw [h0, h1, h2, h3]
  simp only [Option.bind_some, ref_in, galleyref02_Long.j0, galleyref02_Long.j1, galleyref02_Long.j2, decide_eq_true_eq]
  unfold long4
  simp only [three_iff, four_iff, tail]
  by_cases c0 : 0 ≤ x ∧ x ≤ 127
  · have e : ¬ (194 ≤ x ∧ x ≤ 223) ∧ ¬ (x = 224) ∧ ¬ (225 ≤ x ∧ x ≤ 236) ∧ ¬ (x = 237) ∧ ¬ (238 ≤ x ∧ x ≤ 239) ∧ ¬ (x = 240) ∧ ¬ (241 ≤ x ∧ x ≤ 243) ∧ ¬ (x = 244) := by omega
    obtain ⟨e0, e1, e2, e3, e4, e5, e6, e7⟩ := e
    simp only [eq_true c0, eq_false e0, eq_false e1, eq_false e2, eq_false e3, eq_false e4, eq_false e5, eq_false e6, eq_false e7, if_true, if_false, false_and, or_false, false_or, true_and, and_false]
    clear e0 e1 e2 e3 e4 e5 e6 e7 c0 h0 h1 h2 h3
    by_cases y1 : 128 ≤ y ∧ y ≤ 191 <;> by_cases z1 : 128 ≤ z ∧ z ≤ 191 <;> by_cases w1 : 128 ≤ w ∧ w ≤ 191 <;> by_cases y2 : 160 ≤ y ∧ y ≤ 191 <;> by_cases y3 : 128 ≤ y ∧ y ≤ 159 <;> by_cases y4 : 144 ≤ y ∧ y ≤ 191 <;> by_cases y5 : 128 ≤ y ∧ y ≤ 143 <;> (try simp only [y1, z1, w1, y2, y3, y4, y5, if_true, if_false, true_and, false_and, and_true, and_false, reduceIte, Bool.false_eq_true, and_self, or_self, or_false, or_true, or_self]) <;> first | rfl | (exfalso; omega) | (split <;> rfl) | skip
  by_cases c1 : 194 ≤ x ∧ x ≤ 223
  · have e : ¬ (0 ≤ x ∧ x ≤ 127) ∧ ¬ (x = 224) ∧ ¬ (225 ≤ x ∧ x ≤ 236) ∧ ¬ (x = 237) ∧ ¬ (238 ≤ x ∧ x ≤ 239) ∧ ¬ (x = 240) ∧ ¬ (241 ≤ x ∧ x ≤ 243) ∧ ¬ (x = 244) := by omega
    obtain ⟨e0, e1, e2, e3, e4, e5, e6, e7⟩ := e
    simp only [eq_true c1, eq_false e0, eq_false e1, eq_false e2, eq_false e3, eq_false e4, eq_false e5, eq_false e6, eq_false e7, if_true, if_false, false_and, or_false, false_or, true_and, and_false]
    clear e0 e1 e2 e3 e4 e5 e6 e7 c1 h0 h1 h2 h3
    by_cases y1 : 128 ≤ y ∧ y ≤ 191 <;> by_cases z1 : 128 ≤ z ∧ z ≤ 191 <;> by_cases w1 : 128 ≤ w ∧ w ≤ 191 <;> by_cases y2 : 160 ≤ y ∧ y ≤ 191 <;> by_cases y3 : 128 ≤ y ∧ y ≤ 159 <;> by_cases y4 : 144 ≤ y ∧ y ≤ 191 <;> by_cases y5 : 128 ≤ y ∧ y ≤ 143 <;> (try simp only [y1, z1, w1, y2, y3, y4, y5, if_true, if_false, true_and, false_and, and_true, and_false, reduceIte, Bool.false_eq_true, and_self, or_self, or_false, or_true, or_self]) <;> first | rfl | (exfalso; omega) | (split <;> rfl) | skip
  by_cases c2 : x = 224
  · have e : ¬ (0 ≤ x ∧ x ≤ 127) ∧ ¬ (194 ≤ x ∧ x ≤ 223) ∧ ¬ (225 ≤ x ∧ x ≤ 236) ∧ ¬ (x = 237) ∧ ¬ (238 ≤ x ∧ x ≤ 239) ∧ ¬ (x = 240) ∧ ¬ (241 ≤ x ∧ x ≤ 243) ∧ ¬ (x = 244) := by omega
    obtain ⟨e0, e1, e2, e3, e4, e5, e6, e7⟩ := e
    simp only [eq_true c2, eq_false e0, eq_false e1, eq_false e2, eq_false e3, eq_false e4, eq_false e5, eq_false e6, eq_false e7, if_true, if_false, false_and, or_false, false_or, true_and, and_false]
    clear e0 e1 e2 e3 e4 e5 e6 e7 c2 h0 h1 h2 h3
    by_cases y1 : 128 ≤ y ∧ y ≤ 191 <;> by_cases z1 : 128 ≤ z ∧ z ≤ 191 <;> by_cases w1 : 128 ≤ w ∧ w ≤ 191 <;> by_cases y2 : 160 ≤ y ∧ y ≤ 191 <;> by_cases y3 : 128 ≤ y ∧ y ≤ 159 <;> by_cases y4 : 144 ≤ y ∧ y ≤ 191 <;> by_cases y5 : 128 ≤ y ∧ y ≤ 143 <;> (try simp only [y1, z1, w1, y2, y3, y4, y5, if_true, if_false, true_and, false_and, and_true, and_false, reduceIte, Bool.false_eq_true, and_self, or_self, or_false, or_true, or_self]) <;> first | rfl | (exfalso; omega) | (split <;> rfl) | skip
  by_cases c3 : 225 ≤ x ∧ x ≤ 236
  · have e : ¬ (0 ≤ x ∧ x ≤ 127) ∧ ¬ (194 ≤ x ∧ x ≤ 223) ∧ ¬ (x = 224) ∧ ¬ (x = 237) ∧ ¬ (238 ≤ x ∧ x ≤ 239) ∧ ¬ (x = 240) ∧ ¬ (241 ≤ x ∧ x ≤ 243) ∧ ¬ (x = 244) := by omega
    obtain ⟨e0, e1, e2, e3, e4, e5, e6, e7⟩ := e
    simp only [eq_true c3, eq_false e0, eq_false e1, eq_false e2, eq_false e3, eq_false e4, eq_false e5, eq_false e6, eq_false e7, if_true, if_false, false_and, or_false, false_or, true_and, and_false]
    clear e0 e1 e2 e3 e4 e5 e6 e7 c3 h0 h1 h2 h3
    by_cases y1 : 128 ≤ y ∧ y ≤ 191 <;> by_cases z1 : 128 ≤ z ∧ z ≤ 191 <;> by_cases w1 : 128 ≤ w ∧ w ≤ 191 <;> by_cases y2 : 160 ≤ y ∧ y ≤ 191 <;> by_cases y3 : 128 ≤ y ∧ y ≤ 159 <;> by_cases y4 : 144 ≤ y ∧ y ≤ 191 <;> by_cases y5 : 128 ≤ y ∧ y ≤ 143 <;> (try simp only [y1, z1, w1, y2, y3, y4, y5, if_true, if_false, true_and, false_and, and_true, and_false, reduceIte, Bool.false_eq_true, and_self, or_self, or_false, or_true, or_self]) <;> first | rfl | (exfalso; omega) | (split <;> rfl) | skip
  by_cases c4 : x = 237
  · have e : ¬ (0 ≤ x ∧ x ≤ 127) ∧ ¬ (194 ≤ x ∧ x ≤ 223) ∧ ¬ (x = 224) ∧ ¬ (225 ≤ x ∧ x ≤ 236) ∧ ¬ (238 ≤ x ∧ x ≤ 239) ∧ ¬ (x = 240) ∧ ¬ (241 ≤ x ∧ x ≤ 243) ∧ ¬ (x = 244) := by omega
    obtain ⟨e0, e1, e2, e3, e4, e5, e6, e7⟩ := e
    simp only [eq_true c4, eq_false e0, eq_false e1, eq_false e2, eq_false e3, eq_false e4, eq_false e5, eq_false e6, eq_false e7, if_true, if_false, false_and, or_false, false_or, true_and, and_false]
    clear e0 e1 e2 e3 e4 e5 e6 e7 c4 h0 h1 h2 h3
    by_cases y1 : 128 ≤ y ∧ y ≤ 191 <;> by_cases z1 : 128 ≤ z ∧ z ≤ 191 <;> by_cases w1 : 128 ≤ w ∧ w ≤ 191 <;> by_cases y2 : 160 ≤ y ∧ y ≤ 191 <;> by_cases y3 : 128 ≤ y ∧ y ≤ 159 <;> by_cases y4 : 144 ≤ y ∧ y ≤ 191 <;> by_cases y5 : 128 ≤ y ∧ y ≤ 143 <;> (try simp only [y1, z1, w1, y2, y3, y4, y5, if_true, if_false, true_and, false_and, and_true, and_false, reduceIte, Bool.false_eq_true, and_self, or_self, or_false, or_true, or_self]) <;> first | rfl | (exfalso; omega) | (split <;> rfl) | skip
  by_cases c5 : 238 ≤ x ∧ x ≤ 239
  · have e : ¬ (0 ≤ x ∧ x ≤ 127) ∧ ¬ (194 ≤ x ∧ x ≤ 223) ∧ ¬ (x = 224) ∧ ¬ (225 ≤ x ∧ x ≤ 236) ∧ ¬ (x = 237) ∧ ¬ (x = 240) ∧ ¬ (241 ≤ x ∧ x ≤ 243) ∧ ¬ (x = 244) := by omega
    obtain ⟨e0, e1, e2, e3, e4, e5, e6, e7⟩ := e
    simp only [eq_true c5, eq_false e0, eq_false e1, eq_false e2, eq_false e3, eq_false e4, eq_false e5, eq_false e6, eq_false e7, if_true, if_false, false_and, or_false, false_or, true_and, and_false]
    clear e0 e1 e2 e3 e4 e5 e6 e7 c5 h0 h1 h2 h3
    by_cases y1 : 128 ≤ y ∧ y ≤ 191 <;> by_cases z1 : 128 ≤ z ∧ z ≤ 191 <;> by_cases w1 : 128 ≤ w ∧ w ≤ 191 <;> by_cases y2 : 160 ≤ y ∧ y ≤ 191 <;> by_cases y3 : 128 ≤ y ∧ y ≤ 159 <;> by_cases y4 : 144 ≤ y ∧ y ≤ 191 <;> by_cases y5 : 128 ≤ y ∧ y ≤ 143 <;> (try simp only [y1, z1, w1, y2, y3, y4, y5, if_true, if_false, true_and, false_and, and_true, and_false, reduceIte, Bool.false_eq_true, and_self, or_self, or_false, or_true, or_self]) <;> first | rfl | (exfalso; omega) | (split <;> rfl) | skip
  by_cases c6 : x = 240
  · have e : ¬ (0 ≤ x ∧ x ≤ 127) ∧ ¬ (194 ≤ x ∧ x ≤ 223) ∧ ¬ (x = 224) ∧ ¬ (225 ≤ x ∧ x ≤ 236) ∧ ¬ (x = 237) ∧ ¬ (238 ≤ x ∧ x ≤ 239) ∧ ¬ (241 ≤ x ∧ x ≤ 243) ∧ ¬ (x = 244) := by omega
    obtain ⟨e0, e1, e2, e3, e4, e5, e6, e7⟩ := e
    simp only [eq_true c6, eq_false e0, eq_false e1, eq_false e2, eq_false e3, eq_false e4, eq_false e5, eq_false e6, eq_false e7, if_true, if_false, false_and, or_false, false_or, true_and, and_false]
    clear e0 e1 e2 e3 e4 e5 e6 e7 c6 h0 h1 h2 h3
    by_cases y1 : 128 ≤ y ∧ y ≤ 191 <;> by_cases z1 : 128 ≤ z ∧ z ≤ 191 <;> by_cases w1 : 128 ≤ w ∧ w ≤ 191 <;> by_cases y2 : 160 ≤ y ∧ y ≤ 191 <;> by_cases y3 : 128 ≤ y ∧ y ≤ 159 <;> by_cases y4 : 144 ≤ y ∧ y ≤ 191 <;> by_cases y5 : 128 ≤ y ∧ y ≤ 143 <;> (try simp only [y1, z1, w1, y2, y3, y4, y5, if_true, if_false, true_and, false_and, and_true, and_false, reduceIte, Bool.false_eq_true, and_self, or_self, or_false, or_true, or_self]) <;> first | rfl | (exfalso; omega) | (split <;> rfl) | skip
  by_cases c7 : 241 ≤ x ∧ x ≤ 243
  · have e : ¬ (0 ≤ x ∧ x ≤ 127) ∧ ¬ (194 ≤ x ∧ x ≤ 223) ∧ ¬ (x = 224) ∧ ¬ (225 ≤ x ∧ x ≤ 236) ∧ ¬ (x = 237) ∧ ¬ (238 ≤ x ∧ x ≤ 239) ∧ ¬ (x = 240) ∧ ¬ (x = 244) := by omega
    obtain ⟨e0, e1, e2, e3, e4, e5, e6, e7⟩ := e
    simp only [eq_true c7, eq_false e0, eq_false e1, eq_false e2, eq_false e3, eq_false e4, eq_false e5, eq_false e6, eq_false e7, if_true, if_false, false_and, or_false, false_or, true_and, and_false]
    clear e0 e1 e2 e3 e4 e5 e6 e7 c7 h0 h1 h2 h3
    by_cases y1 : 128 ≤ y ∧ y ≤ 191 <;> by_cases z1 : 128 ≤ z ∧ z ≤ 191 <;> by_cases w1 : 128 ≤ w ∧ w ≤ 191 <;> by_cases y2 : 160 ≤ y ∧ y ≤ 191 <;> by_cases y3 : 128 ≤ y ∧ y ≤ 159 <;> by_cases y4 : 144 ≤ y ∧ y ≤ 191 <;> by_cases y5 : 128 ≤ y ∧ y ≤ 143 <;> (try simp only [y1, z1, w1, y2, y3, y4, y5, if_true, if_false, true_and, false_and, and_true, and_false, reduceIte, Bool.false_eq_true, and_self, or_self, or_false, or_true, or_self]) <;> first | rfl | (exfalso; omega) | (split <;> rfl) | skip
  by_cases c8 : x = 244
  · have e : ¬ (0 ≤ x ∧ x ≤ 127) ∧ ¬ (194 ≤ x ∧ x ≤ 223) ∧ ¬ (x = 224) ∧ ¬ (225 ≤ x ∧ x ≤ 236) ∧ ¬ (x = 237) ∧ ¬ (238 ≤ x ∧ x ≤ 239) ∧ ¬ (x = 240) ∧ ¬ (241 ≤ x ∧ x ≤ 243) := by omega
    obtain ⟨e0, e1, e2, e3, e4, e5, e6, e7⟩ := e
    simp only [eq_true c8, eq_false e0, eq_false e1, eq_false e2, eq_false e3, eq_false e4, eq_false e5, eq_false e6, eq_false e7, if_true, if_false, false_and, or_false, false_or, true_and, and_false]
    clear e0 e1 e2 e3 e4 e5 e6 e7 c8 h0 h1 h2 h3
    by_cases y1 : 128 ≤ y ∧ y ≤ 191 <;> by_cases z1 : 128 ≤ z ∧ z ≤ 191 <;> by_cases w1 : 128 ≤ w ∧ w ≤ 191 <;> by_cases y2 : 160 ≤ y ∧ y ≤ 191 <;> by_cases y3 : 128 ≤ y ∧ y ≤ 159 <;> by_cases y4 : 144 ≤ y ∧ y ≤ 191 <;> by_cases y5 : 128 ≤ y ∧ y ≤ 143 <;> (try simp only [y1, z1, w1, y2, y3, y4, y5, if_true, if_false, true_and, false_and, and_true, and_false, reduceIte, Bool.false_eq_true, and_self, or_self, or_false, or_true, or_self]) <;> first | rfl | (exfalso; omega) | (split <;> rfl) | skip
  simp only [eq_false c0, eq_false c1, eq_false c2, eq_false c3, eq_false c4, eq_false c5, eq_false c6, eq_false c7, eq_false c8, if_false, false_and, or_false, and_false, ite_self]
  rfl
end Go.Proofs.YtbomhpfckplgaaaDoor.P
namespace Go.Proofs.YtbomhpfckplgaaaDoor.P
open Go Go.RowKit Go.Proofs.YtbomhpfckplgaaaDoorW.PrintWords Utf
set_option linter.unusedVariables false
set_option linter.unusedSimpArgs false

/-- The rune of an encoding of n bytes. -/
def runeV (n : Nat) (x y z w : Int) : Int := if n = 1 then x else if n = 2 then (x % 32) * 64 + y % 64 else if n = 3 then ((x % 16) * 64 + y % 64) * 64 + z % 64 else (((x % 8) * 64 + y % 64) * 64 + z % 64) * 64 + w % 64
def rune (l : List Int) (p : Nat) : Int := runeV (long l p) (at_ l p) (at_ l (p + 1)) (at_ l (p + 2)) (at_ l (p + 3))
set_option maxHeartbeats 4000000 in
theorem dec_pure (n a b c d : Nat) (x y z w : Int) (hx : x = a) (ha : a ≤ 255) (hn : 0 < n) (hy : (1 < n ∧ y = b ∧ b ≤ 255) ∨ (n ≤ 1 ∧ y = -1)) (hz : (2 < n ∧ z = c ∧ c ≤ 255) ∨ (n ≤ 2 ∧ z = -1)) (hw : (3 < n ∧ w = d ∧ d ≤ 255) ∨ (n ≤ 3 ∧ w = -1)) :
    Lib.decodeN n a b c d = if long4 x y z w = 0 then (65533, 1) else ((runeV (long4 x y z w) x y z w).toNat, long4 x y z w) := by
  subst hx
  unfold Lib.decodeN
  by_cases A1 : a < 128
  · have e : long4 a y z w = 1 := by unfold long4; rw [if_pos (by omega)]
    rw [if_pos A1, e]
    simp [runeV]
  rw [if_neg A1]
  by_cases A2 : a / 32 = 6 ∧ (1 < n ∧ b / 64 = 2)
  · rw [if_pos A2]
    by_cases A : a % 32 * 64 + b % 64 ≥ 128
    · have e : long4 a y z w = 2 := by
        unfold long4 tail
        rw [if_neg (by omega), if_pos (by omega)]
      have hyb : y = b := by omega
      rw [if_pos A, e]
      simp only [runeV, hyb]
      simp
      omega
    · have e : long4 a y z w = 0 := by
        unfold long4 three four tail
        rw [if_neg (by omega), if_neg (by omega), if_neg (by omega), if_neg (by omega)]
      rw [if_neg A, e]
      rfl
  rw [if_neg A2]
  by_cases A3 : a / 16 = 14 ∧ (1 < n ∧ b / 64 = 2) ∧ (2 < n ∧ c / 64 = 2)
  · rw [if_pos A3]
    have hyb : y = b := by omega
    have hzc : z = c := by omega
    have m1 : a % 16 = a - 224 := by omega
    have m2 : b % 64 = b - 128 := by omega
    have m3 : c % 64 = c - 128 := by omega
    have m4 : 224 ≤ a ∧ a ≤ 239 ∧ 128 ≤ b ∧ b ≤ 191 ∧ 128 ≤ c ∧ c ≤ 191 := by omega
    clear A1 A2 A3
    rw [m1, m2, m3]
    have n1 : (a - 224) * 4096 + (b - 128) * 64 + (c - 128) + 925824 = a * 4096 + b * 64 + c := by omega
    obtain ⟨v, hv⟩ : ∃ v, (a - 224) * 4096 + (b - 128) * 64 + (c - 128) = v := ⟨_, rfl⟩
    rw [hv]
    rw [hv] at n1
    have key : (v ≥ 2048 ∧ (v < 55296 ∨ (57344 ≤ v ∧ v ≤ 1114111))) ↔ ((a = 224 ∧ 160 ≤ b) ∨ (225 ≤ a ∧ a ≤ 236) ∨ (a = 237 ∧ b ≤ 159) ∨ (238 ≤ a)) := by
      constructor
      · intro h
        rcases Nat.lt_trichotomy a 237 with h1 | h1 | h1
        · omega
        · subst h1; omega
        · omega
      · rintro (⟨rfl, h⟩ | ⟨h, h'⟩ | ⟨rfl, h⟩ | h) <;> omega
    by_cases A : v ≥ 2048 ∧ (v < 55296 ∨ (57344 ≤ v ∧ v ≤ 1114111))
    · have A' := key.1 A
      have e : long4 a y z w = 3 := by
        clear A hv n1 key
        unfold long4 three four tail
        rw [if_neg (by omega), if_neg (by omega), if_pos (by refine ⟨by omega, ?_⟩; rcases A' with h | h | h | h; exact .inl (by omega); exact .inr (.inl (by omega)); exact .inr (.inr (.inl (by omega))); exact .inr (.inr (.inr (by omega))))]
      rw [if_pos A, e]
      simp only [runeV, hyb, hzc]
      simp
      omega
    · have A' := fun h => A (key.2 h)
      have e : long4 a y z w = 0 := by
        clear A hv n1 key
        unfold long4 three four tail
        rw [if_neg (by omega), if_neg (by omega), if_neg (by rintro ⟨h1, h2⟩; rcases h2 with h2 | h2 | h2 | h2; exact A' (.inl (by omega)); exact A' (.inr (.inl (by omega))); exact A' (.inr (.inr (.inl (by omega)))); exact A' (.inr (.inr (.inr (by omega))))), if_neg (by omega)]
      rw [if_neg A, e]
      rfl
  rw [if_neg A3]
  by_cases A4 : a / 8 = 30 ∧ (1 < n ∧ b / 64 = 2) ∧ (2 < n ∧ c / 64 = 2) ∧ (3 < n ∧ d / 64 = 2)
  · rw [if_pos A4]
    have hyb : y = b := by omega
    have hzc : z = c := by omega
    have hwd : w = d := by omega
    have m1 : a % 8 = a - 240 := by omega
    have m2 : b % 64 = b - 128 := by omega
    have m3 : c % 64 = c - 128 := by omega
    have m5 : d % 64 = d - 128 := by omega
    have m4 : 240 ≤ a ∧ a ≤ 247 ∧ 128 ≤ b ∧ b ≤ 191 ∧ 128 ≤ c ∧ c ≤ 191 ∧ 128 ≤ d ∧ d ≤ 191 := by omega
    clear A1 A2 A3 A4
    rw [m1, m2, m3, m5]
    have n1 : (a - 240) * 262144 + (b - 128) * 4096 + (c - 128) * 64 + (d - 128) + 63447168 = a * 262144 + b * 4096 + c * 64 + d := by omega
    obtain ⟨v, hv⟩ : ∃ v, (a - 240) * 262144 + (b - 128) * 4096 + (c - 128) * 64 + (d - 128) = v := ⟨_, rfl⟩
    rw [hv]
    rw [hv] at n1
    have key : (v ≥ 65536 ∧ (v < 55296 ∨ (57344 ≤ v ∧ v ≤ 1114111))) ↔ ((a = 240 ∧ 144 ≤ b) ∨ (241 ≤ a ∧ a ≤ 243) ∨ (a = 244 ∧ b ≤ 143)) := by
      constructor
      · intro h
        rcases Nat.lt_trichotomy a 244 with h1 | h1 | h1
        · omega
        · subst h1; omega
        · omega
      · rintro (⟨rfl, h⟩ | ⟨h, h'⟩ | ⟨rfl, h⟩) <;> omega
    by_cases A : v ≥ 65536 ∧ (v < 55296 ∨ (57344 ≤ v ∧ v ≤ 1114111))
    · have A' := key.1 A
      have e : long4 a y z w = 4 := by
        clear A hv n1 key
        unfold long4 three four tail
        rw [if_neg (by omega), if_neg (by omega), if_neg (by omega), if_pos (by refine ⟨by omega, by omega, ?_⟩; rcases A' with h | h | h; exact .inl (by omega); exact .inr (.inl (by omega)); exact .inr (.inr (by omega)))]
      rw [if_pos A, e]
      simp only [runeV, hyb, hzc, hwd]
      simp
      omega
    · have A' := fun h => A (key.2 h)
      have e : long4 a y z w = 0 := by
        clear A hv n1 key
        unfold long4 three four tail
        rw [if_neg (by omega), if_neg (by omega), if_neg (by omega), if_neg (by rintro ⟨h1, h2, h3⟩; rcases h3 with h2 | h2 | h2; exact A' (.inl (by omega)); exact A' (.inr (.inl (by omega))); exact A' (.inr (.inr (by omega))))]
      rw [if_neg A, e]
      rfl
  rw [if_neg A4]
  have B2 : ¬ (192 ≤ a ∧ a ≤ 223 ∧ 1 < n ∧ 128 ≤ b ∧ b ≤ 191) := by omega
  have B3 : ¬ (224 ≤ a ∧ a ≤ 239 ∧ 1 < n ∧ 128 ≤ b ∧ b ≤ 191 ∧ 2 < n ∧ 128 ≤ c ∧ c ≤ 191) := by omega
  have B4 : ¬ (240 ≤ a ∧ a ≤ 247 ∧ 1 < n ∧ 128 ≤ b ∧ b ≤ 191 ∧ 2 < n ∧ 128 ≤ c ∧ c ≤ 191 ∧ 3 < n ∧ 128 ≤ d ∧ d ≤ 191) := by omega
  have e : long4 a y z w = 0 := by
    clear A2 A3 A4
    have C2 : ¬ ((194 ≤ (a : Int) ∧ (a : Int) ≤ 223) ∧ (128 ≤ y ∧ y ≤ 191)) := by
      rintro ⟨h1, h2⟩
      rcases hy with ⟨h3, h4, h5⟩ | ⟨h3, h4⟩ <;> omega
    have C3 : ¬ (224 ≤ a ∧ a ≤ 239 ∧ (128 ≤ y ∧ y ≤ 191) ∧ (128 ≤ z ∧ z ≤ 191)) := by
      rintro ⟨h1, h2, h3, h4⟩
      rcases hy with ⟨k1, k2, k3⟩ | ⟨k1, k2⟩ <;> rcases hz with ⟨k4, k5, k6⟩ | ⟨k4, k5⟩ <;> omega
    have C4 : ¬ (240 ≤ a ∧ a ≤ 247 ∧ (128 ≤ y ∧ y ≤ 191) ∧ (128 ≤ z ∧ z ≤ 191) ∧ (128 ≤ w ∧ w ≤ 191)) := by
      rintro ⟨h1, h2, h3, h4, h5⟩
      rcases hy with ⟨k1, k2, k3⟩ | ⟨k1, k2⟩ <;> rcases hz with ⟨k4, k5, k6⟩ | ⟨k4, k5⟩ <;> rcases hw with ⟨k7, k8, k9⟩ | ⟨k7, k8⟩ <;> omega
    clear B2 B3 B4 hy hz hw
    unfold long4 three four tail
    rw [if_neg (by omega), if_neg C2, if_neg (by rintro ⟨h1, h2⟩; rcases h2 with h2 | h2 | h2 | h2 <;> exact C3 ⟨by omega, by omega, by omega, by omega⟩), if_neg (by rintro ⟨h1, h2, h3⟩; rcases h3 with h3 | h3 | h3 <;> exact C4 ⟨by omega, by omega, by omega, by omega, by omega⟩)]
  rw [e]
  rfl

theorem get_bytes {l : List Int} (hl : Bytes l) {i : Nat} (h : i < l.length) : ((strOfNums l).get! i).toNat = (at_ l i).toNat := by
  rw [← Lib.getD_get!', strOfNums_data, List.getD_eq_getElem?_getD, List.getElem?_map, List.getElem?_eq_getElem h, at_nat l i h]
  have := hl _ (List.getElem_mem h)
  show (UInt8.ofNat (l[i].toNat)).toNat = _
  rw [UInt8.toNat_ofNat']
  exact Nat.mod_eq_of_lt (by omega)
theorem decode_eq {l : List Int} (hl : Bytes l) {p : Nat} (h : p < l.length) : Utf8.decode (strOfNums l) p = if long l p = 0 then (65533, 1) else ((rune l p).toNat, long l p) := by
  rw [Lib.decode_at, strOfNums_size]
  have h0 := at_byte hl h
  refine dec_pure _ _ _ _ _ _ _ _ _ (by rw [get_bytes hl h]; omega) (by rw [get_bytes hl h]; omega) (by omega) ?_ ?_ ?_
  · rcases Nat.lt_or_ge (p + 1) l.length with h1 | h1
    · have := at_byte hl h1
      exact .inl ⟨by omega, by rw [get_bytes hl h1]; omega, by rw [get_bytes hl h1]; omega⟩
    · exact .inr ⟨by omega, at_no l _ h1⟩
  · rcases Nat.lt_or_ge (p + 2) l.length with h1 | h1
    · have := at_byte hl h1
      exact .inl ⟨by omega, by rw [get_bytes hl h1]; omega, by rw [get_bytes hl h1]; omega⟩
    · exact .inr ⟨by omega, at_no l _ h1⟩
  · rcases Nat.lt_or_ge (p + 3) l.length with h1 | h1
    · have := at_byte hl h1
      exact .inl ⟨by omega, by rw [get_bytes hl h1]; omega, by rw [get_bytes hl h1]; omega⟩
    · exact .inr ⟨by omega, at_no l _ h1⟩
theorem rune_range (x y z w : Int) (hx : 0 ≤ x) : (long4 x y z w = 0) ∨ (long4 x y z w = 1 ∧ 0 ≤ runeV 1 x y z w ∧ runeV 1 x y z w ≤ 127) ∨ (long4 x y z w = 2 ∧ 128 ≤ runeV 2 x y z w ∧ runeV 2 x y z w ≤ 2047) ∨
    (long4 x y z w = 3 ∧ 2048 ≤ runeV 3 x y z w ∧ runeV 3 x y z w ≤ 65535 ∧ ¬ (55296 ≤ runeV 3 x y z w ∧ runeV 3 x y z w ≤ 57343) ∧ (runeV 3 x y z w = 65533 ↔ (x = 239 ∧ y = 191 ∧ z = 189))) ∨
    (long4 x y z w = 4 ∧ 65536 ≤ runeV 4 x y z w ∧ runeV 4 x y z w ≤ 1114111) := by
  unfold long4
  by_cases c1 : 0 ≤ x ∧ x ≤ 127
  · rw [if_pos c1]
    exact .inr (.inl ⟨rfl, by simp [runeV]; omega, by simp [runeV]; omega⟩)
  rw [if_neg c1]
  by_cases c2 : (194 ≤ x ∧ x ≤ 223) ∧ tail y
  · rw [if_pos c2]
    unfold tail at c2
    exact .inr (.inr (.inl ⟨rfl, by simp [runeV]; omega, by simp [runeV]; omega⟩))
  rw [if_neg c2]
  by_cases c3 : tail z ∧ three x y
  · rw [if_pos c3]
    obtain ⟨hz, h3⟩ := c3
    unfold three at h3
    unfold tail at hz h3
    have e : runeV 3 x y z w = (x - 224) * 4096 + (y - 128) * 64 + (z - 128) := by simp [runeV]; omega
    rw [e]
    refine .inr (.inr (.inr (.inl ⟨rfl, ?_, ?_, ?_, ?_, ?_⟩)))
    · rcases h3 with h | h | h | h <;> omega
    · rcases h3 with h | h | h | h <;> omega
    · rcases h3 with h | h | h | h <;> omega
    · intro h
      rcases h3 with h | h | h | h <;> omega
    · rintro ⟨rfl, rfl, rfl⟩
      omega
  rw [if_neg c3]
  by_cases c4 : tail z ∧ tail w ∧ four x y
  · rw [if_pos c4]
    obtain ⟨hz, hw, h4⟩ := c4
    unfold four at h4
    unfold tail at hz hw h4
    have e : runeV 4 x y z w = (x - 240) * 262144 + (y - 128) * 4096 + (z - 128) * 64 + (w - 128) := by simp [runeV]; omega
    rw [e]
    refine .inr (.inr (.inr (.inr ⟨rfl, ?_, ?_⟩)))
    · rcases h4 with h | h | h <;> omega
    · rcases h4 with h | h | h <;> omega
  rw [if_neg c4]
  exact .inl rfl
theorem encode_size {r : Int} (h : (0 ≤ r ∧ r < 55296) ∨ (57344 ≤ r ∧ r ≤ 1114111)) : (Utf8.encode r).size = if r < 128 then 1 else if r < 2048 then 2 else if r < 65536 then 3 else 4 := by
  have hv : Utf8.valid r = true := by unfold Utf8.valid; simp; omega
  unfold Utf8.encode
  simp only [hv, if_true]
  have e1 : (r.toNat < 128) ↔ r < 128 := by omega
  have e2 : (r.toNat < 2048) ↔ r < 2048 := by omega
  have e3 : (r.toNat < 65536) ↔ r < 65536 := by omega
  by_cases c1 : r < 128
  · rw [if_pos (e1.2 c1), if_pos c1]; rfl
  rw [if_neg (fun h => c1 (e1.1 h)), if_neg c1]
  by_cases c2 : r < 2048
  · rw [if_pos (e2.2 c2), if_pos c2]; rfl
  rw [if_neg (fun h => c2 (e2.1 h)), if_neg c2]
  by_cases c3 : r < 65536
  · rw [if_pos (e3.2 c3), if_pos c3]; rfl
  rw [if_neg (fun h => c3 (e3.1 h)), if_neg c3]; rfl
/-- The step at a place. -/
def stepN (l : List Int) (p : Nat) : Int × Int × Bool := if long l p = 0 then (65533, 1, false) else (rune l p, (long l p : Int), true)
theorem three_bytes {l : List Int} (hl : Bytes l) {p : Nat} (h : p < l.length) : (3 ≤ ((strOfNums l).extract p (strOfNums l).size).size ∧ ((((strOfNums l).extract p (strOfNums l).size).extract 0 3).toList == [239, 191, 189]) = true) ↔ (at_ l p = 239 ∧ at_ l (p + 1) = 191 ∧ at_ l (p + 2) = 189) := by
  rw [Lib.tail_size, strOfNums_size, ByteArray.toList_eq, Lib.extract_data, Lib.extract_data, strOfNums_data]
  have e0 : ∀ (q : Nat) (v : Nat) (hv : v < 256) (hq : q < l.length), (UInt8.ofNat (l[q].toNat) = UInt8.ofNat v) ↔ at_ l q = v := by
    intro q v hv hq
    have hb := hl _ (List.getElem_mem hq)
    rw [at_nat l q hq]
    constructor
    · intro h
      have h2 := congrArg UInt8.toNat h
      rw [UInt8.toNat_ofNat', UInt8.toNat_ofNat', Nat.mod_eq_of_lt (by omega), Nat.mod_eq_of_lt (by omega)] at h2
      omega
    · intro h
      rw [h]
      rfl
  by_cases h3 : 3 ≤ l.length - p
  · have d : (((l.map fun n => UInt8.ofNat n.toNat).drop p).take ((strOfNums l).size - p) |>.drop 0 |>.take (3 - 0)) = [UInt8.ofNat (l[p]).toNat, UInt8.ofNat (l[p + 1]).toNat, UInt8.ofNat (l[p + 2]).toNat] := by
      rw [strOfNums_size, List.drop_zero, List.take_take, List.drop_eq_getElem_cons (by simp; omega), List.drop_eq_getElem_cons (by simp; omega), List.drop_eq_getElem_cons (by simp; omega)]
      rw [show min (3 - 0) (l.length - p) = 3 from by omega]
      simp
    rw [strOfNums_size] at d
    rw [d, beq_iff_eq]
    simp only [List.cons.injEq, and_true]
    have k0 := e0 p 239 (by omega) (by omega)
    have k1 := e0 (p + 1) 191 (by omega) (by omega)
    have k2 := e0 (p + 2) 189 (by omega) (by omega)
    constructor
    · rintro ⟨_, a, b, c⟩
      exact ⟨k0.1 a, k1.1 b, k2.1 c⟩
    · rintro ⟨a, b, c⟩
      exact ⟨h3, k0.2 a, k1.2 b, k2.2 c⟩
  · constructor
    · rintro ⟨h4, _⟩
      exact absurd h4 h3
    · rintro ⟨_, _, c⟩
      rw [at_no l (p + 2) (by omega)] at c
      omega
theorem stepW_eq {l : List Int} (hl : Bytes l) {p : Nat} (h : p < l.length) : stepW ((strOfNums l).extract p (strOfNums l).size) = stepN l p := by
  have hs : ¬ ((strOfNums l).extract p (strOfNums l).size).size = 0 := by rw [Lib.tail_size, strOfNums_size]; omega
  have hx := at_byte hl h
  unfold stepW stepN
  rw [if_neg hs, Lib.tail_decode, Nat.add_zero, decode_eq hl h]
  simp only [three_bytes hl h]
  have hr := rune_range (at_ l p) (at_ l (p + 1)) (at_ l (p + 2)) (at_ l (p + 3)) hx.1
  unfold rune
  unfold long at hr ⊢
  generalize at_ l p = x at *
  generalize at_ l (p + 1) = y at *
  generalize at_ l (p + 2) = z at *
  generalize at_ l (p + 3) = w at *
  rcases hr with e | ⟨e, h1, h2⟩ | ⟨e, h1, h2⟩ | ⟨e, h1, h2, h3, h4⟩ | ⟨e, h1, h2⟩
  · rw [e]
    simp only [if_true]
    rw [if_neg]
    rintro ⟨rfl, rfl, rfl⟩
    revert e
    unfold long4 three four tail
    simp
  all_goals rw [e]
  · have hne : ((runeV 1 x y z w).toNat = 65533) = False := by simp; omega
    simp only [hne, if_false, if_neg (show ¬ (1 = 0) by decide)]
    rw [Int.toNat_of_nonneg (by omega), encode_size (by omega), if_pos (by omega)]
  · have hne : ((runeV 2 x y z w).toNat = 65533) = False := by simp; omega
    simp only [hne, if_false, if_neg (show ¬ (2 = 0) by decide)]
    rw [Int.toNat_of_nonneg (by omega), encode_size (by omega), if_neg (by omega), if_pos (by omega)]
  · by_cases hne : runeV 3 x y z w = 65533
    · have hb := h4.1 hne
      simp only [if_neg (show ¬ (3 = 0) by decide)]
      rw [if_pos (by omega), if_pos hb, hne]
      rfl
    · simp only [if_neg (show ¬ (3 = 0) by decide)]
      rw [if_neg (by omega), Int.toNat_of_nonneg (by omega), encode_size (by omega), if_neg (by omega), if_neg (by omega), if_pos (by omega)]
  · have hne : ((runeV 4 x y z w).toNat = 65533) = False := by simp; omega
    simp only [hne, if_false, if_neg (show ¬ (4 = 0) by decide)]
    rw [Int.toNat_of_nonneg (by omega), encode_size (by omega), if_neg (by omega), if_neg (by omega), if_neg (by omega)]
end Go.Proofs.YtbomhpfckplgaaaDoor.P
namespace Go.Proofs.YtbomhpfckplgaaaDoor.P
open Go Go.RowKit Go.Proofs.YtbomhpfckplgaaaDoorW.PrintWords Utf
set_option linter.unusedVariables false
set_option linter.unusedSimpArgs false

theorem ref_long {l : List Int} (hl : Bytes l) (p : Nat) (hp : p < 4611686018427387904) (k : Nat) : galleyref02_Long.f (k + 3) l (p : Int) = some (long l p : Int) := by
  refine ref_long4 k _ _ _ _ l p (ref_at hl p) ?_ ?_ ?_
  · rw [w64 (by omega) (by omega)]; exact ref_at hl (p + 1)
  · rw [w64 (by omega) (by omega)]; exact ref_at hl (p + 2)
  · rw [w64 (by omega) (by omega)]; exact ref_at hl (p + 3)
theorem ref_inside_step {l : List Int} (hl : Bytes l) (p : Nat) (hp : p < 4611686018427387904) (j : Nat) (h0 : 0 < j) (hj : j ≤ 3) (k : Nat) :
    galleyref02_Inside.l0 (k + 4) l (p : Int) (j : Int) = if j ≤ p ∧ j < long l (p - j) then some true else galleyref02_Inside.l0 (k + 3) l (p : Int) ((j + 1 : Nat) : Int) := by
  conv => lhs; unfold galleyref02_Inside.l0
  rw [if_pos (show (j : Int) ≤ 3 by omega), w64 (n := (p : Int) - j) (by omega) (by omega), w64 (n := (j : Int) + 1) (by omega) (by omega)]
  by_cases h : j ≤ p
  · rw [if_pos (show (p : Int) - j ≥ 0 by omega), show (p : Int) - j = ((p - j : Nat) : Int) from by omega, ref_long hl (p - j) (by omega) k]
    simp only [Option.bind_some]
    by_cases h2 : j < long l (p - j)
    · rw [if_pos (show ((long l (p - j) : Nat) : Int) > (j : Int) by omega), if_pos ⟨h, h2⟩]
    · rw [if_neg (show ¬ ((long l (p - j) : Nat) : Int) > (j : Int) by omega), if_neg (fun h3 => h2 h3.2)]
      rfl
  · rw [if_neg (show ¬ (p : Int) - j ≥ 0 by omega), if_neg (fun h3 => h h3.1)]
    rfl
theorem ref_inside {l : List Int} (hl : Bytes l) (p : Nat) (hp : p < 4611686018427387904) (k : Nat) : galleyref02_Inside.f (k + 7) l (p : Int) = some (inside l p) := by
  unfold galleyref02_Inside.f
  have h1 := ref_inside_step hl p hp 1 (by omega) (by omega) (k + 3)
  have h2 := ref_inside_step hl p hp 2 (by omega) (by omega) (k + 2)
  have h3 := ref_inside_step hl p hp 3 (by omega) (by omega) (k + 1)
  have h4 : galleyref02_Inside.l0 (k + 4) l (p : Int) ((3 + 1 : Nat) : Int) = some false := by
    unfold galleyref02_Inside.l0
    rw [if_neg (by omega)]
  have e1 : ((1 : Nat) : Int) = 1 := rfl
  rw [e1] at h1
  rw [h1, h2, h3, h4]
  have hi : inside l p = ((decide (1 ≤ p) && decide (1 < long l (p - 1))) || ((decide (2 ≤ p) && decide (2 < long l (p - 2))) || (decide (3 ≤ p) && decide (3 < long l (p - 3))))) := by
    simp [inside, List.range_succ]
  rw [hi]
  by_cases c1 : 1 ≤ p ∧ 1 < long l (p - 1)
  · simp [c1]
  rw [if_neg c1]
  by_cases c2 : 2 ≤ p ∧ 2 < long l (p - 2)
  · simp [c2]
  rw [if_neg c2]
  by_cases c3 : 3 ≤ p ∧ 3 < long l (p - 3)
  · simp [c3]
  rw [if_neg c3]
  simp only [not_and] at c1 c2 c3
  by_cases d1 : 1 ≤ p <;> by_cases d2 : 2 ≤ p <;> by_cases d3 : 3 ≤ p <;> simp [d1, d2, d3] <;> omega
theorem ev_inside {l : List Int} (hl : Bytes l) (p : Nat) (hp : p < 4611686018427387904) : Ev (fun k => galleyref02_Inside.f k l (p : Int)) (inside l p) :=
  ⟨7, fun k hk => by obtain ⟨j, rfl⟩ : ∃ j, k = j + 7 := ⟨k - 7, by omega⟩; exact ref_inside hl p hp j⟩
theorem ev_long {l : List Int} (hl : Bytes l) (p : Nat) (hp : p < 4611686018427387904) : Ev (fun k => galleyref02_Long.f k l (p : Int)) (long l p : Int) :=
  ⟨3, fun k hk => by obtain ⟨j, rfl⟩ : ∃ j, k = j + 3 := ⟨k - 3, by omega⟩; exact ref_long hl p hp j⟩

/-- The steps from a place on, each with its place. -/
def stepsF (l : List Int) : Nat → Nat → List (Nat × Int × Int × Bool)
  | 0, _ => []
  | k + 1, p => if p < l.length then (p, stepN l p) :: stepsF l k (p + width l p) else []
/-- All steps of a text. -/
def stepsL (l : List Int) : List (Nat × Int × Int × Bool) := stepsF l l.length 0
theorem stepN_w (l : List Int) (p : Nat) : (stepN l p).2.1 = (width l p : Int) := by
  unfold stepN width
  split <;> rfl
theorem decode_w {l : List Int} (hl : Bytes l) {p : Nat} (h : p < l.length) : (Utf8.decode (strOfNums l) p).2 = width l p := by
  rw [decode_eq hl h]
  unfold width
  split <;> rfl
theorem items_F {l : List Int} (hl : Bytes l) : ∀ (k p : Nat), itemsFrom (strOfNums l) k p = stepsF l k p
  | 0, _ => rfl
  | k + 1, p => by
    unfold itemsFrom stepsF
    rw [strOfNums_size]
    by_cases h : p < l.length
    · rw [if_pos h, if_pos h, decode_w hl h, items_F hl k]
      have := stepW_eq hl h
      rw [strOfNums_size] at this
      rw [this]
    · rw [if_neg h, if_neg h]
theorem items_eq {l : List Int} (hl : Bytes l) : items (strOfNums l) = stepsL l := by
  unfold items stepsL
  rw [strOfNums_size]
  exact items_F hl _ _
theorem stepsF_length (l : List Int) : ∀ (k p : Nat), (stepsF l k p).length ≤ l.length - p
  | 0, _ => by simp [stepsF]
  | k + 1, p => by
    unfold stepsF
    by_cases h : p < l.length
    · rw [if_pos h]
      have h1 := stepsF_length l k (p + width l p)
      have h2 := width_pos l p
      simp
      omega
    · rw [if_neg h]; simp
theorem stepsF_fuel (l : List Int) : ∀ (k p j : Nat), l.length - p ≤ k → stepsF l (k + j) p = stepsF l k p
  | 0, p, 0, _ => rfl
  | 0, p, j + 1, h => by
    show stepsF l (0 + (j + 1)) p = _
    rw [show 0 + (j + 1) = j + 1 from by omega]
    unfold stepsF
    rw [if_neg (by omega)]
  | k + 1, p, j, h => by
    rw [show k + 1 + j = (k + j) + 1 from by omega]
    unfold stepsF
    by_cases hp : p < l.length
    · rw [if_pos hp, if_pos hp, stepsF_fuel l k _ j (by have := width_pos l p; omega)]
    · rw [if_neg hp, if_neg hp]
theorem ev_edges_end {l : List Int} (hl : Bytes l) (hs : Small l) (acc : List Int) (ha : acc.length < 17592186044416) : Ev (fun n => galleyref02_Edges.l0 n l acc (l.length : Int)) (acc ++ [(l.length : Int)]) := by
  unfold Small at hs
  refine Ev.step (G := fun k => (galleyref02_Inside.f k l (l.length : Int)).bind fun t => if t = true then galleyref02_Edges.l0 k l acc ((l.length + 1 : Nat) : Int) else galleyref02_Edges.l0 k l (acc ++ [(l.length : Int)]) ((l.length + 1 : Nat) : Int)) (fun k => ?_) ?_
  · conv => lhs; unfold galleyref02_Edges.l0
    rw [if_pos (Int.le_refl _), w64 (n := (l.length : Int) + 1) (by omega) (by omega), if_pos ha]
    rfl
  · refine Ev.bind (ev_inside hl l.length (by omega)) ?_
    rw [inside_len]
    refine Ev.ite_neg (by decide) (Ev.step (G := fun _ => some (acc ++ [(l.length : Int)])) (fun k => ?_) (Ev.pure _))
    unfold galleyref02_Edges.l0
    rw [if_neg (by omega)]
theorem ev_edges_in {l : List Int} (hl : Bytes l) (hs : Small l) (acc : List Int) (v : List Int) (p : Nat) (hp : p ≤ l.length) (hi : inside l p = true) (h : Ev (fun n => galleyref02_Edges.l0 n l acc ((p + 1 : Nat) : Int)) v) : Ev (fun n => galleyref02_Edges.l0 n l acc (p : Int)) v := by
  unfold Small at hs
  refine Ev.step (G := fun k => (galleyref02_Inside.f k l (p : Int)).bind fun t => if t = true then galleyref02_Edges.l0 k l acc ((p + 1 : Nat) : Int) else (if acc.length < 17592186044416 then galleyref02_Edges.l0 k l (acc ++ [(p : Int)]) ((p + 1 : Nat) : Int) else none)) (fun k => ?_) ?_
  · conv => lhs; unfold galleyref02_Edges.l0
    rw [if_pos (by omega), w64 (n := (p : Int) + 1) (by omega) (by omega)]
    rfl
  · refine Ev.bind (ev_inside hl p (by omega)) ?_
    rw [hi]
    exact Ev.ite_pos rfl h
theorem ev_edges_out {l : List Int} (hl : Bytes l) (hs : Small l) (acc : List Int) (ha : acc.length < 17592186044416) (v : List Int) (p : Nat) (hp : p ≤ l.length) (hi : inside l p = false) (h : Ev (fun n => galleyref02_Edges.l0 n l (acc ++ [(p : Int)]) ((p + 1 : Nat) : Int)) v) : Ev (fun n => galleyref02_Edges.l0 n l acc (p : Int)) v := by
  unfold Small at hs
  refine Ev.step (G := fun k => (galleyref02_Inside.f k l (p : Int)).bind fun t => if t = true then galleyref02_Edges.l0 k l acc ((p + 1 : Nat) : Int) else (if acc.length < 17592186044416 then galleyref02_Edges.l0 k l (acc ++ [(p : Int)]) ((p + 1 : Nat) : Int) else none)) (fun k => ?_) ?_
  · conv => lhs; unfold galleyref02_Edges.l0
    rw [if_pos (by omega), w64 (n := (p : Int) + 1) (by omega) (by omega)]
    rfl
  · refine Ev.bind (ev_inside hl p (by omega)) ?_
    rw [hi]
    exact Ev.ite_neg (by decide) (Ev.ite_pos ha h)
theorem ev_edges_skip {l : List Int} (hl : Bytes l) (hs : Small l) (acc : List Int) (v : List Int) (p : Nat) (hp : p < l.length) (h : Ev (fun n => galleyref02_Edges.l0 n l acc ((p + width l p : Nat) : Int)) v) : ∀ (i : Nat), i < width l p → Ev (fun n => galleyref02_Edges.l0 n l acc ((p + (width l p - i) : Nat) : Int)) v
  | 0, _ => h
  | i + 1, hi => by
    have ih := ev_edges_skip hl hs acc v p hp h i (by omega)
    have hw := width_end hp
    refine ev_edges_in hl hs acc v (p + (width l p - (i + 1))) (by omega) (inside_mid (by omega) (by omega)) ?_
    rw [show p + (width l p - (i + 1)) + 1 = p + (width l p - i) from by omega]
    exact ih
theorem ev_edges_from {l : List Int} (hl : Bytes l) (hs : Small l) : ∀ (k p : Nat) (acc : List Int), p ≤ l.length → l.length - p ≤ k → inside l p = false → acc.length + (l.length - p) < 17592186044416 →
    Ev (fun n => galleyref02_Edges.l0 n l acc (p : Int)) (acc ++ ((stepsF l k p).map (fun x => (x.1 : Int)) ++ [(l.length : Int)]))
  | 0, p, acc, hp, hk, hi, ha => by
    obtain rfl : p = l.length := by omega
    exact ev_edges_end hl hs acc (by omega)
  | k + 1, p, acc, hp, hk, hi, ha => by
    unfold stepsF
    by_cases h : p < l.length
    · rw [if_pos h]
      have hw := width_pos l p
      have he := width_end h
      have ih := ev_edges_from hl hs k (p + width l p) (acc ++ [(p : Int)]) he (by omega) (inside_next hi) (by simp; omega)
      refine ev_edges_out hl hs acc (by omega) _ p hp hi ?_
      have := ev_edges_skip hl hs (acc ++ [(p : Int)]) _ p h ih (width l p - 1) (by omega)
      rw [show p + (width l p - (width l p - 1)) = p + 1 from by omega] at this
      simpa using this
    · rw [if_neg h]
      obtain rfl : p = l.length := by omega
      exact ev_edges_end hl hs acc (by omega)
/-- The places of all edges, by bytes. -/
def placesL (l : List Int) : List Int := (stepsL l).map (fun x => (x.1 : Int)) ++ [(l.length : Int)]
theorem ev_edges {l : List Int} (hl : Bytes l) (hs : Small l) : Ev (fun n => galleyref02_Edges.f n l) (placesL l) := by
  have hs' := hs
  unfold Small at hs'
  have := ev_edges_from hl hs l.length 0 [] (by omega) (by omega) (inside_zero l) (by simp; omega)
  simpa [galleyref02_Edges.f, placesL, stepsL] using this
end Go.Proofs.YtbomhpfckplgaaaDoor.P
namespace Go.Proofs.YtbomhpfckplgaaaDoor.P
open Go Go.RowKit Go.Proofs.YtbomhpfckplgaaaDoorW.PrintWords Utf
set_option linter.unusedVariables false
set_option linter.unusedSimpArgs false

theorem tmod_nat {x : Int} (h : 0 ≤ x) (m : Int) : Int.tmod x m = x % m := Int.tmod_eq_emod_of_nonneg h
theorem of_step {l : List Int} (hl : Bytes l) (hs : Small l) (p n i : Nat) (x : Int) (hi : i < n) (hp : p + i < l.length) (hx : 0 ≤ x ∧ x < 33554432) (k : Nat) :
    galleyref02_Of.l0 (k + 1) l (p : Int) (n : Int) x (i : Int) = galleyref02_Of.l0 k l (p : Int) (n : Int) (x * 64 + at_ l (p + i) % 64) ((i + 1 : Nat) : Int) := by
  unfold Small at hs
  have hb := at_byte hl hp
  conv => lhs; unfold galleyref02_Of.l0
  rw [if_pos (by omega), w64 (n := (p : Int) + i) (by omega) (by omega), if_pos (by omega), if_pos (by omega), show (p : Int) + i = ((p + i : Nat) : Int) from by omega, rd_at hp,
    w64 (n := at_ l (p + i)) (by omega) (by omega), tmod_nat hb.1, w64 (n := x * 64) (by omega) (by omega), w64 (by omega) (by omega), w64 (n := (i : Int) + 1) (by omega) (by omega)]
  rfl
theorem of_end (l : List Int) (p : Int) (n i : Nat) (x : Int) (hi : n ≤ i) (hx : 0 ≤ x ∧ x < 2147483648) (k : Nat) : galleyref02_Of.l0 (k + 1) l p (n : Int) x (i : Int) = some (x, (n : Int), true) := by
  unfold galleyref02_Of.l0
  rw [if_neg (by omega)]
  congr 2
  unfold wrap32
  omega
theorem of_j0 (l : List Int) (p n x : Int) (k : Nat) : galleyref02_Of.j0 (k + 1) l p n x = galleyref02_Of.l0 k l p n x 1 := rfl
theorem ref_of {l : List Int} (hl : Bytes l) (hs : Small l) (p : Nat) (hp : p < l.length) (k : Nat) : galleyref02_Of.f (k + 9) l (p : Int) = some (stepN l p) := by
  have hs' := hs
  unfold Small at hs'
  have hx := at_byte hl hp
  have h4 := long_le4 l p
  unfold galleyref02_Of.f
  rw [ref_long hl p (by omega) (k + 6)]
  simp only [Option.bind_some]
  unfold stepN
  by_cases h0 : long l p = 0
  · rw [if_pos (by omega), if_pos h0]
  have he := long_end (b := l) (p := p) (by omega)
  rw [if_neg (by omega), if_neg h0, if_pos (by omega), if_pos (by omega), rd_at hp, w64 (n := at_ l p) (by omega) (by omega), tmod_nat hx.1, tmod_nat hx.1, tmod_nat hx.1]
  unfold rune
  obtain h | h | h | h : long l p = 1 ∨ long l p = 2 ∨ long l p = 3 ∨ long l p = 4 := by omega
  · rw [h]
    rw [if_neg (by decide), if_neg (by decide), if_neg (by decide)]
    exact (of_j0 l p 1 _ (k + 8)).trans (of_end l p 1 1 (at_ l p) (Nat.le_refl _) (by omega) (k + 7))
  · rw [h]
    have hy := at_byte hl (p := p + 1) (by omega)
    rw [if_pos (by decide)]
    exact (of_j0 l p 2 _ (k + 8)).trans ((of_step hl hs p 2 1 (at_ l p % 32) (by omega) (by omega) (by omega) (k + 7)).trans (of_end l p 2 2 _ (Nat.le_refl _) (by omega) (k + 6)))
  · rw [h]
    have hy := at_byte hl (p := p + 1) (by omega)
    have hz := at_byte hl (p := p + 2) (by omega)
    rw [if_neg (by decide), if_pos (by decide)]
    exact (of_j0 l p 3 _ (k + 8)).trans ((of_step hl hs p 3 1 (at_ l p % 16) (by omega) (by omega) (by omega) (k + 7)).trans ((of_step hl hs p 3 2 _ (by omega) (by omega) (by omega) (k + 6)).trans (of_end l p 3 3 _ (Nat.le_refl _) (by omega) (k + 5))))
  · rw [h]
    have hy := at_byte hl (p := p + 1) (by omega)
    have hz := at_byte hl (p := p + 2) (by omega)
    have hw := at_byte hl (p := p + 3) (by omega)
    rw [if_neg (by decide), if_neg (by decide), if_pos (by decide)]
    exact (of_j0 l p 4 _ (k + 8)).trans ((of_step hl hs p 4 1 (at_ l p % 8) (by omega) (by omega) (by omega) (k + 7)).trans ((of_step hl hs p 4 2 _ (by omega) (by omega) (by omega) (k + 6)).trans ((of_step hl hs p 4 3 _ (by omega) (by omega) (by omega) (k + 5)).trans (of_end l p 4 4 _ (Nat.le_refl _) (by omega) (k + 4)))))
theorem ev_of {l : List Int} (hl : Bytes l) (hs : Small l) (p : Nat) (hp : p < l.length) : Ev (fun k => galleyref02_Of.f k l (p : Int)) (stepN l p) :=
  ⟨9, fun k hk => by obtain ⟨j, rfl⟩ : ∃ j, k = j + 9 := ⟨k - 9, by omega⟩; exact ref_of hl hs p hp j⟩

def toS (x : Nat × Int × Int × Bool) : S121 := ⟨x.2.1, x.2.2.1, x.2.2.2⟩
theorem stepsF_mem (l : List Int) : ∀ (k p : Nat) x, x ∈ stepsF l k p → x.1 < l.length ∧ x.2 = stepN l x.1
  | 0, _, x, h => by simp [stepsF] at h
  | k + 1, p, x, h => by
    unfold stepsF at h
    by_cases hp : p < l.length
    · rw [if_pos hp] at h
      rcases List.mem_cons.1 h with rfl | h
      · exact ⟨hp, rfl⟩
      · exact stepsF_mem l k _ x h
    · rw [if_neg hp] at h
      simp at h
theorem stepsL_length (l : List Int) : (stepsL l).length ≤ l.length := stepsF_length l _ _
theorem placesL_length (l : List Int) : (placesL l).length = (stepsL l).length + 1 := by simp [placesL]
theorem rd_places (l : List Int) (i : Nat) (h : i < (stepsL l).length) : rd (placesL l) (i : Int) = ((stepsL l)[i].1 : Int) := by
  rw [rd_nat _ _ (by rw [placesL_length]; omega)]
  unfold placesL
  rw [List.getElem_append_left (by simpa using h)]
  simp
theorem ev_steps_from {l : List Int} (hl : Bytes l) (hs : Small l) : ∀ (n i : Nat) (acc : List S121), (stepsL l).length - i ≤ n → i ≤ (stepsL l).length → acc.length = i →
    Ev (fun k => galleyref02_Steps.l0 k l acc (placesL l) (i : Int)) (acc ++ ((stepsL l).drop i).map toS)
  | 0, i, acc, hn, hi, ha => by
    have hlen := stepsL_length l
    unfold Small at hs
    refine Ev.step (G := fun _ => some acc) (fun k => ?_) (Ev.of ?_)
    · unfold galleyref02_Steps.l0
      rw [w64 (n := (i : Int) + 1) (by omega) (by omega), placesL_length, if_neg (by omega)]
    · rw [List.drop_eq_nil_of_le (by omega)]; simp
  | n + 1, i, acc, hn, hi, ha => by
    have hlen := stepsL_length l
    have hs' := hs
    unfold Small at hs'
    by_cases h : i < (stepsL l).length
    · have hm := stepsF_mem l _ _ _ (List.getElem_mem (l := stepsL l) h)
      have ih := ev_steps_from hl hs n (i + 1) (acc ++ [toS (stepsL l)[i]]) (by omega) (by omega) (by simp [ha])
      refine Ev.step (G := fun k => (galleyref02_Of.f k l (((stepsL l)[i].1 : Nat) : Int)).bind fun bt => (if acc.length < 5864062014805 then (galleyref02_Steps.l0 k l (acc ++ [(⟨bt.1, bt.2.1, bt.2.2⟩ : S121)]) (placesL l) ((i + 1 : Nat) : Int)) else none)) (fun k => ?_) ?_
      · conv => lhs; unfold galleyref02_Steps.l0
        rw [w64 (n := (i : Int) + 1) (by omega) (by omega), placesL_length, if_pos (by omega), if_pos (by omega), if_pos (by omega), rd_places l i h]
        rfl
      · refine Ev.bind (ev_of hl hs _ hm.1) (Ev.ite_pos (by omega) ?_)
        rw [← hm.2]
        rw [List.drop_eq_getElem_cons h]
        rw [List.append_assoc, List.singleton_append] at ih
        rw [List.map_cons]
        exact ih
    · refine Ev.step (G := fun _ => some acc) (fun k => ?_) (Ev.of ?_)
      · unfold galleyref02_Steps.l0
        rw [w64 (n := (i : Int) + 1) (by omega) (by omega), placesL_length, if_neg (by omega)]
      · rw [List.drop_eq_nil_of_le (by omega)]; simp
theorem ev_steps {l : List Int} (hl : Bytes l) (hs : Small l) : Ev (fun k => galleyref02_Steps.f k l) ((stepsL l).map toS) := by
  unfold galleyref02_Steps.f
  refine Ev.bind (ev_edges hl hs) ?_
  have := ev_steps_from hl hs _ 0 [] (Nat.le_refl _) (by omega) rfl
  simpa using this

/-- What a step counts by a ruler. -/
def cntR (r : Int) (x : S121) : Int := if r = 1 then x.f1 else if r = 3 then (if x.f0 > 65535 then 2 else 1) else 1
theorem ref_count (x : S121) (r : Int) : galleyref06_count.f x.f0 x.f1 x.f2 r = some (cntR r x) := by
  unfold galleyref06_count.f cntR
  split
  · rfl
  · split
    · split <;> rfl
    · rfl
def scanT (r : Int) : Int → List S121 → List Int
  | _, [] => []
  | a, x :: xs => wrap64 (a + cntR r x) :: scanT r (wrap64 (a + cntR r x)) xs
theorem rd_T_nat (xs : List S121) (i : Nat) (h : i < xs.length) : rd_T121 xs (i : Int) = xs[i] := by
  unfold rd_T121
  rw [Int.toNat_natCast, List.getD_eq_getElem?_getD, List.getElem?_eq_getElem h]
  rfl
theorem ev_table_from (r : Int) (xs : List S121) (hx : xs.length < 4611686018427387904) : ∀ (n i : Nat) (acc : List Int) (a : Int), xs.length - i ≤ n → i ≤ xs.length → acc.length + (xs.length - i) < 17592186044416 →
    Ev (fun k => galleyref06_Table.l0 k r acc xs a (i : Int)) (acc ++ scanT r a (xs.drop i))
  | 0, i, acc, a, hn, hi, ha => by
    refine Ev.step (G := fun _ => some acc) (fun k => ?_) (Ev.of ?_)
    · unfold galleyref06_Table.l0
      rw [if_neg (by omega)]
    · rw [List.drop_eq_nil_of_le (by omega)]; simp [scanT]
  | n + 1, i, acc, a, hn, hi, ha => by
    by_cases h : i < xs.length
    · have ih := ev_table_from r xs hx n (i + 1) (acc ++ [wrap64 (a + cntR r xs[i])]) (wrap64 (a + cntR r xs[i])) (by omega) (by omega) (by simp; omega)
      refine Ev.step (G := fun k => if acc.length < 17592186044416 then galleyref06_Table.l0 k r (acc ++ [wrap64 (a + cntR r xs[i])]) xs (wrap64 (a + cntR r xs[i])) ((i + 1 : Nat) : Int) else none) (fun k => ?_) (Ev.ite_pos (by omega) ?_)
      · conv => lhs; unfold galleyref06_Table.l0
        rw [if_pos (by omega), if_pos (by omega), rd_T_nat xs i h, ref_count]
        simp only [Option.bind_some]
        rw [w64 (n := (i : Int) + 1) (by omega) (by omega)]
        rfl
      · rw [List.drop_eq_getElem_cons h]
        simpa [scanT] using ih
    · refine Ev.step (G := fun _ => some acc) (fun k => ?_) (Ev.of ?_)
      · unfold galleyref06_Table.l0
        rw [if_neg (by omega)]
      · rw [List.drop_eq_nil_of_le (by omega)]; simp [scanT]
theorem stepN_units {l : List Int} (hl : Bytes l) {p : Nat} (hp : p < l.length) : lenU (stepN l p).1 = if (stepN l p).1 > 65535 then 2 else 1 := by
  have hx := at_byte hl hp
  unfold stepN rune long
  have hr := rune_range (at_ l p) (at_ l (p + 1)) (at_ l (p + 2)) (at_ l (p + 3)) hx.1
  rcases hr with e | ⟨e, h1, h2⟩ | ⟨e, h1, h2⟩ | ⟨e, h1, h2, h3, h4⟩ | ⟨e, h1, h2⟩
  all_goals rw [e]
  · rfl
  · rw [if_neg (by decide)]
    unfold lenU
    dsimp only
    rw [if_pos (by omega)]
  · rw [if_neg (by decide)]
    unfold lenU
    dsimp only
    rw [if_pos (by omega)]
  · rw [if_neg (by decide)]
    unfold lenU
    dsimp only
    rw [if_pos (by omega)]
  · rw [if_neg (by decide)]
    unfold lenU
    dsimp only
    rw [if_pos (by omega)]
theorem scan_pick (r : Nat) (h1 : 1 ≤ r) (h3 : r ≤ 3) : ∀ (xs : List (Nat × Int × Int × Bool)) (a : Edge3), (∀ x ∈ xs, lenU x.2.1 = if x.2.1 > 65535 then 2 else 1) →
    (scanE a xs).map (fun e => pickE e r) = pickE a r :: scanT r (pickE a r) (xs.map toS)
  | [], a, _ => rfl
  | x :: xs, a, h => by
    have ih := scan_pick r h1 h3 xs (addE a x) (fun y hy => h y (List.mem_cons_of_mem _ hy))
    have hx := h x List.mem_cons_self
    simp only [scanE, List.map_cons, ih, scanT]
    have e : pickE (addE a x) r = wrap64 (pickE a r + cntR r (toS x)) := by
      obtain rfl | rfl | rfl : r = 1 ∨ r = 2 ∨ r = 3 := by omega
      · rfl
      · rfl
      · show wrap64 (a.2.2 + lenU x.2.1) = wrap64 (a.2.2 + _)
        rw [hx]
        rfl
    rw [e]
/-- The table of a text by a ruler. -/
def tabL (l : List Int) (r : Nat) : List Int := (edgesL l).map fun e => pickE e r
theorem tab_scan {l : List Int} (hl : Bytes l) (r : Nat) (h1 : 1 ≤ r) (h3 : r ≤ 3) : tabL l r = 0 :: scanT r 0 ((stepsL l).map toS) := by
  unfold tabL edgesL
  rw [items_eq hl, scan_pick r h1 h3]
  · obtain rfl | rfl | rfl : r = 1 ∨ r = 2 ∨ r = 3 := by omega
    all_goals rfl
  · intro x hx
    have hm := stepsF_mem l _ _ x hx
    rw [hm.2]
    exact stepN_units hl hm.1
theorem ev_table {l : List Int} (hl : Bytes l) (hs : Small l) (r : Nat) (h1 : 1 ≤ r) (h3 : r ≤ 3) : Ev (fun k => galleyref06_Table.f k l (r : Int)) (tabL l r) := by
  have hlen := stepsL_length l
  unfold Small at hs
  unfold galleyref06_Table.f
  refine Ev.bind (ev_steps hl hs) ?_
  rw [tab_scan hl r h1 h3]
  have := ev_table_from r ((stepsL l).map toS) (by simp; omega) _ 0 [0] 0 (Nat.le_refl _) (by omega) (by simp; omega)
  simpa using this
end Go.Proofs.YtbomhpfckplgaaaDoor.P
