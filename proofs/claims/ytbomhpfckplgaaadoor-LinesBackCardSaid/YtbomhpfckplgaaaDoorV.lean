/- Encodings, edges, steps, tables, and what To and Size answer, in plain terms: without the document's answers. -/
import Derived.Test.YtbomhpfckplgaaaDoorU0
import Derived.Test.YtbomhpfckplgaaaDoorH
import Derived.Test.YtbomhpfckplgaaaDoorHTo
import Derived.Test.YtbomhpfckplgaaaDoorPx41
import Derived.Test.YtbomhpfckplgaaaDoorPx5
import Derived.Lib.DecodeN
import Derived.Lib.RuneCountTail
namespace Go.Proofs.YtbomhpfckplgaaaDoor.Utf
/-- the byte in a place, -1 outside -/
def at_ (b : List Int) (p : Nat) : Int := b.getD p (-1)
def tail (x : Int) : Prop := 0x80 ≤ x ∧ x ≤ 0xbf
instance (x : Int) : Decidable (tail x) := by unfold tail; infer_instance

def three (x y : Int) : Prop := (x = 0xe0 ∧ 0xa0 ≤ y ∧ y ≤ 0xbf) ∨ (0xe1 ≤ x ∧ x ≤ 0xec ∧ tail y) ∨ (x = 0xed ∧ 0x80 ≤ y ∧ y ≤ 0x9f) ∨ (0xee ≤ x ∧ x ≤ 0xef ∧ tail y)
def four (x y : Int) : Prop := (x = 0xf0 ∧ 0x90 ≤ y ∧ y ≤ 0xbf) ∨ (0xf1 ≤ x ∧ x ≤ 0xf3 ∧ tail y) ∨ (x = 0xf4 ∧ 0x80 ≤ y ∧ y ≤ 0x8f)
instance (x y : Int) : Decidable (three x y) := by unfold three; infer_instance
instance (x y : Int) : Decidable (four x y) := by unfold four; infer_instance

/-- how many bytes the encoding has that these four begin with; 0: none -/
def long4 (x y z w : Int) : Nat :=
  if 0 ≤ x ∧ x ≤ 0x7f then 1
  else if (0xc2 ≤ x ∧ x ≤ 0xdf) ∧ tail y then 2
  else if tail z ∧ three x y then 3
  else if tail z ∧ tail w ∧ four x y then 4
  else 0

theorem long4_le (x y z w : Int) : long4 x y z w ≤ 4 := by unfold long4; repeat (first | split | omega)
theorem long4_tail {x y z w : Int} (h : tail x) : long4 x y z w = 0 := by
  unfold long4 tail three four at *
  repeat (first | rw [if_neg (by omega)])
theorem long4_y {x y z w : Int} (h : 1 < long4 x y z w) : tail y := by
  unfold long4 at h
  (repeat' split at h) <;> (try simp only [tail, three, four] at *) <;> omega
theorem long4_z {x y z w : Int} (h : 2 < long4 x y z w) : tail z := by
  unfold long4 at h
  (repeat' split at h) <;> (try simp only [tail, three, four] at *) <;> omega
theorem long4_w {x y z w : Int} (h : 3 < long4 x y z w) : tail w := by
  unfold long4 at h
  (repeat' split at h) <;> (try simp only [tail, three, four] at *) <;> omega
theorem long4_x {x y z w : Int} (h : 0 < long4 x y z w) : 0 ≤ x := by
  unfold long4 at h
  (repeat' split at h) <;> (try simp only [tail, three, four] at *) <;> omega

def long (b : List Int) (p : Nat) : Nat := long4 (at_ b p) (at_ b (p + 1)) (at_ b (p + 2)) (at_ b (p + 3))
def width (b : List Int) (p : Nat) : Nat := if long b p = 0 then 1 else long b p

theorem at_drop (b : List Int) (p q : Nat) : at_ (b.drop p) q = at_ b (p + q) := by simp [at_, List.getD_eq_getElem?_getD]
theorem long_drop (b : List Int) (p q : Nat) : long (b.drop p) q = long b (p + q) := by simp [long, at_drop, Nat.add_assoc]
theorem width_drop (b : List Int) (p q : Nat) : width (b.drop p) q = width b (p + q) := by simp [width, long_drop]
theorem long_le4 (b : List Int) (p : Nat) : long b p ≤ 4 := long4_le _ _ _ _
theorem width_pos (b : List Int) (p : Nat) : 0 < width b p := by unfold width; split <;> omega
theorem width_le4 (b : List Int) (p : Nat) : width b p ≤ 4 := by have := long_le4 b p; unfold width; split <;> omega
theorem long_le_width (b : List Int) (p : Nat) : long b p ≤ width b p := by unfold width; split <;> omega

theorem long_in {b : List Int} {p k : Nat} (h : k < long b p) : 0 < k → tail (at_ b (p + k)) := by
  intro hk
  have h4 := long_le4 b p
  obtain rfl | rfl | rfl : k = 1 ∨ k = 2 ∨ k = 3 := by omega
  · exact long4_y h
  · exact long4_z h
  · exact long4_w h
theorem long_tail {b : List Int} {p : Nat} (h : tail (at_ b p)) : long b p = 0 := long4_tail h
theorem long_within {b : List Int} {p k : Nat} (h : k < long b p) (hk : 0 < k) : long b (p + k) = 0 := long_tail (long_in h hk)
theorem at_lt {b : List Int} {p : Nat} (h : 0 ≤ at_ b p) : p < b.length := by
  rcases Nat.lt_or_ge p b.length with h1 | h1
  · exact h1
  · simp [at_, List.getD_eq_getElem?_getD, List.getElem?_eq_none h1] at h
theorem long_end {b : List Int} {p : Nat} (h : 0 < long b p) : p + long b p ≤ b.length := by
  rcases Nat.lt_or_ge (long b p) 2 with h1 | h1
  · have := at_lt (long4_x h); omega
  · have h2 : tail (at_ b (p + (long b p - 1))) := long_in (by omega) (by omega)
    have := at_lt (b := b) (p := p + (long b p - 1)) (by unfold tail at h2; omega)
    omega
theorem width_end {b : List Int} {p : Nat} (h : p < b.length) : p + width b p ≤ b.length := by
  unfold width
  split
  · omega
  · exact long_end (by omega)

/-- does an encoding go over the place? -/
def inside (b : List Int) (p : Nat) : Bool := (List.range 3).any fun j => decide (j + 1 ≤ p) && decide (j + 1 < long b (p - (j + 1)))
theorem inside_iff {b : List Int} {p : Nat} : inside b p = true ↔ ∃ k, 0 < k ∧ k ≤ p ∧ k < long b (p - k) := by
  unfold inside
  rw [List.any_eq_true]
  constructor
  · rintro ⟨j, hj, h⟩
    simp at h
    exact ⟨j + 1, by omega, h.1, h.2⟩
  · rintro ⟨k, h0, h1, h2⟩
    have := long_le4 b (p - k)
    refine ⟨k - 1, by simp; omega, ?_⟩
    simp
    have e : k - 1 + 1 = k := by omega
    rw [e]
    exact ⟨by omega, h2⟩
theorem inside_zero (b : List Int) : inside b 0 = false := by
  rw [Bool.eq_false_iff]; intro h
  obtain ⟨k, h0, h1, _⟩ := inside_iff.1 h
  omega
theorem inside_mid {b : List Int} {p k : Nat} (h0 : 0 < k) (h : k < width b p) : inside b (p + k) = true := by
  rw [inside_iff]
  refine ⟨k, h0, by omega, ?_⟩
  have e : p + k - k = p := by omega
  rw [e]
  unfold width at h
  split at h <;> omega
/-- behind a step from an edge there is an edge -/
theorem inside_next {b : List Int} {p : Nat} (h : inside b p = false) : inside b (p + width b p) = false := by
  rw [Bool.eq_false_iff]; intro hi
  obtain ⟨k, h0, h1, h2⟩ := inside_iff.1 hi
  have hw := width_pos b p
  rcases Nat.lt_trichotomy (p + width b p - k) p with hq | hq | hq
  · have : inside b p = true := by
      rw [inside_iff]
      refine ⟨p - (p + width b p - k), by omega, by omega, ?_⟩
      have e : p - (p - (p + width b p - k)) = p + width b p - k := by omega
      rw [e]; omega
    rw [h] at this; cases this
  · rw [hq] at h2
    have := long_le_width b p
    omega
  · have : long b (p + (width b p - k)) = 0 := by
      refine long_within ?_ (by omega)
      have hkw : width b p - k < width b p := by omega
      have h1 : 1 < width b p := by omega
      have : width b p = long b p := by
        unfold width at h1 ⊢
        by_cases h0 : long b p = 0
        · rw [if_pos h0] at h1; omega
        · rw [if_neg h0]
      omega
    have e : p + width b p - k = p + (width b p - k) := by omega
    rw [e] at h2; omega
theorem inside_len (b : List Int) : inside b b.length = false := by
  rw [Bool.eq_false_iff]; intro hi
  obtain ⟨k, h0, h1, h2⟩ := inside_iff.1 hi
  have := long_end (b := b) (p := b.length - k) (by omega)
  omega
theorem inside_beyond {b : List Int} {p : Nat} (h : b.length ≤ p) : inside b p = false := by
  rw [Bool.eq_false_iff]; intro hi
  obtain ⟨k, h0, h1, h2⟩ := inside_iff.1 hi
  have := long_end (b := b) (p := p - k) (by omega)
  omega

/-- the steps, one behind the other -/
def segs (b : List Int) : List (List Int) := if _h : b = [] then [] else b.take (width b 0) :: segs (b.drop (width b 0))
termination_by b.length
decreasing_by
  have := width_pos b 0
  have : 0 < b.length := List.length_pos_iff.2 ‹_›
  simp; omega

theorem segs_nil : segs [] = [] := by rw [segs]; simp
theorem segs_cons {b : List Int} (h : b ≠ []) : segs b = b.take (width b 0) :: segs (b.drop (width b 0)) := by rw [segs, dif_neg h]
theorem segs_flatten (b : List Int) : (segs b).flatten = b := by
  fun_induction segs b with
  | case1 => rfl
  | case2 b h ih => rw [List.flatten_cons, ih, List.take_append_drop]
theorem segs_inj {a b : List Int} (h : segs a = segs b) : a = b := by rw [← segs_flatten a, ← segs_flatten b, h]
/-- a step alone is the same step -/
theorem at_take {b : List Int} {n q : Nat} (h : q < n) : at_ (b.take n) q = at_ b q := by simp [at_, List.getD_eq_getElem?_getD, h]
theorem at_take_ge {b : List Int} {n q : Nat} (h : n ≤ q) : at_ (b.take n) q = -1 := by
  have : ¬ q < n := by omega
  simp [at_, List.getD_eq_getElem?_getD, List.getElem?_take, this]
/-- what stands ahead of an edge is told by the bytes ahead of it alone -/
theorem long_take {b : List Int} {n q : Nat} (h : q + long b q ≤ n) (h0 : 0 < long b q) : long (b.take n) q = long b q := by
  have hl := long_le4 b q
  have e0 : at_ (b.take n) q = at_ b q := at_take (by omega)
  unfold long at h h0 hl ⊢
  rw [e0]
  have a1 : q + 1 < n → at_ (b.take n) (q + 1) = at_ b (q + 1) := fun h => at_take h
  have a2 : q + 2 < n → at_ (b.take n) (q + 2) = at_ b (q + 2) := fun h => at_take h
  have a3 : q + 3 < n → at_ (b.take n) (q + 3) = at_ b (q + 3) := fun h => at_take h
  generalize at_ (b.take n) (q + 1) = y' at *
  generalize at_ (b.take n) (q + 2) = z' at *
  generalize at_ (b.take n) (q + 3) = w' at *
  generalize at_ b q = x at *
  generalize at_ b (q + 1) = y at *
  generalize at_ b (q + 2) = z at *
  generalize at_ b (q + 3) = w at *
  unfold long4 at *
  by_cases c1 : 0 ≤ x ∧ x ≤ 0x7f
  · rw [if_pos c1, if_pos c1]
  rw [if_neg c1] at h h0 hl ⊢
  rw [if_neg c1]
  by_cases c2 : (0xc2 ≤ x ∧ x ≤ 0xdf) ∧ tail y
  · rw [if_pos c2] at h h0 hl ⊢
    rw [a1 (by omega), if_pos c2]
  rw [if_neg c2] at h h0 hl ⊢
  by_cases c3 : tail z ∧ three x y
  · rw [if_pos c3] at h h0 hl ⊢
    rw [a1 (by omega), a2 (by omega), if_neg c2, if_pos c3]
  rw [if_neg c3] at h h0 hl ⊢
  by_cases c4 : tail z ∧ tail w ∧ four x y
  · rw [if_pos c4] at h h0 hl ⊢
    rw [a1 (by omega), a2 (by omega), a3 (by omega), if_neg c2, if_neg c3, if_pos c4]
  rw [if_neg c4] at h0
  omega
theorem long_take_zero {b : List Int} {n q : Nat} (h : long b q = 0) : long (b.take n) q = 0 := by
  rcases Nat.eq_zero_or_pos (long (b.take n) q) with h0 | h0
  · exact h0
  · exfalso
    have he := long_end h0
    have hl : (b.take n).length ≤ n := by simp; omega
    have hl4 := long_le4 (b.take n) q
    have key : long b q = long (b.take n) q := by
      have e0 : at_ (b.take n) q = at_ b q := at_take (by omega)
      unfold long at he h0 hl4 ⊢
      rw [e0] at he h0 hl4 ⊢
      have a1 : q + 1 < n → at_ (b.take n) (q + 1) = at_ b (q + 1) := fun h => at_take h
      have a2 : q + 2 < n → at_ (b.take n) (q + 2) = at_ b (q + 2) := fun h => at_take h
      have a3 : q + 3 < n → at_ (b.take n) (q + 3) = at_ b (q + 3) := fun h => at_take h
      generalize at_ (b.take n) (q + 1) = y' at *
      generalize at_ (b.take n) (q + 2) = z' at *
      generalize at_ (b.take n) (q + 3) = w' at *
      generalize at_ b q = x at *
      generalize at_ b (q + 1) = y at *
      generalize at_ b (q + 2) = z at *
      generalize at_ b (q + 3) = w at *
      unfold long4 at *
      by_cases c1 : 0 ≤ x ∧ x ≤ 0x7f
      · rw [if_pos c1, if_pos c1]
      rw [if_neg c1] at he h0 hl4 ⊢
      rw [if_neg c1]
      by_cases c2 : (0xc2 ≤ x ∧ x ≤ 0xdf) ∧ tail y'
      · rw [if_pos c2] at he h0 hl4 ⊢
        rw [← a1 (by omega), if_pos c2]
      rw [if_neg c2] at he h0 hl4 ⊢
      by_cases c3 : tail z' ∧ three x y'
      · rw [if_pos c3] at he h0 hl4 ⊢
        rw [← a1 (by omega), ← a2 (by omega), if_neg c2, if_pos c3]
      rw [if_neg c3] at he h0 hl4 ⊢
      by_cases c4 : tail z' ∧ tail w' ∧ four x y'
      · rw [if_pos c4] at he h0 hl4 ⊢
        rw [← a1 (by omega), ← a2 (by omega), ← a3 (by omega), if_neg c2, if_neg c3, if_pos c4]
      rw [if_neg c4] at h0
      omega
    omega
theorem inside_of_drop {b : List Int} {w q : Nat} (h : inside (b.drop w) q = true) : inside b (w + q) = true := by
  rw [inside_iff] at h ⊢
  obtain ⟨k, h0, h1, h2⟩ := h
  refine ⟨k, h0, by omega, ?_⟩
  rw [long_drop] at h2
  have e : w + q - k = w + (q - k) := by omega
  rw [e]; exact h2
theorem edge_drop {b : List Int} {w q : Nat} (h : inside b (w + q) = false) : inside (b.drop w) q = false := by
  rw [Bool.eq_false_iff] at h ⊢
  exact fun hi => h (inside_of_drop hi)
theorem width_le_of_edge {b : List Int} {e : Nat} (h : inside b e = false) (h0 : 0 < e) : width b 0 ≤ e := by
  rcases Nat.lt_or_ge e (width b 0) with h1 | h1
  · have := inside_mid (b := b) (p := 0) h0 h1
    simp [h] at this
  · exact h1
theorem width_take {b : List Int} {e : Nat} (h : width b 0 ≤ e) : width (b.take e) 0 = width b 0 := by
  rcases Nat.eq_zero_or_pos (long b 0) with h0 | h0
  · have := long_take_zero (n := e) h0
    simp [width, h0, this]
  · have hl : long b 0 ≤ e := by have := long_le_width b 0; omega
    have := long_take (b := b) (n := e) (q := 0) (by omega) h0
    simp [width, this]
/-- cut at an edge, the steps are the same ones -/
theorem segs_cut (b : List Int) : ∀ e, e ≤ b.length → inside b e = false → segs b = segs (b.take e) ++ segs (b.drop e) := by
  fun_induction segs b with
  | case1 => intro e he _; simp [segs_nil]
  | case2 b h ih =>
    intro e he hi
    rcases Nat.eq_zero_or_pos e with h0 | h0
    · subst h0
      rw [List.take_zero, segs_nil, List.drop_zero, List.nil_append, segs_cons h]
    · have hw := width_le_of_edge hi h0
      have hwp := width_pos b 0
      have e1 : width (b.take e) 0 = width b 0 := width_take hw
      have hne : b.take e ≠ [] := by
        have hl : 0 < b.length := List.length_pos_iff.2 h
        refine List.ne_nil_of_length_pos ?_
        rw [List.length_take]
        omega
      rw [segs_cons hne, e1, List.cons_append]
      have e2 : (b.take e).take (width b 0) = b.take (width b 0) := by rw [List.take_take, Nat.min_eq_left hw]
      have e3 : (b.take e).drop (width b 0) = (b.drop (width b 0)).take (e - width b 0) := by rw [List.drop_take]
      have e4 : b.drop e = (b.drop (width b 0)).drop (e - width b 0) := by rw [List.drop_drop]; congr 1; omega
      rw [e2, e3, e4]
      congr 1
      exact ih (e - width b 0) (by simp; omega) (edge_drop (by rw [Nat.add_sub_cancel' hw]; exact hi))
theorem segs_pos {b s : List Int} (h : s ∈ segs b) : s ≠ [] := by
  fun_induction segs b with
  | case1 => simp at h
  | case2 b hb ih =>
    rcases List.mem_cons.1 h with rfl | h
    · have hl : 0 < b.length := List.length_pos_iff.2 hb
      have := width_pos b 0
      refine List.ne_nil_of_length_pos ?_
      rw [List.length_take]
      omega
    · exact ih h
theorem segs_length_le (b : List Int) : (segs b).length ≤ b.length := by
  fun_induction segs b with
  | case1 => simp
  | case2 b hb ih =>
    have := width_pos b 0
    have : 0 < b.length := List.length_pos_iff.2 hb
    simp at ih ⊢
    omega
end Go.Proofs.YtbomhpfckplgaaaDoor.Utf
namespace Go.Proofs.YtbomhpfckplgaaaDoor.P
open Go.RowKit Go.Proofs.YtbomhpfckplgaaaDoorW.PrintWords Utf
set_option linter.unusedVariables false
set_option linter.unusedSimpArgs false

theorem at_nat (l : List Int) (p : Nat) (h : p < l.length) : at_ l p = l[p] := by
  unfold at_
  rw [List.getD_eq_getElem?_getD, List.getElem?_eq_getElem h]
  rfl
theorem at_no (l : List Int) (p : Nat) (h : l.length ≤ p) : at_ l p = -1 := by
  unfold at_
  rw [List.getD_eq_getElem?_getD, List.getElem?_eq_none h]
  rfl
theorem rd_at {l : List Int} {p : Nat} (h : p < l.length) : rd l (p : Int) = at_ l p := by rw [rd_nat l p h, at_nat l p h]
theorem at_byte {l : List Int} (hl : Bytes l) {p : Nat} (h : p < l.length) : 0 ≤ at_ l p ∧ at_ l p ≤ 255 := by rw [at_nat l p h]; exact hl _ (List.getElem_mem h)
theorem at_range {l : List Int} (hl : Bytes l) (p : Nat) : -1 ≤ at_ l p ∧ at_ l p ≤ 255 := by
  rcases Nat.lt_or_ge p l.length with h | h
  · have := at_byte hl h; omega
  · rw [at_no l p h]; omega
end Go.Proofs.YtbomhpfckplgaaaDoor.P
namespace Go.Proofs.YtbomhpfckplgaaaDoor.P
open Go Go.RowKit Go.Proofs.YtbomhpfckplgaaaDoorW.PrintWords Utf
set_option linter.unusedVariables false
set_option linter.unusedSimpArgs false

/-- The rune of an encoding of n bytes. -/
def runeV (n : Nat) (x y z w : Int) : Int := if n = 1 then x else if n = 2 then (x % 32) * 64 + y % 64 else if n = 3 then ((x % 16) * 64 + y % 64) * 64 + z % 64 else (((x % 8) * 64 + y % 64) * 64 + z % 64) * 64 + w % 64
def rune (l : List Int) (p : Nat) : Int := runeV (long l p) (at_ l p) (at_ l (p + 1)) (at_ l (p + 2)) (at_ l (p + 3))
set_option maxHeartbeats 4000000 in
theorem dec_pure (n a b c d : Nat) (x y z w : Int) (hx : x = a) (ha : a ≤ 255) (hn : 0 < n) (hy : (1 < n ∧ y = b ∧ b ≤ 255) ∨ (n ≤ 1 ∧ y = -1)) (hz : (2 < n ∧ z = c ∧ c ≤ 255) ∨ (n ≤ 2 ∧ z = -1)) (hw : (3 < n ∧ w = d ∧ d ≤ 255) ∨ (n ≤ 3 ∧ w = -1)) :
    Lib.decodeN n a b c d = if long4 x y z w = 0 then (65533, 1) else ((runeV (long4 x y z w) x y z w).toNat, long4 x y z w) := by
  subst hx
  unfold Lib.decodeN
  by_cases A1 : a < 128
  · have e : long4 a y z w = 1 := by unfold long4; rw [if_pos (by omega)]
    rw [if_pos A1, e]
    simp [runeV]
  rw [if_neg A1]
  by_cases A2 : a / 32 = 6 ∧ (1 < n ∧ b / 64 = 2)
  · rw [if_pos A2]
    by_cases A : a % 32 * 64 + b % 64 ≥ 128
    · have e : long4 a y z w = 2 := by
        unfold long4 tail
        rw [if_neg (by omega), if_pos (by omega)]
      have hyb : y = b := by omega
      rw [if_pos A, e]
      simp only [runeV, hyb]
      simp
      omega
    · have e : long4 a y z w = 0 := by
        unfold long4 three four tail
        rw [if_neg (by omega), if_neg (by omega), if_neg (by omega), if_neg (by omega)]
      rw [if_neg A, e]
      rfl
  rw [if_neg A2]
  by_cases A3 : a / 16 = 14 ∧ (1 < n ∧ b / 64 = 2) ∧ (2 < n ∧ c / 64 = 2)
  · rw [if_pos A3]
    have hyb : y = b := by omega
    have hzc : z = c := by omega
    have m1 : a % 16 = a - 224 := by omega
    have m2 : b % 64 = b - 128 := by omega
    have m3 : c % 64 = c - 128 := by omega
    have m4 : 224 ≤ a ∧ a ≤ 239 ∧ 128 ≤ b ∧ b ≤ 191 ∧ 128 ≤ c ∧ c ≤ 191 := by omega
    clear A1 A2 A3
    rw [m1, m2, m3]
    have n1 : (a - 224) * 4096 + (b - 128) * 64 + (c - 128) + 925824 = a * 4096 + b * 64 + c := by omega
    obtain ⟨v, hv⟩ : ∃ v, (a - 224) * 4096 + (b - 128) * 64 + (c - 128) = v := ⟨_, rfl⟩
    rw [hv]
    rw [hv] at n1
    have key : (v ≥ 2048 ∧ (v < 55296 ∨ (57344 ≤ v ∧ v ≤ 1114111))) ↔ ((a = 224 ∧ 160 ≤ b) ∨ (225 ≤ a ∧ a ≤ 236) ∨ (a = 237 ∧ b ≤ 159) ∨ (238 ≤ a)) := by
      constructor
      · intro h
        rcases Nat.lt_trichotomy a 237 with h1 | h1 | h1
        · omega
        · subst h1; omega
        · omega
      · rintro (⟨rfl, h⟩ | ⟨h, h'⟩ | ⟨rfl, h⟩ | h) <;> omega
    by_cases A : v ≥ 2048 ∧ (v < 55296 ∨ (57344 ≤ v ∧ v ≤ 1114111))
    · have A' := key.1 A
      have e : long4 a y z w = 3 := by
        clear A hv n1 key
        unfold long4 three four tail
        rw [if_neg (by omega), if_neg (by omega), if_pos (by refine ⟨by omega, ?_⟩; rcases A' with h | h | h | h; exact .inl (by omega); exact .inr (.inl (by omega)); exact .inr (.inr (.inl (by omega))); exact .inr (.inr (.inr (by omega))))]
      rw [if_pos A, e]
      simp only [runeV, hyb, hzc]
      simp
      omega
    · have A' := fun h => A (key.2 h)
      have e : long4 a y z w = 0 := by
        clear A hv n1 key
        unfold long4 three four tail
        rw [if_neg (by omega), if_neg (by omega), if_neg (by rintro ⟨h1, h2⟩; rcases h2 with h2 | h2 | h2 | h2; exact A' (.inl (by omega)); exact A' (.inr (.inl (by omega))); exact A' (.inr (.inr (.inl (by omega)))); exact A' (.inr (.inr (.inr (by omega))))), if_neg (by omega)]
      rw [if_neg A, e]
      rfl
  rw [if_neg A3]
  by_cases A4 : a / 8 = 30 ∧ (1 < n ∧ b / 64 = 2) ∧ (2 < n ∧ c / 64 = 2) ∧ (3 < n ∧ d / 64 = 2)
  · rw [if_pos A4]
    have hyb : y = b := by omega
    have hzc : z = c := by omega
    have hwd : w = d := by omega
    have m1 : a % 8 = a - 240 := by omega
    have m2 : b % 64 = b - 128 := by omega
    have m3 : c % 64 = c - 128 := by omega
    have m5 : d % 64 = d - 128 := by omega
    have m4 : 240 ≤ a ∧ a ≤ 247 ∧ 128 ≤ b ∧ b ≤ 191 ∧ 128 ≤ c ∧ c ≤ 191 ∧ 128 ≤ d ∧ d ≤ 191 := by omega
    clear A1 A2 A3 A4
    rw [m1, m2, m3, m5]
    have n1 : (a - 240) * 262144 + (b - 128) * 4096 + (c - 128) * 64 + (d - 128) + 63447168 = a * 262144 + b * 4096 + c * 64 + d := by omega
    obtain ⟨v, hv⟩ : ∃ v, (a - 240) * 262144 + (b - 128) * 4096 + (c - 128) * 64 + (d - 128) = v := ⟨_, rfl⟩
    rw [hv]
    rw [hv] at n1
    have key : (v ≥ 65536 ∧ (v < 55296 ∨ (57344 ≤ v ∧ v ≤ 1114111))) ↔ ((a = 240 ∧ 144 ≤ b) ∨ (241 ≤ a ∧ a ≤ 243) ∨ (a = 244 ∧ b ≤ 143)) := by
      constructor
      · intro h
        rcases Nat.lt_trichotomy a 244 with h1 | h1 | h1
        · omega
        · subst h1; omega
        · omega
      · rintro (⟨rfl, h⟩ | ⟨h, h'⟩ | ⟨rfl, h⟩) <;> omega
    by_cases A : v ≥ 65536 ∧ (v < 55296 ∨ (57344 ≤ v ∧ v ≤ 1114111))
    · have A' := key.1 A
      have e : long4 a y z w = 4 := by
        clear A hv n1 key
        unfold long4 three four tail
        rw [if_neg (by omega), if_neg (by omega), if_neg (by omega), if_pos (by refine ⟨by omega, by omega, ?_⟩; rcases A' with h | h | h; exact .inl (by omega); exact .inr (.inl (by omega)); exact .inr (.inr (by omega)))]
      rw [if_pos A, e]
      simp only [runeV, hyb, hzc, hwd]
      simp
      omega
    · have A' := fun h => A (key.2 h)
      have e : long4 a y z w = 0 := by
        clear A hv n1 key
        unfold long4 three four tail
        rw [if_neg (by omega), if_neg (by omega), if_neg (by omega), if_neg (by rintro ⟨h1, h2, h3⟩; rcases h3 with h2 | h2 | h2; exact A' (.inl (by omega)); exact A' (.inr (.inl (by omega))); exact A' (.inr (.inr (by omega))))]
      rw [if_neg A, e]
      rfl
  rw [if_neg A4]
  have B2 : ¬ (192 ≤ a ∧ a ≤ 223 ∧ 1 < n ∧ 128 ≤ b ∧ b ≤ 191) := by omega
  have B3 : ¬ (224 ≤ a ∧ a ≤ 239 ∧ 1 < n ∧ 128 ≤ b ∧ b ≤ 191 ∧ 2 < n ∧ 128 ≤ c ∧ c ≤ 191) := by omega
  have B4 : ¬ (240 ≤ a ∧ a ≤ 247 ∧ 1 < n ∧ 128 ≤ b ∧ b ≤ 191 ∧ 2 < n ∧ 128 ≤ c ∧ c ≤ 191 ∧ 3 < n ∧ 128 ≤ d ∧ d ≤ 191) := by omega
  have e : long4 a y z w = 0 := by
    clear A2 A3 A4
    have C2 : ¬ ((194 ≤ (a : Int) ∧ (a : Int) ≤ 223) ∧ (128 ≤ y ∧ y ≤ 191)) := by
      rintro ⟨h1, h2⟩
      rcases hy with ⟨h3, h4, h5⟩ | ⟨h3, h4⟩ <;> omega
    have C3 : ¬ (224 ≤ a ∧ a ≤ 239 ∧ (128 ≤ y ∧ y ≤ 191) ∧ (128 ≤ z ∧ z ≤ 191)) := by
      rintro ⟨h1, h2, h3, h4⟩
      rcases hy with ⟨k1, k2, k3⟩ | ⟨k1, k2⟩ <;> rcases hz with ⟨k4, k5, k6⟩ | ⟨k4, k5⟩ <;> omega
    have C4 : ¬ (240 ≤ a ∧ a ≤ 247 ∧ (128 ≤ y ∧ y ≤ 191) ∧ (128 ≤ z ∧ z ≤ 191) ∧ (128 ≤ w ∧ w ≤ 191)) := by
      rintro ⟨h1, h2, h3, h4, h5⟩
      rcases hy with ⟨k1, k2, k3⟩ | ⟨k1, k2⟩ <;> rcases hz with ⟨k4, k5, k6⟩ | ⟨k4, k5⟩ <;> rcases hw with ⟨k7, k8, k9⟩ | ⟨k7, k8⟩ <;> omega
    clear B2 B3 B4 hy hz hw
    unfold long4 three four tail
    rw [if_neg (by omega), if_neg C2, if_neg (by rintro ⟨h1, h2⟩; rcases h2 with h2 | h2 | h2 | h2 <;> exact C3 ⟨by omega, by omega, by omega, by omega⟩), if_neg (by rintro ⟨h1, h2, h3⟩; rcases h3 with h3 | h3 | h3 <;> exact C4 ⟨by omega, by omega, by omega, by omega, by omega⟩)]
  rw [e]
  rfl

theorem get_bytes {l : List Int} (hl : Bytes l) {i : Nat} (h : i < l.length) : ((strOfNums l).get! i).toNat = (at_ l i).toNat := by
  rw [← Lib.getD_get!', strOfNums_data, List.getD_eq_getElem?_getD, List.getElem?_map, List.getElem?_eq_getElem h, at_nat l i h]
  have := hl _ (List.getElem_mem h)
  show (UInt8.ofNat (l[i].toNat)).toNat = _
  rw [UInt8.toNat_ofNat']
  exact Nat.mod_eq_of_lt (by omega)
theorem decode_eq {l : List Int} (hl : Bytes l) {p : Nat} (h : p < l.length) : Utf8.decode (strOfNums l) p = if long l p = 0 then (65533, 1) else ((rune l p).toNat, long l p) := by
  rw [Lib.decode_at, strOfNums_size]
  have h0 := at_byte hl h
  refine dec_pure _ _ _ _ _ _ _ _ _ (by rw [get_bytes hl h]; omega) (by rw [get_bytes hl h]; omega) (by omega) ?_ ?_ ?_
  · rcases Nat.lt_or_ge (p + 1) l.length with h1 | h1
    · have := at_byte hl h1
      exact .inl ⟨by omega, by rw [get_bytes hl h1]; omega, by rw [get_bytes hl h1]; omega⟩
    · exact .inr ⟨by omega, at_no l _ h1⟩
  · rcases Nat.lt_or_ge (p + 2) l.length with h1 | h1
    · have := at_byte hl h1
      exact .inl ⟨by omega, by rw [get_bytes hl h1]; omega, by rw [get_bytes hl h1]; omega⟩
    · exact .inr ⟨by omega, at_no l _ h1⟩
  · rcases Nat.lt_or_ge (p + 3) l.length with h1 | h1
    · have := at_byte hl h1
      exact .inl ⟨by omega, by rw [get_bytes hl h1]; omega, by rw [get_bytes hl h1]; omega⟩
    · exact .inr ⟨by omega, at_no l _ h1⟩
theorem rune_range (x y z w : Int) (hx : 0 ≤ x) : (long4 x y z w = 0) ∨ (long4 x y z w = 1 ∧ 0 ≤ runeV 1 x y z w ∧ runeV 1 x y z w ≤ 127) ∨ (long4 x y z w = 2 ∧ 128 ≤ runeV 2 x y z w ∧ runeV 2 x y z w ≤ 2047) ∨
    (long4 x y z w = 3 ∧ 2048 ≤ runeV 3 x y z w ∧ runeV 3 x y z w ≤ 65535 ∧ ¬ (55296 ≤ runeV 3 x y z w ∧ runeV 3 x y z w ≤ 57343) ∧ (runeV 3 x y z w = 65533 ↔ (x = 239 ∧ y = 191 ∧ z = 189))) ∨
    (long4 x y z w = 4 ∧ 65536 ≤ runeV 4 x y z w ∧ runeV 4 x y z w ≤ 1114111) := by
  unfold long4
  by_cases c1 : 0 ≤ x ∧ x ≤ 127
  · rw [if_pos c1]
    exact .inr (.inl ⟨rfl, by simp [runeV]; omega, by simp [runeV]; omega⟩)
  rw [if_neg c1]
  by_cases c2 : (194 ≤ x ∧ x ≤ 223) ∧ tail y
  · rw [if_pos c2]
    unfold tail at c2
    exact .inr (.inr (.inl ⟨rfl, by simp [runeV]; omega, by simp [runeV]; omega⟩))
  rw [if_neg c2]
  by_cases c3 : tail z ∧ three x y
  · rw [if_pos c3]
    obtain ⟨hz, h3⟩ := c3
    unfold three at h3
    unfold tail at hz h3
    have e : runeV 3 x y z w = (x - 224) * 4096 + (y - 128) * 64 + (z - 128) := by simp [runeV]; omega
    rw [e]
    refine .inr (.inr (.inr (.inl ⟨rfl, ?_, ?_, ?_, ?_, ?_⟩)))
    · rcases h3 with h | h | h | h <;> omega
    · rcases h3 with h | h | h | h <;> omega
    · rcases h3 with h | h | h | h <;> omega
    · intro h
      rcases h3 with h | h | h | h <;> omega
    · rintro ⟨rfl, rfl, rfl⟩
      omega
  rw [if_neg c3]
  by_cases c4 : tail z ∧ tail w ∧ four x y
  · rw [if_pos c4]
    obtain ⟨hz, hw, h4⟩ := c4
    unfold four at h4
    unfold tail at hz hw h4
    have e : runeV 4 x y z w = (x - 240) * 262144 + (y - 128) * 4096 + (z - 128) * 64 + (w - 128) := by simp [runeV]; omega
    rw [e]
    refine .inr (.inr (.inr (.inr ⟨rfl, ?_, ?_⟩)))
    · rcases h4 with h | h | h <;> omega
    · rcases h4 with h | h | h <;> omega
  rw [if_neg c4]
  exact .inl rfl
theorem encode_size {r : Int} (h : (0 ≤ r ∧ r < 55296) ∨ (57344 ≤ r ∧ r ≤ 1114111)) : (Utf8.encode r).size = if r < 128 then 1 else if r < 2048 then 2 else if r < 65536 then 3 else 4 := by
  have hv : Utf8.valid r = true := by unfold Utf8.valid; simp; omega
  unfold Utf8.encode
  simp only [hv, if_true]
  have e1 : (r.toNat < 128) ↔ r < 128 := by omega
  have e2 : (r.toNat < 2048) ↔ r < 2048 := by omega
  have e3 : (r.toNat < 65536) ↔ r < 65536 := by omega
  by_cases c1 : r < 128
  · rw [if_pos (e1.2 c1), if_pos c1]; rfl
  rw [if_neg (fun h => c1 (e1.1 h)), if_neg c1]
  by_cases c2 : r < 2048
  · rw [if_pos (e2.2 c2), if_pos c2]; rfl
  rw [if_neg (fun h => c2 (e2.1 h)), if_neg c2]
  by_cases c3 : r < 65536
  · rw [if_pos (e3.2 c3), if_pos c3]; rfl
  rw [if_neg (fun h => c3 (e3.1 h)), if_neg c3]; rfl
/-- The step at a place. -/
def stepN (l : List Int) (p : Nat) : Int × Int × Bool := if long l p = 0 then (65533, 1, false) else (rune l p, (long l p : Int), true)
theorem three_bytes {l : List Int} (hl : Bytes l) {p : Nat} (h : p < l.length) : (3 ≤ ((strOfNums l).extract p (strOfNums l).size).size ∧ ((((strOfNums l).extract p (strOfNums l).size).extract 0 3).toList == [239, 191, 189]) = true) ↔ (at_ l p = 239 ∧ at_ l (p + 1) = 191 ∧ at_ l (p + 2) = 189) := by
  rw [Lib.tail_size, strOfNums_size, ByteArray.toList_eq, Lib.extract_data, Lib.extract_data, strOfNums_data]
  have e0 : ∀ (q : Nat) (v : Nat) (hv : v < 256) (hq : q < l.length), (UInt8.ofNat (l[q].toNat) = UInt8.ofNat v) ↔ at_ l q = v := by
    intro q v hv hq
    have hb := hl _ (List.getElem_mem hq)
    rw [at_nat l q hq]
    constructor
    · intro h
      have h2 := congrArg UInt8.toNat h
      rw [UInt8.toNat_ofNat', UInt8.toNat_ofNat', Nat.mod_eq_of_lt (by omega), Nat.mod_eq_of_lt (by omega)] at h2
      omega
    · intro h
      rw [h]
      rfl
  by_cases h3 : 3 ≤ l.length - p
  · have d : (((l.map fun n => UInt8.ofNat n.toNat).drop p).take ((strOfNums l).size - p) |>.drop 0 |>.take (3 - 0)) = [UInt8.ofNat (l[p]).toNat, UInt8.ofNat (l[p + 1]).toNat, UInt8.ofNat (l[p + 2]).toNat] := by
      rw [strOfNums_size, List.drop_zero, List.take_take, List.drop_eq_getElem_cons (by simp; omega), List.drop_eq_getElem_cons (by simp; omega), List.drop_eq_getElem_cons (by simp; omega)]
      rw [show min (3 - 0) (l.length - p) = 3 from by omega]
      simp
    rw [strOfNums_size] at d
    rw [d, beq_iff_eq]
    simp only [List.cons.injEq, and_true]
    have k0 := e0 p 239 (by omega) (by omega)
    have k1 := e0 (p + 1) 191 (by omega) (by omega)
    have k2 := e0 (p + 2) 189 (by omega) (by omega)
    constructor
    · rintro ⟨_, a, b, c⟩
      exact ⟨k0.1 a, k1.1 b, k2.1 c⟩
    · rintro ⟨a, b, c⟩
      exact ⟨h3, k0.2 a, k1.2 b, k2.2 c⟩
  · constructor
    · rintro ⟨h4, _⟩
      exact absurd h4 h3
    · rintro ⟨_, _, c⟩
      rw [at_no l (p + 2) (by omega)] at c
      omega
theorem stepW_eq {l : List Int} (hl : Bytes l) {p : Nat} (h : p < l.length) : stepW ((strOfNums l).extract p (strOfNums l).size) = stepN l p := by
  have hs : ¬ ((strOfNums l).extract p (strOfNums l).size).size = 0 := by rw [Lib.tail_size, strOfNums_size]; omega
  have hx := at_byte hl h
  unfold stepW stepN
  rw [if_neg hs, Lib.tail_decode, Nat.add_zero, decode_eq hl h]
  simp only [three_bytes hl h]
  have hr := rune_range (at_ l p) (at_ l (p + 1)) (at_ l (p + 2)) (at_ l (p + 3)) hx.1
  unfold rune
  unfold long at hr ⊢
  generalize at_ l p = x at *
  generalize at_ l (p + 1) = y at *
  generalize at_ l (p + 2) = z at *
  generalize at_ l (p + 3) = w at *
  rcases hr with e | ⟨e, h1, h2⟩ | ⟨e, h1, h2⟩ | ⟨e, h1, h2, h3, h4⟩ | ⟨e, h1, h2⟩
  · rw [e]
    simp only [if_true]
    rw [if_neg]
    rintro ⟨rfl, rfl, rfl⟩
    revert e
    unfold long4 three four tail
    simp
  all_goals rw [e]
  · have hne : ((runeV 1 x y z w).toNat = 65533) = False := by simp; omega
    simp only [hne, if_false, if_neg (show ¬ (1 = 0) by decide)]
    rw [Int.toNat_of_nonneg (by omega), encode_size (by omega), if_pos (by omega)]
  · have hne : ((runeV 2 x y z w).toNat = 65533) = False := by simp; omega
    simp only [hne, if_false, if_neg (show ¬ (2 = 0) by decide)]
    rw [Int.toNat_of_nonneg (by omega), encode_size (by omega), if_neg (by omega), if_pos (by omega)]
  · by_cases hne : runeV 3 x y z w = 65533
    · have hb := h4.1 hne
      simp only [if_neg (show ¬ (3 = 0) by decide)]
      rw [if_pos (by omega), if_pos hb, hne]
      rfl
    · simp only [if_neg (show ¬ (3 = 0) by decide)]
      rw [if_neg (by omega), Int.toNat_of_nonneg (by omega), encode_size (by omega), if_neg (by omega), if_neg (by omega), if_pos (by omega)]
  · have hne : ((runeV 4 x y z w).toNat = 65533) = False := by simp; omega
    simp only [hne, if_false, if_neg (show ¬ (4 = 0) by decide)]
    rw [Int.toNat_of_nonneg (by omega), encode_size (by omega), if_neg (by omega), if_neg (by omega), if_neg (by omega)]
end Go.Proofs.YtbomhpfckplgaaaDoor.P
namespace Go.Proofs.YtbomhpfckplgaaaDoor.P
open Go Go.RowKit Go.Proofs.YtbomhpfckplgaaaDoorW.PrintWords Utf
set_option linter.unusedVariables false
set_option linter.unusedSimpArgs false

/-- The steps from a place on, each with its place. -/
def stepsF (l : List Int) : Nat → Nat → List (Nat × Int × Int × Bool)
  | 0, _ => []
  | k + 1, p => if p < l.length then (p, stepN l p) :: stepsF l k (p + width l p) else []
/-- All steps of a text. -/
def stepsL (l : List Int) : List (Nat × Int × Int × Bool) := stepsF l l.length 0
theorem stepN_w (l : List Int) (p : Nat) : (stepN l p).2.1 = (width l p : Int) := by
  unfold stepN width
  split <;> rfl
theorem decode_w {l : List Int} (hl : Bytes l) {p : Nat} (h : p < l.length) : (Utf8.decode (strOfNums l) p).2 = width l p := by
  rw [decode_eq hl h]
  unfold width
  split <;> rfl
theorem items_F {l : List Int} (hl : Bytes l) : ∀ (k p : Nat), itemsFrom (strOfNums l) k p = stepsF l k p
  | 0, _ => rfl
  | k + 1, p => by
    unfold itemsFrom stepsF
    rw [strOfNums_size]
    by_cases h : p < l.length
    · rw [if_pos h, if_pos h, decode_w hl h, items_F hl k]
      have := stepW_eq hl h
      rw [strOfNums_size] at this
      rw [this]
    · rw [if_neg h, if_neg h]
theorem items_eq {l : List Int} (hl : Bytes l) : items (strOfNums l) = stepsL l := by
  unfold items stepsL
  rw [strOfNums_size]
  exact items_F hl _ _
theorem stepsF_length (l : List Int) : ∀ (k p : Nat), (stepsF l k p).length ≤ l.length - p
  | 0, _ => by simp [stepsF]
  | k + 1, p => by
    unfold stepsF
    by_cases h : p < l.length
    · rw [if_pos h]
      have h1 := stepsF_length l k (p + width l p)
      have h2 := width_pos l p
      simp
      omega
    · rw [if_neg h]; simp
theorem stepsF_fuel (l : List Int) : ∀ (k p j : Nat), l.length - p ≤ k → stepsF l (k + j) p = stepsF l k p
  | 0, p, 0, _ => rfl
  | 0, p, j + 1, h => by
    show stepsF l (0 + (j + 1)) p = _
    rw [show 0 + (j + 1) = j + 1 from by omega]
    unfold stepsF
    rw [if_neg (by omega)]
  | k + 1, p, j, h => by
    rw [show k + 1 + j = (k + j) + 1 from by omega]
    unfold stepsF
    by_cases hp : p < l.length
    · rw [if_pos hp, if_pos hp, stepsF_fuel l k _ j (by have := width_pos l p; omega)]
    · rw [if_neg hp, if_neg hp]
/-- The places of all edges, by bytes. -/
def placesL (l : List Int) : List Int := (stepsL l).map (fun x => (x.1 : Int)) ++ [(l.length : Int)]
end Go.Proofs.YtbomhpfckplgaaaDoor.P
namespace Go.Proofs.YtbomhpfckplgaaaDoor.P
open Go Go.RowKit Go.Proofs.YtbomhpfckplgaaaDoorW.PrintWords Utf
set_option linter.unusedVariables false
set_option linter.unusedSimpArgs false

theorem tmod_nat {x : Int} (h : 0 ≤ x) (m : Int) : Int.tmod x m = x % m := Int.tmod_eq_emod_of_nonneg h
def toS (x : Nat × Int × Int × Bool) : S121 := ⟨x.2.1, x.2.2.1, x.2.2.2⟩
theorem stepsF_mem (l : List Int) : ∀ (k p : Nat) x, x ∈ stepsF l k p → x.1 < l.length ∧ x.2 = stepN l x.1
  | 0, _, x, h => by simp [stepsF] at h
  | k + 1, p, x, h => by
    unfold stepsF at h
    by_cases hp : p < l.length
    · rw [if_pos hp] at h
      rcases List.mem_cons.1 h with rfl | h
      · exact ⟨hp, rfl⟩
      · exact stepsF_mem l k _ x h
    · rw [if_neg hp] at h
      simp at h
theorem stepsL_length (l : List Int) : (stepsL l).length ≤ l.length := stepsF_length l _ _
theorem placesL_length (l : List Int) : (placesL l).length = (stepsL l).length + 1 := by simp [placesL]
theorem rd_places (l : List Int) (i : Nat) (h : i < (stepsL l).length) : rd (placesL l) (i : Int) = ((stepsL l)[i].1 : Int) := by
  rw [rd_nat _ _ (by rw [placesL_length]; omega)]
  unfold placesL
  rw [List.getElem_append_left (by simpa using h)]
  simp
/-- What a step counts by a ruler. -/
def cntR (r : Int) (x : S121) : Int := if r = 1 then x.f1 else if r = 3 then (if x.f0 > 65535 then 2 else 1) else 1
def scanT (r : Int) : Int → List S121 → List Int
  | _, [] => []
  | a, x :: xs => wrap64 (a + cntR r x) :: scanT r (wrap64 (a + cntR r x)) xs
theorem rd_T_nat (xs : List S121) (i : Nat) (h : i < xs.length) : rd_T121 xs (i : Int) = xs[i] := by
  unfold rd_T121
  rw [Int.toNat_natCast, List.getD_eq_getElem?_getD, List.getElem?_eq_getElem h]
  rfl
theorem stepN_units {l : List Int} (hl : Bytes l) {p : Nat} (hp : p < l.length) : lenU (stepN l p).1 = if (stepN l p).1 > 65535 then 2 else 1 := by
  have hx := at_byte hl hp
  unfold stepN rune long
  have hr := rune_range (at_ l p) (at_ l (p + 1)) (at_ l (p + 2)) (at_ l (p + 3)) hx.1
  rcases hr with e | ⟨e, h1, h2⟩ | ⟨e, h1, h2⟩ | ⟨e, h1, h2, h3, h4⟩ | ⟨e, h1, h2⟩
  all_goals rw [e]
  · rfl
  · rw [if_neg (by decide)]
    unfold lenU
    dsimp only
    rw [if_pos (by omega)]
  · rw [if_neg (by decide)]
    unfold lenU
    dsimp only
    rw [if_pos (by omega)]
  · rw [if_neg (by decide)]
    unfold lenU
    dsimp only
    rw [if_pos (by omega)]
  · rw [if_neg (by decide)]
    unfold lenU
    dsimp only
    rw [if_pos (by omega)]
theorem scan_pick (r : Nat) (h1 : 1 ≤ r) (h3 : r ≤ 3) : ∀ (xs : List (Nat × Int × Int × Bool)) (a : Edge3), (∀ x ∈ xs, lenU x.2.1 = if x.2.1 > 65535 then 2 else 1) →
    (scanE a xs).map (fun e => pickE e r) = pickE a r :: scanT r (pickE a r) (xs.map toS)
  | [], a, _ => rfl
  | x :: xs, a, h => by
    have ih := scan_pick r h1 h3 xs (addE a x) (fun y hy => h y (List.mem_cons_of_mem _ hy))
    have hx := h x List.mem_cons_self
    simp only [scanE, List.map_cons, ih, scanT]
    have e : pickE (addE a x) r = wrap64 (pickE a r + cntR r (toS x)) := by
      obtain rfl | rfl | rfl : r = 1 ∨ r = 2 ∨ r = 3 := by omega
      · rfl
      · rfl
      · show wrap64 (a.2.2 + lenU x.2.1) = wrap64 (a.2.2 + _)
        rw [hx]
        rfl
    rw [e]
/-- The table of a text by a ruler. -/
def tabL (l : List Int) (r : Nat) : List Int := (edgesL l).map fun e => pickE e r
theorem tab_scan {l : List Int} (hl : Bytes l) (r : Nat) (h1 : 1 ≤ r) (h3 : r ≤ 3) : tabL l r = 0 :: scanT r 0 ((stepsL l).map toS) := by
  unfold tabL edgesL
  rw [items_eq hl, scan_pick r h1 h3]
  · obtain rfl | rfl | rfl : r = 1 ∨ r = 2 ∨ r = 3 := by omega
    all_goals rfl
  · intro x hx
    have hm := stepsF_mem l _ _ x hx
    rw [hm.2]
    exact stepN_units hl hm.1
end Go.Proofs.YtbomhpfckplgaaaDoor.P
namespace Go.Proofs.YtbomhpfckplgaaaDoor.P
open Go Go.RowKit Go.Proofs.YtbomhpfckplgaaaDoorW.PrintWords Utf
set_option linter.unusedVariables false
set_option linter.unusedSimpArgs false

theorem cnt_range {l : List Int} (hl : Bytes l) (r : Nat) (h1 : 1 ≤ r) (h3 : r ≤ 3) {x : Nat × Int × Int × Bool} (hx : x ∈ stepsL l) : 1 ≤ cntR r (toS x) ∧ cntR r (toS x) ≤ 4 := by
  have hm := stepsF_mem l _ _ x hx
  have hw := stepN_w l x.1
  have w1 := width_pos l x.1
  have w4 := width_le4 l x.1
  unfold cntR toS
  obtain rfl | rfl | rfl : r = 1 ∨ r = 2 ∨ r = 3 := by omega
  · dsimp only
    rw [if_pos (show ((1 : Nat) : Int) = 1 from rfl), hm.2, hw]
    omega
  · dsimp only
    rw [if_neg (by decide), if_neg (by decide)]
    omega
  · dsimp only
    rw [if_neg (by decide), if_pos (show ((3 : Nat) : Int) = 3 from rfl)]
    split <;> omega
theorem scanT_rises (r : Int) : ∀ (xs : List S121) (a : Int), 0 ≤ a → a + 4 * (xs.length : Int) < 4611686018427387904 → (∀ x ∈ xs, 1 ≤ cntR r x ∧ cntR r x ≤ 4) →
    (a :: scanT r a xs).Pairwise (· < ·) ∧ ∀ y ∈ scanT r a xs, a < y ∧ y ≤ a + 4 * (xs.length : Int)
  | [], a, _, _, _ => by simp [scanT]
  | x :: xs, a, h0, hb, h => by
    have hx := h x List.mem_cons_self
    simp only [List.length_cons, Int.natCast_add, Int.natCast_one] at hb
    have e : wrap64 (a + cntR r x) = a + cntR r x := w64 (by omega) (by omega)
    obtain ⟨ih1, ih2⟩ := scanT_rises r xs (a + cntR r x) (by omega) (by omega) (fun y hy => h y (List.mem_cons_of_mem _ hy))
    simp only [scanT, e]
    refine ⟨List.pairwise_cons.2 ⟨?_, ih1⟩, ?_⟩
    · intro y hy
      rcases List.mem_cons.1 hy with rfl | hy
      · omega
      · have := (ih2 y hy).1; omega
    · intro y hy
      simp only [List.length_cons, Int.natCast_add, Int.natCast_one]
      rcases List.mem_cons.1 hy with rfl | hy
      · omega
      · have := ih2 y hy; omega
theorem tab_rises {l : List Int} (hl : Bytes l) (hs : Wide l) (r : Nat) (h1 : 1 ≤ r) (h3 : r ≤ 3) : (tabL l r).Pairwise (· < ·) ∧ (∀ y ∈ tabL l r, 0 ≤ y ∧ y ≤ 4 * (l.length : Int)) := by
  have hlen := stepsL_length l
  unfold Wide at hs
  rw [tab_scan hl r h1 h3]
  obtain ⟨a, b⟩ := scanT_rises r ((stepsL l).map toS) 0 (by omega) (by simp; omega) (fun x hx => by
    obtain ⟨y, hy, rfl⟩ := List.mem_map.1 hx
    exact cnt_range hl r h1 h3 hy)
  refine ⟨a, fun y hy => ?_⟩
  rcases List.mem_cons.1 hy with rfl | hy
  · omega
  · have := b y hy
    simp only [List.length_map] at this
    omega
theorem tab_length {l : List Int} (hl : Bytes l) (r : Nat) (h1 : 1 ≤ r) (h3 : r ≤ 3) : (tabL l r).length = (stepsL l).length + 1 := by
  rw [tab_scan hl r h1 h3]
  have : ∀ (xs : List S121) (a : Int), (scanT r a xs).length = xs.length := by
    intro xs
    induction xs with
    | nil => intro a; rfl
    | cons x xs ih => intro a; simp [scanT, ih]
  simp [this]
theorem edges_length {l : List Int} (hl : Bytes l) : (edgesL l).length = (stepsL l).length + 1 := by
  have := tab_length hl 1 (by omega) (by omega)
  simpa [tabL] using this
/-- The greatest place. -/
def lastT (l : List Int) (r : Nat) : Int := (tabL l r).getLast?.getD 0
theorem tab_ne {l : List Int} (hl : Bytes l) (r : Nat) (h1 : 1 ≤ r) (h3 : r ≤ 3) : tabL l r ≠ [] := by
  intro h
  have := tab_length hl r h1 h3
  rw [h] at this
  simp at this
theorem last_pick {l : List Int} (hl : Bytes l) (r : Nat) (h1 : 1 ≤ r) (h3 : r ≤ 3) : pickE ((edgesL l).getLast?.getD e0) r = lastT l r := by
  have hne : edgesL l ≠ [] := by
    intro h
    have := edges_length hl
    rw [h] at this
    simp at this
  unfold lastT tabL
  rw [List.getLast?_map]
  obtain ⟨e, he⟩ : ∃ e, (edgesL l).getLast? = some e := ⟨_, List.getLast?_eq_some_getLast hne⟩
  rw [he]
  rfl
theorem tab_le_last {l : List Int} (hl : Bytes l) (hs : Wide l) (r : Nat) (h1 : 1 ≤ r) (h3 : r ≤ 3) : ∀ y ∈ tabL l r, y ≤ lastT l r := by
  have hp := (tab_rises hl hs r h1 h3).1
  have hne := tab_ne hl r h1 h3
  unfold lastT
  generalize tabL l r = T at *
  intro y hy
  induction T with
  | nil => exact absurd rfl hne
  | cons a T ih =>
    obtain ⟨ha, hp⟩ := List.pairwise_cons.1 hp
    by_cases hT : T = []
    · subst hT
      simp at hy
      simp [hy]
    · have e : (a :: T).getLast? = T.getLast? := by
        cases T with
        | nil => exact absurd rfl hT
        | cons b T => rfl
      rw [e]
      rcases List.mem_cons.1 hy with rfl | hy
      · obtain ⟨z, hz⟩ : ∃ z, T.getLast? = some z := ⟨_, List.getLast?_eq_some_getLast hT⟩
        rw [hz]
        have := ha z (List.mem_of_getLast? hz)
        simp
        omega
      · exact ih hp hT hy
theorem last_mem {l : List Int} (hl : Bytes l) (r : Nat) (h1 : 1 ≤ r) (h3 : r ≤ 3) : lastT l r ∈ tabL l r := by
  have hne := tab_ne hl r h1 h3
  unfold lastT
  obtain ⟨z, hz⟩ : ∃ z, (tabL l r).getLast? = some z := ⟨_, List.getLast?_eq_some_getLast hne⟩
  rw [hz]
  exact List.mem_of_getLast? hz
theorem rd_last {l : List Int} (hl : Bytes l) (hs : Wide l) (r : Nat) (h1 : 1 ≤ r) (h3 : r ≤ 3) : wrap64 (((tabL l r).length : Int) - 1) = (((tabL l r).length - 1 : Nat) : Int) ∧ rd (tabL l r) (((tabL l r).length - 1 : Nat) : Int) = lastT l r := by
  have hlen := tab_length hl r h1 h3
  have hs2 := stepsL_length l
  unfold Wide at hs
  refine ⟨by rw [w64 (by omega) (by omega)]; omega, ?_⟩
  rw [rd_nat _ _ (by omega)]
  unfold lastT
  rw [List.getLast?_eq_getElem?, List.getElem?_eq_getElem (by omega)]
  rfl
theorem rul_iff (r : Int) : rule_ruler.f r = some (decide (1 ≤ r ∧ r ≤ 3)) := by
  unfold rule_ruler.f
  by_cases h : r ≥ 1
  · rw [if_pos h]
    congr 1
    simp
    intro _
    exact h
  · rw [if_neg h]
    congr 1
    simp
    intro h2
    exact absurd h2 h
theorem mode_iff (r : Int) : rule_mode.f r = some (decide (1 ≤ r ∧ r ≤ 3)) := rul_iff r
theorem own_eq (l : List Int) (h : l.length < 140737488355328) : galleylaw06_own.f l = some l := by
  unfold galleylaw06_own.f
  simp
  omega
/-- A search of a table: the first place that is not below. -/
theorem search (E : List Edge3) (r : Nat) (place m : Int) (hE : E.length < 4611686018427387904) : ∀ (xs pre : List Edge3), E = pre ++ xs →
    ((∀ x ∈ xs, pickE x r < place) ∧ (findE r place m (pre.getLast?.getD e0) xs).2 = 2) ∨
    ∃ i, pre.length ≤ i ∧ ∃ hi : i < E.length, (∀ j (hj : j < i), pre.length ≤ j → pickE (E[j]'(Nat.lt_trans hj hi)) r < place) ∧ place ≤ pickE E[i] r ∧
      ((pickE E[i] r = place ∧ findE r place m (pre.getLast?.getD e0) xs = (E[i], 0)) ∨
       (place < pickE E[i] r ∧ m = 1 ∧ findE r place m (pre.getLast?.getD e0) xs = ((E.take i).getLast?.getD e0, 0)) ∨
       (place < pickE E[i] r ∧ m = 2 ∧ findE r place m (pre.getLast?.getD e0) xs = (E[i], 0)) ∨
       (place < pickE E[i] r ∧ m ≠ 1 ∧ m ≠ 2 ∧ findE r place m (pre.getLast?.getD e0) xs = ((E.take i).getLast?.getD e0, 4)))
  | [], pre, hp => .inl ⟨by simp, rfl⟩
  | x :: xs, pre, hp => by
    have hi : pre.length < E.length := by rw [hp]; simp
    have hx : E[pre.length] = x := by simp [hp]
    have htk : E.take pre.length = pre := by rw [hp]; simp
    by_cases c1 : pickE x r = place
    · refine .inr ⟨pre.length, Nat.le_refl _, hi, fun j h1 h2 => by omega, by rw [hx]; omega, .inl ⟨by rw [hx]; exact c1, ?_⟩⟩
      unfold findE
      rw [if_pos c1, hx]
    by_cases c2 : pickE x r < place
    · have hp' : E = (pre ++ [x]) ++ xs := by rw [hp]; simp
      have ih := search E r place m hE xs (pre ++ [x]) hp'
      have hg : (pre ++ [x]).getLast?.getD e0 = x := by simp
      have hf : findE r place m (pre.getLast?.getD e0) (x :: xs) = findE r place m x xs := by
        conv => lhs; unfold findE
        rw [if_neg c1, if_pos c2]
      have hl1 : (pre ++ [x]).length = pre.length + 1 := by simp
      rw [hg, hl1] at ih
      rw [hf]
      rcases ih with ⟨a, b⟩ | ⟨i, h1, h2, h3, h4, h5⟩
      · refine .inl ⟨fun y hy => ?_, b⟩
        rcases List.mem_cons.1 hy with rfl | hy
        · exact c2
        · exact a y hy
      · refine .inr ⟨i, by omega, h2, fun j hj1 hj2 => ?_, h4, h5⟩
        rcases Nat.eq_or_lt_of_le hj2 with h | h
        · subst h
          rw [hx]
          exact c2
        · exact h3 j hj1 (by omega)
    · have c3 : pickE x r > place := by omega
      refine .inr ⟨pre.length, Nat.le_refl _, hi, fun j h1 h2 => by omega, by rw [hx]; omega, ?_⟩
      have hf : findE r place m (pre.getLast?.getD e0) (x :: xs) = if m = 1 then (pre.getLast?.getD e0, 0) else if m = 2 then (x, 0) else (pre.getLast?.getD e0, 4) := by
        conv => lhs; unfold findE
        rw [if_neg c1, if_neg c2]
      rw [hf, htk, hx]
      by_cases m1 : m = 1
      · exact .inr (.inl ⟨by omega, m1, if_pos m1⟩)
      by_cases m2 : m = 2
      · exact .inr (.inr (.inl ⟨by omega, m2, (if_neg m1).trans (if_pos m2)⟩))
      · exact .inr (.inr (.inr ⟨by omega, m1, m2, (if_neg m1).trans (if_neg m2)⟩))

theorem ev_same (T : List Int) (hT : T.length < 4611686018427387904) : Ev (fun k => galleyref01_SameInts.f k T T) true := by
  unfold galleyref01_SameInts.f
  refine Ev.ite_pos rfl ?_
  have : ∀ (n i : Nat), T.length - i ≤ n → Ev (fun k => galleyref01_SameInts.l0 k T T (i : Int)) true := by
    intro n
    induction n with
    | zero =>
      intro i hn
      refine Ev.step (G := fun _ => some true) (fun k => ?_) (Ev.pure _)
      unfold galleyref01_SameInts.l0
      rw [if_neg (by omega)]
    | succ n ih =>
      intro i hn
      by_cases h : i < T.length
      · refine Ev.step (G := fun k => galleyref01_SameInts.l0 k T T ((i + 1 : Nat) : Int)) (fun k => ?_) (ih (i + 1) (by omega))
        conv => lhs; unfold galleyref01_SameInts.l0
        rw [if_pos (by omega), if_pos (by omega), if_pos (by omega), if_pos rfl, w64 (n := (i : Int) + 1) (by omega) (by omega)]
        rfl
      · refine Ev.step (G := fun _ => some true) (fun k => ?_) (Ev.pure _)
        unfold galleyref01_SameInts.l0
        rw [if_neg (by omega)]
  exact this _ 0 (Nat.le_refl _)
theorem size_is {l : List Int} (hl : Bytes l) (hs : Wide l) (r : Int) : rule_Size.f l r = some (if 1 ≤ r ∧ r ≤ 3 then (lastT l r.toNat, 0) else (0, 3)) := by
  have hs' := hs
  unfold Wide at hs'
  unfold rule_Size.f rule_size.f
  simp only [rul_iff, Option.bind_some, decide_eq_true_eq]
  by_cases r1 : 1 ≤ r ∧ r ≤ 3
  · rw [if_pos r1, if_pos (by omega), if_pos r1, if_pos r1]
    simp only [Option.bind_some]
    rw [last_pick hl r.toNat (by omega) (by omega)]
  · rw [if_neg r1, if_neg r1]
end Go.Proofs.YtbomhpfckplgaaaDoor.P
namespace Go.Proofs.YtbomhpfckplgaaaDoor.P
open Go Go.RowKit Go.Proofs.YtbomhpfckplgaaaDoorW.PrintWords Utf
set_option linter.unusedVariables false
set_option linter.unusedSimpArgs false

theorem rune_drop (l : List Int) (e q : Nat) : rune (l.drop e) q = rune l (e + q) := by
  unfold rune
  rw [long_drop, at_drop, at_drop, at_drop, at_drop, Nat.add_assoc, Nat.add_assoc, Nat.add_assoc]
theorem stepN_drop (l : List Int) (e q : Nat) : stepN (l.drop e) q = stepN l (e + q) := by
  unfold stepN
  rw [long_drop, rune_drop]
theorem steps_drop (l : List Int) (e : Nat) (he : e ≤ l.length) : ∀ (k q : Nat), (stepsF (l.drop e) k q).map toS = (stepsF l k (e + q)).map toS
  | 0, _ => rfl
  | k + 1, q => by
    unfold stepsF
    have hl : (l.drop e).length = l.length - e := List.length_drop
    by_cases h : q < l.length - e
    · rw [if_pos (by omega), if_pos (by omega), List.map_cons, List.map_cons, steps_drop l e he k, width_drop]
      rw [show e + (q + width l (e + q)) = e + q + width l (e + q) from by omega]
      congr 1
      simp only [toS, stepN_drop]
    · rw [if_neg (by omega), if_neg (by omega)]
theorem runeV_n {n : Nat} {x y z w y' z' w' : Int} (hy : 1 < n → y = y') (hz : 2 < n → z = z') (hw : 3 < n → w = w') (hn : n ≤ 4) (h0 : 0 < n) : runeV n x y z w = runeV n x y' z' w' := by
  unfold runeV
  by_cases h1 : n = 1
  · rw [if_pos h1, if_pos h1]
  rw [if_neg h1, if_neg h1]
  by_cases h2 : n = 2
  · rw [if_pos h2, if_pos h2, hy (by omega)]
  rw [if_neg h2, if_neg h2]
  by_cases h3 : n = 3
  · rw [if_pos h3, if_pos h3, hy (by omega), hz (by omega)]
  rw [if_neg h3, if_neg h3]
  rw [hy (by omega), hz (by omega), hw (by omega)]
/-- A step that stands wholly ahead of a place is told by what stands ahead of it. -/
theorem stepN_take {l : List Int} {e q : Nat} (h : q + width l q ≤ e) : stepN (l.take e) q = stepN l q := by
  unfold stepN
  rcases Nat.eq_zero_or_pos (long l q) with h0 | h0
  · rw [if_pos (long_take_zero h0), if_pos h0]
  · have hw := long_le_width l q
    have h4 := long_le4 l q
    have e1 := long_take (b := l) (n := e) (q := q) (by omega) h0
    rw [if_neg (by omega), if_neg (by omega), e1]
    congr 1
    unfold rune
    rw [e1, at_take (by omega)]
    exact runeV_n (fun h => at_take (by omega)) (fun h => at_take (by omega)) (fun h => at_take (by omega)) h4 h0
theorem width_take' {l : List Int} {e q : Nat} (h : q + width l q ≤ e) : width (l.take e) q = width l q := by
  have := stepN_take h
  have h1 := stepN_w (l.take e) q
  have h2 := stepN_w l q
  rw [this, h2] at h1
  omega
/-- From an edge ahead of an edge, a step does not pass it. -/
theorem step_within {l : List Int} {e p : Nat} (he : inside l e = false) (hp : p < e) : p + width l p ≤ e := by
  rcases Nat.lt_or_ge e (p + width l p) with h | h
  · have := inside_mid (b := l) (p := p) (k := e - p) (by omega) (by omega)
    rw [show p + (e - p) = e from by omega, he] at this
    cases this
  · exact h
theorem stepsF_succ (l : List Int) (k p : Nat) : stepsF l (k + 1) p = if p < l.length then (p, stepN l p) :: stepsF l k (p + width l p) else [] := rfl
theorem steps_cut_from (l : List Int) (e : Nat) (he : e ≤ l.length) (hi : inside l e = false) : ∀ (k p : Nat), p ≤ e → e - p ≤ k → ∀ j, l.length ≤ j → (stepsF l (k + j) p).map toS = (stepsF (l.take e) k p).map toS ++ (stepsF (l.drop e) j 0).map toS
  | k, p, hp, hk, j, hj => by
    rcases Nat.lt_or_ge p e with h | h
    · obtain ⟨k, rfl⟩ : ∃ i, k = i + 1 := ⟨k - 1, by omega⟩
      have hw := step_within hi h
      have hwp := width_pos l p
      have ih := steps_cut_from l e he hi k (p + width l p) hw (by omega) j hj
      rw [show k + 1 + j = (k + j) + 1 from by omega]
      rw [stepsF_succ, stepsF_succ]
      have hl : (l.take e).length = e := by simp; omega
      rw [if_pos (by omega), if_pos (by omega), List.map_cons, List.map_cons, ih, width_take' hw]
      have et : toS (p, stepN l p) = toS (p, stepN (l.take e) p) := by simp only [toS, stepN_take hw]
      rw [et]
      rfl
    · obtain rfl : p = e := by omega
      have h0 : stepsF (l.take p) k p = [] := by
        cases k with
        | zero => rfl
        | succ k =>
          unfold stepsF
          rw [if_neg (by simp; omega)]
      rw [h0, List.map_nil, List.nil_append, steps_drop l p he j 0, Nat.add_zero]
      have e1 := stepsF_fuel l j p k (by omega)
      rw [Nat.add_comm k j, e1]
theorem steps_cut (l : List Int) (e : Nat) (he : e ≤ l.length) (hi : inside l e = false) : (stepsL l).map toS = (stepsL (l.take e)).map toS ++ (stepsL (l.drop e)).map toS := by
  have h := steps_cut_from l e he hi e 0 (Nat.zero_le _) (by omega) l.length (Nat.le_refl _)
  have f1 : stepsF l (e + l.length) 0 = stepsL l := by
    rw [Nat.add_comm]
    exact stepsF_fuel l l.length 0 e (by omega)
  have f2 : stepsF (l.take e) e 0 = stepsL (l.take e) := by
    unfold stepsL
    rw [show (l.take e).length = e from by simp; omega]
  have f3 : stepsF (l.drop e) l.length 0 = stepsL (l.drop e) := by
    unfold stepsL
    have := stepsF_fuel (l.drop e) (l.drop e).length 0 e (by omega)
    rw [show (l.drop e).length + e = l.length from by simp; omega] at this
    exact this
  rw [f1, f2, f3] at h
  exact h
end Go.Proofs.YtbomhpfckplgaaaDoor.P
namespace Go.Proofs.YtbomhpfckplgaaaDoor.P
open Go Go.RowKit Go.Proofs.YtbomhpfckplgaaaDoorW.PrintWords Utf
set_option linter.unusedVariables false
set_option linter.unusedSimpArgs false

/-- To at a place within the text: i is the first edge that is not below. -/
theorem to_index {l : List Int} (hl : Bytes l) (hs : Wide l) (n n' : Nat) (p m : Int) (n1 : 1 ≤ n) (n3 : n ≤ 3) (m1 : 1 ≤ n') (m3 : n' ≤ 3) (hm : 1 ≤ m ∧ m ≤ 3) (hp0 : 0 ≤ p) (hp1 : p ≤ lastT l n) :
    ∃ i, ∃ hi : i < (edgesL l).length, (∀ j (hj : j < i), pickE ((edgesL l)[j]'(Nat.lt_trans hj hi)) n < p) ∧ p ≤ pickE (edgesL l)[i] n ∧ (pickE (edgesL l)[i] n ≠ p → 0 < i) ∧
      rule_To.f l n p n' m = some (if pickE (edgesL l)[i] n = p then (pickE (edgesL l)[i] n', 0) else if m = 1 then (pickE ((edgesL l)[i - 1]'(by omega)) n', 0) else if m = 2 then (pickE (edgesL l)[i] n', 0) else (0, 4)) := by
  have hs' := hs
  unfold Wide at hs'
  have hel := edges_length hl
  have hsl := stepsL_length l
  have hlen := tab_length hl n n1 n3
  have base : rule_To.f l n p n' m = (if (findE n p m e0 (edgesL l)).2 = 0 then some (pickE (findE n p m e0 (edgesL l)).1 n', 0) else some (0, (findE n p m e0 (edgesL l)).2)) := by
    unfold rule_To.f
    simp only [rul_iff, mode_iff, Option.bind_some, decide_eq_true_eq]
    rw [if_pos (by omega), if_pos (by omega), if_pos hm, if_neg (by omega), if_pos (by omega), if_pos (by omega)]
    simp only [Int.toNat_natCast]
  rcases search (edgesL l) n p m (by omega) (edgesL l) [] rfl with ⟨a, _⟩ | ⟨i, _, hi, hlow, h4, h5⟩
  · exfalso
    obtain ⟨x, hx, hxe⟩ := List.mem_map.1 (last_mem hl n n1 n3)
    have := a x hx
    omega
  · have h0 : pickE (edgesL l)[i] n ≠ p → 0 < i := by
      intro hne
      rcases Nat.eq_zero_or_pos i with rfl | h
      · have e : (tabL l n)[0]'(by omega) = 0 := by simp only [tab_scan hl n n1 n3]; rfl
        simp only [tabL, List.getElem_map] at e
        omega
      · exact h
    refine ⟨i, hi, fun j hj => hlow j hj (Nat.zero_le _), h4, h0, ?_⟩
    rw [base]
    have prev : pickE (edgesL l)[i] n ≠ p → ((edgesL l).take i).getLast?.getD e0 = (edgesL l)[i - 1]'(by omega) := fun hne => by
      have := h0 hne
      rw [List.getLast?_eq_getElem?, List.length_take, Nat.min_eq_left (by omega), List.getElem?_take, if_pos (by omega), List.getElem?_eq_getElem (by omega)]
      rfl
    rcases h5 with ⟨q1, q2⟩ | ⟨q1, q2, q3⟩ | ⟨q1, q2, q3⟩ | ⟨q1, q2, q2', q3⟩
    · have q2' : findE n p m e0 (edgesL l) = ((edgesL l)[i], 0) := q2
      rw [q2', if_pos rfl, if_pos q1]
    · have q3' : findE n p m e0 (edgesL l) = (((edgesL l).take i).getLast?.getD e0, 0) := q3
      rw [q3', if_pos rfl, if_neg (by omega), if_pos q2, prev (by omega)]
    · have q3' : findE n p m e0 (edgesL l) = ((edgesL l)[i], 0) := q3
      rw [q3', if_pos rfl, if_neg (by omega), if_neg (by omega), if_pos q2]
    · have q3' : findE n p m e0 (edgesL l) = (((edgesL l).take i).getLast?.getD e0, 4) := q3
      rw [q3', if_neg (show ¬ ((4 : Int) = 0) by decide), if_neg (by omega), if_neg q2, if_neg q2']
theorem to_range {l : List Int} (hl : Bytes l) (hs : Wide l) (n n' : Nat) (p m : Int) (n1 : 1 ≤ n) (n3 : n ≤ 3) (m1 : 1 ≤ n') (m3 : n' ≤ 3) (hm : 1 ≤ m ∧ m ≤ 3) (hp : p < 0 ∨ p > lastT l n) : rule_To.f l n p n' m = some (0, 2) := by
  have hs' := hs
  unfold Wide at hs'
  have hel := edges_length hl
  have hsl := stepsL_length l
  unfold rule_To.f
  simp only [rul_iff, mode_iff, Option.bind_some, decide_eq_true_eq]
  rw [if_pos (by omega), if_pos (by omega), if_pos hm]
  by_cases c : p < 0
  · rw [if_pos c]
  rw [if_neg c, if_pos (by omega), if_pos (by omega)]
  simp only [Int.toNat_natCast]
  have hall : ∀ x ∈ edgesL l, pickE x n < p := fun x hx => by
    have := tab_le_last hl hs n n1 n3 (pickE x n) (List.mem_map.2 ⟨x, hx, rfl⟩)
    omega
  rcases search (edgesL l) n p m (by omega) (edgesL l) [] rfl with ⟨_, b⟩ | ⟨i, _, hi, _, h4, _⟩
  · have b' : (findE n p m e0 (edgesL l)).2 = 2 := b
    rw [b']
    rfl
  · have := hall _ (List.getElem_mem hi)
    omega
theorem to_bad {l : List Int} (a1 p a3 m : Int) (h : ¬ ((1 ≤ a1 ∧ a1 ≤ 3) ∧ (1 ≤ a3 ∧ a3 ≤ 3) ∧ (1 ≤ m ∧ m ≤ 3))) : rule_To.f l a1 p a3 m = some (0, 3) := by
  unfold rule_To.f
  simp only [rul_iff, mode_iff, Option.bind_some, decide_eq_true_eq]
  by_cases c1 : 1 ≤ a1 ∧ a1 ≤ 3
  · rw [if_pos c1]
    by_cases c2 : 1 ≤ a3 ∧ a3 ≤ 3
    · rw [if_pos c2, if_neg (fun c3 => h ⟨c1, c2, c3⟩)]
    · rw [if_neg c2]
  · rw [if_neg c1]

/-- By bytes the places are the steps' own. -/
theorem scan_bytes {l : List Int} (hs : Wide l) : ∀ (k p : Nat), p ≤ l.length → l.length - p ≤ k → (p : Int) :: scanT 1 p ((stepsF l k p).map toS) = (stepsF l k p).map (fun x => (x.1 : Int)) ++ [(l.length : Int)]
  | 0, p, hp, hk => by
    obtain rfl : p = l.length := by omega
    rfl
  | k + 1, p, hp, hk => by
    unfold Wide at hs
    by_cases h : p < l.length
    · rw [stepsF_succ, if_pos h]
      have hw := width_end h
      have hwp := width_pos l p
      have ih := scan_bytes (l := l) hs k (p + width l p) hw (by omega)
      have e : wrap64 ((p : Int) + cntR 1 (toS (p, stepN l p))) = ((p + width l p : Nat) : Int) := by
        have : cntR 1 (toS (p, stepN l p)) = (width l p : Int) := by
          unfold cntR toS
          rw [if_pos rfl]
          exact stepN_w l p
        rw [this, w64 (by omega) (by omega)]
        omega
      simp only [List.map_cons, scanT, List.cons_append]
      rw [e, ih]
    · rw [stepsF_succ, if_neg h]
      obtain rfl : p = l.length := by omega
      rfl
theorem tab_bytes {l : List Int} (hl : Bytes l) (hs : Wide l) : tabL l 1 = placesL l := by
  rw [tab_scan hl 1 (by omega) (by omega)]
  exact scan_bytes hs l.length 0 (by omega) (by omega)
theorem stepsF_edge {l : List Int} : ∀ (k p : Nat), inside l p = false → ∀ x ∈ stepsF l k p, inside l x.1 = false
  | 0, _, _, x, hx => by cases hx
  | k + 1, p, hp, x, hx => by
    rw [stepsF_succ] at hx
    by_cases h : p < l.length
    · rw [if_pos h] at hx
      rcases List.mem_cons.1 hx with rfl | hx
      · exact hp
      · exact stepsF_edge k _ (inside_next hp) x hx
    · rw [if_neg h] at hx
      cases hx
/-- An edge by bytes. -/
theorem byte_edge {l : List Int} (hl : Bytes l) (hs : Wide l) {y : Int} (h : y ∈ tabL l 1) : ∃ e : Nat, y = e ∧ e ≤ l.length ∧ inside l e = false := by
  rw [tab_bytes hl hs] at h
  rcases List.mem_append.1 h with h | h
  · obtain ⟨x, hx, rfl⟩ := List.mem_map.1 h
    have hm := stepsF_mem l _ _ x hx
    exact ⟨x.1, rfl, by omega, stepsF_edge _ _ (inside_zero l) x hx⟩
  · obtain rfl := List.mem_singleton.1 h
    exact ⟨l.length, rfl, Nat.le_refl _, inside_len l⟩
theorem last_bytes {l : List Int} (hl : Bytes l) (hs : Wide l) : lastT l 1 = (l.length : Int) := by
  unfold lastT
  rw [tab_bytes hl hs]
  simp [placesL]
end Go.Proofs.YtbomhpfckplgaaaDoor.P
namespace Go.Proofs.YtbomhpfckplgaaaDoor.P
open Go Go.RowKit Go.Proofs.YtbomhpfckplgaaaDoorW.PrintWords Utf
set_option linter.unusedVariables false
set_option linter.unusedSimpArgs false

theorem pick_mono {l : List Int} (hl : Bytes l) (hs : Wide l) (n : Nat) (n1 : 1 ≤ n) (n3 : n ≤ 3) {i j : Nat} (hi : i < (edgesL l).length) (hj : j < (edgesL l).length) (h : i ≤ j) : pickE (edgesL l)[i] n ≤ pickE (edgesL l)[j] n := by
  rcases Nat.eq_or_lt_of_le h with rfl | h
  · exact Int.le_refl _
  · have hris := (tab_rises hl hs n n1 n3).1
    have hT : (tabL l n)[i]'(by simpa [tabL] using hi) < (tabL l n)[j]'(by simpa [tabL] using hj) := List.pairwise_iff_getElem.1 hris i j _ _ h
    simp only [tabL, List.getElem_map] at hT
    omega
/-- To within the text: an edge, or inside. -/
theorem to_edge {l : List Int} (hl : Bytes l) (hs : Wide l) (n : Nat) (p m : Int) (n1 : 1 ≤ n) (n3 : n ≤ 3) (hm : 1 ≤ m ∧ m ≤ 3) (hp0 : 0 ≤ p) (hp1 : p ≤ lastT l n) :
    (∃ j, ∃ hj : j < (edgesL l).length, (∀ n' : Nat, 1 ≤ n' → n' ≤ 3 → rule_To.f l n p n' m = some (pickE (edgesL l)[j] n', 0)) ∧ (m = 1 → pickE (edgesL l)[j] n ≤ p) ∧ (m = 2 → p ≤ pickE (edgesL l)[j] n) ∧ (m = 3 → p = pickE (edgesL l)[j] n) ∧
      (∀ i (hi : i < (edgesL l).length), i < j → pickE (edgesL l)[i] n < p) ∧ (∀ i (hi : i < (edgesL l).length), j < i → p < pickE (edgesL l)[i] n)) ∨
    (m = 3 ∧ (∀ n' : Nat, 1 ≤ n' → n' ≤ 3 → rule_To.f l n p n' m = some (0, 4)) ∧ ∀ i (hi : i < (edgesL l).length), pickE (edgesL l)[i] n ≠ p) := by
  have hne : 1 ≤ (edgesL l).length := by rw [edges_length hl]; omega
  obtain ⟨i, hi, h1, h2, h3, _⟩ := to_index hl hs n 1 p m n1 n3 (by omega) (by omega) hm hp0 hp1
  have key : ∀ n' : Nat, 1 ≤ n' → n' ≤ 3 → rule_To.f l n p n' m = some (if pickE (edgesL l)[i] n = p then (pickE (edgesL l)[i] n', 0) else if m = 1 then (pickE ((edgesL l)[i - 1]'(by omega)) n', 0) else if m = 2 then (pickE (edgesL l)[i] n', 0) else (0, 4)) := by
    intro n' m1 m3
    obtain ⟨i', hi', k1, k2, k3, k4⟩ := to_index hl hs n n' p m n1 n3 m1 m3 hm hp0 hp1
    have : i' = i := by
      rcases Nat.lt_trichotomy i' i with h | h | h
      · have := h1 i' h
        omega
      · exact h
      · have := k1 i h
        omega
    subst this
    exact k4
  have above : ∀ j (hj : j < (edgesL l).length), i < j → p < pickE (edgesL l)[j] n := by
    intro j hj hij
    have := pick_mono hl hs n n1 n3 (i := i + 1) (j := j) (by omega) hj hij
    have hris := (tab_rises hl hs n n1 n3).1
    have hT : (tabL l n)[i]'(by simpa [tabL] using hi) < (tabL l n)[i + 1]'(by simpa [tabL] using (show i + 1 < (edgesL l).length by omega)) := List.pairwise_iff_getElem.1 hris i (i + 1) _ _ (by omega)
    simp only [tabL, List.getElem_map] at hT
    omega
  by_cases c : pickE (edgesL l)[i] n = p
  · refine .inl ⟨i, hi, fun n' a b => by rw [key n' a b, if_pos c], by omega, by omega, by omega, fun j hj h => h1 j h, above⟩
  · have h0 := h3 c
    obtain rfl | rfl | rfl : m = 1 ∨ m = 2 ∨ m = 3 := by omega
    · refine .inl ⟨i - 1, by omega, fun n' a b => by rw [key n' a b, if_neg c, if_pos rfl], fun _ => ?_, by omega, by omega, fun j hj h => h1 j (by omega), fun j hj h => ?_⟩
      · have := h1 (i - 1) (by omega)
        omega
      · rcases Nat.eq_or_lt_of_le (show i ≤ j by omega) with h' | h'
        · subst h'
          omega
        · exact above j hj h'
    · refine .inl ⟨i, hi, fun n' a b => by rw [key n' a b, if_neg c, if_neg (by decide), if_pos rfl], by omega, by omega, by omega, fun j hj h => h1 j h, above⟩
    · refine .inr ⟨rfl, fun n' a b => by rw [key n' a b, if_neg c, if_neg (by decide), if_neg (by decide)], fun j hj => ?_⟩
      rcases Nat.lt_trichotomy j i with h | h | h
      · have := h1 j h
        omega
      · subst h
        exact c
      · have := above j hj h
        omega
/-- Every To is known. -/
theorem to_all (l : List Int) (hl : Bytes l) (hs : Wide l) (a p b m : Int) : ∃ v e, rule_To.f l a p b m = some (v, e) := by
  by_cases h : (1 ≤ a ∧ a ≤ 3) ∧ (1 ≤ b ∧ b ≤ 3) ∧ (1 ≤ m ∧ m ≤ 3)
  · obtain ⟨n, rfl⟩ : ∃ n : Nat, a = n := ⟨a.toNat, by omega⟩
    obtain ⟨n', rfl⟩ : ∃ n' : Nat, b = n' := ⟨b.toNat, by omega⟩
    by_cases hp : p < 0 ∨ p > lastT l n
    · exact ⟨_, _, to_range hl hs n n' p m (by omega) (by omega) (by omega) (by omega) h.2.2 hp⟩
    · obtain ⟨j, hj, h1, _⟩ | ⟨_, h1, _⟩ := to_edge hl hs n p m (by omega) (by omega) h.2.2 (by omega) (by omega)
      · exact ⟨_, _, h1 n' (by omega) (by omega)⟩
      · exact ⟨_, _, h1 n' (by omega) (by omega)⟩
  · exact ⟨_, _, to_bad a p b m h⟩
/-- Places in order are answered in order. -/
theorem to_mono {l : List Int} (hl : Bytes l) (hs : Wide l) (a p q b m v u : Int) (hv : rule_To.f l a p b m = some (v, 0)) (hu : rule_To.f l a q b m = some (u, 0)) (h : p ≤ q) : v ≤ u := by
  by_cases hg : (1 ≤ a ∧ a ≤ 3) ∧ (1 ≤ b ∧ b ≤ 3) ∧ (1 ≤ m ∧ m ≤ 3)
  · obtain ⟨n, rfl⟩ : ∃ n : Nat, a = n := ⟨a.toNat, by omega⟩
    obtain ⟨n', rfl⟩ : ∃ n' : Nat, b = n' := ⟨b.toNat, by omega⟩
    by_cases hp : p < 0 ∨ p > lastT l n
    · rw [to_range hl hs n n' p m (by omega) (by omega) (by omega) (by omega) hg.2.2 hp] at hv
      simp at hv
    by_cases hq : q < 0 ∨ q > lastT l n
    · rw [to_range hl hs n n' q m (by omega) (by omega) (by omega) (by omega) hg.2.2 hq] at hu
      simp at hu
    obtain ⟨j, hj, h1, h2, h3, h4, h5, h6⟩ | ⟨_, h1, _⟩ := to_edge hl hs n p m (by omega) (by omega) hg.2.2 (by omega) (by omega)
    · obtain ⟨i, hi, k1, k2, k3, k4, k5, k6⟩ | ⟨_, k1, _⟩ := to_edge hl hs n q m (by omega) (by omega) hg.2.2 (by omega) (by omega)
      · rw [h1 n' (by omega) (by omega)] at hv
        rw [k1 n' (by omega) (by omega)] at hu
        simp only [Option.some.injEq, Prod.mk.injEq, and_true] at hv hu
        subst hv hu
        refine pick_mono hl hs n' (by omega) (by omega) hj hi ?_
        rcases Nat.lt_or_ge i j with c | c
        · exfalso
          have a1 := h5 i hi c
          have a2 := k6 j hj c
          rcases (show m = 1 ∨ m = 2 ∨ m = 3 by omega) with e | e | e
          · have := h2 e
            omega
          · have := k3 e
            omega
          · have := h4 e
            omega
        · exact c
      · rw [k1 n' (by omega) (by omega)] at hu
        simp at hu
    · rw [h1 n' (by omega) (by omega)] at hv
      simp at hv
  · rw [to_bad a p b m hg] at hv
    simp at hv

/-- A place in bytes that To answers with. -/
theorem to_byte {l : List Int} (hl : Bytes l) (hs : Wide l) (a p m v : Int) (hv : rule_To.f l a p 1 m = some (v, 0)) : 0 ≤ v ∧ v ≤ l.length := by
  by_cases hg : (1 ≤ a ∧ a ≤ 3) ∧ (1 ≤ (1 : Int) ∧ (1 : Int) ≤ 3) ∧ (1 ≤ m ∧ m ≤ 3)
  · obtain ⟨n, rfl⟩ : ∃ n : Nat, a = n := ⟨a.toNat, by omega⟩
    by_cases hp : p < 0 ∨ p > lastT l n
    · have := to_range hl hs n 1 p m (by omega) (by omega) (by omega) (by omega) hg.2.2 hp
      rw [show (((1 : Nat) : Int)) = 1 from rfl] at this
      rw [this] at hv
      simp at hv
    obtain ⟨j, hj, h1, _⟩ | ⟨_, h1, _⟩ := to_edge hl hs n p m (by omega) (by omega) hg.2.2 (by omega) (by omega)
    · have := h1 1 (by omega) (by omega)
      rw [show (((1 : Nat) : Int)) = 1 from rfl] at this
      rw [this] at hv
      simp only [Option.some.injEq, Prod.mk.injEq, and_true] at hv
      subst hv
      obtain ⟨e, he, hel2, hei⟩ := byte_edge hl hs (List.mem_map.2 ⟨_, List.getElem_mem hj, rfl⟩ : pickE (edgesL l)[j] 1 ∈ tabL l 1)
      omega
    · have := h1 1 (by omega) (by omega)
      rw [show (((1 : Nat) : Int)) = 1 from rfl] at this
      rw [this] at hv
      simp at hv
  · rw [to_bad a p 1 m hg] at hv
    simp at hv
/-- To within the text has no other error than inside. -/
theorem to_err {l : List Int} (hl : Bytes l) (hs : Wide l) (n n' : Nat) (p m : Int) (n1 : 1 ≤ n) (n3 : n ≤ 3) (m1 : 1 ≤ n') (m3 : n' ≤ 3) (hm : 1 ≤ m ∧ m ≤ 3) (hp0 : 0 ≤ p) (hp1 : p ≤ lastT l n) : ∃ v e, rule_To.f l n p n' m = some (v, e) ∧ (e = 0 ∨ e = 4) := by
  obtain ⟨j, hj, h1, _⟩ | ⟨_, h1, _⟩ := to_edge hl hs n p m n1 n3 hm hp0 hp1
  · exact ⟨_, _, h1 n' m1 m3, .inl rfl⟩
  · exact ⟨_, _, h1 n' m1 m3, .inr rfl⟩

end Go.Proofs.YtbomhpfckplgaaaDoor.P
