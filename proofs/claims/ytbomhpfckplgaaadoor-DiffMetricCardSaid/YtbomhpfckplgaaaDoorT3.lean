/- Texts of this claim, put together: U, HGrid, HDist, Px31. -/
import Derived.Lib.DecodeN
import Derived.Lib.RuneCountTail
import Derived.Deep.OwnRows
import Derived.Test.YtbomhpfckplgaaaDoorT1
import Derived.Test.YtbomhpfckplgaaaDoorT2
namespace Go.Proofs.YtbomhpfckplgaaaDoor.Utf
def at_ (b : List Int) (p : Nat) : Int := b.getD p (-1)
def tail (x : Int) : Prop := 0x80 ≤ x ∧ x ≤ 0xbf
instance (x : Int) : Decidable (tail x) := by unfold tail; infer_instance
def three (x y : Int) : Prop := (x = 0xe0 ∧ 0xa0 ≤ y ∧ y ≤ 0xbf) ∨ (0xe1 ≤ x ∧ x ≤ 0xec ∧ tail y) ∨ (x = 0xed ∧ 0x80 ≤ y ∧ y ≤ 0x9f) ∨ (0xee ≤ x ∧ x ≤ 0xef ∧ tail y)
def four (x y : Int) : Prop := (x = 0xf0 ∧ 0x90 ≤ y ∧ y ≤ 0xbf) ∨ (0xf1 ≤ x ∧ x ≤ 0xf3 ∧ tail y) ∨ (x = 0xf4 ∧ 0x80 ≤ y ∧ y ≤ 0x8f)
instance (x y : Int) : Decidable (three x y) := by unfold three; infer_instance
instance (x y : Int) : Decidable (four x y) := by unfold four; infer_instance
def long4 (x y z w : Int) : Nat :=
  if 0 ≤ x ∧ x ≤ 0x7f then 1
  else if (0xc2 ≤ x ∧ x ≤ 0xdf) ∧ tail y then 2
  else if tail z ∧ three x y then 3
  else if tail z ∧ tail w ∧ four x y then 4
  else 0
theorem long4_le (x y z w : Int) : long4 x y z w ≤ 4 := by unfold long4; repeat (first | split | omega)
theorem long4_tail {x y z w : Int} (h : tail x) : long4 x y z w = 0 := by
  unfold long4 tail three four at *
  repeat (first | rw [if_neg (by omega)])
theorem long4_y {x y z w : Int} (h : 1 < long4 x y z w) : tail y := by
  unfold long4 at h
  (repeat' split at h) <;> (try simp only [tail, three, four] at *) <;> omega
theorem long4_z {x y z w : Int} (h : 2 < long4 x y z w) : tail z := by
  unfold long4 at h
  (repeat' split at h) <;> (try simp only [tail, three, four] at *) <;> omega
theorem long4_w {x y z w : Int} (h : 3 < long4 x y z w) : tail w := by
  unfold long4 at h
  (repeat' split at h) <;> (try simp only [tail, three, four] at *) <;> omega
theorem long4_x {x y z w : Int} (h : 0 < long4 x y z w) : 0 ≤ x := by
  unfold long4 at h
  (repeat' split at h) <;> (try simp only [tail, three, four] at *) <;> omega
def long (b : List Int) (p : Nat) : Nat := long4 (at_ b p) (at_ b (p + 1)) (at_ b (p + 2)) (at_ b (p + 3))
def width (b : List Int) (p : Nat) : Nat := if long b p = 0 then 1 else long b p
theorem long_le4 (b : List Int) (p : Nat) : long b p ≤ 4 := long4_le _ _ _ _
theorem width_pos (b : List Int) (p : Nat) : 0 < width b p := by unfold width; split <;> omega
theorem long_le_width (b : List Int) (p : Nat) : long b p ≤ width b p := by unfold width; split <;> omega
theorem long_in {b : List Int} {p k : Nat} (h : k < long b p) : 0 < k → tail (at_ b (p + k)) := by
  intro hk
  have h4 := long_le4 b p
  obtain rfl | rfl | rfl : k = 1 ∨ k = 2 ∨ k = 3 := by omega
  · exact long4_y h
  · exact long4_z h
  · exact long4_w h
theorem long_tail {b : List Int} {p : Nat} (h : tail (at_ b p)) : long b p = 0 := long4_tail h
theorem long_within {b : List Int} {p k : Nat} (h : k < long b p) (hk : 0 < k) : long b (p + k) = 0 := long_tail (long_in h hk)
theorem at_lt {b : List Int} {p : Nat} (h : 0 ≤ at_ b p) : p < b.length := by
  rcases Nat.lt_or_ge p b.length with h1 | h1
  · exact h1
  · simp [at_, List.getD_eq_getElem?_getD, List.getElem?_eq_none h1] at h
theorem long_end {b : List Int} {p : Nat} (h : 0 < long b p) : p + long b p ≤ b.length := by
  rcases Nat.lt_or_ge (long b p) 2 with h1 | h1
  · have := at_lt (long4_x h); omega
  · have h2 : tail (at_ b (p + (long b p - 1))) := long_in (by omega) (by omega)
    have := at_lt (b := b) (p := p + (long b p - 1)) (by unfold tail at h2; omega)
    omega
theorem width_end {b : List Int} {p : Nat} (h : p < b.length) : p + width b p ≤ b.length := by
  unfold width
  split
  · omega
  · exact long_end (by omega)
def inside (b : List Int) (p : Nat) : Bool := (List.range 3).any fun j => decide (j + 1 ≤ p) && decide (j + 1 < long b (p - (j + 1)))
theorem inside_iff {b : List Int} {p : Nat} : inside b p = true ↔ ∃ k, 0 < k ∧ k ≤ p ∧ k < long b (p - k) := by
  unfold inside
  rw [List.any_eq_true]
  constructor
  · rintro ⟨j, hj, h⟩
    simp at h
    exact ⟨j + 1, by omega, h.1, h.2⟩
  · rintro ⟨k, h0, h1, h2⟩
    have := long_le4 b (p - k)
    refine ⟨k - 1, by simp; omega, ?_⟩
    simp
    have e : k - 1 + 1 = k := by omega
    rw [e]
    exact ⟨by omega, h2⟩
theorem inside_zero (b : List Int) : inside b 0 = false := by
  rw [Bool.eq_false_iff]; intro h
  obtain ⟨k, h0, h1, _⟩ := inside_iff.1 h
  omega
theorem inside_mid {b : List Int} {p k : Nat} (h0 : 0 < k) (h : k < width b p) : inside b (p + k) = true := by
  rw [inside_iff]
  refine ⟨k, h0, by omega, ?_⟩
  have e : p + k - k = p := by omega
  rw [e]
  unfold width at h
  split at h <;> omega
theorem inside_next {b : List Int} {p : Nat} (h : inside b p = false) : inside b (p + width b p) = false := by
  rw [Bool.eq_false_iff]; intro hi
  obtain ⟨k, h0, h1, h2⟩ := inside_iff.1 hi
  have hw := width_pos b p
  rcases Nat.lt_trichotomy (p + width b p - k) p with hq | hq | hq
  · have : inside b p = true := by
      rw [inside_iff]
      refine ⟨p - (p + width b p - k), by omega, by omega, ?_⟩
      have e : p - (p - (p + width b p - k)) = p + width b p - k := by omega
      rw [e]; omega
    rw [h] at this; cases this
  · rw [hq] at h2
    have := long_le_width b p
    omega
  · have : long b (p + (width b p - k)) = 0 := by
      refine long_within ?_ (by omega)
      have hkw : width b p - k < width b p := by omega
      have h1 : 1 < width b p := by omega
      have : width b p = long b p := by
        unfold width at h1 ⊢
        by_cases h0 : long b p = 0
        · rw [if_pos h0] at h1; omega
        · rw [if_neg h0]
      omega
    have e : p + width b p - k = p + (width b p - k) := by omega
    rw [e] at h2; omega
theorem inside_len (b : List Int) : inside b b.length = false := by
  rw [Bool.eq_false_iff]; intro hi
  obtain ⟨k, h0, h1, h2⟩ := inside_iff.1 hi
  have := long_end (b := b) (p := b.length - k) (by omega)
  omega
end Go.Proofs.YtbomhpfckplgaaaDoor.Utf
namespace Go.Proofs.YtbomhpfckplgaaaDoor.P
open Go.RowKit Go.Proofs.YtbomhpfckplgaaaDoorW.PrintWords Utf
set_option linter.unusedVariables false
set_option linter.unusedSimpArgs false
theorem at_nat (l : List Int) (p : Nat) (h : p < l.length) : at_ l p = l[p] := by
  unfold at_
  rw [List.getD_eq_getElem?_getD, List.getElem?_eq_getElem h]
  rfl
theorem at_no (l : List Int) (p : Nat) (h : l.length ≤ p) : at_ l p = -1 := by
  unfold at_
  rw [List.getD_eq_getElem?_getD, List.getElem?_eq_none h]
  rfl
theorem rd_at {l : List Int} {p : Nat} (h : p < l.length) : rd l (p : Int) = at_ l p := by rw [rd_nat l p h, at_nat l p h]
theorem at_byte {l : List Int} (hl : Bytes l) {p : Nat} (h : p < l.length) : 0 ≤ at_ l p ∧ at_ l p ≤ 255 := by rw [at_nat l p h]; exact hl _ (List.getElem_mem h)
theorem ref_at {l : List Int} (hl : Bytes l) (p : Nat) : galleyref02_at.f l (p : Int) = some (at_ l p) := by
  unfold galleyref02_at.f
  rw [if_neg (by omega)]
  rcases Nat.lt_or_ge p l.length with h | h
  · rw [if_neg (by omega), if_pos (by omega), if_pos (by omega), rd_at h]
    have := at_byte hl h
    rw [w64 (by omega) (by omega)]
  · rw [if_pos (by omega), at_no l p h]
theorem ref_in (a lo hi : Int) : galleyref02_in.f a lo hi = some (decide (lo ≤ a ∧ a ≤ hi)) := by
  unfold galleyref02_in.f
  by_cases h : a ≥ lo
  · rw [if_pos h]
    congr 1
    simp
    intro _; exact h
  · rw [if_neg h]
    congr 1
    simp
    intro h2; exact absurd h2 h
theorem three_iff (x y : Int) : three x y ↔ (x = 224 ∧ (160 ≤ y ∧ y ≤ 191)) ∨ ((225 ≤ x ∧ x ≤ 236) ∧ (128 ≤ y ∧ y ≤ 191)) ∨ (x = 237 ∧ (128 ≤ y ∧ y ≤ 159)) ∨ ((238 ≤ x ∧ x ≤ 239) ∧ (128 ≤ y ∧ y ≤ 191)) := by
  unfold three tail
  simp only [and_assoc]
theorem four_iff (x y : Int) : four x y ↔ (x = 240 ∧ (144 ≤ y ∧ y ≤ 191)) ∨ ((241 ≤ x ∧ x ≤ 243) ∧ (128 ≤ y ∧ y ≤ 191)) ∨ (x = 244 ∧ (128 ≤ y ∧ y ≤ 143)) := by
  unfold four tail
  simp only [and_assoc]
theorem ref_long4 (k : Nat) (x y z w : Int) (l : List Int) (a : Int) (h0 : galleyref02_at.f l a = some x) (h1 : galleyref02_at.f l (wrap64 (a + 1)) = some y) (h2 : galleyref02_at.f l (wrap64 (a + 2)) = some z) (h3 : galleyref02_at.f l (wrap64 (a + 3)) = some w) :
    galleyref02_Long.f (k + 3) l a = some (long4 x y z w : Int) := by
  unfold galleyref02_Long.f
  rw [h0, h1, h2, h3]
  simp only [Option.bind_some, ref_in, galleyref02_Long.j0, galleyref02_Long.j1, galleyref02_Long.j2, decide_eq_true_eq]
  unfold long4
  simp only [three_iff, four_iff, tail]
  by_cases c0 : 0 ≤ x ∧ x ≤ 127
  · have e : ¬ (194 ≤ x ∧ x ≤ 223) ∧ ¬ (x = 224) ∧ ¬ (225 ≤ x ∧ x ≤ 236) ∧ ¬ (x = 237) ∧ ¬ (238 ≤ x ∧ x ≤ 239) ∧ ¬ (x = 240) ∧ ¬ (241 ≤ x ∧ x ≤ 243) ∧ ¬ (x = 244) := by omega
    obtain ⟨e0, e1, e2, e3, e4, e5, e6, e7⟩ := e
    simp only [eq_true c0, eq_false e0, eq_false e1, eq_false e2, eq_false e3, eq_false e4, eq_false e5, eq_false e6, eq_false e7, if_true, if_false, false_and, or_false, false_or, true_and, and_false]
    clear e0 e1 e2 e3 e4 e5 e6 e7 c0 h0 h1 h2 h3
    by_cases y1 : 128 ≤ y ∧ y ≤ 191 <;> by_cases z1 : 128 ≤ z ∧ z ≤ 191 <;> by_cases w1 : 128 ≤ w ∧ w ≤ 191 <;> by_cases y2 : 160 ≤ y ∧ y ≤ 191 <;> by_cases y3 : 128 ≤ y ∧ y ≤ 159 <;> by_cases y4 : 144 ≤ y ∧ y ≤ 191 <;> by_cases y5 : 128 ≤ y ∧ y ≤ 143 <;> (try simp only [y1, z1, w1, y2, y3, y4, y5, if_true, if_false, true_and, false_and, and_true, and_false, reduceIte, Bool.false_eq_true, and_self, or_self, or_false, or_true, or_self]) <;> first | rfl | (exfalso; omega) | (split <;> rfl) | skip
  by_cases c1 : 194 ≤ x ∧ x ≤ 223
  · have e : ¬ (0 ≤ x ∧ x ≤ 127) ∧ ¬ (x = 224) ∧ ¬ (225 ≤ x ∧ x ≤ 236) ∧ ¬ (x = 237) ∧ ¬ (238 ≤ x ∧ x ≤ 239) ∧ ¬ (x = 240) ∧ ¬ (241 ≤ x ∧ x ≤ 243) ∧ ¬ (x = 244) := by omega
    obtain ⟨e0, e1, e2, e3, e4, e5, e6, e7⟩ := e
    simp only [eq_true c1, eq_false e0, eq_false e1, eq_false e2, eq_false e3, eq_false e4, eq_false e5, eq_false e6, eq_false e7, if_true, if_false, false_and, or_false, false_or, true_and, and_false]
    clear e0 e1 e2 e3 e4 e5 e6 e7 c1 h0 h1 h2 h3
    by_cases y1 : 128 ≤ y ∧ y ≤ 191 <;> by_cases z1 : 128 ≤ z ∧ z ≤ 191 <;> by_cases w1 : 128 ≤ w ∧ w ≤ 191 <;> by_cases y2 : 160 ≤ y ∧ y ≤ 191 <;> by_cases y3 : 128 ≤ y ∧ y ≤ 159 <;> by_cases y4 : 144 ≤ y ∧ y ≤ 191 <;> by_cases y5 : 128 ≤ y ∧ y ≤ 143 <;> (try simp only [y1, z1, w1, y2, y3, y4, y5, if_true, if_false, true_and, false_and, and_true, and_false, reduceIte, Bool.false_eq_true, and_self, or_self, or_false, or_true, or_self]) <;> first | rfl | (exfalso; omega) | (split <;> rfl) | skip
  by_cases c2 : x = 224
  · have e : ¬ (0 ≤ x ∧ x ≤ 127) ∧ ¬ (194 ≤ x ∧ x ≤ 223) ∧ ¬ (225 ≤ x ∧ x ≤ 236) ∧ ¬ (x = 237) ∧ ¬ (238 ≤ x ∧ x ≤ 239) ∧ ¬ (x = 240) ∧ ¬ (241 ≤ x ∧ x ≤ 243) ∧ ¬ (x = 244) := by omega
    obtain ⟨e0, e1, e2, e3, e4, e5, e6, e7⟩ := e
    simp only [eq_true c2, eq_false e0, eq_false e1, eq_false e2, eq_false e3, eq_false e4, eq_false e5, eq_false e6, eq_false e7, if_true, if_false, false_and, or_false, false_or, true_and, and_false]
    clear e0 e1 e2 e3 e4 e5 e6 e7 c2 h0 h1 h2 h3
    by_cases y1 : 128 ≤ y ∧ y ≤ 191 <;> by_cases z1 : 128 ≤ z ∧ z ≤ 191 <;> by_cases w1 : 128 ≤ w ∧ w ≤ 191 <;> by_cases y2 : 160 ≤ y ∧ y ≤ 191 <;> by_cases y3 : 128 ≤ y ∧ y ≤ 159 <;> by_cases y4 : 144 ≤ y ∧ y ≤ 191 <;> by_cases y5 : 128 ≤ y ∧ y ≤ 143 <;> (try simp only [y1, z1, w1, y2, y3, y4, y5, if_true, if_false, true_and, false_and, and_true, and_false, reduceIte, Bool.false_eq_true, and_self, or_self, or_false, or_true, or_self]) <;> first | rfl | (exfalso; omega) | (split <;> rfl) | skip
  by_cases c3 : 225 ≤ x ∧ x ≤ 236
  · have e : ¬ (0 ≤ x ∧ x ≤ 127) ∧ ¬ (194 ≤ x ∧ x ≤ 223) ∧ ¬ (x = 224) ∧ ¬ (x = 237) ∧ ¬ (238 ≤ x ∧ x ≤ 239) ∧ ¬ (x = 240) ∧ ¬ (241 ≤ x ∧ x ≤ 243) ∧ ¬ (x = 244) := by omega
    obtain ⟨e0, e1, e2, e3, e4, e5, e6, e7⟩ := e
    simp only [eq_true c3, eq_false e0, eq_false e1, eq_false e2, eq_false e3, eq_false e4, eq_false e5, eq_false e6, eq_false e7, if_true, if_false, false_and, or_false, false_or, true_and, and_false]
    clear e0 e1 e2 e3 e4 e5 e6 e7 c3 h0 h1 h2 h3
    by_cases y1 : 128 ≤ y ∧ y ≤ 191 <;> by_cases z1 : 128 ≤ z ∧ z ≤ 191 <;> by_cases w1 : 128 ≤ w ∧ w ≤ 191 <;> by_cases y2 : 160 ≤ y ∧ y ≤ 191 <;> by_cases y3 : 128 ≤ y ∧ y ≤ 159 <;> by_cases y4 : 144 ≤ y ∧ y ≤ 191 <;> by_cases y5 : 128 ≤ y ∧ y ≤ 143 <;> (try simp only [y1, z1, w1, y2, y3, y4, y5, if_true, if_false, true_and, false_and, and_true, and_false, reduceIte, Bool.false_eq_true, and_self, or_self, or_false, or_true, or_self]) <;> first | rfl | (exfalso; omega) | (split <;> rfl) | skip
  by_cases c4 : x = 237
  · have e : ¬ (0 ≤ x ∧ x ≤ 127) ∧ ¬ (194 ≤ x ∧ x ≤ 223) ∧ ¬ (x = 224) ∧ ¬ (225 ≤ x ∧ x ≤ 236) ∧ ¬ (238 ≤ x ∧ x ≤ 239) ∧ ¬ (x = 240) ∧ ¬ (241 ≤ x ∧ x ≤ 243) ∧ ¬ (x = 244) := by omega
    obtain ⟨e0, e1, e2, e3, e4, e5, e6, e7⟩ := e
    simp only [eq_true c4, eq_false e0, eq_false e1, eq_false e2, eq_false e3, eq_false e4, eq_false e5, eq_false e6, eq_false e7, if_true, if_false, false_and, or_false, false_or, true_and, and_false]
    clear e0 e1 e2 e3 e4 e5 e6 e7 c4 h0 h1 h2 h3
    by_cases y1 : 128 ≤ y ∧ y ≤ 191 <;> by_cases z1 : 128 ≤ z ∧ z ≤ 191 <;> by_cases w1 : 128 ≤ w ∧ w ≤ 191 <;> by_cases y2 : 160 ≤ y ∧ y ≤ 191 <;> by_cases y3 : 128 ≤ y ∧ y ≤ 159 <;> by_cases y4 : 144 ≤ y ∧ y ≤ 191 <;> by_cases y5 : 128 ≤ y ∧ y ≤ 143 <;> (try simp only [y1, z1, w1, y2, y3, y4, y5, if_true, if_false, true_and, false_and, and_true, and_false, reduceIte, Bool.false_eq_true, and_self, or_self, or_false, or_true, or_self]) <;> first | rfl | (exfalso; omega) | (split <;> rfl) | skip
  by_cases c5 : 238 ≤ x ∧ x ≤ 239
  · have e : ¬ (0 ≤ x ∧ x ≤ 127) ∧ ¬ (194 ≤ x ∧ x ≤ 223) ∧ ¬ (x = 224) ∧ ¬ (225 ≤ x ∧ x ≤ 236) ∧ ¬ (x = 237) ∧ ¬ (x = 240) ∧ ¬ (241 ≤ x ∧ x ≤ 243) ∧ ¬ (x = 244) := by omega
    obtain ⟨e0, e1, e2, e3, e4, e5, e6, e7⟩ := e
    simp only [eq_true c5, eq_false e0, eq_false e1, eq_false e2, eq_false e3, eq_false e4, eq_false e5, eq_false e6, eq_false e7, if_true, if_false, false_and, or_false, false_or, true_and, and_false]
    clear e0 e1 e2 e3 e4 e5 e6 e7 c5 h0 h1 h2 h3
    by_cases y1 : 128 ≤ y ∧ y ≤ 191 <;> by_cases z1 : 128 ≤ z ∧ z ≤ 191 <;> by_cases w1 : 128 ≤ w ∧ w ≤ 191 <;> by_cases y2 : 160 ≤ y ∧ y ≤ 191 <;> by_cases y3 : 128 ≤ y ∧ y ≤ 159 <;> by_cases y4 : 144 ≤ y ∧ y ≤ 191 <;> by_cases y5 : 128 ≤ y ∧ y ≤ 143 <;> (try simp only [y1, z1, w1, y2, y3, y4, y5, if_true, if_false, true_and, false_and, and_true, and_false, reduceIte, Bool.false_eq_true, and_self, or_self, or_false, or_true, or_self]) <;> first | rfl | (exfalso; omega) | (split <;> rfl) | skip
  by_cases c6 : x = 240
  · have e : ¬ (0 ≤ x ∧ x ≤ 127) ∧ ¬ (194 ≤ x ∧ x ≤ 223) ∧ ¬ (x = 224) ∧ ¬ (225 ≤ x ∧ x ≤ 236) ∧ ¬ (x = 237) ∧ ¬ (238 ≤ x ∧ x ≤ 239) ∧ ¬ (241 ≤ x ∧ x ≤ 243) ∧ ¬ (x = 244) := by omega
    obtain ⟨e0, e1, e2, e3, e4, e5, e6, e7⟩ := e
    simp only [eq_true c6, eq_false e0, eq_false e1, eq_false e2, eq_false e3, eq_false e4, eq_false e5, eq_false e6, eq_false e7, if_true, if_false, false_and, or_false, false_or, true_and, and_false]
    clear e0 e1 e2 e3 e4 e5 e6 e7 c6 h0 h1 h2 h3
    by_cases y1 : 128 ≤ y ∧ y ≤ 191 <;> by_cases z1 : 128 ≤ z ∧ z ≤ 191 <;> by_cases w1 : 128 ≤ w ∧ w ≤ 191 <;> by_cases y2 : 160 ≤ y ∧ y ≤ 191 <;> by_cases y3 : 128 ≤ y ∧ y ≤ 159 <;> by_cases y4 : 144 ≤ y ∧ y ≤ 191 <;> by_cases y5 : 128 ≤ y ∧ y ≤ 143 <;> (try simp only [y1, z1, w1, y2, y3, y4, y5, if_true, if_false, true_and, false_and, and_true, and_false, reduceIte, Bool.false_eq_true, and_self, or_self, or_false, or_true, or_self]) <;> first | rfl | (exfalso; omega) | (split <;> rfl) | skip
  by_cases c7 : 241 ≤ x ∧ x ≤ 243
  · have e : ¬ (0 ≤ x ∧ x ≤ 127) ∧ ¬ (194 ≤ x ∧ x ≤ 223) ∧ ¬ (x = 224) ∧ ¬ (225 ≤ x ∧ x ≤ 236) ∧ ¬ (x = 237) ∧ ¬ (238 ≤ x ∧ x ≤ 239) ∧ ¬ (x = 240) ∧ ¬ (x = 244) := by omega
    obtain ⟨e0, e1, e2, e3, e4, e5, e6, e7⟩ := e
    simp only [eq_true c7, eq_false e0, eq_false e1, eq_false e2, eq_false e3, eq_false e4, eq_false e5, eq_false e6, eq_false e7, if_true, if_false, false_and, or_false, false_or, true_and, and_false]
    clear e0 e1 e2 e3 e4 e5 e6 e7 c7 h0 h1 h2 h3
    by_cases y1 : 128 ≤ y ∧ y ≤ 191 <;> by_cases z1 : 128 ≤ z ∧ z ≤ 191 <;> by_cases w1 : 128 ≤ w ∧ w ≤ 191 <;> by_cases y2 : 160 ≤ y ∧ y ≤ 191 <;> by_cases y3 : 128 ≤ y ∧ y ≤ 159 <;> by_cases y4 : 144 ≤ y ∧ y ≤ 191 <;> by_cases y5 : 128 ≤ y ∧ y ≤ 143 <;> (try simp only [y1, z1, w1, y2, y3, y4, y5, if_true, if_false, true_and, false_and, and_true, and_false, reduceIte, Bool.false_eq_true, and_self, or_self, or_false, or_true, or_self]) <;> first | rfl | (exfalso; omega) | (split <;> rfl) | skip
  by_cases c8 : x = 244
  · have e : ¬ (0 ≤ x ∧ x ≤ 127) ∧ ¬ (194 ≤ x ∧ x ≤ 223) ∧ ¬ (x = 224) ∧ ¬ (225 ≤ x ∧ x ≤ 236) ∧ ¬ (x = 237) ∧ ¬ (238 ≤ x ∧ x ≤ 239) ∧ ¬ (x = 240) ∧ ¬ (241 ≤ x ∧ x ≤ 243) := by omega
    obtain ⟨e0, e1, e2, e3, e4, e5, e6, e7⟩ := e
    simp only [eq_true c8, eq_false e0, eq_false e1, eq_false e2, eq_false e3, eq_false e4, eq_false e5, eq_false e6, eq_false e7, if_true, if_false, false_and, or_false, false_or, true_and, and_false]
    clear e0 e1 e2 e3 e4 e5 e6 e7 c8 h0 h1 h2 h3
    by_cases y1 : 128 ≤ y ∧ y ≤ 191 <;> by_cases z1 : 128 ≤ z ∧ z ≤ 191 <;> by_cases w1 : 128 ≤ w ∧ w ≤ 191 <;> by_cases y2 : 160 ≤ y ∧ y ≤ 191 <;> by_cases y3 : 128 ≤ y ∧ y ≤ 159 <;> by_cases y4 : 144 ≤ y ∧ y ≤ 191 <;> by_cases y5 : 128 ≤ y ∧ y ≤ 143 <;> (try simp only [y1, z1, w1, y2, y3, y4, y5, if_true, if_false, true_and, false_and, and_true, and_false, reduceIte, Bool.false_eq_true, and_self, or_self, or_false, or_true, or_self]) <;> first | rfl | (exfalso; omega) | (split <;> rfl) | skip
  simp only [eq_false c0, eq_false c1, eq_false c2, eq_false c3, eq_false c4, eq_false c5, eq_false c6, eq_false c7, eq_false c8, if_false, false_and, or_false, and_false, ite_self]
  rfl
end Go.Proofs.YtbomhpfckplgaaaDoor.P
namespace Go.Proofs.YtbomhpfckplgaaaDoor.P
open Go Go.RowKit Go.Proofs.YtbomhpfckplgaaaDoorW.PrintWords Utf
set_option linter.unusedVariables false
set_option linter.unusedSimpArgs false
def runeV (n : Nat) (x y z w : Int) : Int := if n = 1 then x else if n = 2 then (x % 32) * 64 + y % 64 else if n = 3 then ((x % 16) * 64 + y % 64) * 64 + z % 64 else (((x % 8) * 64 + y % 64) * 64 + z % 64) * 64 + w % 64
def rune (l : List Int) (p : Nat) : Int := runeV (long l p) (at_ l p) (at_ l (p + 1)) (at_ l (p + 2)) (at_ l (p + 3))
set_option maxHeartbeats 4000000 in
theorem dec_pure (n a b c d : Nat) (x y z w : Int) (hx : x = a) (ha : a ≤ 255) (hn : 0 < n) (hy : (1 < n ∧ y = b ∧ b ≤ 255) ∨ (n ≤ 1 ∧ y = -1)) (hz : (2 < n ∧ z = c ∧ c ≤ 255) ∨ (n ≤ 2 ∧ z = -1)) (hw : (3 < n ∧ w = d ∧ d ≤ 255) ∨ (n ≤ 3 ∧ w = -1)) :
    Lib.decodeN n a b c d = if long4 x y z w = 0 then (65533, 1) else ((runeV (long4 x y z w) x y z w).toNat, long4 x y z w) := by
  subst hx
  unfold Lib.decodeN
  by_cases A1 : a < 128
  · have e : long4 a y z w = 1 := by unfold long4; rw [if_pos (by omega)]
    rw [if_pos A1, e]
    simp [runeV]
  rw [if_neg A1]
  by_cases A2 : a / 32 = 6 ∧ (1 < n ∧ b / 64 = 2)
  · rw [if_pos A2]
    by_cases A : a % 32 * 64 + b % 64 ≥ 128
    · have e : long4 a y z w = 2 := by
        unfold long4 tail
        rw [if_neg (by omega), if_pos (by omega)]
      have hyb : y = b := by omega
      rw [if_pos A, e]
      simp only [runeV, hyb]
      simp
      omega
    · have e : long4 a y z w = 0 := by
        unfold long4 three four tail
        rw [if_neg (by omega), if_neg (by omega), if_neg (by omega), if_neg (by omega)]
      rw [if_neg A, e]
      rfl
  rw [if_neg A2]
  by_cases A3 : a / 16 = 14 ∧ (1 < n ∧ b / 64 = 2) ∧ (2 < n ∧ c / 64 = 2)
  · rw [if_pos A3]
    have hyb : y = b := by omega
    have hzc : z = c := by omega
    have m1 : a % 16 = a - 224 := by omega
    have m2 : b % 64 = b - 128 := by omega
    have m3 : c % 64 = c - 128 := by omega
    have m4 : 224 ≤ a ∧ a ≤ 239 ∧ 128 ≤ b ∧ b ≤ 191 ∧ 128 ≤ c ∧ c ≤ 191 := by omega
    clear A1 A2 A3
    rw [m1, m2, m3]
    have n1 : (a - 224) * 4096 + (b - 128) * 64 + (c - 128) + 925824 = a * 4096 + b * 64 + c := by omega
    obtain ⟨v, hv⟩ : ∃ v, (a - 224) * 4096 + (b - 128) * 64 + (c - 128) = v := ⟨_, rfl⟩
    rw [hv]
    rw [hv] at n1
    have key : (v ≥ 2048 ∧ (v < 55296 ∨ (57344 ≤ v ∧ v ≤ 1114111))) ↔ ((a = 224 ∧ 160 ≤ b) ∨ (225 ≤ a ∧ a ≤ 236) ∨ (a = 237 ∧ b ≤ 159) ∨ (238 ≤ a)) := by
      constructor
      · intro h
        rcases Nat.lt_trichotomy a 237 with h1 | h1 | h1
        · omega
        · subst h1; omega
        · omega
      · rintro (⟨rfl, h⟩ | ⟨h, h'⟩ | ⟨rfl, h⟩ | h) <;> omega
    by_cases A : v ≥ 2048 ∧ (v < 55296 ∨ (57344 ≤ v ∧ v ≤ 1114111))
    · have A' := key.1 A
      have e : long4 a y z w = 3 := by
        clear A hv n1 key
        unfold long4 three four tail
        rw [if_neg (by omega), if_neg (by omega), if_pos (by refine ⟨by omega, ?_⟩; rcases A' with h | h | h | h; exact .inl (by omega); exact .inr (.inl (by omega)); exact .inr (.inr (.inl (by omega))); exact .inr (.inr (.inr (by omega))))]
      rw [if_pos A, e]
      simp only [runeV, hyb, hzc]
      simp
      omega
    · have A' := fun h => A (key.2 h)
      have e : long4 a y z w = 0 := by
        clear A hv n1 key
        unfold long4 three four tail
        rw [if_neg (by omega), if_neg (by omega), if_neg (by rintro ⟨h1, h2⟩; rcases h2 with h2 | h2 | h2 | h2; exact A' (.inl (by omega)); exact A' (.inr (.inl (by omega))); exact A' (.inr (.inr (.inl (by omega)))); exact A' (.inr (.inr (.inr (by omega))))), if_neg (by omega)]
      rw [if_neg A, e]
      rfl
  rw [if_neg A3]
  by_cases A4 : a / 8 = 30 ∧ (1 < n ∧ b / 64 = 2) ∧ (2 < n ∧ c / 64 = 2) ∧ (3 < n ∧ d / 64 = 2)
  · rw [if_pos A4]
    have hyb : y = b := by omega
    have hzc : z = c := by omega
    have hwd : w = d := by omega
    have m1 : a % 8 = a - 240 := by omega
    have m2 : b % 64 = b - 128 := by omega
    have m3 : c % 64 = c - 128 := by omega
    have m5 : d % 64 = d - 128 := by omega
    have m4 : 240 ≤ a ∧ a ≤ 247 ∧ 128 ≤ b ∧ b ≤ 191 ∧ 128 ≤ c ∧ c ≤ 191 ∧ 128 ≤ d ∧ d ≤ 191 := by omega
    clear A1 A2 A3 A4
    rw [m1, m2, m3, m5]
    have n1 : (a - 240) * 262144 + (b - 128) * 4096 + (c - 128) * 64 + (d - 128) + 63447168 = a * 262144 + b * 4096 + c * 64 + d := by omega
    obtain ⟨v, hv⟩ : ∃ v, (a - 240) * 262144 + (b - 128) * 4096 + (c - 128) * 64 + (d - 128) = v := ⟨_, rfl⟩
    rw [hv]
    rw [hv] at n1
    have key : (v ≥ 65536 ∧ (v < 55296 ∨ (57344 ≤ v ∧ v ≤ 1114111))) ↔ ((a = 240 ∧ 144 ≤ b) ∨ (241 ≤ a ∧ a ≤ 243) ∨ (a = 244 ∧ b ≤ 143)) := by
      constructor
      · intro h
        rcases Nat.lt_trichotomy a 244 with h1 | h1 | h1
        · omega
        · subst h1; omega
        · omega
      · rintro (⟨rfl, h⟩ | ⟨h, h'⟩ | ⟨rfl, h⟩) <;> omega
    by_cases A : v ≥ 65536 ∧ (v < 55296 ∨ (57344 ≤ v ∧ v ≤ 1114111))
    · have A' := key.1 A
      have e : long4 a y z w = 4 := by
        clear A hv n1 key
        unfold long4 three four tail
        rw [if_neg (by omega), if_neg (by omega), if_neg (by omega), if_pos (by refine ⟨by omega, by omega, ?_⟩; rcases A' with h | h | h; exact .inl (by omega); exact .inr (.inl (by omega)); exact .inr (.inr (by omega)))]
      rw [if_pos A, e]
      simp only [runeV, hyb, hzc, hwd]
      simp
      omega
    · have A' := fun h => A (key.2 h)
      have e : long4 a y z w = 0 := by
        clear A hv n1 key
        unfold long4 three four tail
        rw [if_neg (by omega), if_neg (by omega), if_neg (by omega), if_neg (by rintro ⟨h1, h2, h3⟩; rcases h3 with h2 | h2 | h2; exact A' (.inl (by omega)); exact A' (.inr (.inl (by omega))); exact A' (.inr (.inr (by omega))))]
      rw [if_neg A, e]
      rfl
  rw [if_neg A4]
  have B2 : ¬ (192 ≤ a ∧ a ≤ 223 ∧ 1 < n ∧ 128 ≤ b ∧ b ≤ 191) := by omega
  have B3 : ¬ (224 ≤ a ∧ a ≤ 239 ∧ 1 < n ∧ 128 ≤ b ∧ b ≤ 191 ∧ 2 < n ∧ 128 ≤ c ∧ c ≤ 191) := by omega
  have B4 : ¬ (240 ≤ a ∧ a ≤ 247 ∧ 1 < n ∧ 128 ≤ b ∧ b ≤ 191 ∧ 2 < n ∧ 128 ≤ c ∧ c ≤ 191 ∧ 3 < n ∧ 128 ≤ d ∧ d ≤ 191) := by omega
  have e : long4 a y z w = 0 := by
    clear A2 A3 A4
    have C2 : ¬ ((194 ≤ (a : Int) ∧ (a : Int) ≤ 223) ∧ (128 ≤ y ∧ y ≤ 191)) := by
      rintro ⟨h1, h2⟩
      rcases hy with ⟨h3, h4, h5⟩ | ⟨h3, h4⟩ <;> omega
    have C3 : ¬ (224 ≤ a ∧ a ≤ 239 ∧ (128 ≤ y ∧ y ≤ 191) ∧ (128 ≤ z ∧ z ≤ 191)) := by
      rintro ⟨h1, h2, h3, h4⟩
      rcases hy with ⟨k1, k2, k3⟩ | ⟨k1, k2⟩ <;> rcases hz with ⟨k4, k5, k6⟩ | ⟨k4, k5⟩ <;> omega
    have C4 : ¬ (240 ≤ a ∧ a ≤ 247 ∧ (128 ≤ y ∧ y ≤ 191) ∧ (128 ≤ z ∧ z ≤ 191) ∧ (128 ≤ w ∧ w ≤ 191)) := by
      rintro ⟨h1, h2, h3, h4, h5⟩
      rcases hy with ⟨k1, k2, k3⟩ | ⟨k1, k2⟩ <;> rcases hz with ⟨k4, k5, k6⟩ | ⟨k4, k5⟩ <;> rcases hw with ⟨k7, k8, k9⟩ | ⟨k7, k8⟩ <;> omega
    clear B2 B3 B4 hy hz hw
    unfold long4 three four tail
    rw [if_neg (by omega), if_neg C2, if_neg (by rintro ⟨h1, h2⟩; rcases h2 with h2 | h2 | h2 | h2 <;> exact C3 ⟨by omega, by omega, by omega, by omega⟩), if_neg (by rintro ⟨h1, h2, h3⟩; rcases h3 with h3 | h3 | h3 <;> exact C4 ⟨by omega, by omega, by omega, by omega, by omega⟩)]
  rw [e]
  rfl
theorem get_bytes {l : List Int} (hl : Bytes l) {i : Nat} (h : i < l.length) : ((strOfNums l).get! i).toNat = (at_ l i).toNat := by
  rw [← Lib.getD_get!', strOfNums_data, List.getD_eq_getElem?_getD, List.getElem?_map, List.getElem?_eq_getElem h, at_nat l i h]
  have := hl _ (List.getElem_mem h)
  show (UInt8.ofNat (l[i].toNat)).toNat = _
  rw [UInt8.toNat_ofNat']
  exact Nat.mod_eq_of_lt (by omega)
theorem decode_eq {l : List Int} (hl : Bytes l) {p : Nat} (h : p < l.length) : Utf8.decode (strOfNums l) p = if long l p = 0 then (65533, 1) else ((rune l p).toNat, long l p) := by
  rw [Lib.decode_at, strOfNums_size]
  have h0 := at_byte hl h
  refine dec_pure _ _ _ _ _ _ _ _ _ (by rw [get_bytes hl h]; omega) (by rw [get_bytes hl h]; omega) (by omega) ?_ ?_ ?_
  · rcases Nat.lt_or_ge (p + 1) l.length with h1 | h1
    · have := at_byte hl h1
      exact .inl ⟨by omega, by rw [get_bytes hl h1]; omega, by rw [get_bytes hl h1]; omega⟩
    · exact .inr ⟨by omega, at_no l _ h1⟩
  · rcases Nat.lt_or_ge (p + 2) l.length with h1 | h1
    · have := at_byte hl h1
      exact .inl ⟨by omega, by rw [get_bytes hl h1]; omega, by rw [get_bytes hl h1]; omega⟩
    · exact .inr ⟨by omega, at_no l _ h1⟩
  · rcases Nat.lt_or_ge (p + 3) l.length with h1 | h1
    · have := at_byte hl h1
      exact .inl ⟨by omega, by rw [get_bytes hl h1]; omega, by rw [get_bytes hl h1]; omega⟩
    · exact .inr ⟨by omega, at_no l _ h1⟩
theorem rune_range (x y z w : Int) (hx : 0 ≤ x) : (long4 x y z w = 0) ∨ (long4 x y z w = 1 ∧ 0 ≤ runeV 1 x y z w ∧ runeV 1 x y z w ≤ 127) ∨ (long4 x y z w = 2 ∧ 128 ≤ runeV 2 x y z w ∧ runeV 2 x y z w ≤ 2047) ∨
    (long4 x y z w = 3 ∧ 2048 ≤ runeV 3 x y z w ∧ runeV 3 x y z w ≤ 65535 ∧ ¬ (55296 ≤ runeV 3 x y z w ∧ runeV 3 x y z w ≤ 57343) ∧ (runeV 3 x y z w = 65533 ↔ (x = 239 ∧ y = 191 ∧ z = 189))) ∨
    (long4 x y z w = 4 ∧ 65536 ≤ runeV 4 x y z w ∧ runeV 4 x y z w ≤ 1114111) := by
  unfold long4
  by_cases c1 : 0 ≤ x ∧ x ≤ 127
  · rw [if_pos c1]
    exact .inr (.inl ⟨rfl, by simp [runeV]; omega, by simp [runeV]; omega⟩)
  rw [if_neg c1]
  by_cases c2 : (194 ≤ x ∧ x ≤ 223) ∧ tail y
  · rw [if_pos c2]
    unfold tail at c2
    exact .inr (.inr (.inl ⟨rfl, by simp [runeV]; omega, by simp [runeV]; omega⟩))
  rw [if_neg c2]
  by_cases c3 : tail z ∧ three x y
  · rw [if_pos c3]
    obtain ⟨hz, h3⟩ := c3
    unfold three at h3
    unfold tail at hz h3
    have e : runeV 3 x y z w = (x - 224) * 4096 + (y - 128) * 64 + (z - 128) := by simp [runeV]; omega
    rw [e]
    refine .inr (.inr (.inr (.inl ⟨rfl, ?_, ?_, ?_, ?_, ?_⟩)))
    · rcases h3 with h | h | h | h <;> omega
    · rcases h3 with h | h | h | h <;> omega
    · rcases h3 with h | h | h | h <;> omega
    · intro h
      rcases h3 with h | h | h | h <;> omega
    · rintro ⟨rfl, rfl, rfl⟩
      omega
  rw [if_neg c3]
  by_cases c4 : tail z ∧ tail w ∧ four x y
  · rw [if_pos c4]
    obtain ⟨hz, hw, h4⟩ := c4
    unfold four at h4
    unfold tail at hz hw h4
    have e : runeV 4 x y z w = (x - 240) * 262144 + (y - 128) * 4096 + (z - 128) * 64 + (w - 128) := by simp [runeV]; omega
    rw [e]
    refine .inr (.inr (.inr (.inr ⟨rfl, ?_, ?_⟩)))
    · rcases h4 with h | h | h <;> omega
    · rcases h4 with h | h | h <;> omega
  rw [if_neg c4]
  exact .inl rfl
theorem encode_size {r : Int} (h : (0 ≤ r ∧ r < 55296) ∨ (57344 ≤ r ∧ r ≤ 1114111)) : (Utf8.encode r).size = if r < 128 then 1 else if r < 2048 then 2 else if r < 65536 then 3 else 4 := by
  have hv : Utf8.valid r = true := by unfold Utf8.valid; simp; omega
  unfold Utf8.encode
  simp only [hv, if_true]
  have e1 : (r.toNat < 128) ↔ r < 128 := by omega
  have e2 : (r.toNat < 2048) ↔ r < 2048 := by omega
  have e3 : (r.toNat < 65536) ↔ r < 65536 := by omega
  by_cases c1 : r < 128
  · rw [if_pos (e1.2 c1), if_pos c1]; rfl
  rw [if_neg (fun h => c1 (e1.1 h)), if_neg c1]
  by_cases c2 : r < 2048
  · rw [if_pos (e2.2 c2), if_pos c2]; rfl
  rw [if_neg (fun h => c2 (e2.1 h)), if_neg c2]
  by_cases c3 : r < 65536
  · rw [if_pos (e3.2 c3), if_pos c3]; rfl
  rw [if_neg (fun h => c3 (e3.1 h)), if_neg c3]; rfl
def stepN (l : List Int) (p : Nat) : Int × Int × Bool := if long l p = 0 then (65533, 1, false) else (rune l p, (long l p : Int), true)
theorem three_bytes {l : List Int} (hl : Bytes l) {p : Nat} (h : p < l.length) : (3 ≤ ((strOfNums l).extract p (strOfNums l).size).size ∧ ((((strOfNums l).extract p (strOfNums l).size).extract 0 3).toList == [239, 191, 189]) = true) ↔ (at_ l p = 239 ∧ at_ l (p + 1) = 191 ∧ at_ l (p + 2) = 189) := by
  rw [Lib.tail_size, strOfNums_size, ByteArray.toList_eq, Lib.extract_data, Lib.extract_data, strOfNums_data]
  have e0 : ∀ (q : Nat) (v : Nat) (hv : v < 256) (hq : q < l.length), (UInt8.ofNat (l[q].toNat) = UInt8.ofNat v) ↔ at_ l q = v := by
    intro q v hv hq
    have hb := hl _ (List.getElem_mem hq)
    rw [at_nat l q hq]
    constructor
    · intro h
      have h2 := congrArg UInt8.toNat h
      rw [UInt8.toNat_ofNat', UInt8.toNat_ofNat', Nat.mod_eq_of_lt (by omega), Nat.mod_eq_of_lt (by omega)] at h2
      omega
    · intro h
      rw [h]
      rfl
  by_cases h3 : 3 ≤ l.length - p
  · have d : (((l.map fun n => UInt8.ofNat n.toNat).drop p).take ((strOfNums l).size - p) |>.drop 0 |>.take (3 - 0)) = [UInt8.ofNat (l[p]).toNat, UInt8.ofNat (l[p + 1]).toNat, UInt8.ofNat (l[p + 2]).toNat] := by
      rw [strOfNums_size, List.drop_zero, List.take_take, List.drop_eq_getElem_cons (by simp; omega), List.drop_eq_getElem_cons (by simp; omega), List.drop_eq_getElem_cons (by simp; omega)]
      rw [show min (3 - 0) (l.length - p) = 3 from by omega]
      simp
    rw [strOfNums_size] at d
    rw [d, beq_iff_eq]
    simp only [List.cons.injEq, and_true]
    have k0 := e0 p 239 (by omega) (by omega)
    have k1 := e0 (p + 1) 191 (by omega) (by omega)
    have k2 := e0 (p + 2) 189 (by omega) (by omega)
    constructor
    · rintro ⟨_, a, b, c⟩
      exact ⟨k0.1 a, k1.1 b, k2.1 c⟩
    · rintro ⟨a, b, c⟩
      exact ⟨h3, k0.2 a, k1.2 b, k2.2 c⟩
  · constructor
    · rintro ⟨h4, _⟩
      exact absurd h4 h3
    · rintro ⟨_, _, c⟩
      rw [at_no l (p + 2) (by omega)] at c
      omega
theorem stepW_eq {l : List Int} (hl : Bytes l) {p : Nat} (h : p < l.length) : stepW ((strOfNums l).extract p (strOfNums l).size) = stepN l p := by
  have hs : ¬ ((strOfNums l).extract p (strOfNums l).size).size = 0 := by rw [Lib.tail_size, strOfNums_size]; omega
  have hx := at_byte hl h
  unfold stepW stepN
  rw [if_neg hs, Lib.tail_decode, Nat.add_zero, decode_eq hl h]
  simp only [three_bytes hl h]
  have hr := rune_range (at_ l p) (at_ l (p + 1)) (at_ l (p + 2)) (at_ l (p + 3)) hx.1
  unfold rune
  unfold long at hr ⊢
  generalize at_ l p = x at *
  generalize at_ l (p + 1) = y at *
  generalize at_ l (p + 2) = z at *
  generalize at_ l (p + 3) = w at *
  rcases hr with e | ⟨e, h1, h2⟩ | ⟨e, h1, h2⟩ | ⟨e, h1, h2, h3, h4⟩ | ⟨e, h1, h2⟩
  · rw [e]
    simp only [if_true]
    rw [if_neg]
    rintro ⟨rfl, rfl, rfl⟩
    revert e
    unfold long4 three four tail
    simp
  all_goals rw [e]
  · have hne : ((runeV 1 x y z w).toNat = 65533) = False := by simp; omega
    simp only [hne, if_false, if_neg (show ¬ (1 = 0) by decide)]
    rw [Int.toNat_of_nonneg (by omega), encode_size (by omega), if_pos (by omega)]
  · have hne : ((runeV 2 x y z w).toNat = 65533) = False := by simp; omega
    simp only [hne, if_false, if_neg (show ¬ (2 = 0) by decide)]
    rw [Int.toNat_of_nonneg (by omega), encode_size (by omega), if_neg (by omega), if_pos (by omega)]
  · by_cases hne : runeV 3 x y z w = 65533
    · have hb := h4.1 hne
      simp only [if_neg (show ¬ (3 = 0) by decide)]
      rw [if_pos (by omega), if_pos hb, hne]
      rfl
    · simp only [if_neg (show ¬ (3 = 0) by decide)]
      rw [if_neg (by omega), Int.toNat_of_nonneg (by omega), encode_size (by omega), if_neg (by omega), if_neg (by omega), if_pos (by omega)]
  · have hne : ((runeV 4 x y z w).toNat = 65533) = False := by simp; omega
    simp only [hne, if_false, if_neg (show ¬ (4 = 0) by decide)]
    rw [Int.toNat_of_nonneg (by omega), encode_size (by omega), if_neg (by omega), if_neg (by omega), if_neg (by omega)]
end Go.Proofs.YtbomhpfckplgaaaDoor.P
namespace Go.Proofs.YtbomhpfckplgaaaDoor.P
open Go Go.RowKit Go.Proofs.YtbomhpfckplgaaaDoorW.PrintWords Utf
set_option linter.unusedVariables false
set_option linter.unusedSimpArgs false
theorem ref_long {l : List Int} (hl : Bytes l) (p : Nat) (hp : p < 4611686018427387904) (k : Nat) : galleyref02_Long.f (k + 3) l (p : Int) = some (long l p : Int) := by
  refine ref_long4 k _ _ _ _ l p (ref_at hl p) ?_ ?_ ?_
  · rw [w64 (by omega) (by omega)]; exact ref_at hl (p + 1)
  · rw [w64 (by omega) (by omega)]; exact ref_at hl (p + 2)
  · rw [w64 (by omega) (by omega)]; exact ref_at hl (p + 3)
theorem ref_inside_step {l : List Int} (hl : Bytes l) (p : Nat) (hp : p < 4611686018427387904) (j : Nat) (h0 : 0 < j) (hj : j ≤ 3) (k : Nat) :
    galleyref02_Inside.l0 (k + 4) l (p : Int) (j : Int) = if j ≤ p ∧ j < long l (p - j) then some true else galleyref02_Inside.l0 (k + 3) l (p : Int) ((j + 1 : Nat) : Int) := by
  conv => lhs; unfold galleyref02_Inside.l0
  rw [if_pos (show (j : Int) ≤ 3 by omega), w64 (n := (p : Int) - j) (by omega) (by omega), w64 (n := (j : Int) + 1) (by omega) (by omega)]
  by_cases h : j ≤ p
  · rw [if_pos (show (p : Int) - j ≥ 0 by omega), show (p : Int) - j = ((p - j : Nat) : Int) from by omega, ref_long hl (p - j) (by omega) k]
    simp only [Option.bind_some]
    by_cases h2 : j < long l (p - j)
    · rw [if_pos (show ((long l (p - j) : Nat) : Int) > (j : Int) by omega), if_pos ⟨h, h2⟩]
    · rw [if_neg (show ¬ ((long l (p - j) : Nat) : Int) > (j : Int) by omega), if_neg (fun h3 => h2 h3.2)]
      rfl
  · rw [if_neg (show ¬ (p : Int) - j ≥ 0 by omega), if_neg (fun h3 => h h3.1)]
    rfl
theorem ref_inside {l : List Int} (hl : Bytes l) (p : Nat) (hp : p < 4611686018427387904) (k : Nat) : galleyref02_Inside.f (k + 7) l (p : Int) = some (inside l p) := by
  unfold galleyref02_Inside.f
  have h1 := ref_inside_step hl p hp 1 (by omega) (by omega) (k + 3)
  have h2 := ref_inside_step hl p hp 2 (by omega) (by omega) (k + 2)
  have h3 := ref_inside_step hl p hp 3 (by omega) (by omega) (k + 1)
  have h4 : galleyref02_Inside.l0 (k + 4) l (p : Int) ((3 + 1 : Nat) : Int) = some false := by
    unfold galleyref02_Inside.l0
    rw [if_neg (by omega)]
  have e1 : ((1 : Nat) : Int) = 1 := rfl
  rw [e1] at h1
  rw [h1, h2, h3, h4]
  have hi : inside l p = ((decide (1 ≤ p) && decide (1 < long l (p - 1))) || ((decide (2 ≤ p) && decide (2 < long l (p - 2))) || (decide (3 ≤ p) && decide (3 < long l (p - 3))))) := by
    simp [inside, List.range_succ]
  rw [hi]
  by_cases c1 : 1 ≤ p ∧ 1 < long l (p - 1)
  · simp [c1]
  rw [if_neg c1]
  by_cases c2 : 2 ≤ p ∧ 2 < long l (p - 2)
  · simp [c2]
  rw [if_neg c2]
  by_cases c3 : 3 ≤ p ∧ 3 < long l (p - 3)
  · simp [c3]
  rw [if_neg c3]
  simp only [not_and] at c1 c2 c3
  by_cases d1 : 1 ≤ p <;> by_cases d2 : 2 ≤ p <;> by_cases d3 : 3 ≤ p <;> simp [d1, d2, d3] <;> omega
theorem ev_inside {l : List Int} (hl : Bytes l) (p : Nat) (hp : p < 4611686018427387904) : Ev (fun k => galleyref02_Inside.f k l (p : Int)) (inside l p) :=
  ⟨7, fun k hk => by obtain ⟨j, rfl⟩ : ∃ j, k = j + 7 := ⟨k - 7, by omega⟩; exact ref_inside hl p hp j⟩
def stepsF (l : List Int) : Nat → Nat → List (Nat × Int × Int × Bool)
  | 0, _ => []
  | k + 1, p => if p < l.length then (p, stepN l p) :: stepsF l k (p + width l p) else []
def stepsL (l : List Int) : List (Nat × Int × Int × Bool) := stepsF l l.length 0
theorem stepN_w (l : List Int) (p : Nat) : (stepN l p).2.1 = (width l p : Int) := by
  unfold stepN width
  split <;> rfl
theorem decode_w {l : List Int} (hl : Bytes l) {p : Nat} (h : p < l.length) : (Utf8.decode (strOfNums l) p).2 = width l p := by
  rw [decode_eq hl h]
  unfold width
  split <;> rfl
theorem items_F {l : List Int} (hl : Bytes l) : ∀ (k p : Nat), itemsFrom (strOfNums l) k p = stepsF l k p
  | 0, _ => rfl
  | k + 1, p => by
    unfold itemsFrom stepsF
    rw [strOfNums_size]
    by_cases h : p < l.length
    · rw [if_pos h, if_pos h, decode_w hl h, items_F hl k]
      have := stepW_eq hl h
      rw [strOfNums_size] at this
      rw [this]
    · rw [if_neg h, if_neg h]
theorem items_eq {l : List Int} (hl : Bytes l) : items (strOfNums l) = stepsL l := by
  unfold items stepsL
  rw [strOfNums_size]
  exact items_F hl _ _
theorem stepsF_length (l : List Int) : ∀ (k p : Nat), (stepsF l k p).length ≤ l.length - p
  | 0, _ => by simp [stepsF]
  | k + 1, p => by
    unfold stepsF
    by_cases h : p < l.length
    · rw [if_pos h]
      have h1 := stepsF_length l k (p + width l p)
      have h2 := width_pos l p
      simp
      omega
    · rw [if_neg h]; simp
theorem ev_edges_end {l : List Int} (hl : Bytes l) (hs : Small l) (acc : List Int) (ha : acc.length < 17592186044416) : Ev (fun n => galleyref02_Edges.l0 n l acc (l.length : Int)) (acc ++ [(l.length : Int)]) := by
  unfold Small at hs
  refine Ev.step (G := fun k => (galleyref02_Inside.f k l (l.length : Int)).bind fun t => if t = true then galleyref02_Edges.l0 k l acc ((l.length + 1 : Nat) : Int) else galleyref02_Edges.l0 k l (acc ++ [(l.length : Int)]) ((l.length + 1 : Nat) : Int)) (fun k => ?_) ?_
  · conv => lhs; unfold galleyref02_Edges.l0
    rw [if_pos (Int.le_refl _), w64 (n := (l.length : Int) + 1) (by omega) (by omega), if_pos ha]
    rfl
  · refine Ev.bind (ev_inside hl l.length (by omega)) ?_
    rw [inside_len]
    refine Ev.ite_neg (by decide) (Ev.step (G := fun _ => some (acc ++ [(l.length : Int)])) (fun k => ?_) (Ev.pure _))
    unfold galleyref02_Edges.l0
    rw [if_neg (by omega)]
theorem ev_edges_in {l : List Int} (hl : Bytes l) (hs : Small l) (acc : List Int) (v : List Int) (p : Nat) (hp : p ≤ l.length) (hi : inside l p = true) (h : Ev (fun n => galleyref02_Edges.l0 n l acc ((p + 1 : Nat) : Int)) v) : Ev (fun n => galleyref02_Edges.l0 n l acc (p : Int)) v := by
  unfold Small at hs
  refine Ev.step (G := fun k => (galleyref02_Inside.f k l (p : Int)).bind fun t => if t = true then galleyref02_Edges.l0 k l acc ((p + 1 : Nat) : Int) else (if acc.length < 17592186044416 then galleyref02_Edges.l0 k l (acc ++ [(p : Int)]) ((p + 1 : Nat) : Int) else none)) (fun k => ?_) ?_
  · conv => lhs; unfold galleyref02_Edges.l0
    rw [if_pos (by omega), w64 (n := (p : Int) + 1) (by omega) (by omega)]
    rfl
  · refine Ev.bind (ev_inside hl p (by omega)) ?_
    rw [hi]
    exact Ev.ite_pos rfl h
theorem ev_edges_out {l : List Int} (hl : Bytes l) (hs : Small l) (acc : List Int) (ha : acc.length < 17592186044416) (v : List Int) (p : Nat) (hp : p ≤ l.length) (hi : inside l p = false) (h : Ev (fun n => galleyref02_Edges.l0 n l (acc ++ [(p : Int)]) ((p + 1 : Nat) : Int)) v) : Ev (fun n => galleyref02_Edges.l0 n l acc (p : Int)) v := by
  unfold Small at hs
  refine Ev.step (G := fun k => (galleyref02_Inside.f k l (p : Int)).bind fun t => if t = true then galleyref02_Edges.l0 k l acc ((p + 1 : Nat) : Int) else (if acc.length < 17592186044416 then galleyref02_Edges.l0 k l (acc ++ [(p : Int)]) ((p + 1 : Nat) : Int) else none)) (fun k => ?_) ?_
  · conv => lhs; unfold galleyref02_Edges.l0
    rw [if_pos (by omega), w64 (n := (p : Int) + 1) (by omega) (by omega)]
    rfl
  · refine Ev.bind (ev_inside hl p (by omega)) ?_
    rw [hi]
    exact Ev.ite_neg (by decide) (Ev.ite_pos ha h)
theorem ev_edges_skip {l : List Int} (hl : Bytes l) (hs : Small l) (acc : List Int) (v : List Int) (p : Nat) (hp : p < l.length) (h : Ev (fun n => galleyref02_Edges.l0 n l acc ((p + width l p : Nat) : Int)) v) : ∀ (i : Nat), i < width l p → Ev (fun n => galleyref02_Edges.l0 n l acc ((p + (width l p - i) : Nat) : Int)) v
  | 0, _ => h
  | i + 1, hi => by
    have ih := ev_edges_skip hl hs acc v p hp h i (by omega)
    have hw := width_end hp
    refine ev_edges_in hl hs acc v (p + (width l p - (i + 1))) (by omega) (inside_mid (by omega) (by omega)) ?_
    rw [show p + (width l p - (i + 1)) + 1 = p + (width l p - i) from by omega]
    exact ih
theorem ev_edges_from {l : List Int} (hl : Bytes l) (hs : Small l) : ∀ (k p : Nat) (acc : List Int), p ≤ l.length → l.length - p ≤ k → inside l p = false → acc.length + (l.length - p) < 17592186044416 →
    Ev (fun n => galleyref02_Edges.l0 n l acc (p : Int)) (acc ++ ((stepsF l k p).map (fun x => (x.1 : Int)) ++ [(l.length : Int)]))
  | 0, p, acc, hp, hk, hi, ha => by
    obtain rfl : p = l.length := by omega
    exact ev_edges_end hl hs acc (by omega)
  | k + 1, p, acc, hp, hk, hi, ha => by
    unfold stepsF
    by_cases h : p < l.length
    · rw [if_pos h]
      have hw := width_pos l p
      have he := width_end h
      have ih := ev_edges_from hl hs k (p + width l p) (acc ++ [(p : Int)]) he (by omega) (inside_next hi) (by simp; omega)
      refine ev_edges_out hl hs acc (by omega) _ p hp hi ?_
      have := ev_edges_skip hl hs (acc ++ [(p : Int)]) _ p h ih (width l p - 1) (by omega)
      rw [show p + (width l p - (width l p - 1)) = p + 1 from by omega] at this
      simpa using this
    · rw [if_neg h]
      obtain rfl : p = l.length := by omega
      exact ev_edges_end hl hs acc (by omega)
def placesL (l : List Int) : List Int := (stepsL l).map (fun x => (x.1 : Int)) ++ [(l.length : Int)]
theorem ev_edges {l : List Int} (hl : Bytes l) (hs : Small l) : Ev (fun n => galleyref02_Edges.f n l) (placesL l) := by
  have hs' := hs
  unfold Small at hs'
  have := ev_edges_from hl hs l.length 0 [] (by omega) (by omega) (inside_zero l) (by simp; omega)
  simpa [galleyref02_Edges.f, placesL, stepsL] using this
end Go.Proofs.YtbomhpfckplgaaaDoor.P
namespace Go.Proofs.YtbomhpfckplgaaaDoor.P
open Go Go.RowKit Go.Proofs.YtbomhpfckplgaaaDoorW.PrintWords Utf
set_option linter.unusedVariables false
set_option linter.unusedSimpArgs false
theorem stepsF_mem (l : List Int) : ∀ (k p : Nat) x, x ∈ stepsF l k p → x.1 < l.length ∧ x.2 = stepN l x.1
  | 0, _, x, h => by simp [stepsF] at h
  | k + 1, p, x, h => by
    unfold stepsF at h
    by_cases hp : p < l.length
    · rw [if_pos hp] at h
      rcases List.mem_cons.1 h with rfl | h
      · exact ⟨hp, rfl⟩
      · exact stepsF_mem l k _ x h
    · rw [if_neg hp] at h
      simp at h
theorem stepsL_length (l : List Int) : (stepsL l).length ≤ l.length := stepsF_length l _ _
end Go.Proofs.YtbomhpfckplgaaaDoor.P
namespace Go.Proofs.YtbomhpfckplgaaaDoor.P
open Go Go.RowKit Go.Proofs.YtbomhpfckplgaaaDoorW.PrintWords Go.Proofs.YtbomhpfckplgaaaDoorW.PrintLast Go.Proofs.YtbomhpfckplgaaaDoorW.PrintMore
set_option linter.unusedVariables false
set_option linter.unusedSimpArgs false
set_option maxRecDepth 100000
attribute [local go_sem] max2_int min2_int max_two min_two max_three min_three max_four min_four
def diff_table.T5 : Bool × List (List Nat × List Nat) := (true, [([], []), ([], []), ([], []), ([2], [2]), ([3], [3]), ([4, 4], [4]), ([0, 1, 0, 1, 2, 3, 4, 5], [0, 1]), ([6, 5, 0, 1, 2, 3, 4, 5], [5, 6])])
def diff_table.B5 : List Nat := [0, 0, 0, 4, 12, 28, 63, 127]
theorem diff_table.tab5 : rtab .any (opsOf Tryd.f89 5) = diff_table.T5 := by kernel_rfl
theorem diff_table.bits5 : waitsOk diff_table.T5.2 diff_table.B5 = true := by kernel_rfl
def diff_table.T13 : Bool × List (List Nat × List Nat) := (true, [([], []), ([], []), ([0, 1], [0, 1]), ([2], [2]), ([], []), ([], []), ([4, 5], [4, 5]), ([6], [6]), ([3, 7], [3, 7])])
def diff_table.B13 : List Nat := [0, 0, 3, 7, 0, 0, 48, 112, 255]
theorem diff_table.tab13 : rtab .any (opsOf Tryd.f89 13) = diff_table.T13 := by kernel_rfl
theorem diff_table.bits13 : waitsOk diff_table.T13.2 diff_table.B13 = true := by kernel_rfl
def diff_table.T14 : Bool × List (List Nat × List Nat) := (true, [([], []), ([], []), ([0, 1], [0, 1]), ([2], [2]), ([], []), ([], []), ([], []), ([6], [6]), ([5, 7], [5, 7]), ([8], [8]), ([], []), ([10], [10]), ([9, 11], [9, 11]), ([12], [12]), ([13], [13]), ([3, 4, 0, 1, 2, 3, 4, 5, 6, 7, 8, 9, 10, 11, 12, 13, 14], [3, 4]), ([15, 14, 0, 1, 2, 3, 4, 5, 6, 7, 8, 9, 10, 11, 12, 13, 14], [14, 15])])
def diff_table.B14 : List Nat := [0, 0, 3, 7, 0, 0, 0, 64, 224, 480, 0, 1024, 4064, 8160, 16352, 32767, 65535]
theorem diff_table.tab14 : rtab .any (opsOf Tryd.f89 14) = diff_table.T14 := by kernel_rfl
theorem diff_table.bits14 : waitsOk diff_table.T14.2 diff_table.B14 = true := by kernel_rfl
def diff_table.T15 : Bool × List (List Nat × List Nat) := (true, [([], []), ([], []), ([0, 1], [0, 1]), ([2], [2]), ([], []), ([], []), ([], []), ([6], [6]), ([5, 7], [5, 7]), ([8], [8]), ([], []), ([9, 10], [9, 10]), ([11], [11]), ([], []), ([], []), ([13, 14], [13, 14]), ([15], [15]), ([], []), ([17], [17]), ([16, 18], [16, 18]), ([19], [19]), ([12, 20], [12, 20]), ([3, 4, 0, 1, 2, 3, 4, 5, 6, 7, 8, 9, 10, 11, 12, 13, 14, 15, 16, 17, 18, 19, 20, 21], [3, 4]), ([22, 21, 0, 1, 2, 3, 4, 5, 6, 7, 8, 9, 10, 11, 12, 13, 14, 15, 16, 17, 18, 19, 20, 21], [21, 22])])
def diff_table.B15 : List Nat := [0, 0, 3, 7, 0, 0, 0, 64, 224, 480, 0, 2016, 4064, 0, 0, 24576, 57344, 0, 131072, 516096, 1040384, 2097120, 4194303, 8388607]
theorem diff_table.tab15 : rtab .any (opsOf Tryd.f89 15) = diff_table.T15 := by kernel_rfl
theorem diff_table.bits15 : waitsOk diff_table.T15.2 diff_table.B15 = true := by kernel_rfl
structure Grid (w W : World) (n m k : Nat) (G : Nat → Nat → Int) : Prop where
  below : Below w.heap.size w W
  size : W.heap.size = w.heap.size + 2 + k
  var : W.heap[w.heap.size + 1]? = some (.cells #[.slice (some ⟨w.heap.size, 0, none⟩) (n + 1) (n + 1)] 157 (0, 0))
  rows : W.rowIs w.heap.size 158 (n + 1) (fun i => if i < k then .slice (some ⟨w.heap.size + 2 + i, 0, none⟩) (m + 1) (m + 1) else .slice none 0 0)
  cells : ∀ i, i < k → W.rowIs (w.heap.size + 2 + i) 159 (m + 1) (fun j => .int .i16 (G i j))
theorem Grid.drew {w W : World} {n m k : Nat} {G : Nat → Nat → Int} (h : Grid w W n m k G) : Grid w W.drew n m k G := ⟨h.below.drew, h.size, h.var, h.rows.drew, fun i hi => (h.cells i hi).drew⟩
theorem Grid.var_cell {w W : World} {n m k : Nat} {G : Nat → Nat → Int} (h : Grid w W n m k G) : W.cell? ⟨w.heap.size + 1, 0, none⟩ = some (.slice (some ⟨w.heap.size, 0, none⟩) (n + 1) (n + 1)) := (blk_cell h.var 0).trans rfl
theorem Grid.row_cell {w W : World} {n m k : Nat} {G : Nat → Nat → Int} (h : Grid w W n m k G) (i : Nat) (hi : i < k) (hn : i < n + 1) : W.cell? ⟨w.heap.size, i, none⟩ = some (.slice (some ⟨w.heap.size + 2 + i, 0, none⟩) (m + 1) (m + 1)) := by
  have := h.rows.cell (i := i) hn
  rw [if_pos hi] at this
  exact this
theorem Grid.made {w W : World} {n m k : Nat} {G : Nat → Nat → Int} (h : Grid w W n m k G) (hk : k < n + 1) (hG : ∀ j, G k j = 0) :
    Grid w ((W.alloc (.cells (madeCells #[.int .i16 0] (m + 1)) 159)).setCell ⟨w.heap.size, k, none⟩ (.slice (some ⟨W.heap.size, 0, none⟩) (m + 1) (m + 1))) n m (k + 1) G := by
  have hs := h.size
  have e1 : w.heap.size + 1 ≠ w.heap.size := by omega
  refine ⟨(h.below.alloc h.below.size _).setCell (Nat.le_refl _) _, ?_, ?_, ?_, fun i hi => ?_⟩
  · simp [hs]
    omega
  · exact (Below.heap_setCell _ _ _ _ e1).trans (blk_alloc h.var _)
  · refine ((h.rows.alloc _).set k _).congr (fun i hi => ?_)
    by_cases c : i = k
    · subst c
      rw [if_pos rfl, if_pos (by omega), hs]
    · rw [if_neg c]
      by_cases c2 : i < k
      · rw [if_pos c2, if_pos (by omega)]
      · rw [if_neg c2, if_neg (by omega)]
  · by_cases c : i = k
    · subst c
      have h_ := (World.rowIs_made W (.int .i16 0) (m + 1) 159).setOther (a := ⟨w.heap.size, i, none⟩) (by simp; omega) (.slice (some ⟨W.heap.size, 0, none⟩) (m + 1) (m + 1))
      rw [hs] at h_ ⊢
      exact h_.congr (fun j hj => by rw [hG j])
    · exact ((h.cells i (by omega)).alloc _).setOther (by simp; omega) _
theorem Grid.store {w W : World} {n m k : Nat} {G : Nat → Nat → Int} (h : Grid w W n m k G) (i j : Nat) (hi : i < k) (v : Int) :
    Grid w (W.setCell ⟨w.heap.size + 2 + i, j, none⟩ (.int .i16 v)) n m k (fun i' j' => if i' = i ∧ j' = j then v else G i' j') := by
  refine ⟨h.below.setCell (by simp; omega) _, by simp [h.size], (Below.heap_setCell _ _ _ _ (by simp; omega)).trans h.var, h.rows.setOther (by simp; omega) _, fun i' hi' => ?_⟩
  by_cases c : i' = i
  · subst c
    refine ((h.cells i' hi').set j _).congr (fun j' hj' => ?_)
    by_cases c2 : j' = j
    · rw [if_pos c2, if_pos ⟨rfl, c2⟩]
    · rw [if_neg c2, if_neg (fun h => c2 h.2)]
  · refine ((h.cells i' hi').setOther (by simp; omega) _).congr (fun j' hj' => ?_)
    rw [if_neg (fun h => c h.1)]
theorem Grid.congr {w W : World} {n m k : Nat} {G G' : Nat → Nat → Int} (h : Grid w W n m k G) (e : ∀ i, i < k → ∀ j, j < m + 1 → G i j = G' i j) : Grid w W n m k G' := ⟨h.below, h.size, h.var, h.rows, fun i hi => (h.cells i hi).congr (fun j hj => by rw [e i hi j hj])⟩
theorem Grid.start {w : World} {n m : Nat} {G : Nat → Nat → Int} : Grid w ((w.alloc (.cells (madeCells #[.slice none 0 0] (n + 1)) 158)).alloc (.cells #[.slice (some ⟨w.heap.size, 0, none⟩) (n + 1) (n + 1)] 157)) n m 0 G := by
  refine ⟨((Below.refl _ w).alloc (Nat.le_refl _) _).alloc (by simp) _, by simp, ?_, ?_, fun i hi => by omega⟩
  · have h_ := blk_new (w.alloc (.cells (madeCells #[.slice none 0 0] (n + 1)) 158)) (.cells #[.slice (some ⟨w.heap.size, 0, none⟩) (n + 1) (n + 1)] 157)
    rw [World.size_alloc] at h_
    exact h_
  · exact ((World.rowIs_made w (.slice none 0 0) (n + 1) 158).alloc _).congr (fun i hi => by simp)
theorem Grid.row {w W : World} {n m k : Nat} {G : Nat → Nat → Int} (h : Grid w W n m k G) (i : Nat) (hi : i < k) (hn : i < n + 1) :
    ∃ g, W.cell? ⟨w.heap.size, i, none⟩ = some (.slice (some ⟨g, 0, none⟩) (m + 1) (m + 1)) ∧ (∀ j, j < m + 1 → W.cell? ⟨g, j, none⟩ = some (.int .i16 (G i j))) ∧ (∀ j, W.frozen? ⟨g, j, none⟩ = false) ∧
      ∀ (W' : World) (j : Nat) (v : Int), Grid w W' n m k G → Grid w (W'.setCell ⟨g, j, none⟩ (.int .i16 v)) n m k (fun i' j' => if i' = i ∧ j' = j then v else G i' j') :=
  ⟨_, h.row_cell i hi hn, fun j hj => (h.cells i hi).cell hj, fun j => (h.cells i hi).frozen j, fun W' j v h' => h'.store i j hi v⟩
open LCS in
def Tt (a b : List ByteArray) (i j : Nat) : Int := (lcs (a.drop i) (b.drop j) : Int)
open LCS in
theorem Tt_end (a b : List ByteArray) (i j : Nat) (h : a.length ≤ i ∨ b.length ≤ j) : Tt a b i j = 0 := by
  unfold Tt
  rcases h with h | h
  · rw [List.drop_eq_nil_of_le h, lcs_nil_left]
    rfl
  · rw [List.drop_eq_nil_of_le h, lcs_nil_right]
    rfl
open LCS in
theorem Tt_range (a b : List ByteArray) (i j : Nat) (ha : a.length ≤ 2048) : 0 ≤ Tt a b i j ∧ Tt a b i j ≤ 2048 := by
  unfold Tt
  have := lcs_le_left (a.drop i) (b.drop j)
  rw [List.length_drop] at this
  omega
open LCS in
theorem Tt_step (a b : List ByteArray) (i j : Nat) (hi : i < a.length) (hj : j < b.length) : Tt a b i j = if a[i] = b[j] then Tt a b (i + 1) (j + 1) + 1 else max (Tt a b (i + 1) j) (Tt a b i (j + 1)) := by
  unfold Tt
  rw [List.drop_eq_getElem_cons hi, List.drop_eq_getElem_cons hj, lcs_cons]
  split
  · push_cast
    rfl
  · rw [← List.drop_eq_getElem_cons hi, ← List.drop_eq_getElem_cons hj]
    omega
def Pz (a b : List ByteArray) (n m : Nat) (i j : Int) (G : Nat → Nat → Int) : Prop := ∀ i' j' : Nat, i' ≤ n → j' ≤ m → G i' j' = if i < (i' : Int) ∨ (i = (i' : Int) ∧ j < (j' : Int)) then Tt a b i' j' else 0
theorem Pz.start {a b : List ByteArray} {n m : Nat} (hn : a.length = n) (hm : b.length = m) : Pz a b n m ((n : Int) - 1) ((m : Int) - 1) (fun _ _ => 0) := by
  intro i' j' h1 h2
  split
  · rename_i h
    rw [Tt_end a b i' j' (by omega)]
  · rfl
theorem Pz.row {a b : List ByteArray} {n m : Nat} {i : Int} {G : Nat → Nat → Int} (hm : b.length = m) (h : Pz a b n m i (-1) G) : Pz a b n m (i - 1) ((m : Int) - 1) G := by
  intro i' j' h1 h2
  rw [h i' j' h1 h2]
  by_cases c : i < (i' : Int) ∨ (i = (i' : Int) ∧ (-1 : Int) < (j' : Int))
  · rw [if_pos c, if_pos (by omega)]
  · rw [if_neg c]
    by_cases d : i - 1 < (i' : Int) ∨ (i - 1 = (i' : Int) ∧ (m : Int) - 1 < (j' : Int))
    · rw [if_pos d, Tt_end a b i' j' (by omega)]
    · rw [if_neg d]
theorem Pz.put {a b : List ByteArray} {n m : Nat} {i j : Nat} {G : Nat → Nat → Int} (h : Pz a b n m i j G) {v : Int} (hv : v = Tt a b i j) : Pz a b n m i ((j : Int) - 1) (fun i' j' => if i' = i ∧ j' = j then v else G i' j') := by
  intro i' j' h1 h2
  by_cases c : i' = i ∧ j' = j
  · obtain ⟨rfl, rfl⟩ := c
    rw [if_pos (show (i' : Int) < i' ∨ ((i' : Int) = i' ∧ (j' : Int) - 1 < j') by omega)]
    simp [hv]
  · simp only [if_neg c]
    rw [h i' j' h1 h2]
    by_cases d : (i : Int) < (i' : Int) ∨ ((i : Int) = (i' : Int) ∧ (j : Int) < (j' : Int))
    · rw [if_pos d, if_pos (by omega)]
    · rw [if_neg d, if_neg (by omega)]
theorem toList_inj {x y : ByteArray} (h : x.toList = y.toList) : x = y := by
  rw [ByteArray.toList_eq, ByteArray.toList_eq] at h
  exact Go.WideShapes.bytes_inj h
set_option maxHeartbeats 16000000 in
theorem table_any (A B : Option Addr) (ca cb n m : Nat) (a b : List ByteArray) (hna : a.length = n) (hmb : b.length = m) (ha : n ≤ 2048) (hb : m ≤ 2048) (w : World) (hra : Kd.C Kd.string w A n a) (hrb : Kd.C Kd.string w B m b) :
    Calls Tryd.prog 89 #[.slice A n ca, .slice B m cb] w fun e w' => e = .returned (.func (.func 119) #[] #[.pointer (some ⟨w.heap.size + 1, 0, none⟩)]) ∧ Grid w w' n m (n + 1) (Tt a b) := by
  have hu157 := Tryd.underlying157
  have hu158 := Tryd.underlying158
  have hmk1 : ∀ W : World, (Instr.makeSlice 157 (.int .i64 ((n : Int) + 1)) (.int .i64 ((n : Int) + 1))).run Tryd.prog W = .ok (.slice (some ⟨W.heap.size, 0, none⟩) (n + 1) (n + 1)) (W.alloc (.cells (madeCells #[.slice none 0 0] (n + 1)) 158)) := print_make_of (P := Tryd.prog) 157 158 (.slice none 0 0) 24 Tryd.underlying157 (by kernel_rfl) rfl (by omega) (n + 1) (by omega)
  have hmk2 : ∀ W : World, (Instr.makeSlice 158 (.int .i64 ((m : Int) + 1)) (.int .i64 ((m : Int) + 1))).run Tryd.prog W = .ok (.slice (some ⟨W.heap.size, 0, none⟩) (m + 1) (m + 1)) (W.alloc (.cells (madeCells #[.int .i16 0] (m + 1)) 159)) := print_make (P := Tryd.prog) 158 159 .i16 2 Tryd.underlying158 (by kernel_rfl) (by omega) (m + 1) (by omega)
  have hw1 : wrap64 ((n : Int) + 1) = (n : Int) + 1 := by unfold wrap64; omega
  have hw2 : wrap64 ((m : Int) + 1) = (m : Int) + 1 := by unfold wrap64; omega
  have HRA := Aside0.mk hra
  have HRB := Aside0.mk hrb
  have HN := Aside0.mk (And.intro hna (And.intro hmb (And.intro ha hb)))
  clear hra hrb ha hb hna hmb
  go_enter Tryd.func89, Tryd.ntmps89
  go_upto_region 2 with (fail)
  have GR : Aside0 (Grid w ((w.alloc (.cells (madeCells #[.slice none 0 0] (n + 1)) 158)).alloc (.cells #[.slice (some ⟨w.heap.size, 0, none⟩) (n + 1) (n + 1)] 157)) n m 0 (fun _ _ => 0)) := ⟨Grid.start⟩
  generalize ((w.alloc (.cells (madeCells #[.slice none 0 0] (n + 1)) 158)).alloc (.cells #[.slice (some ⟨w.heap.size, 0, none⟩) (n + 1) (n + 1)] 157)) = W at GR ⊢
  have c5 := GR.out.var_cell
  go_wp2
  clear c5 hmk1
  go_loopg [15] (n + 1) (fun kq v15 w' => ∃ i : Nat, v15 = .int .i64 (i : Int) ∧ Aside0 (i ≤ n + 1 ∧ n + 1 - i ≤ kq) ∧ Aside0 (Grid w w' n m i (fun _ _ => 0)))
  case atStart => exact ⟨0, rfl, ⟨by omega, by omega⟩, GR⟩
  case round =>
    clear GR
    obtain ⟨i, rfl, HI, GR⟩ := hrel
    by_cases ci : i < n + 1
    case pos =>
      have ci' : decide ((i : Int) < ((n + 1 : Nat) : Int)) = true := decide_eq_true (by omega)
      have ci2 : (i : Int) < (n : Int) + 1 := by omega
      have hk0 : 0 < gk := by have := HI.out; omega
      have CI := Aside0.mk ci
      clear ci
      cases gk with
      | zero => omega
      | succ kk =>
        go_upto_region 5 with (fail)
        refine start_ (n := 8) (S := fun w' => Below wr.heap.size wr w') (ds := [7]) #[false, false, false, false, false, false, false, false] (by kernel_rfl) rfl rfl (Below.refl _ _).drew (fun hHeld => ?_); refine with_tabW diff_table.tab5 diff_table.bits5 (fun HT_ HW_ => ?_)
        have GD := Aside0.mk GR.out.drew
        obtain ⟨w1, hZ_⟩ : ∃ Z_, wr.drew = Z_ := ⟨_, rfl⟩
        rw [hZ_] at hHeld GD ⊢
        clear hZ_
        refine pure_ (i := 1) (N := some 19) (v := ?_) (a' := ?_) #[false, true, false, false, false, false, false, false] rfl rfl (any_of HT_.out (by kernel_rfl)) (fun _ _ _ h => h) (Or.inl ⟨by rfl, ?_⟩) ?_ ?_
        rotate_left
        · intro w'
          go_simp
          with_reducible rfl
        rotate_left
        · simp only [Act.put, List.setIfInBounds_toArray, List.set_cons_zero, List.set_cons_succ, i64_w, i32_w]
          rfl
        refine pure_ (i := 2) (N := some 20) (v := ?_) (a' := ?_) #[false, true, true, false, false, false, false, false] rfl rfl (any_of HT_.out (by kernel_rfl)) (fun _ _ _ h => h) (Or.inl ⟨by rfl, ?_⟩) ?_ ?_
        rotate_left
        · intro w'
          go_simp
          with_reducible rfl
        rotate_left
        · simp only [Act.put, List.setIfInBounds_toArray, List.set_cons_zero, List.set_cons_succ, i64_w, i32_w]
          rfl
        refine pure_ (i := 3) (N := some 21) (v := ?_) (a' := ?_) #[false, true, true, true, false, false, false, false] rfl rfl (any_of HT_.out (by kernel_rfl)) (fun _ _ _ h => h) (Or.inl ⟨by rfl, ?_⟩) ?_ ?_
        rotate_left
        · intro w'
          go_simp
          with_reducible rfl
        rotate_left
        · simp only [Act.put, List.setIfInBounds_toArray, List.set_cons_zero, List.set_cons_succ, i64_w, i32_w]
          rfl
        refine pure_ (i := 4) (N := some 22) (v := ?_) (a' := ?_) #[false, true, true, true, true, false, false, false] rfl rfl (any_of HT_.out (by kernel_rfl)) (fun _ _ _ h => h) (Or.inl ⟨by rfl, ?_⟩) ?_ ?_
        rotate_left
        · intro w'
          go_simp
          with_reducible rfl
        rotate_left
        · simp only [Act.put, List.setIfInBounds_toArray, List.set_cons_zero, List.set_cons_succ, i64_w, i32_w]
          rfl
        refine take_ (i := 0) (N := some 18) (v := ?_) (a' := ?_) #[true, true, true, true, true, false, false, false] rfl rfl (take_ofW HT_.out HW_.out (by kernel_rfl)) (fun _ _ _ h => h) (Or.inl ⟨by rfl, ?_⟩) hHeld ?_ ?_
        rotate_left
        · intro w' hS_
          have s0 := pw_cell_below hS_ GR.out.var_cell
          go_simp
          with_reducible rfl
        rotate_left
        · simp only [Act.put, List.setIfInBounds_toArray, List.set_cons_zero, List.set_cons_succ, i64_w, i32_w]
          rfl
        refine one_ (i := 5) (N := some 23) #[true, true, true, true, true, true, false, false] rfl rfl (one_of HT_.out (by kernel_rfl)) (by decide) (fun K hK => ?_)
        have hH := Aside0.mk hHeld
        refine value_ (w1 := ?_) (v := ?_) (by rfl) rfl ?_ ?_
        rotate_left 2
        · go_simp
          constructor
          · rfl
          · rfl
        refine hK.out _ _ (hH.out.alloc hH.out.size _) (fun hHeld => ?_)
        clear hK K
        refine norm_ (a' := ?_) ?_ ?_
        rotate_left
        · show Act.put _ (some 23) _ = _
          simp only [Act.put, List.setIfInBounds_toArray, List.set_cons_zero, List.set_cons_succ, i64_w, i32_w]
          rfl
        refine pure_ (i := 6) (N := some 24) (v := ?_) (a' := ?_) #[true, true, true, true, true, true, true, false] rfl rfl (any_of HT_.out (by kernel_rfl)) (fun _ _ _ h => h) (Or.inl ⟨by rfl, ?_⟩) ?_ ?_
        rotate_left
        · intro w'
          go_simp
          with_reducible rfl
        rotate_left
        · simp only [Act.put, List.setIfInBounds_toArray, List.set_cons_zero, List.set_cons_succ, i64_w, i32_w]
          rfl
        refine last_ (i := 7) (N := none) #[true, true, true, true, true, true, true, true] rfl rfl (one_of HT_.out (by kernel_rfl)) (by decide) (fun K hK => ?_)
        have s0 : (w1.alloc (.cells (madeCells #[.int .i16 0] (m + 1)) 159)).cell? ⟨w.heap.size, i, none⟩ = some (.slice none 0 0) := by
          have h_ := (GD.out.rows.alloc (.cells (madeCells #[.int .i16 0] (m + 1)) 159)).cell (i := i) CI.out
          rw [if_neg (Nat.lt_irrefl _)] at h_
          exact h_
        have s1 := (GD.out.rows.alloc (.cells (madeCells #[.int .i16 0] (m + 1)) 159)).frozen i
        refine skip_ (w1 := ?_) (by rfl) rfl ?_ ?_
        rotate_left
        · go_simp
          rfl
        refine hK.out _ _ ?_
        clear hK K
        refine done_ (done_of HT_.out (by kernel_rfl)) ?_
        clear HT_ HW_
        have G1 := Aside0.mk (GD.out.made CI.out (fun _ => rfl))
        clear s0 s1 hHeld hH GD GR
        go_wp2
        go_roundg kk
        case measure => omega
        case rel => exact ⟨i + 1, by have := HN.out; first | rfl | (congr 1; unfold wrap64; omega), ⟨by have := HI.out; have := CI.out; omega, by have := HI.out; omega⟩, G1⟩
    case neg =>
      have ci' : decide ((i : Int) < ((n + 1 : Nat) : Int)) = false := decide_eq_false (by omega)
      have ci2 : ¬ (i : Int) < (n : Int) + 1 := by omega
      obtain rfl : i = n + 1 := by have := HI.out; omega
      clear HI ci hmk2
      have hwn : wrap64 ((n : Int) - 1) = (n : Int) - 1 := by have := HN.out; unfold wrap64; omega
      have hwm : wrap64 ((m : Int) - 1) = (m : Int) - 1 := by have := HN.out; unfold wrap64; omega
      have PZ : Aside0 (Pz a b n m ((n : Int) - 1) ((m : Int) - 1) (fun _ _ => 0)) := ⟨Pz.start HN.out.1 HN.out.2.1⟩
      go_wp2
      clear ci' ci2
      go_loopg [7] n (fun kq v7 w' => ∃ (i : Int) (G : Nat → Nat → Int), v7 = .int .i64 i ∧ Aside0 (-1 ≤ i ∧ i < (n : Int) ∧ i + 1 ≤ (kq : Int)) ∧ Aside0 (Grid w w' n m (n + 1) G) ∧ Aside0 (Pz a b n m i ((m : Int) - 1) G))
      case atStart => exact ⟨(n : Int) - 1, _, rfl, ⟨by omega, by omega, by omega⟩, GR, PZ⟩
      case round =>
      clear GR PZ
      obtain ⟨i, G, rfl, HI, GR, PZ⟩ := hrel
      by_cases ci : 0 ≤ i
      case neg =>
        have ci' : decide (0 ≤ i) = false := decide_eq_false ci
        obtain rfl : i = -1 := by have := HI.out; omega
        clear ci HI
        go_wp2
        go_ret
        refine ⟨rfl, GR.out.congr (fun i hi j hj => ?_)⟩
        have h_ := PZ.out i j (by omega) (by omega)
        rw [if_pos (by omega)] at h_
        exact h_
      have ci' : decide (0 ≤ i) = true := decide_eq_true ci
      obtain ⟨i, rfl⟩ : ∃ q : Nat, i = q := ⟨i.toNat, by omega⟩
      have hin : i < n := by have := HI.out; omega
      have HIN := Aside0.mk hin
      cases gk with
      | zero => have := HI.out; omega
      | succ kk =>
      clear hin
      go_wp2
      clear ci ci'
      go_loopg [8] m (fun kq v8 w' => ∃ (j : Int) (G : Nat → Nat → Int), v8 = .int .i64 j ∧ Aside0 (-1 ≤ j ∧ j < (m : Int) ∧ j + 1 ≤ (kq : Int)) ∧ Aside0 (Grid w w' n m (n + 1) G) ∧ Aside0 (Pz a b n m i j G))
      case atStart => exact ⟨(m : Int) - 1, _, by first | rfl | rw [hwm], ⟨by omega, by omega, by omega⟩, GR, PZ⟩
      case round =>
      clear GR PZ
      obtain ⟨j, G, rfl, HJ, GR, PZ⟩ := hrel
      clear hwm hwn
      by_cases cj : 0 ≤ j
      case neg =>
        have cj' : decide (0 ≤ j) = false := decide_eq_false cj
        obtain rfl : j = -1 := by have := HJ.out; omega
        clear cj HJ
        go_wp2
        go_roundg kk
        case measure => omega
        case rel => exact ⟨(i : Int) - 1, G, by have := HIN.out; have := HN.out; congr 1; unfold wrap64; omega, ⟨by omega, by have := HIN.out; omega, by have := HI.out; omega⟩, GR, ⟨PZ.out.row HN.out.2.1⟩⟩
      have cj' : decide (0 ≤ j) = true := decide_eq_true cj
      obtain ⟨j, rfl⟩ : ∃ q : Nat, j = q := ⟨j.toNat, by omega⟩
      have hjm : j < m := by have := HJ.out; omega
      have HJM := Aside0.mk hjm
      cases gk with
      | zero => have := HJ.out; omega
      | succ kj =>
      clear hjm
      go_upto_region 13 with (fail)
      obtain ⟨ad, rfl, hx⟩ := Kd.at_string (Kd.C_below HRA.out GR.out.below) (i : Int) (by omega) (by have := HIN.out; omega)
      obtain ⟨ae, rfl, hy⟩ := Kd.at_string (Kd.C_below HRB.out GR.out.below) (j : Int) (by omega) (by have := HJM.out; omega)
      rw [Int.toNat_natCast] at hx hy
      have hxi : i < a.length := by have := HIN.out; have := HN.out; omega
      have hyj : j < b.length := by have := HJM.out; have := HN.out; omega
      obtain ⟨x, ex⟩ : ∃ x, a[i] = x := ⟨_, rfl⟩
      obtain ⟨y, ey⟩ : ∃ y, b[j] = y := ⟨_, rfl⟩
      have ex' : rdOf ByteArray.empty a (i : Int) = x := by rw [← ex]; simp [rdOf, hxi]
      have ey' : rdOf ByteArray.empty b (j : Int) = y := by rw [← ey]; simp [rdOf, hyj]
      rw [ex'] at hx
      rw [ey'] at hy
      have ST := Aside0.mk (Tt_step a b i j hxi hyj)
      rw [ex, ey] at ST
      clear ex ey ex' ey' hxi hyj
      have bi : (i : Int) < (n : Int) := by have := HIN.out; omega
      have bj : (j : Int) < (m : Int) := by have := HJM.out; omega
      have bi1 : (i : Int) < (n : Int) + 1 := by omega
      have bj1 : (j : Int) < (m : Int) + 1 := by omega
      have hwi : wrap64 ((i : Int) + 1) = (i : Int) + 1 := by have := HN.out; unfold wrap64; omega
      have hwj : wrap64 ((j : Int) + 1) = (j : Int) + 1 := by have := HN.out; unfold wrap64; omega
      have p1 : (0 : Int) ≤ (i : Int) + 1 := by omega
      have p2 : (0 : Int) ≤ (j : Int) + 1 := by omega
      by_cases hxy : x.toList = y.toList
      case pos =>
        have c0 : (x.toList == y.toList) = true := beq_iff_eq.mpr hxy
        have EQ := Aside0.mk (toList_inj hxy)
        clear hxy
        refine start_ (n := 9) (S := fun w' => Below wr.heap.size wr w') (ds := []) #[false, false, false, false, false, false, false, false, false] (by kernel_rfl) rfl rfl (Below.refl _ _).drew (fun hHeld => ?_); refine with_tabW diff_table.tab13 diff_table.bits13 (fun HT_ HW_ => ?_)
        have GD := Aside0.mk GR.out.drew
        obtain ⟨w1, hZ_⟩ : ∃ Z_, wr.drew = Z_ := ⟨_, rfl⟩
        rw [hZ_] at hHeld GD ⊢
        clear hZ_
        refine pure_ (i := 0) (N := some 40) (v := ?_) (a' := ?_) #[true, false, false, false, false, false, false, false, false] rfl rfl (any_of HT_.out (by kernel_rfl)) (fun _ _ _ h => h) (Or.inl ⟨by rfl, ?_⟩) ?_ ?_
        rotate_left
        · intro w'
          go_simp
          with_reducible rfl
        rotate_left
        · simp only [Act.put, List.setIfInBounds_toArray, List.set_cons_zero, List.set_cons_succ, i64_w, i32_w]
          rfl
        refine pure_ (i := 1) (N := some 41) (v := ?_) (a' := ?_) #[true, true, false, false, false, false, false, false, false] rfl rfl (any_of HT_.out (by kernel_rfl)) (fun _ _ _ h => h) (Or.inl ⟨by rfl, ?_⟩) ?_ ?_
        rotate_left
        · intro w'
          go_simp
          with_reducible rfl
        rotate_left
        · simp only [Act.put, List.setIfInBounds_toArray, List.set_cons_zero, List.set_cons_succ, i64_w, i32_w]
          rfl
        refine pure_ (i := 2) (N := some 42) (v := ?_) (a' := ?_) #[true, true, true, false, false, false, false, false, false] rfl rfl (any_of HT_.out (by kernel_rfl)) (fun _ _ _ h => h) (Or.inl ⟨by rfl, ?_⟩) ?_ ?_
        rotate_left
        · intro w'
          go_simp
          with_reducible rfl
        rotate_left
        · simp only [Act.put, List.setIfInBounds_toArray, List.set_cons_zero, List.set_cons_succ, i64_w, i32_w]
          rfl
        refine pure_ (i := 4) (N := some 44) (v := ?_) (a' := ?_) #[true, true, true, false, true, false, false, false, false] rfl rfl (any_of HT_.out (by kernel_rfl)) (fun _ _ _ h => h) (Or.inl ⟨by rfl, ?_⟩) ?_ ?_
        rotate_left
        · intro w'
          go_simp
          with_reducible rfl
        rotate_left
        · simp only [Act.put, List.setIfInBounds_toArray, List.set_cons_zero, List.set_cons_succ, i64_w, i32_w]
          rfl
        refine pure_ (i := 5) (N := some 45) (v := ?_) (a' := ?_) #[true, true, true, false, true, true, false, false, false] rfl rfl (any_of HT_.out (by kernel_rfl)) (fun _ _ _ h => h) (Or.inl ⟨by rfl, ?_⟩) ?_ ?_
        rotate_left
        · intro w'
          go_simp
          with_reducible rfl
        rotate_left
        · simp only [Act.put, List.setIfInBounds_toArray, List.set_cons_zero, List.set_cons_succ, i64_w, i32_w]
          rfl
        refine pure_ (i := 6) (N := some 46) (v := ?_) (a' := ?_) #[true, true, true, false, true, true, true, false, false] rfl rfl (any_of HT_.out (by kernel_rfl)) (fun _ _ _ h => h) (Or.inl ⟨by rfl, ?_⟩) ?_ ?_
        rotate_left
        · intro w'
          go_simp
          with_reducible rfl
        rotate_left
        · simp only [Act.put, List.setIfInBounds_toArray, List.set_cons_zero, List.set_cons_succ, i64_w, i32_w]
          rfl
        refine take_ (i := 3) (N := some 43) (v := ?_) (a' := ?_) #[true, true, true, true, true, true, true, false, false] rfl rfl (take_ofW HT_.out HW_.out (by kernel_rfl)) (fun _ _ _ h => h) (Or.inl ⟨by rfl, ?_⟩) hHeld ?_ ?_
        rotate_left
        · intro w' hS_
          have s0 := pw_cell_below hS_ hx
          go_simp
          with_reducible rfl
        rotate_left
        · simp only [Act.put, List.setIfInBounds_toArray, List.set_cons_zero, List.set_cons_succ, i64_w, i32_w]
          rfl
        refine take_ (i := 7) (N := some 47) (v := ?_) (a' := ?_) #[true, true, true, true, true, true, true, true, false] rfl rfl (take_ofW HT_.out HW_.out (by kernel_rfl)) (fun _ _ _ h => h) (Or.inl ⟨by rfl, ?_⟩) hHeld ?_ ?_
        rotate_left
        · intro w' hS_
          have s0 := pw_cell_below hS_ hy
          go_simp
          with_reducible rfl
        rotate_left
        · simp only [Act.put, List.setIfInBounds_toArray, List.set_cons_zero, List.set_cons_succ, i64_w, i32_w]
          rfl
        refine pure_ (i := 8) (N := some 48) (v := ?_) (a' := ?_) #[true, true, true, true, true, true, true, true, true] rfl rfl (any_of HT_.out (by kernel_rfl)) (fun _ _ _ h => h) (Or.inl ⟨by rfl, ?_⟩) ?_ ?_
        rotate_left
        · intro w'
          go_simp
          with_reducible rfl
        rotate_left
        · simp only [Act.put, List.setIfInBounds_toArray, List.set_cons_zero, List.set_cons_succ, i64_w, i32_w]
          rfl
        refine done_ (done_of HT_.out (by kernel_rfl)) ?_
        clear HT_ HW_
        clear c0 hx hy GR hHeld
        go_upto_region 14 with (fail)
        have hv5 := GD.out.var_cell
        obtain ⟨g0, r0, z0, f0, st0⟩ := GD.out.row i (by have := HIN.out; omega) (by have := HIN.out; omega)
        obtain ⟨g1, r1, z1, f1, st1⟩ := GD.out.row (i + 1) (by have := HIN.out; omega) (by have := HIN.out; omega)
        have ZZ := Aside0.mk (And.intro z0 (And.intro z1 (And.intro f0 st0)))
        clear z0 z1 f0 st0 f1 st1
        refine start_ (n := 17) (S := fun w' => Below w1.heap.size w1 w') (ds := [16]) #[false, false, false, false, false, false, false, false, false, false, false, false, false, false, false, false, false] (by kernel_rfl) rfl rfl (Below.refl _ _).drew (fun hHeld => ?_); refine with_tabW diff_table.tab14 diff_table.bits14 (fun HT_ HW_ => ?_)
        have GE := Aside0.mk (And.intro GD.out.drew (And.intro (show w1.drew.cell? ⟨g0, j, none⟩ = some (.int .i16 (G i j)) from ZZ.out.1 j (by have := HJM.out; omega)) (show w1.drew.frozen? ⟨g0, j, none⟩ = false from ZZ.out.2.2.1 j)))
        obtain ⟨w2, hZ_⟩ : ∃ Z_, w1.drew = Z_ := ⟨_, rfl⟩
        rw [hZ_] at hHeld GE ⊢
        clear hZ_
        refine pure_ (i := 1) (N := some 50) (v := ?_) (a' := ?_) #[false, true, false, false, false, false, false, false, false, false, false, false, false, false, false, false, false] rfl rfl (any_of HT_.out (by kernel_rfl)) (fun _ _ _ h => h) (Or.inl ⟨by rfl, ?_⟩) ?_ ?_
        rotate_left
        · intro w'
          go_simp
          with_reducible rfl
        rotate_left
        · simp only [Act.put, List.setIfInBounds_toArray, List.set_cons_zero, List.set_cons_succ, i64_w, i32_w]
          rfl
        refine pure_ (i := 4) (N := some 53) (v := ?_) (a' := ?_) #[false, true, false, false, true, false, false, false, false, false, false, false, false, false, false, false, false] rfl rfl (any_of HT_.out (by kernel_rfl)) (fun _ _ _ h => h) (Or.inl ⟨by rfl, ?_⟩) ?_ ?_
        rotate_left
        · intro w'
          go_simp
          with_reducible rfl
        rotate_left
        · simp only [Act.put, List.setIfInBounds_toArray, List.set_cons_zero, List.set_cons_succ, i64_w, i32_w]
          rfl
        refine pure_ (i := 6) (N := some 55) (v := ?_) (a' := ?_) #[false, true, false, false, true, false, true, false, false, false, false, false, false, false, false, false, false] rfl rfl (any_of HT_.out (by kernel_rfl)) (fun _ _ _ h => h) (Or.inl ⟨by rfl, ?_⟩) ?_ ?_
        rotate_left
        · intro w'
          go_simp
          with_reducible rfl
        rotate_left
        · simp only [Act.put, List.setIfInBounds_toArray, List.set_cons_zero, List.set_cons_succ, i64_w, i32_w]
          rfl
        refine pure_ (i := 7) (N := some 56) (v := ?_) (a' := ?_) #[false, true, false, false, true, false, true, true, false, false, false, false, false, false, false, false, false] rfl rfl (any_of HT_.out (by kernel_rfl)) (fun _ _ _ h => h) (Or.inl ⟨by rfl, ?_⟩) ?_ ?_
        rotate_left
        · intro w'
          go_simp
          with_reducible rfl
        rotate_left
        · simp only [Act.put, List.setIfInBounds_toArray, List.set_cons_zero, List.set_cons_succ, i64_w, i32_w]
          rfl
        refine pure_ (i := 10) (N := some 59) (v := ?_) (a' := ?_) #[false, true, false, false, true, false, true, true, false, false, true, false, false, false, false, false, false] rfl rfl (any_of HT_.out (by kernel_rfl)) (fun _ _ _ h => h) (Or.inl ⟨by rfl, ?_⟩) ?_ ?_
        rotate_left
        · intro w'
          go_simp
          with_reducible rfl
        rotate_left
        · simp only [Act.put, List.setIfInBounds_toArray, List.set_cons_zero, List.set_cons_succ, i64_w, i32_w]
          rfl
        refine pure_ (i := 11) (N := some 60) (v := ?_) (a' := ?_) #[false, true, false, false, true, false, true, true, false, false, true, true, false, false, false, false, false] rfl rfl (any_of HT_.out (by kernel_rfl)) (fun _ _ _ h => h) (Or.inl ⟨by rfl, ?_⟩) ?_ ?_
        rotate_left
        · intro w'
          go_simp
          with_reducible rfl
        rotate_left
        · simp only [Act.put, List.setIfInBounds_toArray, List.set_cons_zero, List.set_cons_succ, i64_w, i32_w]
          rfl
        refine take_ (i := 0) (N := some 49) (v := ?_) (a' := ?_) #[true, true, false, false, true, false, true, true, false, false, true, true, false, false, false, false, false] rfl rfl (take_ofW HT_.out HW_.out (by kernel_rfl)) (fun _ _ _ h => h) (Or.inl ⟨by rfl, ?_⟩) hHeld ?_ ?_
        rotate_left
        · intro w' hS_
          have s0 := pw_cell_below hS_ hv5
          go_simp
          with_reducible rfl
        rotate_left
        · simp only [Act.put, List.setIfInBounds_toArray, List.set_cons_zero, List.set_cons_succ, i64_w, i32_w]
          rfl
        refine pure_ (i := 2) (N := some 51) (v := ?_) (a' := ?_) #[true, true, true, false, true, false, true, true, false, false, true, true, false, false, false, false, false] rfl rfl (any_of HT_.out (by kernel_rfl)) (fun _ _ _ h => h) (Or.inl ⟨by rfl, ?_⟩) ?_ ?_
        rotate_left
        · intro w'
          go_simp
          with_reducible rfl
        rotate_left
        · simp only [Act.put, List.setIfInBounds_toArray, List.set_cons_zero, List.set_cons_succ, i64_w, i32_w]
          rfl
        refine take_ (i := 3) (N := some 52) (v := ?_) (a' := ?_) #[true, true, true, true, true, false, true, true, false, false, true, true, false, false, false, false, false] rfl rfl (take_ofW HT_.out HW_.out (by kernel_rfl)) (fun _ _ _ h => h) (Or.inl ⟨by rfl, ?_⟩) hHeld ?_ ?_
        rotate_left
        · intro w' hS_
          have s0 := pw_cell_below hS_ r0
          go_simp
          with_reducible rfl
        rotate_left
        · simp only [Act.put, List.setIfInBounds_toArray, List.set_cons_zero, List.set_cons_succ, i64_w, i32_w]
          rfl
        refine take_ (i := 5) (N := some 54) (v := ?_) (a' := ?_) #[true, true, true, true, true, true, true, true, false, false, true, true, false, false, false, false, false] rfl rfl (take_ofW HT_.out HW_.out (by kernel_rfl)) (fun _ _ _ h => h) (Or.inl ⟨by rfl, ?_⟩) hHeld ?_ ?_
        rotate_left
        · intro w' hS_
          have s0 := pw_cell_below hS_ hv5
          go_simp
          with_reducible rfl
        rotate_left
        · simp only [Act.put, List.setIfInBounds_toArray, List.set_cons_zero, List.set_cons_succ, i64_w, i32_w]
          rfl
        refine pure_ (i := 8) (N := some 57) (v := ?_) (a' := ?_) #[true, true, true, true, true, true, true, true, true, false, true, true, false, false, false, false, false] rfl rfl (any_of HT_.out (by kernel_rfl)) (fun _ _ _ h => h) (Or.inl ⟨by rfl, ?_⟩) ?_ ?_
        rotate_left
        · intro w'
          go_simp
          with_reducible rfl
        rotate_left
        · simp only [Act.put, List.setIfInBounds_toArray, List.set_cons_zero, List.set_cons_succ, i64_w, i32_w]
          rfl
        refine take_ (i := 9) (N := some 58) (v := ?_) (a' := ?_) #[true, true, true, true, true, true, true, true, true, true, true, true, false, false, false, false, false] rfl rfl (take_ofW HT_.out HW_.out (by kernel_rfl)) (fun _ _ _ h => h) (Or.inl ⟨by rfl, ?_⟩) hHeld ?_ ?_
        rotate_left
        · intro w' hS_
          have s0 := pw_cell_below hS_ r1
          go_simp
          with_reducible rfl
        rotate_left
        · simp only [Act.put, List.setIfInBounds_toArray, List.set_cons_zero, List.set_cons_succ, i64_w, i32_w]
          rfl
        refine pure_ (i := 12) (N := some 61) (v := ?_) (a' := ?_) #[true, true, true, true, true, true, true, true, true, true, true, true, true, false, false, false, false] rfl rfl (any_of HT_.out (by kernel_rfl)) (fun _ _ _ h => h) (Or.inl ⟨by rfl, ?_⟩) ?_ ?_
        rotate_left
        · intro w'
          go_simp
          with_reducible rfl
        rotate_left
        · simp only [Act.put, List.setIfInBounds_toArray, List.set_cons_zero, List.set_cons_succ, i64_w, i32_w]
          rfl
        refine take_ (i := 13) (N := some 62) (v := ?_) (a' := ?_) #[true, true, true, true, true, true, true, true, true, true, true, true, true, true, false, false, false] rfl rfl (take_ofW HT_.out HW_.out (by kernel_rfl)) (fun _ _ _ h => h) (Or.inl ⟨by rfl, ?_⟩) hHeld ?_ ?_
        rotate_left
        · intro w' hS_
          have s0 := pw_cell_below hS_ (ZZ.out.2.1 (j + 1) (by have := HJM.out; omega))
          go_simp
          with_reducible rfl
        rotate_left
        · simp only [Act.put, List.setIfInBounds_toArray, List.set_cons_zero, List.set_cons_succ, i64_w, i32_w]
          rfl
        refine pure_ (i := 14) (N := some 63) (v := ?_) (a' := ?_) #[true, true, true, true, true, true, true, true, true, true, true, true, true, true, true, false, false] rfl rfl (any_of HT_.out (by kernel_rfl)) (fun _ _ _ h => h) (Or.inl ⟨by rfl, ?_⟩) ?_ ?_
        rotate_left
        · intro w'
          go_simp
          with_reducible rfl
        rotate_left
        · simp only [Act.put, List.setIfInBounds_toArray, List.set_cons_zero, List.set_cons_succ, i64_w, i32_w]
          rfl
        refine pure_ (i := 15) (N := some 64) (v := ?_) (a' := ?_) #[true, true, true, true, true, true, true, true, true, true, true, true, true, true, true, true, false] rfl rfl (any_of HT_.out (by kernel_rfl)) (fun _ _ _ h => h) (Or.inl ⟨by rfl, ?_⟩) ?_ ?_
        rotate_left
        · intro w'
          go_simp
          with_reducible rfl
        rotate_left
        · simp only [Act.put, List.setIfInBounds_toArray, List.set_cons_zero, List.set_cons_succ, i64_w, i32_w]
          rfl
        refine last_ (i := 16) (N := none) #[true, true, true, true, true, true, true, true, true, true, true, true, true, true, true, true, true] rfl rfl (one_of HT_.out (by kernel_rfl)) (by decide) (fun K hK => ?_)
        have s0 := GE.out.2.1
        have s1 := GE.out.2.2
        refine skip_ (w1 := ?_) (by rfl) rfl ?_ ?_
        rotate_left
        · go_simp
          rfl
        refine hK.out _ _ ?_
        clear hK K
        refine done_ (done_of HT_.out (by kernel_rfl)) ?_
        clear HT_ HW_
        have GF := Aside0.mk (ZZ.out.2.2.2 w2 j (IntKind.i16.wrap (G (i + 1) (j + 1) + 1)) GE.out.1)
        have HV : Aside0 ((IntKind.i16.wrap (G (i + 1) (j + 1) + 1)) = Tt a b i j) := ⟨by
          have h1 := PZ.out (i + 1) (j + 1) (by have := HIN.out; omega) (by have := HJM.out; omega)
          have h2 := PZ.out (i + 1) j (by have := HIN.out; omega) (by have := HJM.out; omega)
          have h3 := PZ.out i (j + 1) (by have := HIN.out; omega) (by have := HJM.out; omega)
          rw [if_pos (by omega)] at h1 h2 h3
          have t1 := Tt_range a b (i + 1) (j + 1) (by have := HN.out; omega)
          have st := ST.out
          rw [if_pos EQ.out] at st
          rw [st]
          rw [h1]
          unfold IntKind.wrap
          simp [IntKind.bits, IntKind.signed]
          omega⟩
        obtain ⟨v, hv⟩ : ∃ v, (IntKind.i16.wrap (G (i + 1) (j + 1) + 1)) = v := ⟨_, rfl⟩
        rw [hv] at GF HV ⊢
        clear hv
        clear GE ZZ GD hHeld
        try clear s0
        try clear s1
        try clear r0
        try clear r1
        try clear hv5
        go_wp2
        go_roundg kj
        case measure => omega
        case rel => exact ⟨(j : Int) - 1, _, by have := HJM.out; have := HN.out; congr 1; unfold wrap64; omega, ⟨by omega, by have := HJM.out; omega, by have := HJ.out; omega⟩, GF, ⟨PZ.out.put HV.out⟩⟩
      case neg =>
        have c0 : (x.toList == y.toList) = false := beq_eq_false_iff_ne.mpr hxy
        have EQ : Aside0 (¬ x = y) := ⟨fun h => hxy (by rw [h])⟩
        clear hxy
        refine start_ (n := 9) (S := fun w' => Below wr.heap.size wr w') (ds := []) #[false, false, false, false, false, false, false, false, false] (by kernel_rfl) rfl rfl (Below.refl _ _).drew (fun hHeld => ?_); refine with_tabW diff_table.tab13 diff_table.bits13 (fun HT_ HW_ => ?_)
        have GD := Aside0.mk GR.out.drew
        obtain ⟨w1, hZ_⟩ : ∃ Z_, wr.drew = Z_ := ⟨_, rfl⟩
        rw [hZ_] at hHeld GD ⊢
        clear hZ_
        refine pure_ (i := 0) (N := some 40) (v := ?_) (a' := ?_) #[true, false, false, false, false, false, false, false, false] rfl rfl (any_of HT_.out (by kernel_rfl)) (fun _ _ _ h => h) (Or.inl ⟨by rfl, ?_⟩) ?_ ?_
        rotate_left
        · intro w'
          go_simp
          with_reducible rfl
        rotate_left
        · simp only [Act.put, List.setIfInBounds_toArray, List.set_cons_zero, List.set_cons_succ, i64_w, i32_w]
          rfl
        refine pure_ (i := 1) (N := some 41) (v := ?_) (a' := ?_) #[true, true, false, false, false, false, false, false, false] rfl rfl (any_of HT_.out (by kernel_rfl)) (fun _ _ _ h => h) (Or.inl ⟨by rfl, ?_⟩) ?_ ?_
        rotate_left
        · intro w'
          go_simp
          with_reducible rfl
        rotate_left
        · simp only [Act.put, List.setIfInBounds_toArray, List.set_cons_zero, List.set_cons_succ, i64_w, i32_w]
          rfl
        refine pure_ (i := 2) (N := some 42) (v := ?_) (a' := ?_) #[true, true, true, false, false, false, false, false, false] rfl rfl (any_of HT_.out (by kernel_rfl)) (fun _ _ _ h => h) (Or.inl ⟨by rfl, ?_⟩) ?_ ?_
        rotate_left
        · intro w'
          go_simp
          with_reducible rfl
        rotate_left
        · simp only [Act.put, List.setIfInBounds_toArray, List.set_cons_zero, List.set_cons_succ, i64_w, i32_w]
          rfl
        refine pure_ (i := 4) (N := some 44) (v := ?_) (a' := ?_) #[true, true, true, false, true, false, false, false, false] rfl rfl (any_of HT_.out (by kernel_rfl)) (fun _ _ _ h => h) (Or.inl ⟨by rfl, ?_⟩) ?_ ?_
        rotate_left
        · intro w'
          go_simp
          with_reducible rfl
        rotate_left
        · simp only [Act.put, List.setIfInBounds_toArray, List.set_cons_zero, List.set_cons_succ, i64_w, i32_w]
          rfl
        refine pure_ (i := 5) (N := some 45) (v := ?_) (a' := ?_) #[true, true, true, false, true, true, false, false, false] rfl rfl (any_of HT_.out (by kernel_rfl)) (fun _ _ _ h => h) (Or.inl ⟨by rfl, ?_⟩) ?_ ?_
        rotate_left
        · intro w'
          go_simp
          with_reducible rfl
        rotate_left
        · simp only [Act.put, List.setIfInBounds_toArray, List.set_cons_zero, List.set_cons_succ, i64_w, i32_w]
          rfl
        refine pure_ (i := 6) (N := some 46) (v := ?_) (a' := ?_) #[true, true, true, false, true, true, true, false, false] rfl rfl (any_of HT_.out (by kernel_rfl)) (fun _ _ _ h => h) (Or.inl ⟨by rfl, ?_⟩) ?_ ?_
        rotate_left
        · intro w'
          go_simp
          with_reducible rfl
        rotate_left
        · simp only [Act.put, List.setIfInBounds_toArray, List.set_cons_zero, List.set_cons_succ, i64_w, i32_w]
          rfl
        refine take_ (i := 3) (N := some 43) (v := ?_) (a' := ?_) #[true, true, true, true, true, true, true, false, false] rfl rfl (take_ofW HT_.out HW_.out (by kernel_rfl)) (fun _ _ _ h => h) (Or.inl ⟨by rfl, ?_⟩) hHeld ?_ ?_
        rotate_left
        · intro w' hS_
          have s0 := pw_cell_below hS_ hx
          go_simp
          with_reducible rfl
        rotate_left
        · simp only [Act.put, List.setIfInBounds_toArray, List.set_cons_zero, List.set_cons_succ, i64_w, i32_w]
          rfl
        refine take_ (i := 7) (N := some 47) (v := ?_) (a' := ?_) #[true, true, true, true, true, true, true, true, false] rfl rfl (take_ofW HT_.out HW_.out (by kernel_rfl)) (fun _ _ _ h => h) (Or.inl ⟨by rfl, ?_⟩) hHeld ?_ ?_
        rotate_left
        · intro w' hS_
          have s0 := pw_cell_below hS_ hy
          go_simp
          with_reducible rfl
        rotate_left
        · simp only [Act.put, List.setIfInBounds_toArray, List.set_cons_zero, List.set_cons_succ, i64_w, i32_w]
          rfl
        refine pure_ (i := 8) (N := some 48) (v := ?_) (a' := ?_) #[true, true, true, true, true, true, true, true, true] rfl rfl (any_of HT_.out (by kernel_rfl)) (fun _ _ _ h => h) (Or.inl ⟨by rfl, ?_⟩) ?_ ?_
        rotate_left
        · intro w'
          go_simp
          with_reducible rfl
        rotate_left
        · simp only [Act.put, List.setIfInBounds_toArray, List.set_cons_zero, List.set_cons_succ, i64_w, i32_w]
          rfl
        refine done_ (done_of HT_.out (by kernel_rfl)) ?_
        clear HT_ HW_
        clear c0 hx hy GR hHeld
        go_upto_region 15 with (fail)
        have hv5 := GD.out.var_cell
        obtain ⟨g0, r0, z0, f0, st0⟩ := GD.out.row i (by have := HIN.out; omega) (by have := HIN.out; omega)
        obtain ⟨g1, r1, z1, f1, st1⟩ := GD.out.row (i + 1) (by have := HIN.out; omega) (by have := HIN.out; omega)
        have ZZ := Aside0.mk (And.intro z0 (And.intro z1 (And.intro f0 st0)))
        clear z0 z1 f0 st0 f1 st1
        refine start_ (n := 24) (S := fun w' => Below w1.heap.size w1 w') (ds := [23]) #[false, false, false, false, false, false, false, false, false, false, false, false, false, false, false, false, false, false, false, false, false, false, false, false] (by kernel_rfl) rfl rfl (Below.refl _ _).drew (fun hHeld => ?_); refine with_tabW diff_table.tab15 diff_table.bits15 (fun HT_ HW_ => ?_)
        have GE := Aside0.mk (And.intro GD.out.drew (And.intro (show w1.drew.cell? ⟨g0, j, none⟩ = some (.int .i16 (G i j)) from ZZ.out.1 j (by have := HJM.out; omega)) (show w1.drew.frozen? ⟨g0, j, none⟩ = false from ZZ.out.2.2.1 j)))
        obtain ⟨w2, hZ_⟩ : ∃ Z_, w1.drew = Z_ := ⟨_, rfl⟩
        rw [hZ_] at hHeld GE ⊢
        clear hZ_
        refine pure_ (i := 1) (N := some 66) (v := ?_) (a' := ?_) #[false, true, false, false, false, false, false, false, false, false, false, false, false, false, false, false, false, false, false, false, false, false, false, false] rfl rfl (any_of HT_.out (by kernel_rfl)) (fun _ _ _ h => h) (Or.inl ⟨by rfl, ?_⟩) ?_ ?_
        rotate_left
        · intro w'
          go_simp
          with_reducible rfl
        rotate_left
        · simp only [Act.put, List.setIfInBounds_toArray, List.set_cons_zero, List.set_cons_succ, i64_w, i32_w]
          rfl
        refine pure_ (i := 4) (N := some 69) (v := ?_) (a' := ?_) #[false, true, false, false, true, false, false, false, false, false, false, false, false, false, false, false, false, false, false, false, false, false, false, false] rfl rfl (any_of HT_.out (by kernel_rfl)) (fun _ _ _ h => h) (Or.inl ⟨by rfl, ?_⟩) ?_ ?_
        rotate_left
        · intro w'
          go_simp
          with_reducible rfl
        rotate_left
        · simp only [Act.put, List.setIfInBounds_toArray, List.set_cons_zero, List.set_cons_succ, i64_w, i32_w]
          rfl
        refine pure_ (i := 6) (N := some 71) (v := ?_) (a' := ?_) #[false, true, false, false, true, false, true, false, false, false, false, false, false, false, false, false, false, false, false, false, false, false, false, false] rfl rfl (any_of HT_.out (by kernel_rfl)) (fun _ _ _ h => h) (Or.inl ⟨by rfl, ?_⟩) ?_ ?_
        rotate_left
        · intro w'
          go_simp
          with_reducible rfl
        rotate_left
        · simp only [Act.put, List.setIfInBounds_toArray, List.set_cons_zero, List.set_cons_succ, i64_w, i32_w]
          rfl
        refine pure_ (i := 7) (N := some 72) (v := ?_) (a' := ?_) #[false, true, false, false, true, false, true, true, false, false, false, false, false, false, false, false, false, false, false, false, false, false, false, false] rfl rfl (any_of HT_.out (by kernel_rfl)) (fun _ _ _ h => h) (Or.inl ⟨by rfl, ?_⟩) ?_ ?_
        rotate_left
        · intro w'
          go_simp
          with_reducible rfl
        rotate_left
        · simp only [Act.put, List.setIfInBounds_toArray, List.set_cons_zero, List.set_cons_succ, i64_w, i32_w]
          rfl
        refine pure_ (i := 10) (N := some 75) (v := ?_) (a' := ?_) #[false, true, false, false, true, false, true, true, false, false, true, false, false, false, false, false, false, false, false, false, false, false, false, false] rfl rfl (any_of HT_.out (by kernel_rfl)) (fun _ _ _ h => h) (Or.inl ⟨by rfl, ?_⟩) ?_ ?_
        rotate_left
        · intro w'
          go_simp
          with_reducible rfl
        rotate_left
        · simp only [Act.put, List.setIfInBounds_toArray, List.set_cons_zero, List.set_cons_succ, i64_w, i32_w]
          rfl
        refine pure_ (i := 14) (N := some 79) (v := ?_) (a' := ?_) #[false, true, false, false, true, false, true, true, false, false, true, false, false, false, true, false, false, false, false, false, false, false, false, false] rfl rfl (any_of HT_.out (by kernel_rfl)) (fun _ _ _ h => h) (Or.inl ⟨by rfl, ?_⟩) ?_ ?_
        rotate_left
        · intro w'
          go_simp
          with_reducible rfl
        rotate_left
        · simp only [Act.put, List.setIfInBounds_toArray, List.set_cons_zero, List.set_cons_succ, i64_w, i32_w]
          rfl
        refine pure_ (i := 17) (N := some 82) (v := ?_) (a' := ?_) #[false, true, false, false, true, false, true, true, false, false, true, false, false, false, true, false, false, true, false, false, false, false, false, false] rfl rfl (any_of HT_.out (by kernel_rfl)) (fun _ _ _ h => h) (Or.inl ⟨by rfl, ?_⟩) ?_ ?_
        rotate_left
        · intro w'
          go_simp
          with_reducible rfl
        rotate_left
        · simp only [Act.put, List.setIfInBounds_toArray, List.set_cons_zero, List.set_cons_succ, i64_w, i32_w]
          rfl
        refine pure_ (i := 18) (N := some 83) (v := ?_) (a' := ?_) #[false, true, false, false, true, false, true, true, false, false, true, false, false, false, true, false, false, true, true, false, false, false, false, false] rfl rfl (any_of HT_.out (by kernel_rfl)) (fun _ _ _ h => h) (Or.inl ⟨by rfl, ?_⟩) ?_ ?_
        rotate_left
        · intro w'
          go_simp
          with_reducible rfl
        rotate_left
        · simp only [Act.put, List.setIfInBounds_toArray, List.set_cons_zero, List.set_cons_succ, i64_w, i32_w]
          rfl
        refine take_ (i := 0) (N := some 65) (v := ?_) (a' := ?_) #[true, true, false, false, true, false, true, true, false, false, true, false, false, false, true, false, false, true, true, false, false, false, false, false] rfl rfl (take_ofW HT_.out HW_.out (by kernel_rfl)) (fun _ _ _ h => h) (Or.inl ⟨by rfl, ?_⟩) hHeld ?_ ?_
        rotate_left
        · intro w' hS_
          have s0 := pw_cell_below hS_ hv5
          go_simp
          with_reducible rfl
        rotate_left
        · simp only [Act.put, List.setIfInBounds_toArray, List.set_cons_zero, List.set_cons_succ, i64_w, i32_w]
          rfl
        refine pure_ (i := 2) (N := some 67) (v := ?_) (a' := ?_) #[true, true, true, false, true, false, true, true, false, false, true, false, false, false, true, false, false, true, true, false, false, false, false, false] rfl rfl (any_of HT_.out (by kernel_rfl)) (fun _ _ _ h => h) (Or.inl ⟨by rfl, ?_⟩) ?_ ?_
        rotate_left
        · intro w'
          go_simp
          with_reducible rfl
        rotate_left
        · simp only [Act.put, List.setIfInBounds_toArray, List.set_cons_zero, List.set_cons_succ, i64_w, i32_w]
          rfl
        refine take_ (i := 3) (N := some 68) (v := ?_) (a' := ?_) #[true, true, true, true, true, false, true, true, false, false, true, false, false, false, true, false, false, true, true, false, false, false, false, false] rfl rfl (take_ofW HT_.out HW_.out (by kernel_rfl)) (fun _ _ _ h => h) (Or.inl ⟨by rfl, ?_⟩) hHeld ?_ ?_
        rotate_left
        · intro w' hS_
          have s0 := pw_cell_below hS_ r0
          go_simp
          with_reducible rfl
        rotate_left
        · simp only [Act.put, List.setIfInBounds_toArray, List.set_cons_zero, List.set_cons_succ, i64_w, i32_w]
          rfl
        refine take_ (i := 5) (N := some 70) (v := ?_) (a' := ?_) #[true, true, true, true, true, true, true, true, false, false, true, false, false, false, true, false, false, true, true, false, false, false, false, false] rfl rfl (take_ofW HT_.out HW_.out (by kernel_rfl)) (fun _ _ _ h => h) (Or.inl ⟨by rfl, ?_⟩) hHeld ?_ ?_
        rotate_left
        · intro w' hS_
          have s0 := pw_cell_below hS_ hv5
          go_simp
          with_reducible rfl
        rotate_left
        · simp only [Act.put, List.setIfInBounds_toArray, List.set_cons_zero, List.set_cons_succ, i64_w, i32_w]
          rfl
        refine pure_ (i := 8) (N := some 73) (v := ?_) (a' := ?_) #[true, true, true, true, true, true, true, true, true, false, true, false, false, false, true, false, false, true, true, false, false, false, false, false] rfl rfl (any_of HT_.out (by kernel_rfl)) (fun _ _ _ h => h) (Or.inl ⟨by rfl, ?_⟩) ?_ ?_
        rotate_left
        · intro w'
          go_simp
          with_reducible rfl
        rotate_left
        · simp only [Act.put, List.setIfInBounds_toArray, List.set_cons_zero, List.set_cons_succ, i64_w, i32_w]
          rfl
        refine take_ (i := 9) (N := some 74) (v := ?_) (a' := ?_) #[true, true, true, true, true, true, true, true, true, true, true, false, false, false, true, false, false, true, true, false, false, false, false, false] rfl rfl (take_ofW HT_.out HW_.out (by kernel_rfl)) (fun _ _ _ h => h) (Or.inl ⟨by rfl, ?_⟩) hHeld ?_ ?_
        rotate_left
        · intro w' hS_
          have s0 := pw_cell_below hS_ r1
          go_simp
          with_reducible rfl
        rotate_left
        · simp only [Act.put, List.setIfInBounds_toArray, List.set_cons_zero, List.set_cons_succ, i64_w, i32_w]
          rfl
        refine pure_ (i := 11) (N := some 76) (v := ?_) (a' := ?_) #[true, true, true, true, true, true, true, true, true, true, true, true, false, false, true, false, false, true, true, false, false, false, false, false] rfl rfl (any_of HT_.out (by kernel_rfl)) (fun _ _ _ h => h) (Or.inl ⟨by rfl, ?_⟩) ?_ ?_
        rotate_left
        · intro w'
          go_simp
          with_reducible rfl
        rotate_left
        · simp only [Act.put, List.setIfInBounds_toArray, List.set_cons_zero, List.set_cons_succ, i64_w, i32_w]
          rfl
        refine take_ (i := 12) (N := some 77) (v := ?_) (a' := ?_) #[true, true, true, true, true, true, true, true, true, true, true, true, true, false, true, false, false, true, true, false, false, false, false, false] rfl rfl (take_ofW HT_.out HW_.out (by kernel_rfl)) (fun _ _ _ h => h) (Or.inl ⟨by rfl, ?_⟩) hHeld ?_ ?_
        rotate_left
        · intro w' hS_
          have s0 := pw_cell_below hS_ (ZZ.out.2.1 j (by have := HJM.out; omega))
          go_simp
          with_reducible rfl
        rotate_left
        · simp only [Act.put, List.setIfInBounds_toArray, List.set_cons_zero, List.set_cons_succ, i64_w, i32_w]
          rfl
        refine take_ (i := 13) (N := some 78) (v := ?_) (a' := ?_) #[true, true, true, true, true, true, true, true, true, true, true, true, true, true, true, false, false, true, true, false, false, false, false, false] rfl rfl (take_ofW HT_.out HW_.out (by kernel_rfl)) (fun _ _ _ h => h) (Or.inl ⟨by rfl, ?_⟩) hHeld ?_ ?_
        rotate_left
        · intro w' hS_
          have s0 := pw_cell_below hS_ hv5
          go_simp
          with_reducible rfl
        rotate_left
        · simp only [Act.put, List.setIfInBounds_toArray, List.set_cons_zero, List.set_cons_succ, i64_w, i32_w]
          rfl
        refine pure_ (i := 15) (N := some 80) (v := ?_) (a' := ?_) #[true, true, true, true, true, true, true, true, true, true, true, true, true, true, true, true, false, true, true, false, false, false, false, false] rfl rfl (any_of HT_.out (by kernel_rfl)) (fun _ _ _ h => h) (Or.inl ⟨by rfl, ?_⟩) ?_ ?_
        rotate_left
        · intro w'
          go_simp
          with_reducible rfl
        rotate_left
        · simp only [Act.put, List.setIfInBounds_toArray, List.set_cons_zero, List.set_cons_succ, i64_w, i32_w]
          rfl
        refine take_ (i := 16) (N := some 81) (v := ?_) (a' := ?_) #[true, true, true, true, true, true, true, true, true, true, true, true, true, true, true, true, true, true, true, false, false, false, false, false] rfl rfl (take_ofW HT_.out HW_.out (by kernel_rfl)) (fun _ _ _ h => h) (Or.inl ⟨by rfl, ?_⟩) hHeld ?_ ?_
        rotate_left
        · intro w' hS_
          have s0 := pw_cell_below hS_ r0
          go_simp
          with_reducible rfl
        rotate_left
        · simp only [Act.put, List.setIfInBounds_toArray, List.set_cons_zero, List.set_cons_succ, i64_w, i32_w]
          rfl
        refine pure_ (i := 19) (N := some 84) (v := ?_) (a' := ?_) #[true, true, true, true, true, true, true, true, true, true, true, true, true, true, true, true, true, true, true, true, false, false, false, false] rfl rfl (any_of HT_.out (by kernel_rfl)) (fun _ _ _ h => h) (Or.inl ⟨by rfl, ?_⟩) ?_ ?_
        rotate_left
        · intro w'
          go_simp
          with_reducible rfl
        rotate_left
        · simp only [Act.put, List.setIfInBounds_toArray, List.set_cons_zero, List.set_cons_succ, i64_w, i32_w]
          rfl
        refine take_ (i := 20) (N := some 85) (v := ?_) (a' := ?_) #[true, true, true, true, true, true, true, true, true, true, true, true, true, true, true, true, true, true, true, true, true, false, false, false] rfl rfl (take_ofW HT_.out HW_.out (by kernel_rfl)) (fun _ _ _ h => h) (Or.inl ⟨by rfl, ?_⟩) hHeld ?_ ?_
        rotate_left
        · intro w' hS_
          have s0 := pw_cell_below hS_ (ZZ.out.1 (j + 1) (by have := HJM.out; omega))
          go_simp
          with_reducible rfl
        rotate_left
        · simp only [Act.put, List.setIfInBounds_toArray, List.set_cons_zero, List.set_cons_succ, i64_w, i32_w]
          rfl
        refine pure_ (i := 21) (N := some 86) (v := ?_) (a' := ?_) #[true, true, true, true, true, true, true, true, true, true, true, true, true, true, true, true, true, true, true, true, true, true, false, false] rfl rfl (any_of HT_.out (by kernel_rfl)) (fun _ _ _ h => h) (Or.inl ⟨by rfl, ?_⟩) ?_ ?_
        rotate_left
        · intro w'
          go_simp
          with_reducible rfl
        rotate_left
        · simp only [Act.put, List.setIfInBounds_toArray, List.set_cons_zero, List.set_cons_succ, i64_w, i32_w]
          rfl
        refine pure_ (i := 22) (N := some 87) (v := ?_) (a' := ?_) #[true, true, true, true, true, true, true, true, true, true, true, true, true, true, true, true, true, true, true, true, true, true, true, false] rfl rfl (any_of HT_.out (by kernel_rfl)) (fun _ _ _ h => h) (Or.inl ⟨by rfl, ?_⟩) ?_ ?_
        rotate_left
        · intro w'
          go_simp
          with_reducible rfl
        rotate_left
        · simp only [Act.put, List.setIfInBounds_toArray, List.set_cons_zero, List.set_cons_succ, i64_w, i32_w]
          rfl
        refine last_ (i := 23) (N := none) #[true, true, true, true, true, true, true, true, true, true, true, true, true, true, true, true, true, true, true, true, true, true, true, true] rfl rfl (one_of HT_.out (by kernel_rfl)) (by decide) (fun K hK => ?_)
        have s0 := GE.out.2.1
        have s1 := GE.out.2.2
        refine skip_ (w1 := ?_) (by rfl) rfl ?_ ?_
        rotate_left
        · go_simp
          rfl
        refine hK.out _ _ ?_
        clear hK K
        refine done_ (done_of HT_.out (by kernel_rfl)) ?_
        clear HT_ HW_
        have GF := Aside0.mk (ZZ.out.2.2.2 w2 j (if G (i + 1) j < G i (j + 1) then G i (j + 1) else G (i + 1) j) GE.out.1)
        have HV : Aside0 ((if G (i + 1) j < G i (j + 1) then G i (j + 1) else G (i + 1) j) = Tt a b i j) := ⟨by
          have h1 := PZ.out (i + 1) (j + 1) (by have := HIN.out; omega) (by have := HJM.out; omega)
          have h2 := PZ.out (i + 1) j (by have := HIN.out; omega) (by have := HJM.out; omega)
          have h3 := PZ.out i (j + 1) (by have := HIN.out; omega) (by have := HJM.out; omega)
          rw [if_pos (by omega)] at h1 h2 h3
          have t1 := Tt_range a b (i + 1) (j + 1) (by have := HN.out; omega)
          have st := ST.out
          rw [if_neg EQ.out] at st
          rw [st]
          rw [h2, h3]
          split <;> omega⟩
        obtain ⟨v, hv⟩ : ∃ v, (if G (i + 1) j < G i (j + 1) then G i (j + 1) else G (i + 1) j) = v := ⟨_, rfl⟩
        rw [hv] at GF HV ⊢
        clear hv
        clear GE ZZ GD hHeld
        try clear s0
        try clear s1
        try clear r0
        try clear r1
        try clear hv5
        go_wp2
        go_roundg kj
        case measure => omega
        case rel => exact ⟨(j : Int) - 1, _, by have := HJM.out; have := HN.out; congr 1; unfold wrap64; omega, ⟨by omega, by have := HJM.out; omega, by have := HJ.out; omega⟩, GF, ⟨PZ.out.put HV.out⟩⟩
end Go.Proofs.YtbomhpfckplgaaaDoor.P
namespace Go.Proofs.YtbomhpfckplgaaaDoor.P
open Go Go.RowKit Go.Proofs.YtbomhpfckplgaaaDoorW.PrintWords Go.Proofs.YtbomhpfckplgaaaDoorW.PrintLast Go.Proofs.YtbomhpfckplgaaaDoorW.PrintMore
set_option linter.unusedVariables false
set_option linter.unusedSimpArgs false
set_option maxRecDepth 100000
attribute [local go_sem] max2_int min2_int max_two min_two max_three min_three max_four min_four
structure GridC (w W : World) (n m : Nat) (G : Nat → Nat → Int) : Prop where
  var : W.cell? ⟨w.heap.size + 1, 0, none⟩ = some (.slice (some ⟨w.heap.size, 0, none⟩) (n + 1) (n + 1))
  row : ∀ i, i < n + 1 → ∃ g, W.cell? ⟨w.heap.size, i, none⟩ = some (.slice (some ⟨g, 0, none⟩) (m + 1) (m + 1)) ∧ ∀ j, j < m + 1 → W.cell? ⟨g, j, none⟩ = some (.int .i16 (G i j))
theorem Grid.reads {w W : World} {n m : Nat} {G : Nat → Nat → Int} (h : Grid w W n m (n + 1) G) : GridC w W n m G :=
  ⟨h.var_cell, fun i hi => by obtain ⟨g, h1, h2, _⟩ := h.row i hi hi; exact ⟨g, h1, h2⟩⟩
theorem GridC.below {w W W' : World} {n m : Nat} {G : Nat → Nat → Int} (h : GridC w W n m G) (hb : Below W.heap.size W W') : GridC w W' n m G :=
  ⟨pw_cell_below hb h.var, fun i hi => by obtain ⟨g, h1, h2⟩ := h.row i hi; exact ⟨g, pw_cell_below hb h1, fun j hj => pw_cell_below hb (h2 j hj)⟩⟩
set_option maxHeartbeats 2000000 in
theorem at_any (w W : World) (n m : Nat) (G : Nat → Nat → Int) (i j : Nat) (hi : i < n + 1) (hj : j < m + 1) (h : GridC w W n m G) :
    Calls Tryd.prog 119 #[.int .i64 (i : Int), .int .i64 (j : Int), .pointer (some ⟨w.heap.size + 1, 0, none⟩)] W fun e w' => e = .returned (.int .i64 (wrap64 (G i j))) ∧ W = w' := by
  have hu157 := Tryd.underlying157
  have hu158 := Tryd.underlying158
  have hu159 := Tryd.underlying159
  have hu3 := Tryd.underlying3
  have c5 := h.var
  obtain ⟨g, c6, h2⟩ := h.row i hi
  have c7 := h2 j hj
  clear h2 h
  have bi : (i : Int) < (n : Int) + 1 := by omega
  have bj : (j : Int) < (m : Int) + 1 := by omega
  go_enter Tryd.func119, Tryd.ntmps119
  go_wp2
  go_ret
  exact ⟨rfl, rfl⟩
theorem at_tab (w W : World) (a b : List ByteArray) (ha : a.length ≤ 2048) (i j : Nat) (hi : i ≤ a.length) (hj : j ≤ b.length) (h : GridC w W a.length b.length (Tt a b)) :
    Calls Tryd.prog 119 #[.int .i64 (i : Int), .int .i64 (j : Int), .pointer (some ⟨w.heap.size + 1, 0, none⟩)] W fun e w' => e = .returned (.int .i64 (Tt a b i j)) ∧ W = w' := by
  have h_ := at_any w W _ _ _ i j (by omega) (by omega) h
  have := Tt_range a b i j ha
  rwa [show wrap64 (Tt a b i j) = Tt a b i j by unfold wrap64; omega] at h_
open LCS in
def diff_Distance.f (l0 l1 : List Int) : Option (Int × Int) :=
  (diff_steps.f l0).bind fun x => (diff_steps.f l1).bind fun y => if x.length > 2048 ∨ y.length > 2048 then some (0, 190) else some ((x.length : Int) + y.length - 2 * (lcsN x y : Nat), 0)
open LCS in
theorem Tt_zero (a b : List ByteArray) : Tt a b 0 0 = (lcsN a b : Nat) := by
  unfold Tt
  rw [lcsN_is]
  rfl
set_option maxHeartbeats 8000000 in
theorem diff_Distance.calls (A0 : Option Addr) (c0 : Nat) (l0 : List Int) (A1 : Option Addr) (c1 : Nat) (l1 : List Int) (r1 r2 : Int) (w : World) (hr0 : Kd.C (Kd.int .u8) w A0 l0.length l0) (hc0 : l0.length ≤ c0) (hr1 : Kd.C (Kd.int .u8) w A1 l1.length l1) (hc1 : l1.length ≤ c1) (hG : Laid w) (h : diff_Distance.f l0 l1 = some (r1, r2)) :
    Calls Tryd.prog 46 #[.slice A0 l0.length c0, .slice A1 l1.length c1] w fun e w' => e = .returned (.tuple #[.int .i64 r1, .int .i64 r2]) ∧ Below w.heap.size w w' := by
  unfold diff_Distance.f at h
  obtain ⟨x, hx, h⟩ := Option.bind_eq_some_iff.1 h
  obtain ⟨y, hy, h⟩ := Option.bind_eq_some_iff.1 h
  have HX : Aside0 (∀ W, Below w.heap.size w W → Calls Tryd.prog 87 #[.slice A0 l0.length c0] W fun e w' => ∃ v0_ : Value, e = .returned v0_ ∧ Kd.R Kd.string 9 w' W.heap.size (fun _ => True) v0_ x ∧ Below W.heap.size W w') := ⟨fun W hW => diff_steps.calls A0 c0 l0 x W (Kd.C_below hr0 hW) hc0 (hG.below hW) hx⟩
  have HY : Aside0 (∀ W, Below w.heap.size w W → Calls Tryd.prog 87 #[.slice A1 l1.length c1] W fun e w' => ∃ v0_ : Value, e = .returned v0_ ∧ Kd.R Kd.string 9 w' W.heap.size (fun _ => True) v0_ y ∧ Below W.heap.size W w') := ⟨fun W hW => diff_steps.calls A1 c1 l1 y W (Kd.C_below hr1 hW) hc1 (hG.below hW) hy⟩
  have H := Aside0.mk h
  clear h hx hy hr0 hc0 hr1 hc1 hG
  go_enter Tryd.func46, Tryd.ntmps46
  go_upto_region 2 with (first | (go_at_call 87; with_reducible refine (HX.out _ (Below.refl _ _)).mono ?_; rintro e w3 ⟨vx, rfl, hx, hb3⟩) | (go_at_call 87; with_reducible refine (HY.out _ hb3).mono ?_; rintro e w4 ⟨vy, rfl, hy, hb4⟩))
  have RX := Aside0.mk (Kd.R_below hx hb4)
  have RY := Aside0.mk hy
  have B4 := Aside0.mk (hb3.trans (hb4.mono hb3.size))
  clear hx hy hb3 hb4 HX HY
  obtain ⟨Ax, cx, rfl⟩ := Kd.R_slice RX.out
  obtain ⟨Ay, cy, rfl⟩ := Kd.R_slice RY.out
  by_cases d1 : (x.length : Int) > 2048
  case pos =>
    have := H.out
    rw [if_pos (by omega)] at this
    obtain ⟨rfl, rfl⟩ := Prod.mk.inj (Option.some.inj this)
    have e1 : decide ((x.length : Int) > 2048) = true := decide_eq_true d1
    clear this H
    go_wp2
    go_ret2
    exact ⟨rfl, B4.out⟩
  have e1 : decide ((x.length : Int) > 2048) = false := decide_eq_false d1
  by_cases d2 : (y.length : Int) > 2048
  case pos =>
    have := H.out
    rw [if_pos (by omega)] at this
    obtain ⟨rfl, rfl⟩ := Prod.mk.inj (Option.some.inj this)
    have e2 : decide ((y.length : Int) > 2048) = true := decide_eq_true d2
    clear this H
    go_wp2
    go_ret2
    exact ⟨rfl, B4.out⟩
  have e2 : decide ((y.length : Int) > 2048) = false := decide_eq_false d2
  have hxl : x.length ≤ 2048 := by omega
  have hyl : y.length ≤ 2048 := by omega
  have h := H.out
  rw [if_neg (by omega), ← Tt_zero] at h
  obtain ⟨rfl, rfl⟩ := Prod.mk.inj (Option.some.inj h)
  have HL := Aside0.mk (And.intro hxl hyl)
  have HT := Aside0.mk (Tt_range x y 0 0 hxl)
  have hw1 : wrap64 ((x.length : Int) + (y.length : Int)) = (x.length : Int) + y.length := by unfold wrap64; omega
  have hw2 : wrap64 (2 * Tt x y 0 0) = 2 * Tt x y 0 0 := by have := HT.out; unfold wrap64; omega
  have hw3 : wrap64 ((x.length : Int) + y.length - 2 * Tt x y 0 0) = (x.length : Int) + y.length - 2 * Tt x y 0 0 := by have := HT.out; unfold wrap64; omega
  clear H h hxl hyl d1 d2
  go_wp2_with (first | (go_at_call 89; refine (table_any Ax Ay cx cy x.length y.length x y rfl rfl HL.out.1 HL.out.2 w4 (Kd.R_reads' RX.out).2.2 (Kd.R_reads' RY.out).2.2).mono ?_; rintro e w5 ⟨rfl, hg⟩; have GC := Aside0.mk hg.reads; have B5 := Aside0.mk hg.below; clear hg) | (go_at_call 119; refine (at_tab w4 w5 x y HL.out.1 0 0 (Nat.zero_le _) (Nat.zero_le _) GC.out).mono ?_; rintro e w6 ⟨rfl, rfl⟩))
  go_ret2
  exact ⟨by simp [hw1, hw2, hw3], B4.out.trans (B5.out.mono B4.out.size)⟩
end Go.Proofs.YtbomhpfckplgaaaDoor.P
namespace Go.Proofs.YtbomhpfckplgaaaDoor.P
open Go.RowKit Go.Proofs.YtbomhpfckplgaaaDoorW.PrintWords Go.Proofs.YtbomhpfckplgaaaDoorW.PrintLast Go.Proofs.YtbomhpfckplgaaaDoorW.PrintMore
attribute [local go_sem] max2_int min2_int max_two min_two max_three min_three max_four min_four   -- for this text's walks alone
set_option linter.unusedVariables false
set_option linter.unusedSimpArgs false
def galleyref19_Steps.l0 : Nat → List Int → List ByteArray → List Int → Int → Option (List ByteArray)
 | 0, _, _, _, _ => none
 | k + 1, x0, x3, x4, x5 => if (wrap64 (x5 + 1)) < (x4.length : Int) then (if 0 ≤ x5 then (if x5 < (x4.length : Int) then (if 0 ≤ (wrap64 (x5 + 1)) then (if 0 ≤ (rd x4 x5) then (if (rd x4 x5) ≤ (rd x4 (wrap64 (x5 + 1))) then (if (rd x4 (wrap64 (x5 + 1))) ≤ (x0.length : Int) then (if x3.length < 8796093022208 then (galleyref19_Steps.l0 k x0 (x3 ++ [strOfNums ((x0.take ((rd x4 (wrap64 (x5 + 1))) : Int).toNat).drop ((rd x4 x5) : Int).toNat)]) x4 (wrap64 (x5 + 1))) else (none)) else (none)) else (none)) else (none)) else (none)) else (none)) else (none)) else (some x3)
def galleyref19_Steps.f (k : Nat) (l0 : List Int) : Option (List ByteArray) := (galleyref02_Edges.f k l0).bind fun t1172 => (galleyref19_Steps.l0 k l0 ([] : List ByteArray) t1172 0)
def galleyref19_Steps.T6 : Bool × List (List Nat × List Nat) := (true, [([], []), ([], []), ([], []), ([], []), ([2, 3], [2, 3]), ([4], [4]), ([], []), ([], []), ([7], [7]), ([6, 8], [6, 8]), ([9], [9]), ([1, 5, 10], [1, 5, 10]), ([11], [11]), ([12], [12]), ([0, 13], [0, 13]), ([14, 14, 0, 1, 2, 3, 4, 5, 6, 7, 8, 9, 10, 11, 12, 13, 14], [0, 14])])
def galleyref19_Steps.B6 : List Nat := [0, 0, 0, 0, 12, 28, 0, 0, 128, 448, 960, 2046, 4094, 8190, 16383, 32767]
theorem galleyref19_Steps.tab6 : rtab .any (opsOf Tryd.f77 6) = galleyref19_Steps.T6 := by kernel_rfl
theorem galleyref19_Steps.bits6 : waitsOk galleyref19_Steps.T6.2 galleyref19_Steps.B6 = true := by kernel_rfl
set_option maxHeartbeats 8000000 in
set_option maxRecDepth 100000 in
theorem galleyref19_Steps.calls (k : Nat) (A0 : Option Addr) (c0 : Nat) (l0 : List Int) (r : List ByteArray) (w : World) (hr0 : Kd.C (Kd.int .u8) w A0 l0.length l0) (hc0 : l0.length ≤ c0) (h : galleyref19_Steps.f k l0 = some r) :
  Calls Tryd.prog 77 #[.slice A0 l0.length c0] w fun e w' => ∃ v0_ : Value, e = .returned (v0_) ∧ Kd.R Kd.string 9 w' w.heap.size (fun _ => True) v0_ r ∧ Below w.heap.size w w' := by
 have HR0 := Aside0.mk hr0
 have HC0 := Aside0.mk hc0
 clear hr0 hc0
 have HB := Aside0.mk (Below.refl w.heap.size w)
 have H : ((galleyref02_Edges.f k l0).bind fun t1172 => (galleyref19_Steps.l0 k l0 ([] : List ByteArray) t1172 0)) = some r := h
 clear h
 replace H := Option.bind_eq_some_iff.mp H
 obtain ⟨t1172, A20, H⟩ := H
 replace H : (galleyref19_Steps.l0 k l0 ([] : List ByteArray) t1172 0) = some r := H
 have A2 := Aside0.mk A20
 clear A20
 have H' := Aside0.mk H
 clear H
 go_enter Tryd.func77, Tryd.ntmps77
 go_wp2_with (first | ((with_reducible refine gate_callee (f := 90) rfl ?_); refine goesL_ (some 7) rfl rfl Tryd.func90 (by kernel_rfl) rfl #[.slice A0 l0.length c0] rfl (by (try simp only [List.map_toArray, List.map_cons, List.map_nil]); first | done | rfl | (simp only [List.length_drop, List.length_take]; rfl)) ?_; (with_reducible refine (galleyref02_Edges.calls k _ _ l0 t1172 _ ?side1 ?side2 A2.out).mono ?_); (case side1 => repeat (first | exact HR0.out | (with_reducible refine Kd.C_alloc ?_ _) | (with_reducible refine Kd.C_drewN ?_ _) | (with_reducible refine Kd.C_drew ?_))); (case side2 => exact HC0.out); rintro e w3 ⟨v1173, rfl, ho0, hb⟩; refine ⟨_, rfl, ?_⟩; have n0_ := Aside0.mk (Kd.R_lower ho0 (below_size (by repeat (first | (with_reducible first | exact HB.out | apply below_alloc | apply pw_below_drewN | apply below_drew1) | exact HB.out)))); have n1_ := Aside0.mk (below_step (by repeat (first | (with_reducible first | exact HB.out | apply below_alloc | apply pw_below_drewN | apply below_drew1) | exact HB.out)) hb); clear HB; have HO1174 := n0_; have HB := n1_; clear n0_ n1_; (try clear hb); (try clear hb2); (try clear hk); (try clear hi); (try clear ho0)))
 go_loopg [3, 5] k (fun kq v3 v5 w' => ∃ (x3_1 : List ByteArray) (x5_1 : Int), v5 = .int .i64 x5_1 ∧ Aside0 (galleyref19_Steps.l0 kq l0 x3_1 t1172 x5_1 = some r) ∧ Aside0 (kq ≤ k) ∧ Aside0 (Kd.R Kd.string 9 w' w.heap.size (fun _ => True) v3 x3_1) ∧ Aside0 (Kd.R (Kd.int .i64) 3 w' w.heap.size (fun _ => True) v1173 t1172) ∧ Aside0 (Below w.heap.size w w'))
 case atStart => exact ⟨(([] : List ByteArray)), (0), (by first | rfl | (simp; done) | (simp [*]; done)), H', ⟨Nat.le_refl _⟩, ⟨by first | exact Kd.R_nil _ _ _ _ _ | exact Kd.N_nil _ _ _ _ _ | exact Kd.V_nil _ _ _ _ _ | exact Kd.Q_nil _ _ _ _ _ | exact Kd.S_nil _ _ _ _ _⟩, ⟨by (with_reducible repeat (first | apply Kd.R_alloc | apply Kd.R_drewN | apply Kd.R_drew)); exact HO1174.out⟩, ⟨by repeat (first | (with_reducible first | exact HB.out | apply below_alloc | apply pw_below_drewN | apply below_drew1) | exact HB.out)⟩⟩
 case round =>
  clear H'
  (try clear p2)
  obtain ⟨x3_1, x5_1, rfl, HA, HK1, HO_3, HO_4, HB⟩ := hrel
  cases gk with
  | zero => exact absurd HA.out (by simp [galleyref19_Steps.l0])
  | succ k1 =>
   have H := HA.out
   clear HA
   simp only [galleyref19_Steps.l0] at H
   by_cases c4 : (wrap64 (x5_1 + 1)) < (t1172.length : Int)
   ·
    rw [if_pos c4] at H
    have c4b0 : decide ((wrap64 (x5_1 + 1)) < (t1172.length : Int)) = true := decide_eq_true c4
    clear c4
    by_cases c5 : 0 ≤ x5_1
    ·
     rw [if_pos c5] at H
     have c5b0 : decide (0 ≤ x5_1) = true := decide_eq_true c5
     clear c5
     by_cases c6 : x5_1 < (t1172.length : Int)
     ·
      rw [if_pos c6] at H
      have c6b0 : decide (x5_1 < (t1172.length : Int)) = true := decide_eq_true c6
      clear c6
      obtain ⟨ji7, hji7⟩ : ∃ j_ : Int, (wrap64 (x5_1 + 1)) = j_ := ⟨_, rfl⟩
      replace H : (if 0 ≤ (ji7) then (if 0 ≤ (rd t1172 x5_1) then (if (rd t1172 x5_1) ≤ (rd t1172 (ji7)) then (if (rd t1172 (ji7)) ≤ (l0.length : Int) then (if x3_1.length < 8796093022208 then (galleyref19_Steps.l0 k1 l0 (x3_1 ++ [strOfNums ((l0.take ((rd t1172 (ji7)) : Int).toNat).drop ((rd t1172 x5_1) : Int).toNat)]) t1172 ji7) else (none)) else (none)) else (none)) else (none)) else (none)) = some r := by first | (rw [hji7] at H; exact H) | (simp only [hji7] at H ⊢; exact H)
      (try rw [hji7] at c4b0)
      have hji7w : (IntKind.i64.wrap (x5_1 + 1)) = ji7 := (i64_w _).trans hji7
      by_cases c8 : 0 ≤ (ji7)
      ·
       rw [if_pos c8] at H
       have c8b0 : decide (0 ≤ (ji7)) = true := decide_eq_true c8
       clear c8
       by_cases c9 : 0 ≤ (rd t1172 x5_1)
       ·
        rw [if_pos c9] at H
        have c9b0 := eq_true c9
        have c9b1 : decide (0 ≤ (rd t1172 x5_1)) = true := decide_eq_true c9
        clear c9
        by_cases c10 : (rd t1172 x5_1) ≤ (rd t1172 (ji7))
        ·
         rw [if_pos c10] at H
         have c10b0 := eq_true c10
         have c10b1 : decide ((rd t1172 x5_1) ≤ (rd t1172 (ji7))) = true := decide_eq_true c10
         clear c10
         by_cases c11 : (rd t1172 (ji7)) ≤ (l0.length : Int)
         ·
          rw [if_pos c11] at H
          have c11b0 := eq_true c11
          have c11b1 : decide ((rd t1172 (ji7)) ≤ (l0.length : Int)) = true := decide_eq_true c11
          clear c11
          by_cases c12 : x3_1.length < 8796093022208
          ·
           rw [if_pos c12] at H
           have LMc12 := Aside0.mk c12
           clear c12
           obtain ⟨y1178, hy1178⟩ : ∃ y_ : List ByteArray, y_ = (x3_1 ++ [strOfNums ((l0.take ((rd t1172 (ji7)) : Int).toNat).drop ((rd t1172 x5_1) : Int).toNat)]) := ⟨_, rfl⟩
           replace H : (galleyref19_Steps.l0 k1 l0 y1178 t1172 ji7) = some r := by first | (rw [hy1178]; with_reducible exact H) | (have H2_ := (Option.bind_some _ _).symm.trans H; rw [hy1178]; with_reducible exact H2_) | (have H2_ := (Option.bind_some _ _).symm.trans H; with_reducible exact H2_) | with_reducible exact H | (rw [hy1178]; exact H) | exact H
           have Ny1178 := Aside0.mk hy1178
           clear hy1178
           have H' := Aside0.mk H
           clear H
           obtain ⟨Ao13, co13, eo13⟩ := Kd.R_slice HO_4.out
           subst eo13
           try go_wp2
           have n0_ := Aside0.mk (Kd.R_drew HO_3.out)
           have n1_ := Aside0.mk (Kd.R_drew HO_4.out)
           have n2_ := Aside0.mk (below_drew1 HB.out)
           clear HO_3
           clear HO_4
           clear HB
           have HO_3 := n0_
           have HO_4 := n1_
           have HB := n2_
           clear n0_ n1_ n2_
           have p1175 : 0 ≤ (x5_1 : Int) := of_decide_eq_true (by first | (with_reducible assumption) | assumption)
           have q1175 : x5_1 < (t1172.length : Int) := of_decide_eq_true (by first | (with_reducible assumption) | assumption)
           obtain ⟨ad1175, e1175, hx1175_0⟩ := Kd.at_int (Kd.R_reads' HO_4.out).2.2 x5_1 p1175 q1175
           cases e1175
           replace p1175 := eq_true p1175
           replace q1175 := eq_true q1175
           have p1176 : 0 ≤ ((ji7) : Int) := of_decide_eq_true (by first | (with_reducible assumption) | assumption)
           have q1176 : (ji7) < (t1172.length : Int) := of_decide_eq_true (by first | (with_reducible assumption) | assumption)
           obtain ⟨ad1176, e1176, hx1176_0⟩ := Kd.at_int (Kd.R_reads' HO_4.out).2.2 (ji7) p1176 q1176
           obtain rfl : ad1175 = ad1176 := (by injection e1176)
           replace p1176 := eq_true p1176
           replace q1176 := eq_true q1176
           obtain ⟨i015, hi015, _, hsz15, _⟩ := info_parts info5
           obtain ⟨A15, hcut15, hA15, hC15⟩ := print_mid_of (P := Tryd.prog) (Value.int .u8) 0 22 5 .i64 .i64 Tryd.underlying22 hi015 hsz15 A0 c0 l0 (rd t1172 x5_1) (rd t1172 (ji7)) (of_decide_eq_true (by first | (with_reducible assumption) | assumption)) (by first | omega | exact of_decide_eq_true (by first | (with_reducible assumption) | assumption)) (of_decide_eq_true (by first | (with_reducible assumption) | assumption)) HC0.out
           have HR1177 := Aside0.mk (Kd.C_of_reads (h1 := fun _ => rfl) (hA15 _ (Kd.reads_of_C HR0.out)))
           have HC1177 := Aside0.mk hC15
           clear hA15 hC15 hi015 hsz15
           have hcv16 := Kd.C_string (P := Tryd.prog) (A := A15) (c := (c0 - (rd t1172 x5_1).toNat)) Tryd.underlying22 Tryd.underlying5 Tryd.underlying9 (Kd.C_below HR1177.out HB.out)
           have hcv16b := hcv16
           (try rw [show ((l0.take ((rd t1172 (ji7)) : Int).toNat).drop ((rd t1172 x5_1) : Int).toNat).length = ((rd t1172 (ji7)) : Int).toNat - ((rd t1172 x5_1) : Int).toNat from by rw [List.length_drop, List.length_take, Nat.min_eq_left (by have h_ := (of_decide_eq_true (by first | (with_reducible assumption) | assumption) : (rd t1172 (ji7)) ≤ (l0.length : Int)); omega)]] at hcv16b)
           refine start_ (n := 16) (S := fun w' => w'.cell? (ad1175.add (x5_1).toNat) = some (.int .i64 (rd t1172 x5_1)) ∧ w'.cell? (ad1175.add ((ji7)).toNat) = some (.int .i64 (rd t1172 (ji7))) ∧ Sem.run Tryd.prog (convert 22 9 (Value.slice A15 ((rd t1172 (ji7)).toNat - (rd t1172 x5_1).toNat) (c0 - (rd t1172 x5_1).toNat))) w' = .ok (.string (strOfNums ((l0.take ((rd t1172 (ji7)) : Int).toNat).drop ((rd t1172 x5_1) : Int).toNat))) w') (ds := [13, 14]) #[false, false, false, false, false, false, false, false, false, false, false, false, false, false, false, false] (by kernel_rfl) rfl rfl ⟨hx1175_0, hx1176_0, hcv16b⟩ (fun hHeld => ?_); refine with_tabW galleyref19_Steps.tab6 galleyref19_Steps.bits6 (fun HT_ HW_ => ?_)
           generalize wr.drew = w14 at HO_3 HO_4 HB HR1177 hx1175_0 hx1176_0 hHeld ⊢
           refine pure_ (i := 0) (N := some 15) (v := ?_) (a' := ?_) #[true, false, false, false, false, false, false, false, false, false, false, false, false, false, false, false] rfl rfl (any_of HT_.out (by kernel_rfl)) (fun _ _ _ h => h) (Or.inl ⟨by rfl, ?_⟩) ?_ ?_
           rotate_left
           ·
            intro w'
            go_simp
            with_reducible rfl
           rotate_left
           ·
            simp only [Act.put, List.setIfInBounds_toArray, List.set_cons_zero, List.set_cons_succ, i64_w, i32_w]
            rfl
           refine pure_ (i := 1) (N := some 16) (v := ?_) (a' := ?_) #[true, true, false, false, false, false, false, false, false, false, false, false, false, false, false, false] rfl rfl (any_of HT_.out (by kernel_rfl)) (fun _ _ _ h => h) (Or.inl ⟨by rfl, ?_⟩) ?_ ?_
           rotate_left
           ·
            intro w'
            go_simp
            with_reducible rfl
           rotate_left
           ·
            simp only [Act.put, List.setIfInBounds_toArray, List.set_cons_zero, List.set_cons_succ, i64_w, i32_w]
            rfl
           refine pure_ (i := 2) (N := some 17) (v := ?_) (a' := ?_) #[true, true, true, false, false, false, false, false, false, false, false, false, false, false, false, false] rfl rfl (any_of HT_.out (by kernel_rfl)) (fun _ _ _ h => h) (Or.inl ⟨by rfl, ?_⟩) ?_ ?_
           rotate_left
           ·
            intro w'
            go_simp
            with_reducible rfl
           rotate_left
           ·
            simp only [Act.put, List.setIfInBounds_toArray, List.set_cons_zero, List.set_cons_succ, i64_w, i32_w]
            rfl
           refine pure_ (i := 3) (N := some 18) (v := ?_) (a' := ?_) #[true, true, true, true, false, false, false, false, false, false, false, false, false, false, false, false] rfl rfl (any_of HT_.out (by kernel_rfl)) (fun _ _ _ h => h) (Or.inl ⟨by rfl, ?_⟩) ?_ ?_
           rotate_left
           ·
            intro w'
            go_simp
            with_reducible rfl
           rotate_left
           ·
            simp only [Act.put, List.setIfInBounds_toArray, List.set_cons_zero, List.set_cons_succ, i64_w, i32_w]
            rfl
           refine pure_ (i := 4) (N := some 19) (v := ?_) (a' := ?_) #[true, true, true, true, true, false, false, false, false, false, false, false, false, false, false, false] rfl rfl (any_of HT_.out (by kernel_rfl)) (fun _ _ _ h => h) (Or.inl ⟨by rfl, ?_⟩) ?_ ?_
           rotate_left
           ·
            intro w'
            go_simp
            with_reducible rfl
           rotate_left
           ·
            simp only [Act.put, List.setIfInBounds_toArray, List.set_cons_zero, List.set_cons_succ, i64_w, i32_w]
            rfl
           refine pure_ (i := 6) (N := some 21) (v := ?_) (a' := ?_) #[true, true, true, true, true, false, true, false, false, false, false, false, false, false, false, false] rfl rfl (any_of HT_.out (by kernel_rfl)) (fun _ _ _ h => h) (Or.inl ⟨by rfl, ?_⟩) ?_ ?_
           rotate_left
           ·
            intro w'
            go_simp
            with_reducible rfl
           rotate_left
           ·
            simp only [Act.put, List.setIfInBounds_toArray, List.set_cons_zero, List.set_cons_succ, i64_w, i32_w]
            rfl
           refine pure_ (i := 7) (N := some 22) (v := ?_) (a' := ?_) #[true, true, true, true, true, false, true, true, false, false, false, false, false, false, false, false] rfl rfl (any_of HT_.out (by kernel_rfl)) (fun _ _ _ h => h) (Or.inl ⟨by rfl, ?_⟩) ?_ ?_
           rotate_left
           ·
            intro w'
            go_simp
            with_reducible rfl
           rotate_left
           ·
            simp only [Act.put, List.setIfInBounds_toArray, List.set_cons_zero, List.set_cons_succ, i64_w, i32_w]
            rfl
           refine pure_ (i := 8) (N := some 23) (v := ?_) (a' := ?_) #[true, true, true, true, true, false, true, true, true, false, false, false, false, false, false, false] rfl rfl (any_of HT_.out (by kernel_rfl)) (fun _ _ _ h => h) (Or.inl ⟨by rfl, ?_⟩) ?_ ?_
           rotate_left
           ·
            intro w'
            go_simp
            with_reducible rfl
           rotate_left
           ·
            simp only [Act.put, List.setIfInBounds_toArray, List.set_cons_zero, List.set_cons_succ, i64_w, i32_w]
            rfl
           refine pure_ (i := 9) (N := some 24) (v := ?_) (a' := ?_) #[true, true, true, true, true, false, true, true, true, true, false, false, false, false, false, false] rfl rfl (any_of HT_.out (by kernel_rfl)) (fun _ _ _ h => h) (Or.inl ⟨by rfl, ?_⟩) ?_ ?_
           rotate_left
           ·
            intro w'
            go_simp
            with_reducible rfl
           rotate_left
           ·
            simp only [Act.put, List.setIfInBounds_toArray, List.set_cons_zero, List.set_cons_succ, i64_w, i32_w]
            rfl
           refine take_ (i := 5) (N := some 20) (v := ?_) (a' := ?_) #[true, true, true, true, true, true, true, true, true, true, false, false, false, false, false, false] rfl rfl (take_ofW HT_.out HW_.out (by kernel_rfl)) (fun _ _ _ h => h) (Or.inl ⟨by rfl, ?_⟩) hHeld ?_ ?_
           rotate_left
           ·
            rintro w' ⟨s0, s1, s2⟩
            go_simp
            with_reducible rfl
           rotate_left
           ·
            simp only [Act.put, List.setIfInBounds_toArray, List.set_cons_zero, List.set_cons_succ, i64_w, i32_w]
            rfl
           refine take_ (i := 10) (N := some 25) (v := ?_) (a' := ?_) #[true, true, true, true, true, true, true, true, true, true, true, false, false, false, false, false] rfl rfl (take_ofW HT_.out HW_.out (by kernel_rfl)) (fun _ _ _ h => h) (Or.inl ⟨by rfl, ?_⟩) hHeld ?_ ?_
           rotate_left
           ·
            rintro w' ⟨s0, s1, s2⟩
            go_simp
            with_reducible rfl
           rotate_left
           ·
            simp only [Act.put, List.setIfInBounds_toArray, List.set_cons_zero, List.set_cons_succ, i64_w, i32_w]
            rfl
           refine pure_ (i := 11) (N := some 26) (v := ?_) (a' := ?_) #[true, true, true, true, true, true, true, true, true, true, true, true, false, false, false, false] rfl rfl (any_of HT_.out (by kernel_rfl)) (fun _ _ _ h => h) (Or.inl ⟨by rfl, ?_⟩) ?_ ?_
           rotate_left
           ·
            intro w'
            go_simp
            with_reducible rfl
           rotate_left
           ·
            simp only [Act.put, List.setIfInBounds_toArray, List.set_cons_zero, List.set_cons_succ, i64_w, i32_w]
            rfl
           refine take_ (i := 12) (N := some 27) (v := ?_) (a' := ?_) #[true, true, true, true, true, true, true, true, true, true, true, true, true, false, false, false] rfl rfl (take_ofW HT_.out HW_.out (by kernel_rfl)) (fun _ _ _ h => h) (Or.inl ⟨by rfl, ?_⟩) hHeld ?_ ?_
           rotate_left
           ·
            rintro w' ⟨s0, s1, s2⟩
            go_simp
            with_reducible rfl
           rotate_left
           ·
            simp only [Act.put, List.setIfInBounds_toArray, List.set_cons_zero, List.set_cons_succ, i64_w, i32_w]
            rfl
           refine last_ (i := 13) (N := some 28) #[true, true, true, true, true, true, true, true, true, true, true, true, true, true, false, false] rfl rfl (one_of HT_.out (by kernel_rfl)) (by decide) (fun K hK => ?_)
           refine value_ (w1 := ?_) (v := ?_) (by rfl) rfl ?_ ?_
           rotate_left 2
           ·
            go_simp
            constructor
            ·
             rfl
            ·
             rfl
           refine hK.out _ _ ?_
           clear hK K
           refine norm_ (a' := ?_) ?_ ?_
           rotate_left
           ·
            show Act.put _ (some 28) _ = _
            simp only [Act.put, List.setIfInBounds_toArray, List.set_cons_zero, List.set_cons_succ, i64_w, i32_w]
            rfl
           refine last_ (i := 14) (N := some 29) #[true, true, true, true, true, true, true, true, true, true, true, true, true, true, true, false] rfl rfl (one_of HT_.out (by kernel_rfl)) (by decide) (fun K hK => ?_)
           refine Kd.R_append_step Kd.string (w0 := w) w.heap.size (by rfl) (.tmp 15) (.tmp 28) 110 9 (.string ⟨#[]⟩) 16 rfl Tryd.underlying110 info9 rfl (by decide) (by omega) u3 x3_1 (strOfNums ((l0.take ((rd t1172 (ji7)) : Int).toNat).drop ((rd t1172 x5_1) : Int).toNat)) [.string (strOfNums ((l0.take ((rd t1172 (ji7)) : Int).toNat).drop ((rd t1172 x5_1) : Int).toNat))] (fun _ => True) (fun _ => False) rfl rfl ?aP (fun _ hk => hk.elim) ?aF ?aO ?aB ?aS ?aL ?_
           (case aP => exact rfl)
           (case aB => exact (by repeat (first | (with_reducible first | exact HB.out | apply below_alloc | apply pw_below_drewN | apply below_drew1) | exact HB.out)))
           (case aF => exact (fun _ _ => trivial))
           (case aO => exact (by (with_reducible repeat (first | apply Kd.R_alloc | apply Kd.R_drewN | apply Kd.R_drew)); exact HO_3.out))
           (case aS => exact (below_size (by repeat (first | (with_reducible first | exact HB.out | apply below_alloc | apply pw_below_drewN | apply below_drew1) | exact HB.out))))
           (case aL => have := LMc12.out; omega)
           intro v1179 w17 ho hb hg hat
           rw [← Ny1178.out] at ho
           have n0_ := Aside0.mk (Kd.R_over' (by (with_reducible repeat (first | apply Kd.R_alloc | apply Kd.R_drewN | apply Kd.R_drew)); exact HO_4.out) (Kd.R_typed (by (with_reducible repeat (first | apply Kd.R_alloc | apply Kd.R_drewN | apply Kd.R_drew)); exact HO_3.out)) (by decide) hg)
           have n1_ := Aside0.mk (hb)
           have n2_ := Aside0.mk (ho)
           clear HO_4
           clear HB
           clear HO_3
           have HO_4 := n0_
           have HB := n1_
           have HO1180 := n2_
           clear n0_ n1_ n2_
           clear ho hb hg hat
           refine hK.out _ _ ?_
           clear hK K
           refine norm_ (a' := ?_) ?_ ?_
           rotate_left
           ·
            show Act.put _ (some 29) _ = _
            simp only [Act.put, List.setIfInBounds_toArray, List.set_cons_zero, List.set_cons_succ, i64_w, i32_w]
            rfl
           refine pure_ (i := 15) (N := some 3) (v := ?_) (a' := ?_) #[true, true, true, true, true, true, true, true, true, true, true, true, true, true, true, true] rfl rfl (any_of HT_.out (by kernel_rfl)) (fun _ _ _ h => h) (Or.inl ⟨by rfl, ?_⟩) ?_ ?_
           rotate_left
           ·
            intro w'
            go_simp
            with_reducible rfl
           rotate_left
           ·
            simp only [Act.put, List.setIfInBounds_toArray, List.set_cons_zero, List.set_cons_succ, i64_w, i32_w]
            rfl
           refine done_ (done_of HT_.out (by kernel_rfl)) ?_
           try go_wp2
           go_roundg k1
           case measure => have := HK1.out; omega
           case rel => exact ⟨(y1178), (ji7), (by first | rfl | (simp; done) | (simp only [← hji7] <;> (first | rfl | simp)) | (simp [*]; done)), H', ⟨by have := HK1.out; omega⟩, ⟨by (with_reducible repeat (first | apply Kd.R_alloc | apply Kd.R_drewN | apply Kd.R_drew)); exact HO1180.out⟩, ⟨by (with_reducible repeat (first | apply Kd.R_alloc | apply Kd.R_drewN | apply Kd.R_drew)); exact HO_4.out⟩, ⟨by repeat (first | (with_reducible first | exact HB.out | apply below_alloc | apply pw_below_drewN | apply below_drew1) | exact HB.out)⟩⟩
          ·
           rw [if_neg c12] at H
           exact absurd H (by simp)
         ·
          rw [if_neg c11] at H
          exact absurd H (by simp)
        ·
         rw [if_neg c10] at H
         exact absurd H (by simp)
       ·
        rw [if_neg c9] at H
        exact absurd H (by simp)
      ·
       rw [if_neg c8] at H
       exact absurd H (by simp)
     ·
      rw [if_neg c6] at H
      exact absurd H (by simp)
    ·
     rw [if_neg c5] at H
     exact absurd H (by simp)
   ·
    rw [if_neg c4] at H
    have c4b0 : decide ((wrap64 (x5_1 + 1)) < (t1172.length : Int)) = false := decide_eq_false c4
    clear c4
    obtain rfl := Option.some.inj H
    obtain ⟨Ao18, co18, eo18⟩ := Kd.R_slice HO_4.out
    subst eo18
    go_wp2
    go_ret
    exact ⟨_, by first | rfl | (simp [errW_none, errW_some] <;> rfl) | (simp [*, errW_none, errW_some] <;> rfl), by (with_reducible repeat (first | apply Kd.R_alloc | apply Kd.R_drewN | apply Kd.R_drew)); exact HO_3.out, by repeat (first | (with_reducible first | exact HB.out | apply below_alloc | apply pw_below_drewN | apply below_drew1) | exact HB.out)⟩
end Go.Proofs.YtbomhpfckplgaaaDoor.P
