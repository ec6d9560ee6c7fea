/- The lines of a text in plain terms: how many, and what all answers. Lines that lie one behind the other: the program's are such. -/
import Derived.Test.YtbomhpfckplgaaaDoorU0
import Derived.Test.YtbomhpfckplgaaaDoorPx18
import Derived.Test.YtbomhpfckplgaaaDoorPx54
namespace Go.Proofs.YtbomhpfckplgaaaDoor.P
open Go Go.RowKit Go.Proofs.YtbomhpfckplgaaaDoorW.PrintWords
set_option linter.unusedVariables false
set_option linter.unusedSimpArgs false
theorem own07_eq (l : List Int) (h : l.length < 140737488355328) : galleylaw07_own.f l = some l := by
  unfold galleylaw07_own.f
  simp
  omega
/-- How many lines there are at most. -/
theorem linesF_length (l : List Int) : ∀ (n : Nat) (i s : Int), 0 ≤ i → i ≤ l.length → ((linesF l n i s).length : Int) ≤ l.length - i + 1
  | 0, i, s, h0, h1 => by simp [linesF]; omega
  | n + 1, i, s, h0, h1 => by
    unfold linesF
    by_cases c : i < (l.length : Int)
    · rw [if_pos c]
      by_cases c1 : rd l i = 10
      · rw [if_pos c1]
        have := linesF_length l n (i + 1) (i + 1) (by omega) (by omega)
        simp only [List.length_cons]
        omega
      · rw [if_neg c1]
        by_cases c2 : rd l i = 13
        · rw [if_pos c2]
          by_cases c3 : i + 1 < (l.length : Int) ∧ rd l (i + 1) = 10
          · rw [if_pos c3]
            have := linesF_length l n (i + 2) (i + 2) (by omega) (by omega)
            simp only [List.length_cons]
            omega
          · rw [if_neg c3]
            have := linesF_length l n (i + 1) (i + 1) (by omega) (by omega)
            simp only [List.length_cons]
            omega
        · rw [if_neg c2]
          have := linesF_length l n (i + 1) s (by omega) (by omega)
          omega
    · rw [if_neg c]
      simp
      omega
theorem linesL_length (l : List Int) : (linesL l).length ≤ l.length + 1 := by
  have := linesF_length l (l.length + 1) 0 0 (by omega) (by omega)
  unfold linesL
  omega
theorem all_is {l : List Int} (hs : Small l) : lines_all.f l = some (linesL l) := by
  unfold Small at hs
  unfold lines_all.f
  rw [if_pos (by omega)]
theorem count_is {l : List Int} (hs : Small l) : lines_Count.f l = some ((linesL l).length : Int) := by
  unfold lines_Count.f
  rw [all_is hs]
  rfl
end Go.Proofs.YtbomhpfckplgaaaDoor.P
namespace Go.Proofs.YtbomhpfckplgaaaDoor.P
open Go Go.RowKit Go.Proofs.YtbomhpfckplgaaaDoorW.PrintWords
set_option linter.unusedVariables false
set_option linter.unusedSimpArgs false
/-- No line end from a to b. -/
def clean (l : List Int) (a b : Int) : Prop := ∀ i, a ≤ i → i < b → rd l i ≠ 13 ∧ rd l i ≠ 10
/-- What stands at a line's end. -/
def kind (l : List Int) (c e : Int) : Prop := (l.take e.toNat).drop c.toNat = [10] ∨ ((l.take e.toNat).drop c.toNat = [13] ∧ (e < (l.length : Int) → rd l e ≠ 10)) ∨ (l.take e.toNat).drop c.toNat = [13, 10]
/-- Lines that lie one behind the other, the first beginning at s, to the end of the text. -/
def Chain (l : List Int) : Int → List S144 → Prop
  | _, [] => False
  | s, x :: r => x.f0 = s ∧ 0 ≤ s ∧ s ≤ x.f1 ∧ x.f1 ≤ x.f3 ∧ x.f3 ≤ (l.length : Int) ∧ clean l s x.f1 ∧ ((r = [] ∧ x.f1 = (l.length : Int) ∧ x.f3 = (l.length : Int)) ∨ (r ≠ [] ∧ kind l x.f1 x.f3 ∧ Chain l x.f3 r))
theorem one_byte (l : List Int) (i : Int) (h0 : 0 ≤ i) (h1 : i < (l.length : Int)) : (l.take (i + 1).toNat).drop i.toNat = [rd l i] := by
  obtain ⟨n, rfl⟩ := Int.eq_ofNat_of_zero_le h0
  have h : n < l.length := by omega
  rw [show ((n : Int) + 1).toNat = n + 1 by omega, Int.toNat_natCast, rd_nat l n h, List.take_succ_eq_append_getElem h, List.drop_append]
  simp [Nat.min_eq_left (Nat.le_of_lt h)]
theorem two_bytes (l : List Int) (i : Int) (h0 : 0 ≤ i) (h1 : i + 1 < (l.length : Int)) : (l.take (i + 2).toNat).drop i.toNat = [rd l i, rd l (i + 1)] := by
  obtain ⟨n, rfl⟩ := Int.eq_ofNat_of_zero_le h0
  have h : n + 1 < l.length := by omega
  rw [show ((n : Int) + 2).toNat = n + 1 + 1 by omega, Int.toNat_natCast, rd_nat l n (by omega), show ((n : Int) + 1) = ((n + 1 : Nat) : Int) from rfl, rd_nat l (n + 1) h, List.take_succ_eq_append_getElem h, List.take_succ_eq_append_getElem (show n < l.length by omega), List.append_assoc, List.drop_append]
  simp [Nat.min_eq_left (show n ≤ l.length by omega)]
theorem chain_ne {l : List Int} {s : Int} {r : List S144} (h : Chain l s r) : r ≠ [] := by
  rintro rfl
  exact h
theorem chain_F (l : List Int) : ∀ (n : Nat) (i s : Int), 0 ≤ s → s ≤ i → i ≤ (l.length : Int) → (l.length : Int) - i < (n : Int) → clean l s i → Chain l s (linesF l n i s)
  | 0, i, s, h0, h1, h2, h3, h4 => by omega
  | n + 1, i, s, h0, h1, h2, h3, h4 => by
    unfold linesF
    by_cases c : i < (l.length : Int)
    · rw [if_pos c]
      have b1 := one_byte l i (by omega) c
      by_cases c1 : rd l i = 10
      · rw [if_pos c1]
        have ih := chain_F l n (i + 1) (i + 1) (by omega) (by omega) (by omega) (by omega) (fun j a b => by omega)
        refine ⟨rfl, h0, h1, by show i ≤ i + 1; omega, by show i + 1 ≤ _; omega, h4, .inr ⟨chain_ne ih, .inl ?_, ih⟩⟩
        rw [b1, c1]
      · rw [if_neg c1]
        by_cases c2 : rd l i = 13
        · rw [if_pos c2]
          by_cases c3 : i + 1 < (l.length : Int) ∧ rd l (i + 1) = 10
          · rw [if_pos c3]
            have ih := chain_F l n (i + 2) (i + 2) (by omega) (by omega) (by omega) (by omega) (fun j a b => by omega)
            refine ⟨rfl, h0, h1, by show i ≤ i + 2; omega, by show i + 2 ≤ _; omega, h4, .inr ⟨chain_ne ih, .inr (.inr ?_), ih⟩⟩
            rw [two_bytes l i (by omega) c3.1, c2, c3.2]
          · rw [if_neg c3]
            have ih := chain_F l n (i + 1) (i + 1) (by omega) (by omega) (by omega) (by omega) (fun j a b => by omega)
            refine ⟨rfl, h0, h1, by show i ≤ i + 1; omega, by show i + 1 ≤ _; omega, h4, .inr ⟨chain_ne ih, .inr (.inl ⟨?_, fun a b => c3 ⟨a, b⟩⟩), ih⟩⟩
            rw [b1, c2]
        · rw [if_neg c2]
          refine chain_F l n (i + 1) s h0 (by omega) (by omega) (by omega) (fun j a b => ?_)
          rcases (show j < i ∨ i ≤ j by omega) with h | h
          · exact h4 j a h
          · obtain rfl : j = i := by omega
            exact ⟨c2, c1⟩
    · rw [if_neg c]
      obtain rfl : i = (l.length : Int) := by omega
      exact ⟨rfl, h0, h1, Int.le_refl _, Int.le_refl _, h4, .inl ⟨rfl, rfl, rfl⟩⟩
theorem chain_is (l : List Int) : Chain l 0 (linesL l) := chain_F l (l.length + 1) 0 0 (by omega) (by omega) (by omega) (by omega) (fun j a b => by omega)
end Go.Proofs.YtbomhpfckplgaaaDoor.P
