/- Cut at an edge, a text's steps are those of its two parts; sizes add up. -/
import Derived.Test.YtbomhpfckplgaaaDoorU
namespace Go.Proofs.YtbomhpfckplgaaaDoor.P
open Go Go.RowKit Go.Proofs.YtbomhpfckplgaaaDoorW.PrintWords Utf
set_option linter.unusedVariables false
set_option linter.unusedSimpArgs false

theorem rune_drop (l : List Int) (e q : Nat) : rune (l.drop e) q = rune l (e + q) := by
  unfold rune
  rw [long_drop, at_drop, at_drop, at_drop, at_drop, Nat.add_assoc, Nat.add_assoc, Nat.add_assoc]
theorem stepN_drop (l : List Int) (e q : Nat) : stepN (l.drop e) q = stepN l (e + q) := by
  unfold stepN
  rw [long_drop, rune_drop]
theorem steps_drop (l : List Int) (e : Nat) (he : e ≤ l.length) : ∀ (k q : Nat), (stepsF (l.drop e) k q).map toS = (stepsF l k (e + q)).map toS
  | 0, _ => rfl
  | k + 1, q => by
    unfold stepsF
    have hl : (l.drop e).length = l.length - e := List.length_drop
    by_cases h : q < l.length - e
    · rw [if_pos (by omega), if_pos (by omega), List.map_cons, List.map_cons, steps_drop l e he k, width_drop]
      rw [show e + (q + width l (e + q)) = e + q + width l (e + q) from by omega]
      congr 1
      simp only [toS, stepN_drop]
    · rw [if_neg (by omega), if_neg (by omega)]
theorem runeV_n {n : Nat} {x y z w y' z' w' : Int} (hy : 1 < n → y = y') (hz : 2 < n → z = z') (hw : 3 < n → w = w') (hn : n ≤ 4) (h0 : 0 < n) : runeV n x y z w = runeV n x y' z' w' := by
  unfold runeV
  by_cases h1 : n = 1
  · rw [if_pos h1, if_pos h1]
  rw [if_neg h1, if_neg h1]
  by_cases h2 : n = 2
  · rw [if_pos h2, if_pos h2, hy (by omega)]
  rw [if_neg h2, if_neg h2]
  by_cases h3 : n = 3
  · rw [if_pos h3, if_pos h3, hy (by omega), hz (by omega)]
  rw [if_neg h3, if_neg h3]
  rw [hy (by omega), hz (by omega), hw (by omega)]
/-- A step that stands wholly ahead of a place is told by what stands ahead of it. -/
theorem stepN_take {l : List Int} {e q : Nat} (h : q + width l q ≤ e) : stepN (l.take e) q = stepN l q := by
  unfold stepN
  rcases Nat.eq_zero_or_pos (long l q) with h0 | h0
  · rw [if_pos (long_take_zero h0), if_pos h0]
  · have hw := long_le_width l q
    have h4 := long_le4 l q
    have e1 := long_take (b := l) (n := e) (q := q) (by omega) h0
    rw [if_neg (by omega), if_neg (by omega), e1]
    congr 1
    unfold rune
    rw [e1, at_take (by omega)]
    exact runeV_n (fun h => at_take (by omega)) (fun h => at_take (by omega)) (fun h => at_take (by omega)) h4 h0
theorem width_take' {l : List Int} {e q : Nat} (h : q + width l q ≤ e) : width (l.take e) q = width l q := by
  have := stepN_take h
  have h1 := stepN_w (l.take e) q
  have h2 := stepN_w l q
  rw [this, h2] at h1
  omega
/-- From an edge ahead of an edge, a step does not pass it. -/
theorem step_within {l : List Int} {e p : Nat} (he : inside l e = false) (hp : p < e) : p + width l p ≤ e := by
  rcases Nat.lt_or_ge e (p + width l p) with h | h
  · have := inside_mid (b := l) (p := p) (k := e - p) (by omega) (by omega)
    rw [show p + (e - p) = e from by omega, he] at this
    cases this
  · exact h
theorem stepsF_succ (l : List Int) (k p : Nat) : stepsF l (k + 1) p = if p < l.length then (p, stepN l p) :: stepsF l k (p + width l p) else [] := rfl
theorem steps_cut_from (l : List Int) (e : Nat) (he : e ≤ l.length) (hi : inside l e = false) : ∀ (k p : Nat), p ≤ e → e - p ≤ k → ∀ j, l.length ≤ j → (stepsF l (k + j) p).map toS = (stepsF (l.take e) k p).map toS ++ (stepsF (l.drop e) j 0).map toS
  | k, p, hp, hk, j, hj => by
    rcases Nat.lt_or_ge p e with h | h
    · obtain ⟨k, rfl⟩ : ∃ i, k = i + 1 := ⟨k - 1, by omega⟩
      have hw := step_within hi h
      have hwp := width_pos l p
      have ih := steps_cut_from l e he hi k (p + width l p) hw (by omega) j hj
      rw [show k + 1 + j = (k + j) + 1 from by omega]
      rw [stepsF_succ, stepsF_succ]
      have hl : (l.take e).length = e := by simp; omega
      rw [if_pos (by omega), if_pos (by omega), List.map_cons, List.map_cons, ih, width_take' hw]
      have et : toS (p, stepN l p) = toS (p, stepN (l.take e) p) := by simp only [toS, stepN_take hw]
      rw [et]
      rfl
    · obtain rfl : p = e := by omega
      have h0 : stepsF (l.take p) k p = [] := by
        cases k with
        | zero => rfl
        | succ k =>
          unfold stepsF
          rw [if_neg (by simp; omega)]
      rw [h0, List.map_nil, List.nil_append, steps_drop l p he j 0, Nat.add_zero]
      have e1 := stepsF_fuel l j p k (by omega)
      rw [Nat.add_comm k j, e1]
theorem steps_cut (l : List Int) (e : Nat) (he : e ≤ l.length) (hi : inside l e = false) : (stepsL l).map toS = (stepsL (l.take e)).map toS ++ (stepsL (l.drop e)).map toS := by
  have h := steps_cut_from l e he hi e 0 (Nat.zero_le _) (by omega) l.length (Nat.le_refl _)
  have f1 : stepsF l (e + l.length) 0 = stepsL l := by
    rw [Nat.add_comm]
    exact stepsF_fuel l l.length 0 e (by omega)
  have f2 : stepsF (l.take e) e 0 = stepsL (l.take e) := by
    unfold stepsL
    rw [show (l.take e).length = e from by simp; omega]
  have f3 : stepsF (l.drop e) l.length 0 = stepsL (l.drop e) := by
    unfold stepsL
    have := stepsF_fuel (l.drop e) (l.drop e).length 0 e (by omega)
    rw [show (l.drop e).length + e = l.length from by simp; omega] at this
    exact this
  rw [f1, f2, f3] at h
  exact h
end Go.Proofs.YtbomhpfckplgaaaDoor.P
