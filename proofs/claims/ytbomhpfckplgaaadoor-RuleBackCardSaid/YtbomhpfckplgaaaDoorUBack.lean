/- The statement RuleBack holds of what its text computes. -/
import Derived.Test.YtbomhpfckplgaaaDoorUi
import Derived.Test.YtbomhpfckplgaaaDoorHBack
namespace Go.Proofs.YtbomhpfckplgaaaDoor.P
open Go Go.RowKit Go.Proofs.YtbomhpfckplgaaaDoorW.PrintWords Utf
set_option linter.unusedVariables false
set_option linter.unusedSimpArgs false
theorem pick_lt {l : List Int} (hl : Bytes l) (hs : Wide l) (n : Nat) (n1 : 1 ≤ n) (n3 : n ≤ 3) {i j : Nat} (hi : i < (edgesL l).length) (hj : j < (edgesL l).length) (h : pickE (edgesL l)[i] n < pickE (edgesL l)[j] n) : i < j := by
  rcases Nat.lt_or_ge i j with c | c
  · exact c
  · have := pick_mono hl hs n n1 n3 hj hi c
    omega
theorem pick_inj {l : List Int} (hl : Bytes l) (hs : Wide l) (n : Nat) (n1 : 1 ≤ n) (n3 : n ≤ 3) {i j : Nat} (hi : i < (edgesL l).length) (hj : j < (edgesL l).length) (h : pickE (edgesL l)[i] n = pickE (edgesL l)[j] n) : i = j := by
  have hris := (tab_rises hl hs n n1 n3).1
  have lt : ∀ i j (hi : i < (edgesL l).length) (hj : j < (edgesL l).length), i < j → pickE (edgesL l)[i] n < pickE (edgesL l)[j] n := fun i j hi hj h => by
    have hT : (tabL l n)[i]'(by simpa [tabL] using hi) < (tabL l n)[j]'(by simpa [tabL] using hj) := List.pairwise_iff_getElem.1 hris i j _ _ h
    simpa only [tabL, List.getElem_map] using hT
  rcases Nat.lt_trichotomy i j with c | c | c
  · have := lt i j hi hj c
    omega
  · exact c
  · have := lt j i hj hi c
    omega
theorem pick_range {l : List Int} (hl : Bytes l) (hs : Wide l) (n : Nat) (n1 : 1 ≤ n) (n3 : n ≤ 3) {i : Nat} (hi : i < (edgesL l).length) : 0 ≤ pickE (edgesL l)[i] n ∧ pickE (edgesL l)[i] n ≤ lastT l n ∧ pickE (edgesL l)[i] n ≤ 4 * (l.length : Int) := by
  have hm : pickE (edgesL l)[i] n ∈ tabL l n := List.mem_map.2 ⟨_, List.getElem_mem hi, rfl⟩
  have h1 := (tab_rises hl hs n n1 n3).2 _ hm
  exact ⟨h1.1, tab_le_last hl hs n n1 n3 _ hm, h1.2⟩
theorem edge_to {l : List Int} {r p v g : Int} (h : rule_To.f l r p r 3 = some (v, g)) : rule_Edge.f l r p = some (g == 0) := by
  unfold rule_Edge.f
  rw [h]
  rfl
theorem ruleBack_law {l : List Int} (hl : Bytes l) (hs : Wide l) (p x y z : Int) : ∃ k, galleylaw06_RuleBack.f k l p x y z = some true := by
  refine ⟨0, ?_⟩
  unfold galleylaw06_RuleBack.f
  rw [if_pos]
  refine ⟨hs, ?_⟩
  by_cases hx : 1 ≤ x ∧ x ≤ 3
  case neg =>
    have hb : ∀ q m, rule_To.f l x q x m = some (0, 3) := fun q m => to_bad x q x m (fun h => hx h.1)
    exact ⟨0, 0, 0, 3, 3, hb _ _, hb _ _, hb _ _, .inl ⟨by decide, rfl, rfl, rfl, rfl⟩⟩
  obtain ⟨n, rfl⟩ : ∃ n : Nat, x = n := ⟨x.toNat, by omega⟩
  have n1 : 1 ≤ n := by omega
  have n3 : n ≤ 3 := by omega
  by_cases hp : p < 0 ∨ p > lastT l n
  · have hb : ∀ m, 1 ≤ m ∧ m ≤ 3 → rule_To.f l n p n m = some (0, 2) := fun m hm => to_range hl hs n n p m n1 n3 n1 n3 hm hp
    exact ⟨0, 0, 0, 2, 2, hb 1 (by decide), hb 2 (by decide), hb 3 (by decide), .inl ⟨by decide, rfl, rfl, rfl, rfl⟩⟩
  obtain ⟨j, hj, a1, a2, _, _, a5, a6⟩ | ⟨h, _⟩ := to_edge hl hs n p 1 n1 n3 (by decide) (by omega) (by omega)
  rotate_left
  · exact absurd h (by decide)
  obtain ⟨i, hi, b1, _, b3, _, b5, b6⟩ | ⟨h, _⟩ := to_edge hl hs n p 2 n1 n3 (by decide) (by omega) (by omega)
  rotate_left
  · exact absurd h (by decide)
  have a2 := a2 rfl
  have b3 := b3 rfl
  have rj := pick_range hl hs n n1 n3 hj
  have ri := pick_range hl hs n n1 n3 hi
  have hlen := hs
  unfold Wide at hlen
  have rest : ∃ t h, rule_To.f l n p y 1 = some (t, h) ∧ ((galleyref06_Ruler.f y = some false ∧ h = 3) ∨ (galleyref06_Ruler.f y = some true ∧ h = 0 ∧ rule_To.f l y t n 3 = some (pickE (edgesL l)[j] n, 0) ∧ rule_To.f l n (pickE (edgesL l)[j] n) y 2 = some (t, 0))) := by
    by_cases hy : 1 ≤ y ∧ y ≤ 3
    · obtain ⟨m, rfl⟩ : ∃ m : Nat, y = m := ⟨y.toNat, by omega⟩
      have m1 : 1 ≤ m := by omega
      have m3 : m ≤ 3 := by omega
      have rm := pick_range hl hs m m1 m3 hj
      refine ⟨pickE (edgesL l)[j] m, 0, a1 m m1 m3, .inr ⟨by rw [ref_rul, decide_eq_true hy], rfl, ?_, ?_⟩⟩
      · obtain ⟨q, hq, c1, _, _, c4, _, _⟩ | ⟨_, _, h⟩ := to_edge hl hs m (pickE (edgesL l)[j] m) 3 m1 m3 (by decide) (by omega) (by omega)
        · have := pick_inj hl hs m m1 m3 hj hq (c4 rfl)
          subst this
          exact c1 n n1 n3
        · exact absurd rfl (h j hj)
      · obtain ⟨q, hq, c1, _, c3, _, c5, c6⟩ | ⟨h, _⟩ := to_edge hl hs n (pickE (edgesL l)[j] n) 2 n1 n3 (by decide) (by omega) (by omega)
        · have : q = j := by
            rcases Nat.lt_trichotomy q j with h | h | h
            · have := c6 j hj h
              omega
            · exact h
            · have := c5 j hj h
              omega
          subst this
          exact c1 m m1 m3
        · exact absurd h (by decide)
    · exact ⟨0, 3, to_bad n p y 1 (fun h => hy h.2.1), .inl ⟨by rw [ref_rul, decide_eq_false hy], rfl⟩⟩
  have between : ∀ q, pickE (edgesL l)[j] n < q → q < pickE (edgesL l)[i] n → rule_Edge.f l n q = some false := by
    intro q h1 h2
    obtain ⟨s, hs', c1, _, _, c4, _, _⟩ | ⟨_, h, _⟩ := to_edge hl hs n q 3 n1 n3 (by decide) (by omega) (by omega)
    · have c4 := c4 rfl
      have e1 := a6 s hs' (pick_lt hl hs n n1 n3 hj hs' (by omega))
      have e2 := b5 s hs' (pick_lt hl hs n n1 n3 hs' hi (by omega))
      omega
    · rw [edge_to (h n n1 n3)]
      rfl
  obtain ⟨s, hs', c1, _, _, c4, c5, c6⟩ | ⟨_, h, hne⟩ := to_edge hl hs n p 3 n1 n3 (by decide) (by omega) (by omega)
  · have c4 := c4 rfl
    have ej : j = s := by
      rcases Nat.lt_trichotomy j s with h | h | h
      · have := a6 s hs' h
        omega
      · exact h
      · have := c6 j hj h
        omega
    have ei : i = s := by
      rcases Nat.lt_trichotomy i s with h | h | h
      · have := c5 i hi h
        omega
      · exact h
      · have := b5 s hs' h
        omega
    subst ej
    subst ei
    exact ⟨_, _, _, 0, 0, a1 n n1 n3, b1 n n1 n3, c1 n n1 n3, .inr ⟨rfl, edge_to (c1 n n1 n3), a2, b3, by simp, fun _ => ⟨by omega, by omega⟩, between, rj.1, by omega, rest⟩⟩
  · have e1 := hne j hj
    have e2 := hne i hi
    exact ⟨_, _, _, 0, 4, a1 n n1 n3, b1 n n1 n3, h n n1 n3, .inr ⟨rfl, edge_to (h n n1 n3), a2, b3, by rw [show ((4 : Int) == 0) = false by decide]; simp; omega, fun h => absurd h (by decide), between, rj.1, by omega, rest⟩⟩
end Go.Proofs.YtbomhpfckplgaaaDoor.P
