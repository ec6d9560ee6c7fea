/- What To, Cut and Size answer, in plain terms of the edges. -/
import Derived.Test.YtbomhpfckplgaaaDoorUe
import Derived.Test.YtbomhpfckplgaaaDoorUf
namespace Go.Proofs.YtbomhpfckplgaaaDoor.P
open Go Go.RowKit Go.Proofs.YtbomhpfckplgaaaDoorW.PrintWords Utf
set_option linter.unusedVariables false
set_option linter.unusedSimpArgs false

/-- To at a place within the text: i is the first edge that is not below. -/
theorem to_index {l : List Int} (hl : Bytes l) (hs : Wide l) (n n' : Nat) (p m : Int) (n1 : 1 ≤ n) (n3 : n ≤ 3) (m1 : 1 ≤ n') (m3 : n' ≤ 3) (hm : 1 ≤ m ∧ m ≤ 3) (hp0 : 0 ≤ p) (hp1 : p ≤ lastT l n) :
    ∃ i, ∃ hi : i < (edgesL l).length, (∀ j (hj : j < i), pickE ((edgesL l)[j]'(Nat.lt_trans hj hi)) n < p) ∧ p ≤ pickE (edgesL l)[i] n ∧ (pickE (edgesL l)[i] n ≠ p → 0 < i) ∧
      rule_To.f l n p n' m = some (if pickE (edgesL l)[i] n = p then (pickE (edgesL l)[i] n', 0) else if m = 1 then (pickE ((edgesL l)[i - 1]'(by omega)) n', 0) else if m = 2 then (pickE (edgesL l)[i] n', 0) else (0, 4)) := by
  have hs' := hs
  unfold Wide at hs'
  have hel := edges_length hl
  have hsl := stepsL_length l
  have hlen := tab_length hl n n1 n3
  have base : rule_To.f l n p n' m = (if (findE n p m e0 (edgesL l)).2 = 0 then some (pickE (findE n p m e0 (edgesL l)).1 n', 0) else some (0, (findE n p m e0 (edgesL l)).2)) := by
    unfold rule_To.f
    simp only [rul_iff, mode_iff, Option.bind_some, decide_eq_true_eq]
    rw [if_pos (by omega), if_pos (by omega), if_pos hm, if_neg (by omega), if_pos (by omega), if_pos (by omega)]
    simp only [Int.toNat_natCast]
  rcases search (edgesL l) n p m (by omega) (edgesL l) [] rfl with ⟨a, _, _⟩ | ⟨i, _, hi, hlow, h4, h5⟩
  · exfalso
    obtain ⟨x, hx, hxe⟩ := List.mem_map.1 (last_mem hl n n1 n3)
    have := a x hx
    omega
  · have h0 : pickE (edgesL l)[i] n ≠ p → 0 < i := by
      intro hne
      rcases Nat.eq_zero_or_pos i with rfl | h
      · have e : (tabL l n)[0]'(by omega) = 0 := by simp only [tab_scan hl n n1 n3]; rfl
        simp only [tabL, List.getElem_map] at e
        omega
      · exact h
    refine ⟨i, hi, fun j hj => hlow j hj (Nat.zero_le _), h4, h0, ?_⟩
    rw [base]
    have prev : pickE (edgesL l)[i] n ≠ p → ((edgesL l).take i).getLast?.getD e0 = (edgesL l)[i - 1]'(by omega) := fun hne => by
      have := h0 hne
      rw [List.getLast?_eq_getElem?, List.length_take, Nat.min_eq_left (by omega), List.getElem?_take, if_pos (by omega), List.getElem?_eq_getElem (by omega)]
      rfl
    rcases h5 with ⟨q1, q2, q3⟩ | ⟨q1, q2, q3, q4⟩ | ⟨q1, q2, q3, q4⟩ | ⟨q1, q2, q2', q3, q4⟩
    · have q2' : findE n p m e0 (edgesL l) = ((edgesL l)[i], 0) := q2
      rw [q2', if_pos rfl, if_pos q1]
    · have q3' : findE n p m e0 (edgesL l) = (((edgesL l).take i).getLast?.getD e0, 0) := q3
      rw [q3', if_pos rfl, if_neg (by omega), if_pos q2, prev (by omega)]
    · have q3' : findE n p m e0 (edgesL l) = ((edgesL l)[i], 0) := q3
      rw [q3', if_pos rfl, if_neg (by omega), if_neg (by omega), if_pos q2]
    · have q3' : findE n p m e0 (edgesL l) = (((edgesL l).take i).getLast?.getD e0, 4) := q3
      rw [q3', if_neg (show ¬ ((4 : Int) = 0) by decide), if_neg (by omega), if_neg q2, if_neg q2']
theorem to_range {l : List Int} (hl : Bytes l) (hs : Wide l) (n n' : Nat) (p m : Int) (n1 : 1 ≤ n) (n3 : n ≤ 3) (m1 : 1 ≤ n') (m3 : n' ≤ 3) (hm : 1 ≤ m ∧ m ≤ 3) (hp : p < 0 ∨ p > lastT l n) : rule_To.f l n p n' m = some (0, 2) := by
  have hs' := hs
  unfold Wide at hs'
  have hel := edges_length hl
  have hsl := stepsL_length l
  unfold rule_To.f
  simp only [rul_iff, mode_iff, Option.bind_some, decide_eq_true_eq]
  rw [if_pos (by omega), if_pos (by omega), if_pos hm]
  by_cases c : p < 0
  · rw [if_pos c]
  rw [if_neg c, if_pos (by omega), if_pos (by omega)]
  simp only [Int.toNat_natCast]
  have hall : ∀ x ∈ edgesL l, pickE x n < p := fun x hx => by
    have := tab_le_last hl hs n n1 n3 (pickE x n) (List.mem_map.2 ⟨x, hx, rfl⟩)
    omega
  rcases search (edgesL l) n p m (by omega) (edgesL l) [] rfl with ⟨_, b, _⟩ | ⟨i, _, hi, _, h4, _⟩
  · have b' : (findE n p m e0 (edgesL l)).2 = 2 := b
    rw [b']
    rfl
  · have := hall _ (List.getElem_mem hi)
    omega
theorem to_bad {l : List Int} (a1 p a3 m : Int) (h : ¬ ((1 ≤ a1 ∧ a1 ≤ 3) ∧ (1 ≤ a3 ∧ a3 ≤ 3) ∧ (1 ≤ m ∧ m ≤ 3))) : rule_To.f l a1 p a3 m = some (0, 3) := by
  unfold rule_To.f
  simp only [rul_iff, mode_iff, Option.bind_some, decide_eq_true_eq]
  by_cases c1 : 1 ≤ a1 ∧ a1 ≤ 3
  · rw [if_pos c1]
    by_cases c2 : 1 ≤ a3 ∧ a3 ≤ 3
    · rw [if_pos c2, if_neg (fun c3 => h ⟨c1, c2, c3⟩)]
    · rw [if_neg c2]
  · rw [if_neg c1]

/-- By bytes the places are the steps' own. -/
theorem scan_bytes {l : List Int} (hs : Wide l) : ∀ (k p : Nat), p ≤ l.length → l.length - p ≤ k → (p : Int) :: scanT 1 p ((stepsF l k p).map toS) = (stepsF l k p).map (fun x => (x.1 : Int)) ++ [(l.length : Int)]
  | 0, p, hp, hk => by
    obtain rfl : p = l.length := by omega
    rfl
  | k + 1, p, hp, hk => by
    unfold Wide at hs
    by_cases h : p < l.length
    · rw [stepsF_succ, if_pos h]
      have hw := width_end h
      have hwp := width_pos l p
      have ih := scan_bytes (l := l) hs k (p + width l p) hw (by omega)
      have e : wrap64 ((p : Int) + cntR 1 (toS (p, stepN l p))) = ((p + width l p : Nat) : Int) := by
        have : cntR 1 (toS (p, stepN l p)) = (width l p : Int) := by
          unfold cntR toS
          rw [if_pos rfl]
          exact stepN_w l p
        rw [this, w64 (by omega) (by omega)]
        omega
      simp only [List.map_cons, scanT, List.cons_append]
      rw [e, ih]
    · rw [stepsF_succ, if_neg h]
      obtain rfl : p = l.length := by omega
      rfl
theorem tab_bytes {l : List Int} (hl : Bytes l) (hs : Wide l) : tabL l 1 = placesL l := by
  rw [tab_scan hl 1 (by omega) (by omega)]
  exact scan_bytes hs l.length 0 (by omega) (by omega)
theorem stepsF_edge {l : List Int} : ∀ (k p : Nat), inside l p = false → ∀ x ∈ stepsF l k p, inside l x.1 = false
  | 0, _, _, x, hx => by cases hx
  | k + 1, p, hp, x, hx => by
    rw [stepsF_succ] at hx
    by_cases h : p < l.length
    · rw [if_pos h] at hx
      rcases List.mem_cons.1 hx with rfl | hx
      · exact hp
      · exact stepsF_edge k _ (inside_next hp) x hx
    · rw [if_neg h] at hx
      cases hx
/-- An edge by bytes. -/
theorem byte_edge {l : List Int} (hl : Bytes l) (hs : Wide l) {y : Int} (h : y ∈ tabL l 1) : ∃ e : Nat, y = e ∧ e ≤ l.length ∧ inside l e = false := by
  rw [tab_bytes hl hs] at h
  rcases List.mem_append.1 h with h | h
  · obtain ⟨x, hx, rfl⟩ := List.mem_map.1 h
    have hm := stepsF_mem l _ _ x hx
    exact ⟨x.1, rfl, by omega, stepsF_edge _ _ (inside_zero l) x hx⟩
  · obtain rfl := List.mem_singleton.1 h
    exact ⟨l.length, rfl, Nat.le_refl _, inside_len l⟩
theorem last_bytes {l : List Int} (hl : Bytes l) (hs : Wide l) : lastT l 1 = (l.length : Int) := by
  unfold lastT
  rw [tab_bytes hl hs]
  simp [placesL]
end Go.Proofs.YtbomhpfckplgaaaDoor.P
