/- The lines of a text in plain terms: what lines and the document answer of them. -/
import Derived.Test.YtbomhpfckplgaaaDoorU0
import Derived.Test.YtbomhpfckplgaaaDoorPx19
import Derived.Test.YtbomhpfckplgaaaDoorPx18
import Derived.Test.YtbomhpfckplgaaaDoorPx54
import Derived.Test.YtbomhpfckplgaaaDoorPx56
namespace Go.Proofs.YtbomhpfckplgaaaDoor.P
open Go Go.RowKit Go.Proofs.YtbomhpfckplgaaaDoorW.PrintWords
set_option linter.unusedVariables false
set_option linter.unusedSimpArgs false

def toRow (x : S144) : S88 := ⟨x.f0, x.f1, x.f3⟩
theorem own07_eq (l : List Int) (h : l.length < 140737488355328) : galleylaw07_own.f l = some l := by
  unfold galleylaw07_own.f
  simp
  omega
/-- How many lines there are at most. -/
theorem linesF_length (l : List Int) : ∀ (n : Nat) (i s : Int), 0 ≤ i → i ≤ l.length → ((linesF l n i s).length : Int) ≤ l.length - i + 1
  | 0, i, s, h0, h1 => by simp [linesF]; omega
  | n + 1, i, s, h0, h1 => by
    unfold linesF
    by_cases c : i < (l.length : Int)
    · rw [if_pos c]
      by_cases c1 : rd l i = 10
      · rw [if_pos c1]
        have := linesF_length l n (i + 1) (i + 1) (by omega) (by omega)
        simp only [List.length_cons]
        omega
      · rw [if_neg c1]
        by_cases c2 : rd l i = 13
        · rw [if_pos c2]
          by_cases c3 : i + 1 < (l.length : Int) ∧ rd l (i + 1) = 10
          · rw [if_pos c3]
            have := linesF_length l n (i + 2) (i + 2) (by omega) (by omega)
            simp only [List.length_cons]
            omega
          · rw [if_neg c3]
            have := linesF_length l n (i + 1) (i + 1) (by omega) (by omega)
            simp only [List.length_cons]
            omega
        · rw [if_neg c2]
          have := linesF_length l n (i + 1) s (by omega) (by omega)
          omega
    · rw [if_neg c]
      simp
      omega
theorem linesL_length (l : List Int) : (linesL l).length ≤ l.length + 1 := by
  have := linesF_length l (l.length + 1) 0 0 (by omega) (by omega)
  unfold linesL
  omega
theorem all_is {l : List Int} (hs : Small l) : lines_all.f l = some (linesL l) := by
  unfold Small at hs
  unfold lines_all.f
  rw [if_pos (by omega)]
theorem count_is {l : List Int} (hs : Small l) : lines_Count.f l = some ((linesL l).length : Int) := by
  unfold lines_Count.f
  rw [all_is hs]
  rfl
theorem line_in {l : List Int} (hs : Small l) (k : Int) (h0 : 0 ≤ k) (h1 : k < (linesL l).length) : lines_Line.f l k = some ((rd_T144 (linesL l) k).f0, (rd_T144 (linesL l) k).f1, (rd_T144 (linesL l) k).f3, 0) := by
  unfold lines_Line.f
  rw [all_is hs, Option.bind_some, if_neg (by omega), if_neg (by omega), if_pos h0, if_pos h1]
theorem line_out {l : List Int} (hs : Small l) (k : Int) (h : k < 0 ∨ k ≥ (linesL l).length) : lines_Line.f l k = some (0, 0, 0, 2) := by
  unfold lines_Line.f
  rw [all_is hs, Option.bind_some]
  by_cases c : k < 0
  · rw [if_pos c]
  · rw [if_neg c, if_pos (by omega)]
theorem rows_step {l : List Int} (hs : Small l) : ∀ (n : Nat) (i s : Int) (xs : List S88), 0 ≤ i → i ≤ l.length → (l.length : Int) - i < (n : Int) → (xs.length : Int) ≤ i →
    Ev (fun k => galleyref07_Rows.l0 k l xs s i) (xs ++ (linesF l n i s).map toRow)
  | 0, i, s, xs, h0, h1, h2, h3 => by omega
  | n + 1, i, s, xs, h0, h1, h2, h3 => by
    have hs' := hs
    unfold Small at hs'
    have w1 : wrap64 (i + 1) = i + 1 := w64 (by omega) (by omega)
    have w2 : wrap64 (i + 1 + 1) = i + 1 + 1 := w64 (by omega) (by omega)
    have m1 : wrap64 (i + 1 - 1) = i := by rw [Int.add_sub_cancel]; exact w64 (by omega) (by omega)
    have m2 : wrap64 (i + 1 + 1 - 1) = i + 1 := by rw [Int.add_sub_cancel]; exact w1
    by_cases c : i < (l.length : Int)
    · have head : ∀ v b, (if rd l i = 13 then false else (rd l i != 10)) = b → Ev (fun k => galleyref07_Rows.j1 k l xs s i b) v → Ev (fun k => galleyref07_Rows.l0 k l xs s i) v := by
        intro v b hb hv
        refine Ev.step (fun k => ?_) hv
        conv => lhs; unfold galleyref07_Rows.l0
        rw [if_pos c, if_pos h0]
        by_cases c2 : rd l i = 13
        · rw [if_pos c2] at hb ⊢
          rw [hb]
        · rw [if_neg c2] at hb ⊢
          rw [hb]
      unfold linesF
      rw [if_pos c]
      by_cases c1 : rd l i = 10
      · rw [if_pos c1]
        refine head _ false (by rw [if_neg (by omega), c1]; rfl) ?_
        refine Ev.step (G := fun k => galleyref07_Rows.l0 k l (xs ++ [⟨s, i, i + 1⟩]) (i + 1) (i + 1)) (fun k => ?_) ?_
        · conv => lhs; unfold galleyref07_Rows.j1
          rw [if_neg (by simp), if_pos h0, if_pos c, if_neg (by omega), if_pos (by omega), w1, m1, w1]
        · have := rows_step hs n (i + 1) (i + 1) (xs ++ [⟨s, i, i + 1⟩]) (by omega) (by omega) (by omega) (by simp; omega)
          simpa [toRow] using this
      · rw [if_neg c1]
        by_cases c2 : rd l i = 13
        · rw [if_pos c2]
          refine head _ false (by rw [if_pos c2]) ?_
          by_cases c3 : i + 1 < (l.length : Int)
          · by_cases c4 : rd l (i + 1) = 10
            · rw [if_pos ⟨c3, c4⟩]
              refine Ev.step (G := fun k => galleyref07_Rows.l0 k l (xs ++ [⟨s, i, i + 2⟩]) (i + 2) (i + 2)) (fun k => ?_) ?_
              · conv => lhs; unfold galleyref07_Rows.j1
                rw [if_neg (by simp), if_pos h0, if_pos c, if_pos c2, w1, if_pos c3, if_pos (by omega), if_pos c4, if_pos (by omega), w2, m2, w2]
                rw [show i + 1 + 1 = i + 2 by omega]
              · have := rows_step hs n (i + 2) (i + 2) (xs ++ [⟨s, i, i + 2⟩]) (by omega) (by omega) (by omega) (by simp; omega)
                simpa [toRow] using this
            · rw [if_neg (fun h => c4 h.2)]
              refine Ev.step (G := fun k => galleyref07_Rows.l0 k l (xs ++ [⟨s, i, i + 1⟩]) (i + 1) (i + 1)) (fun k => ?_) ?_
              · conv => lhs; unfold galleyref07_Rows.j1
                rw [if_neg (by simp), if_pos h0, if_pos c, if_pos c2, w1, if_pos c3, if_pos (by omega), if_neg c4, if_pos (by omega), m1, w1]
              · have := rows_step hs n (i + 1) (i + 1) (xs ++ [⟨s, i, i + 1⟩]) (by omega) (by omega) (by omega) (by simp; omega)
                simpa [toRow] using this
          · rw [if_neg (fun h => c3 h.1)]
            refine Ev.step (G := fun k => galleyref07_Rows.l0 k l (xs ++ [⟨s, i, i + 1⟩]) (i + 1) (i + 1)) (fun k => ?_) ?_
            · conv => lhs; unfold galleyref07_Rows.j1
              rw [if_neg (by simp), if_pos h0, if_pos c, if_pos c2, w1, if_neg c3, if_pos (by omega), m1, w1]
            · have := rows_step hs n (i + 1) (i + 1) (xs ++ [⟨s, i, i + 1⟩]) (by omega) (by omega) (by omega) (by simp; omega)
              simpa [toRow] using this
        · rw [if_neg c2]
          refine head _ true (by rw [if_neg c2]; simpa using c1) ?_
          refine Ev.step (G := fun k => galleyref07_Rows.l0 k l xs s (i + 1)) (fun k => ?_) ?_
          · conv => lhs; unfold galleyref07_Rows.j1
            rw [if_pos rfl, w1]
          · exact rows_step hs n (i + 1) s xs (by omega) (by omega) (by omega) (by omega)
    · refine Ev.step (G := fun _ => some (xs ++ (linesF l (n + 1) i s).map toRow)) (fun k => ?_) (Ev.pure _)
      conv => lhs; unfold galleyref07_Rows.l0
      unfold linesF
      rw [if_neg c, if_neg c, if_pos (by omega)]
      rfl
theorem ev_rows {l : List Int} (hs : Small l) : Ev (fun k => galleyref07_Rows.f k l) ((linesL l).map toRow) := by
  have := rows_step hs (l.length + 1) 0 0 [] (by omega) (by omega) (by omega) (by simp)
  simpa [galleyref07_Rows.f, linesL] using this
theorem starts_step (L : List S144) (hL : L.length < 17592186044416) : ∀ (n i : Nat) (acc : List Int), L.length - i ≤ n → i ≤ L.length → acc.length = i →
    Ev (fun k => lines_Starts.l0 k acc L (L.length : Int) (i : Int)) (acc ++ (L.drop i).map (·.f0))
  | 0, i, acc, hn, hi, ha => by
    refine Ev.step (G := fun _ => some (acc ++ (L.drop i).map (·.f0))) (fun k => ?_) (Ev.pure _)
    conv => lhs; unfold lines_Starts.l0
    rw [if_neg (by omega)]
    have : i = L.length := by omega
    subst this
    simp
  | n + 1, i, acc, hn, hi, ha => by
    by_cases c : i < L.length
    · have ih := starts_step L hL n (i + 1) (acc ++ [L[i].f0]) (by omega) (by omega) (by simp; omega)
      refine Ev.step (G := fun k => lines_Starts.l0 k (acc ++ [L[i].f0]) L (L.length : Int) ((i + 1 : Nat) : Int)) (fun k => ?_) ?_
      · conv => lhs; unfold lines_Starts.l0
        have e : rd_T144 L (i : Int) = L[i] := by
          unfold rd_T144
          rw [Int.toNat_natCast, List.getD_eq_getElem?_getD, List.getElem?_eq_getElem c]
          rfl
        rw [if_pos (by omega), if_pos (by omega), if_pos (by omega), if_pos (by omega), e, w64 (n := (i : Int) + 1) (by omega) (by omega)]
        rfl
      · rw [List.drop_eq_getElem_cons c, List.map_cons]
        rw [List.append_assoc, List.singleton_append] at ih
        exact ih
    · exact starts_step L hL 0 i acc (by omega) hi ha
theorem ev_starts {l : List Int} (hs : Small l) : Ev (fun k => lines_Starts.f k l) ((linesL l).map (·.f0)) := by
  have hlen := linesL_length l
  unfold lines_Starts.f
  simp only [all_is hs, Option.bind_some]
  unfold Small at hs
  simpa using starts_step (linesL l) (by omega) _ 0 [] (Nat.le_refl _) (Nat.zero_le _) rfl
theorem rd88_row (L : List S144) (i : Int) (h0 : 0 ≤ i) (h1 : i < L.length) : rd_T88 (L.map toRow) i = toRow (rd_T144 L i) := by
  obtain ⟨n, rfl⟩ := Int.eq_ofNat_of_zero_le h0
  have c : n < L.length := by omega
  unfold rd_T88 rd_T144
  simp only [Int.toNat_natCast, List.getD_eq_getElem?_getD]
  rw [List.getElem?_map, List.getElem?_eq_getElem c]
  rfl
theorem rd_starts (L : List S144) (i : Int) (h0 : 0 ≤ i) (h1 : i < L.length) : rd (L.map (·.f0)) i = (rd_T144 L i).f0 := by
  obtain ⟨n, rfl⟩ := Int.eq_ofNat_of_zero_le h0
  have c : n < L.length := by omega
  unfold rd rd_T144
  simp only [Int.toNat_natCast, List.getD_eq_getElem?_getD]
  rw [List.getElem?_map, List.getElem?_eq_getElem c]
  rfl
end Go.Proofs.YtbomhpfckplgaaaDoor.P
