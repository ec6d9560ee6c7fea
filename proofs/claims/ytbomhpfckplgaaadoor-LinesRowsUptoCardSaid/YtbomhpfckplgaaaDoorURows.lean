/- The statement LinesRows holds of what its text computes. -/
import Derived.Test.YtbomhpfckplgaaaDoorUl
import Derived.Test.YtbomhpfckplgaaaDoorPx57
namespace Go.Proofs.YtbomhpfckplgaaaDoor.P
open Go Go.RowKit Go.Proofs.YtbomhpfckplgaaaDoorW.PrintWords
set_option linter.unusedVariables false
set_option linter.unusedSimpArgs false
theorem linesRows_law {l : List Int} (hl : Bytes l) (hs : Small l) (p : Int) : ∃ k, galleylaw07_LinesRows.f k l p = some true := by
  refine Ev.get ?_
  have hlen := linesL_length l
  have hs' := hs
  unfold Small at hs'
  obtain ⟨L, hL⟩ : ∃ L, linesL l = L := ⟨_, rfl⟩
  have j3 : ∀ b : Bool, (b = false → p < 0 ∨ p ≥ (L.length : Int)) → Ev (fun k => galleylaw07_LinesRows.j3 k l p b) true := by
    intro b hb
    cases b with
    | true => exact Ev.step (G := fun _ => some true) (fun k => by simp only [galleylaw07_LinesRows.j3, if_true]) (Ev.pure _)
    | false =>
      refine Ev.step (G := fun _ => some true) (fun k => ?_) (Ev.pure _)
      simp only [galleylaw07_LinesRows.j3, Bool.false_eq_true, if_false]
      rw [own07_eq l (by omega), Option.bind_some, line_out hs p (by rw [hL]; exact hb rfl)]
      rfl
  have tail : Ev (fun k => if p ≥ 0 then galleylaw07_LinesRows.j3 k l p (decide (p < ((L.map toRow).length : Int))) else galleylaw07_LinesRows.j3 k l p false) true := by
    by_cases c : p ≥ 0
    · refine Ev.ite_pos c (j3 _ (fun h => ?_))
      have := of_decide_eq_false h
      simp at this
      omega
    · exact Ev.ite_neg c (j3 _ (fun _ => by omega))
  have loop : ∀ (n i : Nat), L.length - i ≤ n → i ≤ L.length → Ev (fun k => galleylaw07_LinesRows.l0 k l p (L.map toRow) (L.map (·.f0)) (i : Int)) true := by
    intro n
    induction n with
    | zero =>
      intro i hn hi
      refine Ev.step (G := fun k => galleylaw07_LinesRows.j2 k l p (L.map toRow) (L.map (·.f0)) (i : Int) false) (fun k => ?_) ?_
      · conv => lhs; unfold galleylaw07_LinesRows.l0
        rw [if_neg (by simp; omega)]
      · refine Ev.step (G := fun k => if p ≥ 0 then galleylaw07_LinesRows.j3 k l p (decide (p < ((L.map toRow).length : Int))) else galleylaw07_LinesRows.j3 k l p false) (fun k => ?_) tail
        conv => lhs; unfold galleylaw07_LinesRows.j2
        rw [if_neg (by simp)]
    | succ n ih =>
      intro i hn hi
      by_cases c : i < L.length
      · refine Ev.step (G := fun k => galleylaw07_LinesRows.j2 k l p (L.map toRow) (L.map (·.f0)) (i : Int) (decide ((i : Int) < 300))) (fun k => ?_) ?_
        · conv => lhs; unfold galleylaw07_LinesRows.l0
          rw [if_pos (by simp; omega)]
        · by_cases c3 : (i : Int) < 300
          · rw [decide_eq_true c3]
            refine Ev.step (G := fun k => galleylaw07_LinesRows.l0 k l p (L.map toRow) (L.map (·.f0)) ((i + 1 : Nat) : Int)) (fun k => ?_) (ih (i + 1) (by omega) (by omega))
            conv => lhs; unfold galleylaw07_LinesRows.j2
            have h1 := line_in hs (i : Int) (by omega) (by rw [hL]; omega)
            rw [hL] at h1
            rw [if_pos rfl, own07_eq l (by omega), Option.bind_some, h1, Option.bind_some, rd88_row L i (by omega) (by omega)]
            simp only [if_true, toRow]
            rw [if_pos (by omega), if_pos (by simp; omega), if_pos (by simp; omega), rd_starts L i (by omega) (by omega), if_pos rfl, w64 (n := (i : Int) + 1) (by omega) (by omega)]
            rfl
          · rw [decide_eq_false c3]
            refine Ev.step (G := fun k => if p ≥ 0 then galleylaw07_LinesRows.j3 k l p (decide (p < ((L.map toRow).length : Int))) else galleylaw07_LinesRows.j3 k l p false) (fun k => ?_) tail
            conv => lhs; unfold galleylaw07_LinesRows.j2
            rw [if_neg (by simp)]
      · refine Ev.step (G := fun k => galleylaw07_LinesRows.j2 k l p (L.map toRow) (L.map (·.f0)) (i : Int) false) (fun k => ?_) ?_
        · conv => lhs; unfold galleylaw07_LinesRows.l0
          rw [if_neg (by simp; omega)]
        · refine Ev.step (G := fun k => if p ≥ 0 then galleylaw07_LinesRows.j3 k l p (decide (p < ((L.map toRow).length : Int))) else galleylaw07_LinesRows.j3 k l p false) (fun k => ?_) tail
          conv => lhs; unfold galleylaw07_LinesRows.j2
          rw [if_neg (by simp)]
  unfold galleylaw07_LinesRows.f
  simp only [show ∀ k, galleylaw07_awake.f k = some true from fun _ => rfl, Option.bind_some, if_true, own07_eq l (by omega), count_is hs]
  have er := ev_rows hs
  have es := ev_starts hs
  rw [hL] at er es
  simp only [hL]
  refine Ev.bind er (Ev.bind es (Ev.ite_pos (by simp) ?_))
  have e : (((L.map (·.f0)).length : Int) != ((L.map toRow).length : Int)) = false := by simp
  rw [e]
  refine Ev.step (G := fun k => galleylaw07_LinesRows.l0 k l p (L.map toRow) (L.map (·.f0)) 0) (fun k => ?_) (loop _ 0 (Nat.le_refl _) (Nat.zero_le _))
  simp only [galleylaw07_LinesRows.j0, Bool.false_eq_true, if_false]
end Go.Proofs.YtbomhpfckplgaaaDoor.P
