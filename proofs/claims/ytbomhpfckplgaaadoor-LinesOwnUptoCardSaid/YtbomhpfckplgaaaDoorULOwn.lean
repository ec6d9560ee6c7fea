/- The statement LinesOwn holds of what its text computes. -/
import Derived.Test.YtbomhpfckplgaaaDoorUn
import Derived.Test.YtbomhpfckplgaaaDoorPx61
namespace Go.Proofs.YtbomhpfckplgaaaDoor.P
open Go Go.RowKit Go.Proofs.YtbomhpfckplgaaaDoorW.PrintWords
set_option linter.unusedVariables false
set_option linter.unusedSimpArgs false
theorem linesOwn_law {l : List Int} (hl : Bytes l) (hs : Small l) (p a b c d : Int) : ∃ k, galleylaw07_LinesOwn.f k l p a b c d = some true := by
  refine Ev.get ?_
  have hlen := linesL_length l
  have hs' := hs
  unfold Small at hs'
  obtain ⟨L, hL⟩ : ∃ L, linesL l = L := ⟨_, rfl⟩
  rw [hL] at hlen
  obtain ⟨S, hS⟩ : ∃ S, L.map (·.f0) = S := ⟨_, rfl⟩
  have hSl : S.length = L.length := by rw [← hS]; simp
  have l1 : ∀ (n i : Nat) (xs : List Int), 40 - i ≤ n → i ≤ 40 → xs.length ≤ L.length + i → Ev (fun k => galleylaw07_LinesOwn.l1 k l xs S S (i : Int)) true := by
    intro n
    induction n with
    | zero =>
      intro i xs h1 h2 h3
      have es := ev_same S (by omega)
      have er := ev_rows hs
      rw [hL] at er
      refine Ev.step (G := fun k => (galleyref01_SameInts.f k S S).bind fun t1168 => (if t1168 = true then ((galleyref07_Rows.f k l).bind fun t1169 => (some ((S.length : Int) == (t1169.length : Int)))) else (some false))) (fun k => ?_) ?_
      · conv => lhs; unfold galleylaw07_LinesOwn.l1
        rw [if_neg (by omega)]
      · refine Ev.bind es (Ev.ite_pos rfl (Ev.bind er (Ev.of ?_)))
        simp [hSl]
    | succ n ih =>
      intro i xs h1 h2 h3
      by_cases g : i < 40
      · refine Ev.step (G := fun k => galleylaw07_LinesOwn.l1 k l (xs ++ [(-2)]) S S ((i + 1 : Nat) : Int)) (fun k => ?_) (ih (i + 1) _ (by omega) (by omega) (by simp; omega))
        conv => lhs; unfold galleylaw07_LinesOwn.l1
        rw [if_pos (by omega), if_pos (by omega), w64 (n := (i : Int) + 1) (by omega) (by omega)]
        rfl
      · have e : i = 40 := by omega
        subst e
        have es := ev_same S (by omega)
        have er := ev_rows hs
        rw [hL] at er
        refine Ev.step (G := fun k => (galleyref01_SameInts.f k S S).bind fun t1168 => (if t1168 = true then ((galleyref07_Rows.f k l).bind fun t1169 => (some ((S.length : Int) == (t1169.length : Int)))) else (some false))) (fun k => ?_) ?_
        · conv => lhs; unfold galleylaw07_LinesOwn.l1
          rw [if_neg (by omega)]
        · refine Ev.bind es (Ev.ite_pos rfl (Ev.bind er (Ev.of ?_)))
          simp [hSl]
  have l0 : ∀ (n i : Nat) (xs : List Int), L.length - i ≤ n → i ≤ L.length → xs.length = L.length → Ev (fun k => galleylaw07_LinesOwn.l0 k l xs S S (L.length : Int) (i : Int)) true := by
    intro n
    induction n with
    | zero =>
      intro i xs h1 h2 h3
      refine Ev.step (G := fun k => galleylaw07_LinesOwn.l1 k l xs S S ((0 : Nat) : Int)) (fun k => ?_) (l1 40 0 xs (by omega) (by omega) (by omega))
      conv => lhs; unfold galleylaw07_LinesOwn.l0
      rw [if_neg (by omega)]
      rfl
    | succ n ih =>
      intro i xs h1 h2 h3
      by_cases g : i < L.length
      · refine Ev.step (G := fun k => galleylaw07_LinesOwn.l0 k l (xs.set i (-1)) S S (L.length : Int) ((i + 1 : Nat) : Int)) (fun k => ?_) (ih (i + 1) _ (by omega) (by omega) (by simp; exact h3))
        conv => lhs; unfold galleylaw07_LinesOwn.l0
        rw [if_pos (by omega), if_pos (by omega), if_pos (by omega), w64 (n := (i : Int) + 1) (by omega) (by omega)]
        rfl
      · refine Ev.step (G := fun k => galleylaw07_LinesOwn.l1 k l xs S S ((0 : Nat) : Int)) (fun k => ?_) (l1 40 0 xs (by omega) (by omega) (by omega))
        conv => lhs; unfold galleylaw07_LinesOwn.l0
        rw [if_neg (by omega)]
        rfl
  have j0 : Ev (fun k => galleylaw07_LinesOwn.j0 k l S S false) true := by
    refine Ev.step (G := fun k => galleylaw07_LinesOwn.l0 k l S S S (L.length : Int) ((0 : Nat) : Int)) (fun k => ?_) (l0 _ 0 S (Nat.le_refl _) (Nat.zero_le _) hSl)
    simp only [galleylaw07_LinesOwn.j0, Bool.false_eq_true, if_false, Option.bind_some, List.length_nil, Nat.zero_add, List.nil_append]
    rw [if_pos (by omega), hSl]
    rfl
  have es := ev_starts hs
  rw [hL, hS] at es
  obtain ⟨wv, hw⟩ := where_all hl hs p
  obtain ⟨sv, hsp⟩ := spot_all hl hs p c
  have hat := at_p hl hs a b c d
  have hline : ∃ v, lines_Line.f l a = some v := by
    by_cases g : a < 0 ∨ a ≥ (linesL l).length
    · exact ⟨_, line_out hs a g⟩
    · exact ⟨_, line_in hs a (by omega) (by omega)⟩
  obtain ⟨lv, hlv⟩ := hline
  have htake : (l ++ [(7 : Int), 8]).take ((l.length : Int)).toNat = l := by simp
  have h7 : rd (l ++ [(7 : Int), 8]) (l.length : Int) = 7 := by
    unfold rd
    rw [Int.toNat_natCast, List.getD_eq_getElem?_getD, List.getElem?_append_right (Nat.le_refl _)]
    simp
  have hW : wrap64 ((l.length : Int) + 1) = ((l.length + 1 : Nat) : Int) := by
    rw [w64 (by omega) (by omega)]
    rfl
  have h8 : rd (l ++ [(7 : Int), 8]) ((l.length + 1 : Nat) : Int) = 8 := by
    unfold rd
    rw [Int.toNat_natCast, List.getD_eq_getElem?_getD, List.getElem?_append_right (by omega)]
    simp
  unfold galleylaw07_LinesOwn.f
  simp only [show ∀ k, galleylaw07_awake.f k = some true from fun _ => rfl, Option.bind_some, if_true, own07_eq l (by omega)]
  refine Ev.ite_pos (by simp; omega) (Ev.ite_pos (by omega) (Ev.ite_pos (by simp; omega) ?_))
  simp only [htake, count_is hs, hlv, hsp, Option.bind_some]
  refine Ev.bind es (Ev.bind es (Ev.bind hw (Ev.bind hat ?_)))
  refine Ev.ite_pos trivial (Ev.ite_pos (by simp; omega) (Ev.ite_pos h7 ?_))
  rw [hW]
  refine Ev.ite_pos (by omega) (Ev.ite_pos (by simp) ?_)
  rw [h8]
  exact j0
end Go.Proofs.YtbomhpfckplgaaaDoor.P
