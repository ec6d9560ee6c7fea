/- The statement LinesModes holds of what its text computes. -/
import Derived.Test.YtbomhpfckplgaaaDoorUq
import Derived.Test.YtbomhpfckplgaaaDoorHModes
namespace Go.Proofs.YtbomhpfckplgaaaDoor.P
open Go Go.RowKit Go.Proofs.YtbomhpfckplgaaaDoorW.PrintWords Go.Proofs.YtbomhpfckplgaaaDoorW.PrintMore Utf
set_option linter.unusedVariables false
set_option linter.unusedSimpArgs false
theorem atP_bad {l : List Int} {s c r m : Int} (h : ¬ ((1 ≤ r ∧ r ≤ 3) ∧ (1 ≤ m ∧ m ≤ 3))) : atP l s c r m = (0, 3) := by
  unfold atP
  rw [if_neg h]
theorem atP_out {l : List Int} {s c r m : Int} (h : (1 ≤ r ∧ r ≤ 3) ∧ (1 ≤ m ∧ m ≤ 3)) (h2 : s < 0 ∨ s ≥ (linesL l).length ∨ c < 0) : atP l s c r m = (0, 2) := by
  unfold atP
  rw [if_pos h, if_pos h2]
theorem atP_far {l : List Int} {s c r m : Int} (h : (1 ≤ r ∧ r ≤ 3) ∧ (1 ≤ m ∧ m ≤ 3)) (h2 : ¬ (s < 0 ∨ s ≥ (linesL l).length ∨ c < 0)) (h3 : ¬ c ≤ lastT (lineT l s) r.toNat) : atP l s c r m = if m = 3 then (0, 2) else ((rd_T144 (linesL l) s).f1, 0) := by
  unfold atP
  rw [if_pos h, if_neg h2, if_neg h3]
theorem atP_in {l : List Int} {s c r m : Int} (h : (1 ≤ r ∧ r ≤ 3) ∧ (1 ≤ m ∧ m ≤ 3)) (h2 : ¬ (s < 0 ∨ s ≥ (linesL l).length ∨ c < 0)) (h3 : c ≤ lastT (lineT l s) r.toNat) {v e : Int} (ht : rule_To.f (lineT l s) r c 1 m = some (v, e)) : atP l s c r m = if e = 0 then ((rd_T144 (linesL l) s).f0 + v, 0) else (0, e) := by
  unfold atP
  rw [if_pos h, if_neg h2, if_pos h3, ht]
  rfl
theorem linesModes_law {l : List Int} (hl : Bytes l) (hw : Wide l) (s c r : Int) : ∃ k, galleylaw07_LinesModes.f k l s c r = some true := by
  by_cases hbig : l.length > 600
  · refine ⟨0, ?_⟩
    unfold galleylaw07_LinesModes.f
    rw [if_pos (.inl hbig)]
  have hs : Small l := by unfold Small; omega
  suffices hfit : ∃ k, galleylaw07_LinesModes.fits k l s c r by
    obtain ⟨k, hk⟩ := hfit
    refine ⟨k, ?_⟩
    unfold galleylaw07_LinesModes.f
    rw [if_pos (.inr hk)]
  obtain ⟨k3, h3⟩ := at_p hl hs s c r 3
  obtain ⟨k1, h1⟩ := at_p hl hs s c r 1
  obtain ⟨k2, h2⟩ := at_p hl hs s c r 2
  by_cases hr : 1 ≤ r ∧ r ≤ 3
  case neg =>
    have bad : ∀ m, atP l s c r m = (0, 3) := fun m => atP_bad (fun h => hr h.1)
    refine ⟨max k1 (max k2 k3), 0, 3, 0, 3, 0, 3, ?_, ?_, ?_, .inr (.inl ⟨by decide, by decide, rfl, rfl, rfl, rfl⟩)⟩
    · rw [← bad 3]; exact h3 _ (by omega)
    · rw [← bad 1]; exact h1 _ (by omega)
    · rw [← bad 2]; exact h2 _ (by omega)
  by_cases ho : s < 0 ∨ s ≥ (linesL l).length ∨ c < 0
  · have bad : ∀ m, 1 ≤ m ∧ m ≤ 3 → atP l s c r m = (0, 2) := fun m hm => atP_out ⟨hr, hm⟩ ho
    refine ⟨max k1 (max k2 k3), 0, 2, 0, 2, 0, 2, ?_, ?_, ?_, .inr (.inl ⟨by decide, by decide, rfl, rfl, rfl, rfl⟩)⟩
    · rw [← bad 3 (by decide)]; exact h3 _ (by omega)
    · rw [← bad 1 (by decide)]; exact h1 _ (by omega)
    · rw [← bad 2 (by decide)]; exact h2 _ (by omega)
  obtain ⟨S, rfl⟩ : ∃ S : Nat, s = S := ⟨s.toNat, by omega⟩
  obtain ⟨n, rfl⟩ : ∃ n : Nat, r = n := ⟨r.toNat, by omega⟩
  have n1 : 1 ≤ n := by omega
  have n3 : n ≤ 3 := by omega
  have hS : S < (linesL l).length := by omega
  have hord := line_order l S hS
  have hed := line_edge l S hS
  have hline := line_in hs (S : Int) (by omega) (by omega)
  have hlen := lineT_length l S
  have bT := lineT_bytes hl S
  have wT : Wide (lineT l S) := by unfold Wide; omega
  by_cases hc : c ≤ lastT (lineT l S) n
  case neg =>
    have e3 := atP_far (m := 3) ⟨hr, by decide⟩ ho (by rw [Int.toNat_natCast]; exact hc)
    have e1 := atP_far (m := 1) ⟨hr, by decide⟩ ho (by rw [Int.toNat_natCast]; exact hc)
    have e2 := atP_far (m := 2) ⟨hr, by decide⟩ ho (by rw [Int.toNat_natCast]; exact hc)
    rw [if_pos rfl] at e3
    rw [if_neg (by decide)] at e1 e2
    obtain ⟨q, hq⟩ : ∃ q : Nat, (rd_T144 (linesL l) S).f1 = q := ⟨_, (Int.toNat_of_nonneg (by omega)).symm⟩
    have hqe : inside l q = false := by
      have := hed.2.1
      rw [hq, Int.toNat_natCast] at this
      exact this
    obtain ⟨k4, h4⟩ := where_line hl hs S q hS (by omega) (by omega) hqe
    rw [hq] at e1 e2 hline
    refine ⟨max (max k1 k2) (max k3 k4), 0, 2, q, 0, q, 0, ?_, ?_, ?_, .inr (.inr ⟨by decide, rfl, rfl, _, _, _, hline, _, _, _, _, _, _, _, _, _, _, h4 _ (by omega), h4 _ (by omega), .inl ⟨rfl, rfl, rfl⟩⟩)⟩
    · rw [← e3]; exact h3 _ (by omega)
    · rw [← e1]; exact h1 _ (by omega)
    · rw [← e2]; exact h2 _ (by omega)
  obtain ⟨j, hj, a1, a2, _, _, a5, a6⟩ | ⟨h, _⟩ := to_edge bT wT n c 1 n1 n3 (by decide) (by omega) hc
  rotate_left
  · exact absurd h (by decide)
  obtain ⟨i, hi, b1, _, b3, _, b5, b6⟩ | ⟨h, _⟩ := to_edge bT wT n c 2 n1 n3 (by decide) (by omega) hc
  rotate_left
  · exact absurd h (by decide)
  have a2 := a2 rfl
  have b3 := b3 rfl
  have t1 := a1 1 (by omega) (by omega)
  have t2 := b1 1 (by omega) (by omega)
  have e1 := atP_in (m := 1) ⟨hr, by decide⟩ ho (by rw [Int.toNat_natCast]; exact hc) t1
  have e2 := atP_in (m := 2) ⟨hr, by decide⟩ ho (by rw [Int.toNat_natCast]; exact hc) t2
  rw [if_pos rfl] at e1 e2
  obtain ⟨z, hz, c1, _, _, c4, c5, c6⟩ | ⟨_, c1, cne⟩ := to_edge bT wT n c 3 n1 n3 (by decide) (by omega) hc
  · have c4 := c4 rfl
    have t3 := c1 1 (by omega) (by omega)
    have e3 := atP_in (m := 3) ⟨hr, by decide⟩ ho (by rw [Int.toNat_natCast]; exact hc) t3
    rw [if_pos rfl] at e3
    have ej : j = z := by
      rcases Nat.lt_trichotomy j z with h | h | h
      · have := a6 z hz h
        omega
      · exact h
      · have := c6 j hj h
        omega
    have ei : i = z := by
      rcases Nat.lt_trichotomy i z with h | h | h
      · have := c5 i hi h
        omega
      · exact h
      · have := b5 z hz h
        omega
    subst ej
    subst ei
    obtain ⟨xx, hxx⟩ : ∃ xx, (rd_T144 (linesL l) (S : Int)).f0 + pickE (edgesL (lineT l S))[i] ((1 : Nat)) = xx := ⟨_, rfl⟩
    rw [hxx] at e1 e2 e3
    refine ⟨max k1 (max k2 k3), xx, 0, xx, 0, xx, 0, ?_, ?_, ?_, .inl ⟨rfl, rfl, rfl, rfl, rfl⟩⟩
    · exact (h3 _ (by omega)).trans (congrArg some e3)
    · exact (h1 _ (by omega)).trans (congrArg some e1)
    · exact (h2 _ (by omega)).trans (congrArg some e2)
  · have t3 := c1 1 (by omega) (by omega)
    have e3 := atP_in (m := 3) ⟨hr, by decide⟩ ho (by rw [Int.toNat_natCast]; exact hc) t3
    rw [if_neg (by decide)] at e3
    have n1' := cne j hj
    have n2' := cne i hi
    have hji := pickV_rev bT wT n n1 n3 hj hi (by omega)
    have hlt := pickV_lt bT wT 1 (by omega) (by omega) hj hi hji
    obtain ⟨q1, p1, p2, p3, p4⟩ := place_where hl hs S hS j hj
    obtain ⟨q2, r1, r2, r3, r4⟩ := place_where hl hs S hS i hi
    obtain ⟨k4, h4⟩ := where_line hl hs S q1 hS p2 p3 p4
    obtain ⟨k5, h5⟩ := where_line hl hs S q2 hS r2 r3 r4
    rw [p1] at e1
    rw [r1] at e2
    refine ⟨max (max k1 k2) (max k3 (max k4 k5)), 0, 4, q1, 0, q2, 0, ?_, ?_, ?_, .inr (.inr ⟨by decide, rfl, rfl, _, _, _, hline, _, _, _, _, _, _, _, _, _, _, h4 _ (by omega), h5 _ (by omega), .inr ⟨rfl, by omega, by omega, by omega⟩⟩)⟩
    · exact (h3 _ (by omega)).trans (congrArg some e3)
    · exact (h1 _ (by omega)).trans (congrArg some e1)
    · exact (h2 _ (by omega)).trans (congrArg some e2)
end Go.Proofs.YtbomhpfckplgaaaDoor.P
