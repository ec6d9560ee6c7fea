/- The statement RuleOwn holds of what its text computes. -/
import Derived.Test.YtbomhpfckplgaaaDoorUi
import Derived.Test.YtbomhpfckplgaaaDoorHOwn
namespace Go.Proofs.YtbomhpfckplgaaaDoor.P
open Go Go.RowKit Go.Proofs.YtbomhpfckplgaaaDoorW.PrintWords Utf
set_option linter.unusedVariables false
set_option linter.unusedSimpArgs false
theorem refCut_len {k : Nat} {l v : List Int} {r lo hi m n : Int} (h : refCut.f k l r lo hi m = some (v, n)) : v.length ≤ l.length := by
  unfold refCut.f at h
  obtain ⟨a, _, h⟩ := Option.bind_eq_some_iff.1 h
  obtain ⟨b, _, h⟩ := Option.bind_eq_some_iff.1 h
  split at h
  · obtain ⟨s, _, h⟩ := Option.bind_eq_some_iff.1 h
    split at h
    · simp only [Option.some.injEq, Prod.mk.injEq] at h
      rw [← h.1]
      simp
    · obtain ⟨x, _, h⟩ := Option.bind_eq_some_iff.1 h
      split at h
      · obtain ⟨y, _, h⟩ := Option.bind_eq_some_iff.1 h
        split at h
        · split at h
          · simp only [Option.some.injEq, Prod.mk.injEq] at h
            rw [← h.1]
            simp
            omega
          · cases h
        · simp only [Option.some.injEq, Prod.mk.injEq] at h
          rw [← h.1]
          simp
      · simp only [Option.some.injEq, Prod.mk.injEq] at h
        rw [← h.1]
        simp
  · simp only [Option.some.injEq, Prod.mk.injEq] at h
    rw [← h.1]
    simp
theorem ruleOwn_law {l : List Int} (hl : Bytes l) (hs : Small l) (a b x y z : Int) : ∃ k, galleylaw06_RuleOwn.f k l a b x y z = some true := by
  have hs' := hs
  unfold Small at hs'
  have hst := stepsL_length l
  obtain ⟨⟨v, n⟩, ⟨k1, h1⟩, ⟨k2, h2⟩⟩ := cut_agrees hl hs x a b z
  obtain ⟨p, e, h5⟩ := to_all l hl hs.wide x a y z
  have hsz := size_is hl hs.wide x
  have htb := table_is hl hs x
  suffices hfit : ∃ k, galleylaw06_RuleOwn.fits k l a b x y z by
    obtain ⟨k, hk⟩ := hfit
    refine ⟨k, ?_⟩
    unfold galleylaw06_RuleOwn.f
    rw [if_pos hk]
  by_cases hx : 1 ≤ x ∧ x ≤ 3
  · obtain ⟨m, rfl⟩ : ∃ m : Nat, x = m := ⟨x.toNat, by omega⟩
    have ht := tab_length hl m (by omega) (by omega)
    obtain ⟨k3, h3⟩ := ev_table hl hs m (by omega) (by omega)
    obtain ⟨k4, h4⟩ := ev_same (tabL l m) (by omega)
    rw [if_pos hx, Int.toNat_natCast] at htb
    have hv := refCut_len (h2 k2 (Nat.le_refl _))
    exact ⟨max (max k1 k2) (max k3 k4), by omega, v, n, _, _, _, _, h1 _ (by omega), h2 _ (by omega), htb, hsz, h5, by omega, by omega, .inr ⟨by rw [ref_rul, decide_eq_true hx], h3 _ (by omega), h4 _ (by omega)⟩⟩
  · rw [if_neg hx] at htb
    have hv := refCut_len (h2 k2 (Nat.le_refl _))
    exact ⟨max k1 k2, by omega, v, n, _, _, _, _, h1 _ (by omega), h2 _ (by omega), htb, hsz, h5, by omega, by simp, .inl (by rw [ref_rul, decide_eq_false hx])⟩
end Go.Proofs.YtbomhpfckplgaaaDoor.P
