/- The statement RuleRises holds of what its text computes. -/
import Derived.Test.YtbomhpfckplgaaaDoorUi
import Derived.Test.YtbomhpfckplgaaaDoorHRises
namespace Go.Proofs.YtbomhpfckplgaaaDoor.P
open Go Go.RowKit Go.Proofs.YtbomhpfckplgaaaDoorW.PrintWords Utf
set_option linter.unusedVariables false
set_option linter.unusedSimpArgs false
theorem ruleRises_law {l : List Int} (hl : Bytes l) (hs : Wide l) (a b x y z : Int) : ∃ k, galleylaw06_RuleRises.f k l a b x y z = some true := by
  refine ⟨0, ?_⟩
  obtain ⟨p, e, h1⟩ := to_all l hl hs x a y z
  obtain ⟨q, f, h2⟩ := to_all l hl hs x b y z
  unfold galleylaw06_RuleRises.f
  rw [if_pos (show l.length ≤ 140737488351232 from hs), h1, h2]
  simp only [Option.bind_some]
  by_cases c1 : e = 0
  · rw [if_pos c1]
    by_cases c2 : f = 0
    · rw [if_pos c2]
      by_cases c3 : a > b
      · rw [if_pos c3]
      · subst c1 c2
        rw [if_neg c3, decide_eq_true (to_mono hl hs x a b y z p q h1 h2 (by omega))]
    · rw [if_neg c2]
  · rw [if_neg c1]
end Go.Proofs.YtbomhpfckplgaaaDoor.P
