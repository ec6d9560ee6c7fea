/- The statement RuleCuts holds of what its text computes. -/
import Derived.Test.YtbomhpfckplgaaaDoorHCuts
namespace Go.Proofs.YtbomhpfckplgaaaDoor.P
open Go Go.RowKit Go.Proofs.YtbomhpfckplgaaaDoorW.PrintWords Utf
set_option linter.unusedVariables false
theorem ruleCuts_law {l : List Int} (hl : Bytes l) (hs : Small l) (a b x y z : Int) : ∃ k, galleylaw06_RuleCuts.f k l a b x y z = some true := by
  obtain ⟨⟨v, n⟩, ⟨k1, h1⟩, ⟨k2, h2⟩⟩ := cut_agrees hl hs x a b z
  refine ⟨max k1 k2, ?_⟩
  unfold galleylaw06_RuleCuts.f
  rw [if_pos]
  exact ⟨hs.wide, v, n, h1 _ (by omega), h2 _ (by omega)⟩
end Go.Proofs.YtbomhpfckplgaaaDoor.P
