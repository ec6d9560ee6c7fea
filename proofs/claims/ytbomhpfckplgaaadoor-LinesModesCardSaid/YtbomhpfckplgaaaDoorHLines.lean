/- The calls that the laws of lines make again and again. -/
import Derived.Test.YtbomhpfckplgaaaDoorHAwake
import Derived.Test.YtbomhpfckplgaaaDoorPx18
import Derived.Test.YtbomhpfckplgaaaDoorPx56
namespace Go.Proofs.YtbomhpfckplgaaaDoor.P
open Go Go.RowKit Go.Proofs.YtbomhpfckplgaaaDoorW.PrintWords Go.Proofs.YtbomhpfckplgaaaDoorW.PrintLast Go.Proofs.YtbomhpfckplgaaaDoorW.PrintMore
set_option linter.unusedVariables false
set_option linter.unusedSimpArgs false
/-- A copy of the bytes. -/
theorem own07_any (A : Option Addr) (c : Nat) (l : List Int) (hl : l.length ≤ 140737488351232) (w : World) (hr : Kd.C (Kd.int .u8) w A l.length l) (hc : l.length ≤ c) :
    Calls Tryd.prog 59 #[.slice A l.length c] w fun e w' => ∃ A' c', e = .returned (.slice A' l.length c') ∧ l.length ≤ c' ∧ Kd.C (Kd.int .u8) w' A' l.length l ∧ Below w.heap.size w w' := by
  refine (galleylaw07_own.calls A c l l w hr hc (by unfold galleylaw07_own.f; simp only [Option.bind_some, List.length_nil, Nat.zero_add, List.nil_append]; rw [if_pos (by omega)])).mono ?_
  rintro e w' ⟨v, rfl, hR, hb⟩
  obtain ⟨A', c', rfl⟩ := Kd.R_slice hR
  obtain ⟨-, h2, h3⟩ := Kd.R_reads' hR
  exact ⟨A', c', rfl, h2, h3, hb⟩
end Go.Proofs.YtbomhpfckplgaaaDoor.P
