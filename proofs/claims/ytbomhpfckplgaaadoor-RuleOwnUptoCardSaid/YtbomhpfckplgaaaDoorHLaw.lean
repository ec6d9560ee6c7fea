/- Facts that stay in every later world, and the calls that the rule's laws make again and again. -/
import Derived.Test.YtbomhpfckplgaaaDoorPx43
import Derived.Test.YtbomhpfckplgaaaDoorHKeep
namespace Go.Proofs.YtbomhpfckplgaaaDoor.P
open Go Go.RowKit Go.Proofs.YtbomhpfckplgaaaDoorW.PrintWords Go.Proofs.YtbomhpfckplgaaaDoorW.PrintLast Go.Proofs.YtbomhpfckplgaaaDoorW.PrintMore
set_option linter.unusedVariables false
set_option linter.unusedSimpArgs false

/-- A copy of the bytes. -/
theorem own_any (A : Option Addr) (c : Nat) (l : List Int) (hl : l.length ≤ 140737488351232) (w : World) (hr : Kd.C (Kd.int .u8) w A l.length l) (hc : l.length ≤ c) :
    Calls Tryd.prog 29 #[.slice A l.length c] w fun e w' => ∃ A' c', e = .returned (.slice A' l.length c') ∧ l.length ≤ c' ∧ Kd.C (Kd.int .u8) w' A' l.length l ∧ Below w.heap.size w w' := by
  refine (galleylaw06_own.calls A c l l w hr hc (by unfold galleylaw06_own.f; simp only [Option.bind_some, List.length_nil, Nat.zero_add, List.nil_append]; rw [if_pos (by omega)])).mono ?_
  rintro e w' ⟨v, rfl, hR, hb⟩
  obtain ⟨A', c', rfl⟩ := Kd.R_slice hR
  obtain ⟨-, h2, h3⟩ := Kd.R_reads' hR
  exact ⟨A', c', rfl, h2, h3, hb⟩
/-- What Cut answers. -/
theorem cut_any (k : Nat) (A : Option Addr) (c : Nat) (l : List Int) (r lo hi m : Int) (v : List Int) (n : Int) (w : World) (hr : Kd.C (Kd.int .u8) w A l.length l) (hc : l.length ≤ c) (hG : Laid w) (h : rule_Cut.f k l r lo hi m = some (v, n)) :
    Calls Tryd.prog 39 #[.slice A l.length c, .int .i64 r, .int .i64 lo, .int .i64 hi, .int .i64 m] w fun e w' => ∃ A' c', e = .returned (.tuple #[.slice A' v.length c', .int .i64 n]) ∧ v.length ≤ c' ∧ Kd.C (Kd.int .u8) w' A' v.length v ∧ Below w.heap.size w w' := by
  refine (rule_Cut.calls k A c l r lo hi m v n w hr hc hG h).mono ?_
  rintro e w' ⟨v0, rfl, hR, hb⟩
  obtain ⟨A', c', rfl⟩ := Kd.R_slice hR
  obtain ⟨-, h2, h3⟩ := Kd.R_reads' hR
  exact ⟨A', c', rfl, h2, h3, hb⟩
/-- What Table answers. -/
theorem table_any' (A : Option Addr) (c : Nat) (l : List Int) (r : Int) (v : List Int) (n : Int) (w : World) (hr : Kd.C (Kd.int .u8) w A l.length l) (hc : l.length ≤ c) (hG : Laid w) (h : rule_Table.f l r = some (v, n)) :
    Calls Tryd.prog 30 #[.slice A l.length c, .int .i64 r] w fun e w' => ∃ A' c', e = .returned (.tuple #[.slice A' v.length c', .int .i64 n]) ∧ v.length ≤ c' ∧ Kd.C (Kd.int .i64) w' A' v.length v ∧ Below w.heap.size w w' := by
  refine (rule_Table.calls A c l r v n w hr hc hG h).mono ?_
  rintro e w' ⟨v0, rfl, hR, hb⟩
  obtain ⟨A', c', rfl⟩ := Kd.R_slice hR
  obtain ⟨-, h2, h3⟩ := Kd.R_reads' hR
  exact ⟨A', c', rfl, h2, h3, hb⟩
end Go.Proofs.YtbomhpfckplgaaaDoor.P
