/- The opening of arguments that are structs or arrays. -/
import Derived.Test.YtbomhpfckplgaaaDoorRow0
namespace Go.Proofs.YtbomhpfckplgaaaDoor.P
open Go Go.ChangeShapes Go.WideShapes Go.ChangeAt Go.RowKit Go.Proofs.YtbomhpfckplgaaaDoorW.PrintWords
set_option linter.unusedVariables false
set_option maxRecDepth 100000
/-- What came in as a struct of three numbers. -/
theorem in_turn {H : Type} {enc : TypeId × Value → H} {W : World} {r : Reach} {base b0 : Nat} {spare : Nat → Bool} {held : Bool} {v : Value} {d : DataW H} {ps : List MemPlace} (hv : Value.okWide Tryd.prog W r b0 39 v) (h : DataW.Trod enc Tryd.prog W base spare held 39 v d ps) :
    ∃ x y z, v = .agg #[.int .i64 x, .int .i64 y, .int .i64 z] := by
  obtain ⟨cs, rfl, hsz⟩ := okWide_struct Tryd.underlying39 hv
  obtain ⟨fuel, hf⟩ := h
  obtain ⟨xs, n, _, hx, hl, hn, hg⟩ := DataW.trod_struct Tryd.underlying39 hf
  rw [cells39] at hsz
  have k0 : DataW.trod _ Tryd.prog W base _ held n 3 (((Value.agg cs).cells.toList.drop 0).take (Tryd.prog.cellsOf 3)) = xs[0]? := hg 0 _ rfl
  have k1 : DataW.trod _ Tryd.prog W base _ held n 3 (((Value.agg cs).cells.toList.drop 1).take (Tryd.prog.cellsOf 3)) = xs[1]? := hg 1 _ rfl
  have k2 : DataW.trod _ Tryd.prog W base _ held n 3 (((Value.agg cs).cells.toList.drop 2).take (Tryd.prog.cellsOf 3)) = xs[2]? := hg 2 _ rfl
  rw [cells3] at k0 k1 k2
  obtain ⟨l⟩ := cs
  match l, hsz, xs, hn with
  | [c0, c1, c2], _, [x0, x1, x2], _ =>
    obtain ⟨a0, h0, _, _⟩ := DataW.trod_int Tryd.underlying3 (show DataW.trod _ Tryd.prog W base _ held n 3 [c0] = some x0 from k0)
    obtain ⟨a1, h1, _, _⟩ := DataW.trod_int Tryd.underlying3 (show DataW.trod _ Tryd.prog W base _ held n 3 [c1] = some x1 from k1)
    obtain ⟨a2, h2, _, _⟩ := DataW.trod_int Tryd.underlying3 (show DataW.trod _ Tryd.prog W base _ held n 3 [c2] = some x2 from k2)
    have y0 : c0 = .int .i64 a0 := by simpa using h0
    have y1 : c1 = .int .i64 a1 := by simpa using h1
    have y2 : c2 = .int .i64 a2 := by simpa using h2
    subst y0 y1 y2
    exact ⟨_, _, _, rfl⟩
/-- What came in as an array of two numbers. -/
theorem cells45 : Tryd.prog.cellsOf 45 = 2 := by kernel_rfl
theorem in_pair {H : Type} {enc : TypeId × Value → H} {W : World} {r : Reach} {base b0 : Nat} {spare : Nat → Bool} {held : Bool} {v : Value} {d : DataW H} {ps : List MemPlace} (hv : Value.okWide Tryd.prog W r b0 45 v) (h : DataW.Trod enc Tryd.prog W base spare held 45 v d ps) :
    ∃ x y, v = .agg #[.int .i64 x, .int .i64 y] := by
  have hu := Tryd.underlying45
  unfold Value.okWide at hv
  rw [hu] at hv
  obtain ⟨cs, rfl, hsz, _⟩ := hv
  obtain ⟨fuel, hf⟩ := h
  obtain ⟨xs, n, _, hx, hl, hn, hg⟩ := DataW.trod_array hu hf
  rw [cells45] at hsz
  have k0 := hg 0 (by omega)
  have k1 := hg 1 (by omega)
  rw [cells3] at k0 k1
  obtain ⟨l⟩ := cs
  match l, hsz, xs, hn with
  | [c0, c1], _, [x0, x1], _ =>
    obtain ⟨a0, h0, _, _⟩ := DataW.trod_int Tryd.underlying3 (show DataW.trod _ Tryd.prog W base _ held n 3 [c0] = some x0 from k0)
    obtain ⟨a1, h1, _, _⟩ := DataW.trod_int Tryd.underlying3 (show DataW.trod _ Tryd.prog W base _ held n 3 [c1] = some x1 from k1)
    have y0 : c0 = .int .i64 a0 := by simpa using h0
    have y1 : c1 = .int .i64 a1 := by simpa using h1
    subst y0 y1
    exact ⟨_, _, rfl⟩
end Go.Proofs.YtbomhpfckplgaaaDoor.P
