/- The opening of arguments that are the struct Ask (a spot, a ruler, a mode) or the struct Spot. -/
import Derived.Test.YtbomhpfckplgaaaDoorRow0
namespace Go.Proofs.YtbomhpfckplgaaaDoor.P
open Go Go.ChangeShapes Go.WideShapes Go.ChangeAt Go.RowKit Go.Proofs.YtbomhpfckplgaaaDoorW.PrintWords
set_option linter.unusedVariables false
set_option maxRecDepth 100000
theorem cells71 : Tryd.prog.cellsOf 71 = 2 := by kernel_rfl
theorem cells73 : Tryd.prog.cellsOf 73 = 4 := by kernel_rfl
theorem cells28 : Tryd.prog.cellsOf 28 = 1 := by kernel_rfl
theorem cells41 : Tryd.prog.cellsOf 41 = 1 := by kernel_rfl
theorem trod_spot {H : Type} {enc : TypeId × Value → H} {W : World} {base : Nat} {spare : Nat → Bool} {held : Bool} {n : Nat} {c0 c1 : Value} {x : DataW H × List MemPlace} (h : DataW.trod enc Tryd.prog W base spare held n 71 [c0, c1] = some x) : ∃ a b, c0 = .int .i64 a ∧ c1 = .int .i64 b := by
  obtain ⟨xs, m, _, hx, hl, hn, hg⟩ := DataW.trod_struct Tryd.underlying71 h
  have k0 : DataW.trod _ Tryd.prog W base _ held m 3 (([c0, c1].drop 0).take (Tryd.prog.cellsOf 3)) = xs[0]? := hg 0 _ rfl
  have k1 : DataW.trod _ Tryd.prog W base _ held m 3 (([c0, c1].drop 1).take (Tryd.prog.cellsOf 3)) = xs[1]? := hg 1 _ rfl
  rw [cells3] at k0 k1
  match xs, hn with
  | [x0, x1], _ =>
    obtain ⟨a0, h0, _, _⟩ := DataW.trod_int Tryd.underlying3 (show DataW.trod _ Tryd.prog W base _ held m 3 [c0] = some x0 from k0)
    obtain ⟨a1, h1, _, _⟩ := DataW.trod_int Tryd.underlying3 (show DataW.trod _ Tryd.prog W base _ held m 3 [c1] = some x1 from k1)
    exact ⟨a0, a1, by simpa using h0, by simpa using h1⟩
/-- What came in as a struct Ask. -/
theorem in_ask {H : Type} {enc : TypeId × Value → H} {W : World} {r : Reach} {base b0 : Nat} {spare : Nat → Bool} {held : Bool} {v : Value} {d : DataW H} {ps : List MemPlace} (hv : Value.okWide Tryd.prog W r b0 73 v) (h : DataW.Trod enc Tryd.prog W base spare held 73 v d ps) :
    ∃ a b c e, v = .agg #[.int .i64 a, .int .i64 b, .int .i64 c, .int .i64 e] := by
  obtain ⟨cs, rfl, hsz⟩ := okWide_struct Tryd.underlying73 hv
  obtain ⟨fuel, hf⟩ := h
  obtain ⟨xs, n, _, hx, hl, hn, hg⟩ := DataW.trod_struct Tryd.underlying73 hf
  rw [cells73] at hsz
  have k0 : DataW.trod _ Tryd.prog W base _ held n 71 (((Value.agg cs).cells.toList.drop 0).take (Tryd.prog.cellsOf 71)) = xs[0]? := hg 0 _ rfl
  have k1 : DataW.trod _ Tryd.prog W base _ held n 28 (((Value.agg cs).cells.toList.drop 2).take (Tryd.prog.cellsOf 28)) = xs[1]? := hg 1 _ rfl
  have k2 : DataW.trod _ Tryd.prog W base _ held n 41 (((Value.agg cs).cells.toList.drop 3).take (Tryd.prog.cellsOf 41)) = xs[2]? := hg 2 _ rfl
  rw [cells71] at k0
  rw [cells28] at k1
  rw [cells41] at k2
  obtain ⟨l⟩ := cs
  match l, hsz, xs, hn with
  | [c0, c1, c2, c3], _, [x0, x1, x2], _ =>
    obtain ⟨a, b, rfl, rfl⟩ := trod_spot (show DataW.trod _ Tryd.prog W base _ held n 71 [c0, c1] = some x0 from k0)
    obtain ⟨a1, h1, _, _⟩ := DataW.trod_int Tryd.underlying28 (show DataW.trod _ Tryd.prog W base _ held n 28 [c2] = some x1 from k1)
    obtain ⟨a2, h2, _, _⟩ := DataW.trod_int Tryd.underlying41 (show DataW.trod _ Tryd.prog W base _ held n 41 [c3] = some x2 from k2)
    have y1 : c2 = .int .i64 a1 := by simpa using h1
    have y2 : c3 = .int .i64 a2 := by simpa using h2
    subst y1 y2
    exact ⟨_, _, _, _, rfl⟩
/-- What came in as a struct Spot. -/
theorem in_spot {H : Type} {enc : TypeId × Value → H} {W : World} {r : Reach} {base b0 : Nat} {spare : Nat → Bool} {held : Bool} {v : Value} {d : DataW H} {ps : List MemPlace} (hv : Value.okWide Tryd.prog W r b0 71 v) (h : DataW.Trod enc Tryd.prog W base spare held 71 v d ps) :
    ∃ a b, v = .agg #[.int .i64 a, .int .i64 b] := by
  obtain ⟨cs, rfl, hsz⟩ := okWide_struct Tryd.underlying71 hv
  obtain ⟨fuel, hf⟩ := h
  rw [cells71] at hsz
  obtain ⟨l⟩ := cs
  match l, hsz with
  | [c0, c1], _ =>
    obtain ⟨a, b, rfl, rfl⟩ := trod_spot hf
    exact ⟨_, _, rfl⟩
end Go.Proofs.YtbomhpfckplgaaaDoor.P
