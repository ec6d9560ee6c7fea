/- Texts of this claim, put together: Row0, Row1, Row3, Row4, H, Px5, Px18, HAll, Px56. -/
import Derived.Test.YtbomhpfckplgaaaDoorCards
import Derived.Test.YtbomhpfckplgaaaDoorTie
import Derived.WalkKit
import Derived.ProofKit
import Derived.OpenShut
import Derived.ShutString
import Derived.ChangeOld
import Derived.Below
import Derived.SizedLaws
import Derived.Deep.DeepHandedRow
import Derived.Lib.LaidTab
import Derived.JoinedOf
import Derived.JoinedCond
import Derived.SevenTiedAt
import Derived.Deep.Slices
import Derived.WalkLawsBesides
import Derived.WalkSpells
import Derived.Laws.RangeAny
import Derived.Laws.RangeString
import Derived.LoopN
import Derived.RangeFuncNested
import Derived.RangeFuncBound
import Derived.RangeFuncCalls
import Derived.RangeFuncLeaves
import Derived.Shelf.Abstract
import Derived.OwnWalkIn
import Derived.TacticsInMore
import Derived.LoopNIn
import Derived.LoopIn
import Derived.Lib.OthersKept
import Derived.LoopTactic
import Derived.Deep.RegionWith
import Derived.Test.YtbomhpfckplgaaaDoorT0
namespace Go.Proofs.YtbomhpfckplgaaaDoor.P
open Go Go.ChangeShapes Go.WideShapes Go.ChangeAt Go.RowKit Go.Proofs.YtbomhpfckplgaaaDoorW.PrintWords
set_option linter.unusedVariables false
theorem own : ownKnob Tryd.prog.godebug = none := by kernel_rfl
theorem laidOut : laidOutB Tryd.prog = true := by kernel_rfl
theorem gBad : Tryd.prog.globalNamed "galley/step.bad" = some 0 := by kernel_rfl
theorem gBadType : (Tryd.prog.globals[0]?).map (·.type) = some 121 := by kernel_rfl
theorem cells121 : Tryd.prog.cellsOf 121 = 3 := by kernel_rfl
theorem cells21 : Tryd.prog.cellsOf 21 = 1 := by kernel_rfl
theorem cells3 : Tryd.prog.cellsOf 3 = 1 := by kernel_rfl
theorem cells4 : Tryd.prog.cellsOf 4 = 1 := by kernel_rfl
abbrev badRow : List (String × DataW Unit) := [("galley/step.bad", Rows.laid_galley_step_bad)]
set_option maxRecDepth 100000 in
theorem Laid.of_row {W : World} (h : laidMetH Tryd.prog badRow W) : Laid W := by
  rw [MakeChecks.laidMetH_plain _ _ _ (by kernel_rfl)] at h
  obtain ⟨ps, ⟨g0, t0, cs0, f0, p0, q0, hg0, ht0, hv0, hd0, _, _⟩, _, _⟩ := h
  obtain rfl := Option.some.inj (gBad.symm.trans hg0)
  obtain rfl := Option.some.inj (gBadType.symm.trans ht0)
  obtain ⟨xs, n, _, hx, hl, hn, hf⟩ := DataW.trod_struct Tryd.underlying121 hd0
  simp only [Prod.mk.injEq, Rows.laid_galley_step_bad, DataW.agg.injEq] at hx
  rw [cells121] at hl
  have k0 : DataW.trod _ Tryd.prog W 0 _ false n 21 ((cs0.toList.drop 0).take (Tryd.prog.cellsOf 21)) = xs[0]? := hf 0 _ rfl
  have k1 : DataW.trod _ Tryd.prog W 0 _ false n 3 ((cs0.toList.drop 1).take (Tryd.prog.cellsOf 3)) = xs[1]? := hf 1 _ rfl
  have k2 : DataW.trod _ Tryd.prog W 0 _ false n 4 ((cs0.toList.drop 2).take (Tryd.prog.cellsOf 4)) = xs[2]? := hf 2 _ rfl
  rw [cells21] at k0
  rw [cells3] at k1
  rw [cells4] at k2
  match xs, hn, hx with
  | [x0, x1, x2], _, hx =>
    obtain ⟨l⟩ := cs0
    match l, hl with
    | [c0, c1, c2], _ =>
      simp only [List.map_cons, List.map_nil, List.cons.injEq, and_true] at hx
      obtain ⟨⟨e0, e1, e2⟩, _⟩ := hx
      obtain ⟨a0, b0, d0, _⟩ := DataW.trod_int Tryd.underlying21 (show DataW.trod _ Tryd.prog W 0 _ false n 21 [c0] = some x0 from k0)
      obtain ⟨a1, b1, d1, _⟩ := DataW.trod_int Tryd.underlying3 (show DataW.trod _ Tryd.prog W 0 _ false n 3 [c1] = some x1 from k1)
      obtain ⟨a2, b2, d2⟩ := DataW.trod_bool Tryd.underlying4 (show DataW.trod _ Tryd.prog W 0 _ false n 4 [c2] = some x2 from k2)
      rw [d0] at e0
      rw [d1] at e1
      rw [d2] at e2
      have z0 : a0 = 65533 := by simpa using e0.symm
      have z1 : a1 = 1 := by simpa using e1.symm
      have z2 : a2 = false := by simpa using e2.symm
      have y0 : c0 = .int .i32 a0 := by simpa using b0
      have y1 : c1 = .int .i64 a1 := by simpa using b1
      have y2 : c2 = .bool a2 := by simpa using b2
      subst z0 z1 z2 y0 y1 y2
      exact ⟨World.var?_cell hg0 hv0 0, World.var?_cell hg0 hv0 1, World.var?_cell hg0 hv0 2⟩
noncomputable def laidWorld (os : Os) (args : Array Value) : World :=
  { World.holding Tryd.prog os ⟨#[], #[], []⟩ with heap := (World.holding Tryd.prog os ⟨#[], #[], []⟩).heap.modify 0 fun
      | .cells _ t frozen => .cells #[.int .i32 65533, .int .i64 1, .bool false] t frozen
      | o => o }
theorem laid_met (os : Os) (args : Array Value) : laidMet Tryd.prog badRow ((laidWorld os args).forCall (fun _ _ => 0) ⟨#[], args, []⟩).memory :=
  laidMet_of_run' 8 (by kernel_rfl) (by kernel_rfl)
theorem one_le {H : Type} (d : DataW H) : 1 ≤ Rows.uptoBulk d := by
  cases d with
  | lit l => cases l <;> simp [Rows.uptoBulk]
  | nil => simp [Rows.uptoBulk]
  | ptr d => simp [Rows.uptoBulk]
  | slice elems spare => simp [Rows.uptoBulk]
  | agg parts => simp [Rows.uptoBulk]
  | iface t d => simp [Rows.uptoBulk]
  | map entries => simp [Rows.uptoBulk]
  | held h => simp [Rows.uptoBulk]
theorem length_bulk {H : Type} (l : List (DataW H)) : l.length ≤ Rows.uptoBulkAll l := by
  induction l with
  | nil => simp [Rows.uptoBulkAll]
  | cons x r ih => have := one_le x; simp only [Rows.uptoBulkAll, List.length_cons]; omega
structure InBytes {H : Type} (W : World) (v : Value) (d : DataW H) (A : Option Addr) (c : Nat) (l : List Int) : Prop where
  val : v = .slice A l.length c
  reads : Kd.C (Kd.int .u8) W A l.length l
  cap : l.length ≤ c
  bytes : Bytes l
  bulk : l.length ≤ Rows.uptoBulk d
theorem in_bytes {H : Type} {enc : TypeId × Value → H} {W : World} {base : Nat} {spare : Nat → Bool} {held : Bool} {v : Value} {d : DataW H} {ps : List MemPlace} (hv : ∃ a l c, v = .slice a l c) (h : DataW.Trod enc Tryd.prog W base spare held 22 v d ps) :
    ∃ A c l, InBytes W v d A c l := by
  obtain ⟨a, len, cap, rfl⟩ := hv
  obtain ⟨fuel, hf⟩ := h
  rcases open_ints Tryd.underlying22 Tryd.underlying5 (by kernel_rfl) hf with ⟨hcs, hx⟩ | ⟨x, l, c, zs, hcs, _, hl, hm, hz, hx, hcell, hwz⟩
  · simp [Value.cells] at hcs
    obtain ⟨rfl, rfl, rfl⟩ := hcs
    exact ⟨none, 0, [], ⟨rfl, ⟨rfl, by decide, fun h => absurd h (by decide)⟩, Nat.le_refl _, (fun x h => absurd h (by simp)), Nat.zero_le _⟩⟩
  · simp [Value.cells] at hcs
    obtain ⟨rfl, rfl, rfl⟩ := hcs
    have hlz : len ≤ zs.length := by rw [hz]; split <;> omega
    have hlen : (zs.take len).length = len := by simp; omega
    have hd : d = .slice (lits .u8 (zs.take len)) (lits .u8 (zs.drop len)) := by
      have := congrArg Prod.fst hx
      exact this
    refine ⟨some x, cap, zs.take len, ⟨by rw [hlen], ⟨rfl, by rw [hlen]; unfold maxLen at hm; omega, fun _ => ⟨x, rfl, fun j p hj => ⟨[.int .u8 p], rfl, rfl, fun i u hu => ?_⟩⟩⟩, by rw [hlen]; exact hl, ?_, ?_⟩⟩
    · obtain ⟨rfl, rfl⟩ : i = 0 ∧ Value.int .u8 p = u := by
        cases i with
        | zero => exact ⟨rfl, by simpa using hu⟩
        | succ i => simp at hu
      obtain ⟨hj1, hj2⟩ := List.getElem?_eq_some_iff.1 hj
      have hjl : j < zs.length := by simp at hj1; omega
      have hc := hcell j hjl
      have e : zs.getD j 0 = p := by
        rw [List.getD_eq_getElem?_getD, List.getElem?_eq_getElem hjl]
        simp only [List.getElem_take] at hj2
        exact hj2
      rw [e] at hc
      have e2 : j * (Kd.int .u8).sz + 0 = j := Nat.mul_one j
      rw [e2]
      exact hc
    · intro y hy
      have := hwz y (List.mem_of_mem_take hy)
      simp [Lit.wf, IntKind.min, IntKind.max, IntKind.signed, IntKind.bits] at this
      omega
    · rw [hd]
      simp only [Rows.uptoBulk]
      have h1 := length_bulk (lits (H := H) .u8 (zs.take len))
      have h2 : (lits (H := H) .u8 (zs.take len)).length = (zs.take len).length := by simp [lits]
      omega
end Go.Proofs.YtbomhpfckplgaaaDoor.P
namespace Go.Proofs.YtbomhpfckplgaaaDoor.P
open Go
set_option linter.unusedVariables false
set_option linter.unusedSimpArgs false
def orderNums : List Nat := [104, 97, 114, 110, 101, 115, 115, 32, 51, 57, 50, 102, 51, 102, 97, 48, 100, 101, 48, 55, 99, 97, 101, 52, 99, 50, 55, 101, 97, 98, 50, 57, 97, 56, 98, 56, 99, 100, 56, 102, 97, 53, 97, 99, 53, 100, 54, 54, 57, 102, 53, 48, 56, 101, 50, 98, 98, 99, 97, 54, 50, 54, 50, 55, 49, 50, 49, 53, 98, 97, 102, 100, 32, 99, 117, 116, 32, 97, 116, 32, 103, 97, 108, 108, 101, 121, 47, 103, 97, 108, 108, 101, 121, 108, 97, 119, 48, 54, 46, 82, 117, 108, 101, 83, 105, 122, 101, 115, 32, 103, 97, 108, 108, 101, 121, 47, 103, 97, 108, 108, 101, 121, 108, 97, 119, 48, 54, 46, 82, 117, 108, 101, 84, 111, 32, 103, 97, 108, 108, 101, 121, 47, 103, 97, 108, 108, 101, 121, 108, 97, 119, 48, 54, 46, 82, 117, 108, 101, 67, 117, 116, 115, 32, 103, 97, 108, 108, 101, 121, 47, 103, 97, 108, 108, 101, 121, 108, 97, 119, 48, 54, 46, 82, 117, 108, 101, 66, 97, 99, 107, 32, 103, 97, 108, 108, 101, 121, 47, 103, 97, 108, 108, 101, 121, 108, 97, 119, 49, 57, 46, 68, 105, 102, 102, 79, 119, 110, 32, 103, 97, 108, 108, 101, 121, 47, 103, 97, 108, 108, 101, 121, 108, 97, 119, 48, 54, 46, 82, 117, 108, 101, 82, 105, 115, 101, 115, 32, 103, 97, 108, 108, 101, 121, 47, 103, 97, 108, 108, 101, 121, 108, 97, 119, 48, 54, 46, 82, 117, 108, 101, 65, 100, 100, 115, 32, 103, 97, 108, 108, 101, 121, 47, 103, 97, 108, 108, 101, 121, 108, 97, 119, 49, 57, 46, 68, 105, 102, 102, 78, 111, 76, 101, 115, 115, 32, 103, 97, 108, 108, 101, 121, 47, 103, 97, 108, 108, 101, 121, 108, 97, 119, 48, 54, 46, 82, 117, 108, 101, 79, 119, 110, 32, 103, 97, 108, 108, 101, 121, 47, 103, 97, 108, 108, 101, 121, 108, 97, 119, 48, 54, 46, 82, 117, 108, 101, 84, 97, 98, 108, 101, 115, 32, 103, 97, 108, 108, 101, 121, 47, 103, 97, 108, 108, 101, 121, 108, 97, 119, 48, 55, 46, 76, 105, 110, 101, 115, 65, 116, 32, 103, 97, 108, 108, 101, 121, 47, 103, 97, 108, 108, 101, 121, 108, 97, 119, 48, 55, 46, 76, 105, 110, 101, 115, 67, 111, 108, 117, 109, 110, 115, 32, 103, 97, 108, 108, 101, 121, 47, 103, 97, 108, 108, 101, 121, 108, 97, 119, 48, 55, 46, 76, 105, 110, 101, 115, 82, 111, 119, 115, 32, 103, 97, 108, 108, 101, 121, 47, 103, 97, 108, 108, 101, 121, 108, 97, 119, 48, 55, 46, 76, 105, 110, 101, 115, 80, 97, 114, 116, 115, 32, 103, 97, 108, 108, 101, 121, 47, 103, 97, 108, 108, 101, 121, 108, 97, 119, 48, 55, 46, 76, 105, 110, 101, 115, 77, 111, 100, 101, 115, 32, 103, 97, 108, 108, 101, 121, 47, 103, 97, 108, 108, 101, 121, 108, 97, 119, 48, 55, 46, 76, 105, 110, 101, 115, 87, 104, 101, 114, 101, 32, 103, 97, 108, 108, 101, 121, 47, 103, 97, 108, 108, 101, 121, 108, 97, 119, 48, 55, 46, 76, 105, 110, 101, 115, 66, 97, 99, 107, 32, 103, 97, 108, 108, 101, 121, 47, 103, 97, 108, 108, 101, 121, 108, 97, 119, 48, 55, 46, 76, 105, 110, 101, 115, 79, 119, 110, 32, 103, 97, 108, 108, 101, 121, 47, 103, 97, 108, 108, 101, 121, 108, 97, 119, 49, 57, 46, 68, 105, 102, 102, 68, 105, 115, 116, 97, 110, 99, 101, 32, 103, 97, 108, 108, 101, 121, 47, 103, 97, 108, 108, 101, 121, 108, 97, 119, 49, 57, 46, 68, 105, 102, 102, 71, 114, 101, 97, 116, 32, 103, 97, 108, 108, 101, 121, 47, 103, 97, 108, 108, 101, 121, 108, 97, 119, 49, 57, 46, 68, 105, 102, 102, 76, 101, 97, 115, 116, 32, 103, 97, 108, 108, 101, 121, 47, 103, 97, 108, 108, 101, 121, 108, 97, 119, 49, 57, 46, 68, 105, 102, 102, 76, 105, 110, 101, 115, 32, 103, 97, 108, 108, 101, 121, 47, 103, 97, 108, 108, 101, 121, 108, 97, 119, 49, 57, 46, 68, 105, 102, 102, 67, 111, 115, 116, 115, 32, 103, 97, 108, 108, 101, 121, 47, 103, 97, 108, 108, 101, 121, 108, 97, 119, 49, 57, 46, 68, 105, 102, 102, 77, 101, 116, 114, 105, 99]
def orderWs : List (List Nat) := [[99, 117, 116], [97, 116], [103, 97, 108, 108, 101, 121, 47, 103, 97, 108, 108, 101, 121, 108, 97, 119, 48, 54, 46, 82, 117, 108, 101, 83, 105, 122, 101, 115], [103, 97, 108, 108, 101, 121, 47, 103, 97, 108, 108, 101, 121, 108, 97, 119, 48, 54, 46, 82, 117, 108, 101, 84, 111], [103, 97, 108, 108, 101, 121, 47, 103, 97, 108, 108, 101, 121, 108, 97, 119, 48, 54, 46, 82, 117, 108, 101, 67, 117, 116, 115], [103, 97, 108, 108, 101, 121, 47, 103, 97, 108, 108, 101, 121, 108, 97, 119, 48, 54, 46, 82, 117, 108, 101, 66, 97, 99, 107], [103, 97, 108, 108, 101, 121, 47, 103, 97, 108, 108, 101, 121, 108, 97, 119, 49, 57, 46, 68, 105, 102, 102, 79, 119, 110], [103, 97, 108, 108, 101, 121, 47, 103, 97, 108, 108, 101, 121, 108, 97, 119, 48, 54, 46, 82, 117, 108, 101, 82, 105, 115, 101, 115], [103, 97, 108, 108, 101, 121, 47, 103, 97, 108, 108, 101, 121, 108, 97, 119, 48, 54, 46, 82, 117, 108, 101, 65, 100, 100, 115], [103, 97, 108, 108, 101, 121, 47, 103, 97, 108, 108, 101, 121, 108, 97, 119, 49, 57, 46, 68, 105, 102, 102, 78, 111, 76, 101, 115, 115], [103, 97, 108, 108, 101, 121, 47, 103, 97, 108, 108, 101, 121, 108, 97, 119, 48, 54, 46, 82, 117, 108, 101, 79, 119, 110], [103, 97, 108, 108, 101, 121, 47, 103, 97, 108, 108, 101, 121, 108, 97, 119, 48, 54, 46, 82, 117, 108, 101, 84, 97, 98, 108, 101, 115], [103, 97, 108, 108, 101, 121, 47, 103, 97, 108, 108, 101, 121, 108, 97, 119, 48, 55, 46, 76, 105, 110, 101, 115, 65, 116], [103, 97, 108, 108, 101, 121, 47, 103, 97, 108, 108, 101, 121, 108, 97, 119, 48, 55, 46, 76, 105, 110, 101, 115, 67, 111, 108, 117, 109, 110, 115], [103, 97, 108, 108, 101, 121, 47, 103, 97, 108, 108, 101, 121, 108, 97, 119, 48, 55, 46, 76, 105, 110, 101, 115, 82, 111, 119, 115], [103, 97, 108, 108, 101, 121, 47, 103, 97, 108, 108, 101, 121, 108, 97, 119, 48, 55, 46, 76, 105, 110, 101, 115, 80, 97, 114, 116, 115], [103, 97, 108, 108, 101, 121, 47, 103, 97, 108, 108, 101, 121, 108, 97, 119, 48, 55, 46, 76, 105, 110, 101, 115, 77, 111, 100, 101, 115], [103, 97, 108, 108, 101, 121, 47, 103, 97, 108, 108, 101, 121, 108, 97, 119, 48, 55, 46, 76, 105, 110, 101, 115, 87, 104, 101, 114, 101], [103, 97, 108, 108, 101, 121, 47, 103, 97, 108, 108, 101, 121, 108, 97, 119, 48, 55, 46, 76, 105, 110, 101, 115, 66, 97, 99, 107], [103, 97, 108, 108, 101, 121, 47, 103, 97, 108, 108, 101, 121, 108, 97, 119, 48, 55, 46, 76, 105, 110, 101, 115, 79, 119, 110], [103, 97, 108, 108, 101, 121, 47, 103, 97, 108, 108, 101, 121, 108, 97, 119, 49, 57, 46, 68, 105, 102, 102, 68, 105, 115, 116, 97, 110, 99, 101], [103, 97, 108, 108, 101, 121, 47, 103, 97, 108, 108, 101, 121, 108, 97, 119, 49, 57, 46, 68, 105, 102, 102, 71, 114, 101, 97, 116], [103, 97, 108, 108, 101, 121, 47, 103, 97, 108, 108, 101, 121, 108, 97, 119, 49, 57, 46, 68, 105, 102, 102, 76, 101, 97, 115, 116], [103, 97, 108, 108, 101, 121, 47, 103, 97, 108, 108, 101, 121, 108, 97, 119, 49, 57, 46, 68, 105, 102, 102, 76, 105, 110, 101, 115], [103, 97, 108, 108, 101, 121, 47, 103, 97, 108, 108, 101, 121, 108, 97, 119, 49, 57, 46, 68, 105, 102, 102, 67, 111, 115, 116, 115], [103, 97, 108, 108, 101, 121, 47, 103, 97, 108, 108, 101, 121, 108, 97, 119, 49, 57, 46, 68, 105, 102, 102, 77, 101, 116, 114, 105, 99]]
set_option maxRecDepth 100000
theorem orderChars : Tryd.prog.initOrder.toList = orderNums.map Char.ofNat := by
  have e : Tryd.prog.initOrder = String.ofList (orderNums.map Char.ofNat) := by kernel_rfl
  rw [e]
  exact String.toList_ofList
theorem orderWords : behindMainWord (wordsSigns Tryd.prog.initOrder.toList) = orderWs.map (·.map Char.ofNat) := by
  rw [orderChars]
  kernel_rfl
theorem headLifts_eq : Tryd.prog.headLifts = [] := by
  unfold Program.headLifts
  rw [orderWords]
  kernel_rfl
theorem make_of {P : Program} {r : List (List Char)} (h : behindMainWord (wordsSigns P.initOrder.toList) = [99, 117, 116].map Char.ofNat :: r) : P.make = some Make.cut := by
  unfold Program.make
  rw [h]
  have e1 : (([99, 117, 116].map Char.ofNat) == "gc".toList || ([99, 117, 116].map Char.ofNat) == "spec".toList) = false := by decide
  have e2 : (([99, 117, 116].map Char.ofNat) == "cut".toList) = true := by decide
  dsimp only
  rw [e1, e2, Bool.true_or]
  rfl
theorem mayEnter_of {P : Program} {r : List (List Char)} (h : behindMainWord (wordsSigns P.initOrder.toList) = [99, 117, 116].map Char.ofNat :: r) (h1 : P.laysLater = false) (h2 : P.bearsReflect = false) (h3 : P.doorFits [] = true) : P.mayEnter = true := by
  have hs : stripLifts liftWords ([99, 117, 116].map Char.ofNat :: r) = ([], [99, 117, 116].map Char.ofNat :: r) := by
    unfold liftWords
    simp only [stripLifts]
    repeat (rw [if_neg (by decide)])
  unfold Program.mayEnter
  rw [h]
  simp only [hs, h1, h2, h3]
  have e : ((([99, 117, 116].map Char.ofNat :: r).head?) == some "cut".toList) = true := by
    show (some ([99, 117, 116].map Char.ofNat) == some "cut".toList) = true
    decide
  rw [e]
  simp
theorem words_cons : behindMainWord (wordsSigns Tryd.prog.initOrder.toList) = [99, 117, 116].map Char.ofNat :: (orderWs.tail.map (·.map Char.ofNat)) := orderWords
theorem make_eq : Tryd.prog.make = some Make.cut := make_of words_cons
theorem mayEnter_eq : Tryd.prog.mayEnter = true := mayEnter_of words_cons (by kernel_rfl) (by kernel_rfl) (by kernel_rfl)
theorem liftsFinal_eq : Tryd.prog.liftsFinal = false := by
  unfold Program.liftsFinal
  rw [orderWords, headLifts_eq]
  kernel_rfl
def headWs : List (List Nat) := [[104, 97, 114, 110, 101, 115, 115], [51, 57, 50, 102, 51, 102, 97, 48, 100, 101, 48, 55, 99, 97, 101, 52, 99, 50, 55, 101, 97, 98, 50, 57, 97, 56, 98, 56, 99, 100, 56, 102, 97, 53, 97, 99, 53, 100, 54, 54, 57, 102, 53, 48, 56, 101, 50, 98, 98, 99, 97, 54, 50, 54, 50, 55, 49, 50, 49, 53, 98, 97, 102, 100]]
theorem allWords : wordsSigns Tryd.prog.initOrder.toList = (headWs.getD 0 []).map Char.ofNat :: (headWs.getD 1 []).map Char.ofNat :: orderWs.map (·.map Char.ofNat) := by
  rw [orderChars]
  kernel_rfl
theorem mainIs_of {P : Program} {h s : List Char} {r : List (List Char)} (hw : wordsSigns P.initOrder.toList = h :: s :: r) (h1 : isSumSigns s = true) (h2 : (h == "harness".toList) = true) : P.mainIs = some (true, s) := by
  unfold Program.mainIs
  rw [hw]
  simp only [h1, h2]
  rfl
theorem sumChars : "392f3fa0de07cae4c27eab29a8b8cd8fa5ac5d669f508e2bbca626271215bafd".toList = (headWs.getD 1 []).map Char.ofNat := by
  have e : "392f3fa0de07cae4c27eab29a8b8cd8fa5ac5d669f508e2bbca626271215bafd" = String.ofList ((headWs.getD 1 []).map Char.ofNat) := by kernel_rfl
  rw [e]
  exact String.toList_ofList
theorem mainIs_eq : Tryd.pinned.checked.prog.mainIs = some (true, "392f3fa0de07cae4c27eab29a8b8cd8fa5ac5d669f508e2bbca626271215bafd".toList) := by
  rw [sumChars]
  exact (mainIs_of allWords (by kernel_rfl) (by kernel_rfl) : Tryd.prog.mainIs = _)
end Go.Proofs.YtbomhpfckplgaaaDoor.P
namespace Go.Proofs.YtbomhpfckplgaaaDoor.P
open Go Go.ChangeShapes Go.WideShapes Go.ChangeAt Go.RowKit Go.Proofs.YtbomhpfckplgaaaDoorW.PrintWords
set_option linter.unusedVariables false
set_option maxRecDepth 100000
theorem cells71 : Tryd.prog.cellsOf 71 = 2 := by kernel_rfl
theorem cells73 : Tryd.prog.cellsOf 73 = 4 := by kernel_rfl
theorem cells28 : Tryd.prog.cellsOf 28 = 1 := by kernel_rfl
theorem cells41 : Tryd.prog.cellsOf 41 = 1 := by kernel_rfl
theorem trod_spot {H : Type} {enc : TypeId × Value → H} {W : World} {base : Nat} {spare : Nat → Bool} {held : Bool} {n : Nat} {c0 c1 : Value} {x : DataW H × List MemPlace} (h : DataW.trod enc Tryd.prog W base spare held n 71 [c0, c1] = some x) : ∃ a b, c0 = .int .i64 a ∧ c1 = .int .i64 b := by
  obtain ⟨xs, m, _, hx, hl, hn, hg⟩ := DataW.trod_struct Tryd.underlying71 h
  have k0 : DataW.trod _ Tryd.prog W base _ held m 3 (([c0, c1].drop 0).take (Tryd.prog.cellsOf 3)) = xs[0]? := hg 0 _ rfl
  have k1 : DataW.trod _ Tryd.prog W base _ held m 3 (([c0, c1].drop 1).take (Tryd.prog.cellsOf 3)) = xs[1]? := hg 1 _ rfl
  rw [cells3] at k0 k1
  match xs, hn with
  | [x0, x1], _ =>
    obtain ⟨a0, h0, _, _⟩ := DataW.trod_int Tryd.underlying3 (show DataW.trod _ Tryd.prog W base _ held m 3 [c0] = some x0 from k0)
    obtain ⟨a1, h1, _, _⟩ := DataW.trod_int Tryd.underlying3 (show DataW.trod _ Tryd.prog W base _ held m 3 [c1] = some x1 from k1)
    exact ⟨a0, a1, by simpa using h0, by simpa using h1⟩
end Go.Proofs.YtbomhpfckplgaaaDoor.P
namespace Go.Proofs.YtbomhpfckplgaaaDoor.P
open Go Go.ChangeShapes Go.WideShapes Go.ChangeAt Go.RowKit Go.Deep Go.Proofs.YtbomhpfckplgaaaDoorW.PrintWords
set_option linter.unusedVariables false
set_option maxRecDepth 100000
structure InRows {H α : Type} (K : Kd α) (Q : α → DataW H → Prop) (W : World) (v : Value) (d : DataW H) (A : Option Addr) (c : Nat) (l : List α) : Prop where
  val : v = .slice A l.length c
  reads : K.C W A l.length l
  cap : l.length ≤ c
  data : (d = .nil ∧ l = []) ∨ ∃ elems spare, d = .slice elems spare ∧ elems.length = l.length ∧ ∀ i (h : i < l.length) (h' : i < elems.length), Q l[i] elems[i]
theorem in_rows {H α : Type} (K : Kd α) (Q : α → DataW H → Prop) {enc : TypeId × Value → H} {W : World} {base : Nat} {spare : Nat → Bool} {held : Bool} {v : Value} {d : DataW H} {ps : List MemPlace} {t e : TypeId} (ht : Tryd.prog.underlying t = some (.slice e)) (hsz : Tryd.prog.cellsOf e = K.sz)
    (hopen : ∀ fuel cs x, DataW.trod enc Tryd.prog W base spare held fuel e cs = some x → cs.length = K.sz → ∃ p, K.K W p cs ∧ Q p x.1)
    (hv : ∃ a l c, v = .slice a l c) (h : DataW.Trod enc Tryd.prog W base spare held t v d ps) : ∃ A c l, InRows K Q W v d A c l := by
  obtain ⟨a, len, cap, rfl⟩ := hv
  obtain ⟨fuel, hf⟩ := h
  rcases open_slice ht hf with ⟨hcs, hx⟩ | ⟨x, l, c, m, n, D, Pl, hcs, _, hl, hm, hmm, hx, hel⟩
  · simp [Value.cells] at hcs
    obtain ⟨rfl, rfl, rfl⟩ := hcs
    exact ⟨none, 0, [], ⟨rfl, ⟨rfl, by simp, fun h => absurd h (by simp)⟩, Nat.le_refl _, .inl ⟨congrArg Prod.fst hx, rfl⟩⟩⟩
  · simp [Value.cells] at hcs
    obtain ⟨rfl, rfl, rfl⟩ := hcs
    have hlm : len ≤ m := by rw [hmm]; split <;> omega
    have key : ∀ i, i < len → ∃ p : α, Q p (D i) ∧ ∃ cs, cs.length = K.sz ∧ K.K W p cs ∧ ∀ q u, cs[q]? = some u → W.cell? (x.add (i * K.sz + q)) = some u := by
      intro i hi
      obtain ⟨cs, h1, h2⟩ := hel i (by omega)
      obtain ⟨_, hlen, hcell⟩ := World.cells?_some h1
      rw [hsz] at hlen hcell
      obtain ⟨p, hp, hq⟩ := hopen _ _ _ h2 hlen
      refine ⟨p, hq, cs, hlen, hp, fun q u hu => ?_⟩
      have hql : q < K.sz := by rw [← hlen]; exact (List.getElem?_eq_some_iff.1 hu).1
      have := hcell q hql
      rw [hu] at this
      have e : (x.add (i * K.sz)).add q = x.add (i * K.sz + q) := Addr.add_add _ _ _
      rw [e] at this
      exact this
    by_cases h0 : len = 0
    · subst h0
      refine ⟨some x, cap, [], ⟨rfl, ⟨rfl, by simp, fun h => absurd h (by simp)⟩, Nat.zero_le _, .inr ⟨_, _, congrArg Prod.fst hx, by simp, fun i h => by simp at h⟩⟩⟩
    obtain ⟨p0, _⟩ := key 0 (by omega)
    haveI : Inhabited α := ⟨p0⟩
    obtain ⟨X, hX⟩ := choose_lt (α := α) (p := fun i p => Q p (D i) ∧ ∃ cs, cs.length = K.sz ∧ K.K W p cs ∧ ∀ q u, cs[q]? = some u → W.cell? (x.add (i * K.sz + q)) = some u) key
    refine ⟨some x, cap, (List.range len).map X, ⟨by simp, ⟨by simp, ?_, fun _ => ⟨x, rfl, fun j p hj => ?_⟩⟩, by simpa using hl, .inr ⟨_, _, congrArg Prod.fst hx, by simp, fun i h h' => ?_⟩⟩⟩
    · simp
      unfold maxLen at hm
      omega
    · have hj' : j < len ∧ X j = p := by
        rw [List.getElem?_map] at hj
        obtain ⟨i, hi, rfl⟩ := Option.map_eq_some_iff.1 hj
        obtain ⟨h1, h2⟩ := List.getElem?_eq_some_iff.1 hi
        simp at h1 h2
        subst h2
        exact ⟨h1, rfl⟩
      obtain ⟨hj1, rfl⟩ := hj'
      exact (hX j hj1).2
    · simp at h
      simpa using (hX i h).1
theorem in_asks {H : Type} {enc : TypeId × Value → H} {W : World} {base : Nat} {spare : Nat → Bool} {held : Bool} {v : Value} {d : DataW H} {ps : List MemPlace} (hv : ∃ a l c, v = .slice a l c) (h : DataW.Trod enc Tryd.prog W base spare held 69 v d ps) :
    ∃ A c l, InRows k73 (fun _ _ => True) W v d A c l := by
  refine in_rows k73 _ Tryd.underlying69 cells73 (fun fuel cs x hf hlen => ?_) hv h
  obtain ⟨xs, n, _, hx, hl, hn, hg⟩ := DataW.trod_struct Tryd.underlying73 hf
  have k0 : DataW.trod _ Tryd.prog W base _ held n 71 ((cs.drop 0).take (Tryd.prog.cellsOf 71)) = xs[0]? := hg 0 _ rfl
  have k1 : DataW.trod _ Tryd.prog W base _ held n 28 ((cs.drop 2).take (Tryd.prog.cellsOf 28)) = xs[1]? := hg 1 _ rfl
  have k2 : DataW.trod _ Tryd.prog W base _ held n 41 ((cs.drop 3).take (Tryd.prog.cellsOf 41)) = xs[2]? := hg 2 _ rfl
  rw [cells71] at k0
  rw [cells28] at k1
  rw [cells41] at k2
  have hlen' : cs.length = 4 := hlen
  match cs, hlen', xs, hn with
  | [c0, c1, c2, c3], _, [x0, x1, x2], _ =>
    obtain ⟨a, b, rfl, rfl⟩ := trod_spot (show DataW.trod _ Tryd.prog W base _ held n 71 [c0, c1] = some x0 from k0)
    obtain ⟨a1, h1, _, _⟩ := DataW.trod_int Tryd.underlying28 (show DataW.trod _ Tryd.prog W base _ held n 28 [c2] = some x1 from k1)
    obtain ⟨a2, h2, _, _⟩ := DataW.trod_int Tryd.underlying41 (show DataW.trod _ Tryd.prog W base _ held n 41 [c3] = some x2 from k2)
    have y1 : c2 = .int .i64 a1 := by simpa using h1
    have y2 : c3 = .int .i64 a2 := by simpa using h2
    subst y1 y2
    exact ⟨⟨⟨a, b⟩, a1, a2⟩, k73_mk W _, trivial⟩
def OpBulk {H : Type} (p : S102) (d : DataW H) : Prop := p.f2.size + 1 ≤ Rows.uptoBulk d
def textSum (l : List S102) : Nat := (l.map fun x => x.f2.size).sum
theorem rows_bulk {H : Type} : ∀ (l : List S102) (elems : List (DataW H)), elems.length = l.length → (∀ i (h : i < l.length) (h' : i < elems.length), OpBulk l[i] elems[i]) → textSum l + l.length ≤ Rows.uptoBulkAll elems
  | [], [], _, _ => by simp [textSum]
  | x :: l, d :: ds, h, hq => by
    have ih := rows_bulk l ds (by simpa using h) (fun i h1 h2 => hq (i + 1) (by simpa using h1) (by simpa using h2))
    have h0 := hq 0 (by simp) (by simp)
    unfold OpBulk at h0
    simp [textSum, Rows.uptoBulkAll] at ih h0 ⊢
    omega
theorem InRows.bulk {H : Type} {W : World} {v : Value} {d : DataW H} {A : Option Addr} {c : Nat} {l : List S102} (h : InRows k102 OpBulk W v d A c l) : textSum l + l.length ≤ Rows.uptoBulk d := by
  rcases h.data with ⟨rfl, rfl⟩ | ⟨elems, spare, rfl, h1, h2⟩
  · simp [textSum]
  · have := rows_bulk l elems h1 h2
    simp [Rows.uptoBulk]
    omega
theorem InRows.sized {H α : Type} {K : Kd α} {Q : α → DataW H → Prop} {W : World} {v : Value} {d : DataW H} {A : Option Addr} {c : Nat} {l : List α} (h : InRows K Q W v d A c l) {ts : List TypeId} {ds : List (DataW H)} {j : Nat} {t e : TypeId}
    (hsz : (DataW.weightsEach Tryd.prog ts ds).all (· ≤ reachBytes) = true) (ht : ts[j]? = some t) (hd : ds[j]? = some d) (hu : Tryd.prog.underlying t = some (.slice e)) {B : Nat} (hB : Tryd.prog.bytesOf e = B) : l.length * B ≤ 140737488351232 := by
  rcases h.data with ⟨rfl, rfl⟩ | ⟨elems, spare, rfl, h1, h2⟩
  · simp
  · have z := sized_slice hsz ht hd hu
    rw [hB, h1] at z
    exact Nat.le_trans (Nat.mul_le_mul_right _ (by omega)) z
end Go.Proofs.YtbomhpfckplgaaaDoor.P
namespace Go.Proofs.YtbomhpfckplgaaaDoor.P
open Go.RowKit Go.Proofs.YtbomhpfckplgaaaDoorW.PrintWords Go.Proofs.YtbomhpfckplgaaaDoorW.PrintLast
set_option linter.unusedVariables false
set_option maxRecDepth 100000
set_option maxHeartbeats 400000
theorem first_world (w : World) (hG : Laid w) (s : ByteArray) (p : Nat) (W : World) (hW : W = (w.alloc (.cells #[.int .i32 0, .int .i64 0, .bool false] 121)).iter s p) :
    Laid W ∧ W.heap.size = w.heap.size + 2 ∧ W.heap[w.heap.size]? = some (.cells #[.int .i32 0, .int .i64 0, .bool false] 121 (0, 0)) ∧ Below w.heap.size w W := by
  subst hW
  refine ⟨(hG.alloc _).alloc _, ?_, ?_, ?_⟩
  · show (((w.alloc _).alloc _).heap.size) = _
    simp
  · show ((w.alloc _).alloc _).heap[w.heap.size]? = _
    exact blk_alloc (blk_new w _) _
  · exact ((Below.refl _ _).alloc (Nat.le_refl _) _).alloc (by simp) _
theorem first_empty (s : ByteArray) (w : World) (hG : Laid w) (h0 : s.size = 0) :
    Calls Tryd.prog 127 #[.string s] w fun e w' => e = .returned (.agg #[.int .i32 65533, .int .i64 1, .bool false]) ∧ Below w.heap.size w w' := by
  have hp := hG.pos
  have hne := run_next_end (P := Tryd.prog) (w.alloc (.cells #[.int .i32 0, .int .i64 0, .bool false] 121)) s 0 0 (by omega)
  obtain ⟨hL, hz, hc, hB⟩ := first_world w hG s 0 _ rfl
  rw [World.size_alloc] at hne
  clear hG
  go_enter Tryd.func127, Tryd.ntmps127
  go_wp2_with (fail)
  refine wp_loop_rounds 1 ?_
  rw [rounds_succ]
  generalize ((w.alloc (.cells #[.int .i32 0, .int .i64 0, .bool false] 121)).iter s 0) = W at *
  have c0 := hL.c0
  have c1 := hL.c1
  have c2 := hL.c2
  have d0 : W.cell? ⟨w.heap.size, 0, none⟩ = some (.int .i32 0) := (blk_cell hc 0).trans rfl
  have d1 : W.cell? ⟨w.heap.size, 1, none⟩ = some (.int .i64 0) := (blk_cell hc 1).trans rfl
  have d2 : W.cell? ⟨w.heap.size, 2, none⟩ = some (.bool false) := (blk_cell hc 2).trans rfl
  have f0 := blk_frozen hc 0
  have f1 := blk_frozen hc 1
  have f2 := blk_frozen hc 2
  have BK := Aside0.mk hc
  have HB := Aside0.mk hB
  clear hL hc hB
  go_wp2_with (fail)
  refine bodyPost_ret (results_cell_row rfl _ _ w.heap.size 121 #[.int .i32 65533, .int .i64 1, .bool false] (0, 0) _ rfl (by refine blk_put (cs := #[.int .i32 65533, .int .i64 1, .bool false]) ?_ 2 _ rfl; refine blk_put (cs := #[.int .i32 65533, .int .i64 0, .bool false]) ?_ 1 _ rfl; refine blk_put (cs := #[.int .i32 0, .int .i64 0, .bool false]) ?_ 0 _ rfl; exact BK.out) Tryd.underlying121 rfl (by kernel_rfl)) rfl ?_
  exact ⟨rfl, ((HB.out.setCell (by simp) _).setCell (by simp) _).setCell (by simp) _⟩
theorem hasPrefix_short (s : ByteArray) (w : World) (h : s.size < 3) :
    Calls Tryd.prog 139 #[.string s, .string ⟨#[239, 191, 189]⟩] w fun e w' => e = .returned (.bool false) ∧ w = w' := by
  go_enter Tryd.func139, Tryd.ntmps139
  go_wp2
  go_ret
  exact ⟨rfl, rfl⟩
theorem hasPrefix_long (s : ByteArray) (w : World) (h : 3 ≤ s.size) :
    Calls Tryd.prog 139 #[.string s, .string ⟨#[239, 191, 189]⟩] w fun e w' => e = .returned (.bool ((s.extract 0 3).toList == [239, 191, 189])) ∧ w = w' := by
  go_enter Tryd.func139, Tryd.ntmps139
  go_wp2
  go_ret
  exact ⟨rfl, rfl⟩
theorem first_other (s : ByteArray) (w : World) (hG : Laid w) (h0 : 0 < s.size) (c : Nat) (wd : Nat) (hd : Utf8.decode s 0 = (c, wd)) (hc6 : ((c : Int) == 65533) = false) :
    Calls Tryd.prog 127 #[.string s] w fun e w' => e = .returned (.agg #[.int .i32 c, .int .i64 (Utf8.encode c).size, .bool true]) ∧ Below w.heap.size w w' := by
  have hp := hG.pos
  have hn := run_next_any (P := Tryd.prog) (w.alloc (.cells #[.int .i32 0, .int .i64 0, .bool false] 121)) s 0 0 h0
  rw [hd] at hn
  obtain ⟨hL, hz, hc, hB⟩ := first_world w hG s (0 + wd) _ rfl
  rw [World.size_alloc] at hn
  clear hG hd
  go_enter Tryd.func127, Tryd.ntmps127
  go_wp2_with (fail)
  refine wp_loop_rounds 1 ?_
  rw [rounds_succ]
  generalize ((w.alloc (.cells #[.int .i32 0, .int .i64 0, .bool false] 121)).iter s 0) = W0 at *
  generalize ((w.alloc (.cells #[.int .i32 0, .int .i64 0, .bool false] 121)).iter s (0 + wd)) = W at *
  have c0 := hL.c0
  have c1 := hL.c1
  have c2 := hL.c2
  have d0 : W.cell? ⟨w.heap.size, 0, none⟩ = some (.int .i32 0) := (blk_cell hc 0).trans rfl
  have d1 : W.cell? ⟨w.heap.size, 1, none⟩ = some (.int .i64 0) := (blk_cell hc 1).trans rfl
  have d2 : W.cell? ⟨w.heap.size, 2, none⟩ = some (.bool false) := (blk_cell hc 2).trans rfl
  have f0 := blk_frozen hc 0
  have f1 := blk_frozen hc 1
  have f2 := blk_frozen hc 2
  have BK := Aside0.mk hc
  have HB := Aside0.mk hB
  clear hL hc hB
  go_wp2_with (fail)
  refine bodyPost_ret (results_cell_row rfl _ _ w.heap.size 121 #[.int .i32 (c : Int), .int .i64 ((Utf8.encode c).size : Int), .bool true] (0, 0) _ rfl (by refine blk_put (cs := #[.int .i32 (c : Int), .int .i64 ((Utf8.encode c).size : Int), .bool false]) ?_ 2 _ rfl; refine blk_put (cs := #[.int .i32 (c : Int), .int .i64 0, .bool false]) ?_ 1 _ rfl; refine blk_put (cs := #[.int .i32 0, .int .i64 0, .bool false]) ?_ 0 _ rfl; exact BK.out) Tryd.underlying121 rfl (by kernel_rfl)) rfl ?_
  exact ⟨rfl, ((HB.out.setCell (by simp) _).setCell (by simp) _).setCell (by simp) _⟩
theorem first_bad (s : ByteArray) (w : World) (hG : Laid w) (h0 : 0 < s.size) (wd : Nat) (hd : Utf8.decode s 0 = (65533, wd)) (hs : (3 ≤ s.size ∧ ((s.extract 0 3).toList == [239, 191, 189]) = false) ∨ s.size < 3) :
    Calls Tryd.prog 127 #[.string s] w fun e w' => e = .returned (.agg #[.int .i32 65533, .int .i64 1, .bool false]) ∧ Below w.heap.size w w' := by
  have hp := hG.pos
  have hn := run_next_any (P := Tryd.prog) (w.alloc (.cells #[.int .i32 0, .int .i64 0, .bool false] 121)) s 0 0 h0
  rw [hd] at hn
  obtain ⟨hL, hz, hc, hB⟩ := first_world w hG s (0 + wd) _ rfl
  rw [World.size_alloc] at hn
  clear hG hd
  go_enter Tryd.func127, Tryd.ntmps127
  go_wp2_with (fail)
  refine wp_loop_rounds 1 ?_
  rw [rounds_succ]
  generalize ((w.alloc (.cells #[.int .i32 0, .int .i64 0, .bool false] 121)).iter s 0) = W0 at *
  generalize ((w.alloc (.cells #[.int .i32 0, .int .i64 0, .bool false] 121)).iter s (0 + wd)) = W at *
  have c0 := hL.c0
  have c1 := hL.c1
  have c2 := hL.c2
  have d0 : W.cell? ⟨w.heap.size, 0, none⟩ = some (.int .i32 0) := (blk_cell hc 0).trans rfl
  have d1 : W.cell? ⟨w.heap.size, 1, none⟩ = some (.int .i64 0) := (blk_cell hc 1).trans rfl
  have d2 : W.cell? ⟨w.heap.size, 2, none⟩ = some (.bool false) := (blk_cell hc 2).trans rfl
  have f0 := blk_frozen hc 0
  have f1 := blk_frozen hc 1
  have f2 := blk_frozen hc 2
  have BK := Aside0.mk hc
  have HB := Aside0.mk hB
  clear hL hc hB
  have hpx : Calls Tryd.prog 139 #[.string s, .string ⟨#[239, 191, 189]⟩] W fun e w' => e = .returned (.bool false) ∧ W = w' := by
    rcases hs with ⟨h3, h4⟩ | h3
    · rw [← h4]; exact hasPrefix_long s W h3
    · exact hasPrefix_short s W h3
  have HP := Aside0.mk hpx
  clear hpx hs
  go_wp2_with (go_at_call 139; refine HP.out.mono ?_; rintro e w' ⟨rfl, rfl⟩)
  refine bodyPost_ret (results_cell_row rfl _ _ w.heap.size 121 #[.int .i32 65533, .int .i64 1, .bool false] (0, 0) _ rfl (by refine blk_put (cs := #[.int .i32 65533, .int .i64 1, .bool false]) ?_ 2 _ rfl; refine blk_put (cs := #[.int .i32 65533, .int .i64 0, .bool false]) ?_ 1 _ rfl; refine blk_put (cs := #[.int .i32 0, .int .i64 0, .bool false]) ?_ 0 _ rfl; exact BK.out) Tryd.underlying121 rfl (by kernel_rfl)) rfl ?_
  exact ⟨rfl, ((HB.out.setCell (by simp) _).setCell (by simp) _).setCell (by simp) _⟩
theorem first_whole (s : ByteArray) (w : World) (hG : Laid w) (h0 : 0 < s.size) (wd : Nat) (hd : Utf8.decode s 0 = (65533, wd)) (h3 : 3 ≤ s.size) (h4 : ((s.extract 0 3).toList == [239, 191, 189]) = true) :
    Calls Tryd.prog 127 #[.string s] w fun e w' => e = .returned (.agg #[.int .i32 65533, .int .i64 3, .bool true]) ∧ Below w.heap.size w w' := by
  have hp := hG.pos
  have hn := run_next_any (P := Tryd.prog) (w.alloc (.cells #[.int .i32 0, .int .i64 0, .bool false] 121)) s 0 0 h0
  rw [hd] at hn
  obtain ⟨hL, hz, hc, hB⟩ := first_world w hG s (0 + wd) _ rfl
  rw [World.size_alloc] at hn
  clear hG hd
  go_enter Tryd.func127, Tryd.ntmps127
  go_wp2_with (fail)
  refine wp_loop_rounds 1 ?_
  rw [rounds_succ]
  generalize ((w.alloc (.cells #[.int .i32 0, .int .i64 0, .bool false] 121)).iter s 0) = W0 at *
  generalize ((w.alloc (.cells #[.int .i32 0, .int .i64 0, .bool false] 121)).iter s (0 + wd)) = W at *
  have c0 := hL.c0
  have c1 := hL.c1
  have c2 := hL.c2
  have d0 : W.cell? ⟨w.heap.size, 0, none⟩ = some (.int .i32 0) := (blk_cell hc 0).trans rfl
  have d1 : W.cell? ⟨w.heap.size, 1, none⟩ = some (.int .i64 0) := (blk_cell hc 1).trans rfl
  have d2 : W.cell? ⟨w.heap.size, 2, none⟩ = some (.bool false) := (blk_cell hc 2).trans rfl
  have f0 := blk_frozen hc 0
  have f1 := blk_frozen hc 1
  have f2 := blk_frozen hc 2
  have BK := Aside0.mk hc
  have HB := Aside0.mk hB
  clear hL hc hB
  have hpx : Calls Tryd.prog 139 #[.string s, .string ⟨#[239, 191, 189]⟩] W fun e w' => e = .returned (.bool true) ∧ W = w' := by
    rw [← h4]; exact hasPrefix_long s W h3
  have HP := Aside0.mk hpx
  clear hpx h4
  go_wp2_with (go_at_call 139; refine HP.out.mono ?_; rintro e w' ⟨rfl, rfl⟩)
  refine bodyPost_ret (results_cell_row rfl _ _ w.heap.size 121 #[.int .i32 65533, .int .i64 3, .bool true] (0, 0) _ rfl (by refine blk_put (cs := #[.int .i32 65533, .int .i64 3, .bool false]) ?_ 2 _ rfl; refine blk_put (cs := #[.int .i32 65533, .int .i64 0, .bool false]) ?_ 1 _ rfl; refine blk_put (cs := #[.int .i32 0, .int .i64 0, .bool false]) ?_ 0 _ rfl; exact BK.out) Tryd.underlying121 rfl (by kernel_rfl)) rfl ?_
  exact ⟨rfl, ((HB.out.setCell (by simp) _).setCell (by simp) _).setCell (by simp) _⟩
def stepW (s : ByteArray) : Int × Int × Bool :=
  if s.size = 0 then (65533, 1, false)
  else if (Utf8.decode s 0).1 = 65533 then
    if 3 ≤ s.size ∧ ((s.extract 0 3).toList == [239, 191, 189]) = true then (65533, 3, true) else (65533, 1, false)
  else ((Utf8.decode s 0).1, (Utf8.encode (Utf8.decode s 0).1).size, true)
def step_first.f (a0 : ByteArray) : Option (Int × Int × Bool) := some (stepW a0)
theorem step_first.calls (a0 : ByteArray) (r1 : Int) (r2 : Int) (r3 : Bool) (w : World) (hG : Laid w) (h : step_first.f a0 = some (r1, r2, r3)) :
    Calls Tryd.prog 127 #[.string a0] w fun e w' => e = .returned (.agg #[.int .i32 r1, .int .i64 r2, .bool r3]) ∧ Below w.heap.size w w' := by
  have h := Option.some.inj h
  unfold stepW at h
  by_cases h0 : a0.size = 0
  · rw [if_pos h0] at h
    simp only [Prod.mk.injEq] at h
    obtain ⟨rfl, rfl, rfl⟩ := h
    exact first_empty a0 w hG h0
  · rw [if_neg h0] at h
    by_cases h1 : (Utf8.decode a0 0).1 = 65533
    · rw [if_pos h1] at h
      have hd : Utf8.decode a0 0 = (65533, (Utf8.decode a0 0).2) := by rw [← h1]
      by_cases h2 : 3 ≤ a0.size ∧ ((a0.extract 0 3).toList == [239, 191, 189]) = true
      · rw [if_pos h2] at h
        simp only [Prod.mk.injEq] at h
        obtain ⟨rfl, rfl, rfl⟩ := h
        exact first_whole a0 w hG (by omega) _ hd h2.1 h2.2
      · rw [if_neg h2] at h
        simp only [Prod.mk.injEq] at h
        obtain ⟨rfl, rfl, rfl⟩ := h
        refine first_bad a0 w hG (by omega) _ hd ?_
        by_cases h3 : 3 ≤ a0.size
        · exact .inl ⟨h3, Bool.eq_false_iff.2 fun h4 => h2 ⟨h3, h4⟩⟩
        · exact .inr (by omega)
    · rw [if_neg h1] at h
      simp only [Prod.mk.injEq] at h
      obtain ⟨rfl, rfl, rfl⟩ := h
      exact first_other a0 w hG (by omega) _ _ rfl (by simp; omega)
end Go.Proofs.YtbomhpfckplgaaaDoor.P
namespace Go.Proofs.YtbomhpfckplgaaaDoor.P
open Go Go.RowKit Go.Shelf
set_option linter.unusedVariables false
def Rw (o : Obj) : Prop := ∃ cs fz, o = .cells cs 3 fz
theorem Rw_cells {cs : Array Value} {t : TypeId} {fz : Nat × Nat} (h : t ≠ 3) : ¬ Rw (.cells cs t fz) := by
  rintro ⟨_, _, h1⟩
  injection h1 with _ h2
  exact h h2
theorem Rw_no {o : Obj} (h : o.isCells = false) : ¬ Rw o := by
  rintro ⟨_, _, rfl⟩
  cases h
structure KpC (C : Nat → Obj → Prop) (W W' : World) : Prop where
  size : W.heap.size ≤ W'.heap.size
  same : ∀ (k : Nat) (o : Obj), W.heap[k]? = some o → ¬ C k o → W'.heap[k]? = some o
theorem KpC.refl (C : Nat → Obj → Prop) (W : World) : KpC C W W := ⟨Nat.le_refl _, fun _ _ h _ => h⟩
theorem KpC.trans {C : Nat → Obj → Prop} {X Y Z : World} (h : KpC C X Y) (k : KpC C Y Z) : KpC C X Z := ⟨Nat.le_trans h.size k.size, fun i o hi hC => k.same i o (h.same i o hi hC) hC⟩
theorem KpC.mono {C C' : Nat → Obj → Prop} {X Y : World} (h : KpC C X Y) (hC : ∀ k o, C k o → C' k o) : KpC C' X Y := ⟨h.size, fun i o hi hn => h.same i o hi (fun hc => hn (hC i o hc))⟩
theorem KpC.putObj {C : Nat → Obj → Prop} (W : World) {l : Nat} (o' : Obj) (hl : ∀ o, W.heap[l]? = some o → C l o) : KpC C W (W.putObj l o') :=
  ⟨by simp, fun k q hk hn => (World.putObj_heap_other (fun e => hn (by subst e; exact hl q hk))).trans hk⟩
theorem KpC.alloc {C : Nat → Obj → Prop} (W : World) (o : Obj) : KpC C W (W.alloc o) := ⟨by simp, fun k q hk _ => (Below.heap_alloc W o k (Array.getElem?_eq_some_iff.1 hk).1).trans hk⟩
theorem KpC.below {C : Nat → Obj → Prop} {W W' : World} (h : Below W.heap.size W W') : KpC C W W' := ⟨h.size, fun k q hk _ => (h.block k (Array.getElem?_eq_some_iff.1 hk).1).trans hk⟩
theorem KpC.drew {C : Nat → Obj → Prop} (W : World) : KpC C W W.drew := ⟨Nat.le_refl _, fun _ _ h _ => h⟩
theorem KpC.setCell {C : Nat → Obj → Prop} (W : World) (a : Addr) (v : Value) (ha : ∀ o, C a.block o) : KpC C W (W.setCell a v) :=
  ⟨(KeepsWalks.setCell W a v).size, fun k q hk hC => (Below.heap_setCell W a v k (fun e => hC (by rw [e]; exact ha _))).trans hk⟩
theorem KpC.grown {C : Nat → Obj → Prop} {W W' : World} {row : Option Nat} (hg : W.grownBy W' row) (hr : ∀ r o, row = some r → W.heap[r]? = some o → C r o) : KpC C W W' :=
  ⟨hg.size, fun k q hk hC => (hg.block k (Array.getElem?_eq_some_iff.1 hk).1 (fun e => hC (hr k q e.symm hk))).trans hk⟩
def Kept (C : Nat → Obj → Prop) (W W' : World) : Prop := ∀ (k : Nat) (o : Obj), W.heap[k]? = some o → ¬ C k o → W'.heap[k]? = some o
theorem keep_cell {C : Nat → Obj → Prop} {W W' : World} (h : Kept C W W') {b i : Nat} {v : Value} (ha : ∀ o, W.heap[b]? = some o → ¬ C b o) (hc : W.cell? ⟨b, i, none⟩ = some v) : W'.cell? ⟨b, i, none⟩ = some v := by
  unfold World.cell? at hc ⊢
  cases ho : W.heap[b]? with
  | none => simp [ho] at hc
  | some o =>
    simp only [ho] at hc
    simp only [h _ _ ho (ha _ ho)]
    exact hc
def OwnT {β : Type} (T : Obj → Prop) (B : Nat) (I : β → World → Prop) : Prop :=
  ∀ s W W' row, I s W → W.grownBy W' row → (∀ r, row = some r → B ≤ r ∧ ∃ o : Obj, W.heap[r]? = some o ∧ T o) → I s W'
theorem OwnT.alloc {β : Type} {T : Obj → Prop} {B : Nat} {I : β → World → Prop} (h : OwnT T B I) {s : β} {W : World} (o : Obj) (hs : I s W) : I s (W.alloc o) := h s W _ none hs (World.grownBy_alloc W o none) (fun r e => by cases e)
theorem OwnT.putObj {β : Type} {T : Obj → Prop} {B : Nat} {I : β → World → Prop} (h : OwnT T B I) {s : β} {W : World} {l : Nat} {o : Obj} (o' : Obj) (hs : I s W) (hB : B ≤ l) (hl : W.heap[l]? = some o) (ho : T o) : I s (W.putObj l o') :=
  h s W _ (some l) hs (grownBy_putObj' W l o') (fun r e => by cases e; exact ⟨hB, o, hl, ho⟩)
theorem OwnT.and {β : Type} {T : Obj → Prop} {B : Nat} {I I' : β → World → Prop} (h : OwnT T B I) (h' : OwnT T B I') : OwnT T B (fun s W => I s W ∧ I' s W) := fun s W W' row hs hg hr => ⟨h s W W' row hs.1 hg hr, h' s W W' row hs.2 hg hr⟩
theorem OwnT.later {β : Type} {T : Obj → Prop} {B B' : Nat} {I : β → World → Prop} (h : OwnT T B I) (hB : B ≤ B') : OwnT T B' I := fun s W W' row hs hg hr => h s W W' row hs hg (fun r e => ⟨Nat.le_trans hB (hr r e).1, (hr r e).2⟩)
theorem OwnT.mono {β : Type} {T T' : Obj → Prop} {B : Nat} {I : β → World → Prop} (h : OwnT T B I) (hT : ∀ o, T' o → T o) : OwnT T' B I := fun s W W' row hs hg hr => h s W W' row hs hg (fun r e => by obtain ⟨h1, o, h2, h3⟩ := hr r e; exact ⟨h1, o, h2, hT o h3⟩)
theorem ownT_blk {β : Type} (T : Obj → Prop) (B k : Nat) (f : β → Obj) (hf : ∀ s, ¬ T (f s)) : OwnT T B (fun s W => W.heap[k]? = some (f s)) := fun s W W' row hs hg hr =>
  (hg.block k (Array.getElem?_eq_some_iff.1 hs).1 (fun e => by obtain ⟨_, o, ho, hc⟩ := hr k e.symm; rw [hs] at ho; cases ho; exact hf s hc)).trans hs
theorem ownT_low {β : Type} (T : Obj → Prop) (B k : Nat) (hk : k < B) (f : β → Obj) : OwnT T B (fun s W => W.heap[k]? = some (f s)) := fun s W W' row hs hg hr =>
  (hg.block k (Array.getElem?_eq_some_iff.1 hs).1 (fun e => by have := (hr k e.symm).1; omega)).trans hs
theorem ownT_pure {β : Type} (T : Obj → Prop) (B : Nat) (p : β → Prop) : OwnT T B (fun s (_ : World) => p s) := fun _ _ _ _ hs _ _ => hs
theorem ownT_below {β : Type} (T : Obj → Prop) {B n₀ : Nat} {w₀ : World} (h0 : n₀ ≤ w₀.heap.size) (hB : n₀ ≤ B) : OwnT T B (fun (_ : β) W => Below n₀ w₀ W) := fun _ W W' row hs hg hr =>
  hs.grown hg (Nat.le_trans h0 hs.size) (fun k e => Nat.le_trans hB (hr k e).1)
def Seq {α : Type} (T : Obj → Prop) (P : Program) (g : Nat) (lb : Array Value) (encs : α → Array Value) (D : Nat → Prop) (xs : List α) (w : World) : Prop :=
  ∀ (l : Nat) (J Jx : List α → World → Prop) (W : World) (C : Nat → Obj → Prop), Below w.heap.size w W → (∀ k o, D k → W.heap[k]? = some o → ¬ C k o) → (∀ k o, W.heap.size ≤ k → C k o → Rw o) → OwnT T W.heap.size J → OwnT T W.heap.size Jx →
    (∀ pre x rest W1, xs = pre ++ x :: rest → J pre W1 → ∀ m, YieldAt Fence.wide m P l (encs x) W1 fun e W' =>
      KpC C W1 W' ∧ ((e = .returned (.bool true) ∧ J (pre ++ [x]) W') ∨ (e = .returned (.bool false) ∧ Jx (pre ++ [x]) W'))) →
    J [] W →
    ∀ m, CallsIn Fence.wide m P g (#[.func (.yield l) #[] #[]] ++ lb) W fun e W' => (∃ v, e = .returned v) ∧ (∀ k o, W.heap[k]? = some o → ¬ C k o → W'.heap[k]? = some o) ∧ (J xs W' ∨ ∃ pre, pre <+: xs ∧ Jx pre W')
def seqPost {α : Type} (S : Nat → Obj → Prop) (I : List α → World → Prop) (Ix : Code → List α → World → Prop) (xs : List α) (W : World) : Exit → Act → World → Prop
  | .normal, _, W' => KpC S W W' ∧ I xs W'
  | .ret, _, W' => KpC S W W' ∧ Ix .ret xs W'
  | .exit id, _, W' => KpC S W W' ∧ Ix (.exit id) xs W'
  | .goto t, _, W' => KpC S W W' ∧ Ix (.goto t) xs W'
  | .panic _, _, _ => False
  | .outgrown, _, _ => False
theorem roundIn_wide {P : Program} {l : Nat} {f : FuncId} {tmps : Array Value} {assign body : Code} {w : World} {R : Ending → World → Prop} {n m : Nat} (h : RoundIn Fence.wide n P l f tmps assign body w R) : RoundIn Fence.wide m P l f tmps assign body w R :=
  ⟨h.1, fun c cs _ => h.2 c cs (room_wide _)⟩
theorem yieldAt_wide {P : Program} {l : Nat} {args : Array Value} {w : World} {R : Ending → World → Prop} {n m : Nat} (h : YieldAt Fence.wide n P l args w R) : YieldAt Fence.wide m P l args w R := by
  obtain ⟨fn, tmps, assign, body, h1, h2⟩ := h
  exact ⟨fn, tmps, assign, body, h1, roundIn_wide h2⟩
theorem wpIn_seq {α : Type} {T : Obj → Prop} (hT : ∀ o : Obj, o.isCells = false → T o) {P : Program} {n : Nat} {g : Operand} {ps : Array Tmp} {assign body : Code} {Q : Exit → Act → World → Prop} {a : Act} {w : World}
    (h1 : 1 ≤ n) {gf : Nat} {lb : Array Value} (hg : a.eval g = .func (.func gf) #[] lb) (eg : ∀ args w, (callFunc gf args).run P w = .ok (.enter gf args) w)
    {encs : α → Array Value} {D : Nat → Prop} {xs : List α} {w0 : World} (hseq : Seq T P gf lb encs D xs w0)
    (S : Nat → Obj → Prop) (hS : ∀ k o, S k o → k < w.heap.size ∨ Rw o) (hD : ∀ k, D k → k < w0.heap.size ∧ ∀ o, w.heap[k]? = some o → ¬ S k o) (hb0 : Below w0.heap.size w0 w) (hps : ∀ x, (encs x).size = ps.size)
    (I : List α → World → Prop) (Ix : Code → List α → World → Prop) (hI : OwnT T w.heap.size I) (hIx : ∀ c, OwnT T w.heap.size (Ix c)) (h0 : I [] w) (Ax : α → Act → World → Prop) (hAx : ∀ x a', OwnT (fun o => o.isCells = false) w.heap.size (fun (_ : Unit) W => Ax x a' W))
    (hassign : ∀ (l : Nat) (pre : List α) (x : α) (rest : List α) (W : World) (K : Act → World → Prop), xs = pre ++ x :: rest → w.heap.size < W.heap.size → I pre W → (∀ a' W', KpC S W W' → I pre W' → Ax x a' W' → K a' W') →
      assign.wpIn (Fence.wide.inRound l) (n - 1 - 1) P (Exit.then K (fun _ _ _ => False)) { tmps := (ps.zip (encs x)).foldl (fun t (p, v) => t.setIfInBounds p v) a.tmps, defers := [] } W)
    (hbody : ∀ (l : Nat) (pre : List α) (x : α) (rest : List α) (a' : Act) (W : World), xs = pre ++ x :: rest → w.heap.size < W.heap.size → I pre W → Ax x a' W → body.wpIn (Fence.wide.inRound l) (n - 1 - 1) P (seqPost S I Ix (pre ++ [x]) W) a' W)
    (hdone : ∀ (D : Nat) (W : World), w.heap.size ≤ D → (∀ k o, w.heap[k]? = some o → ¬ S k o → W.heap[k]? = some o) → I xs W → W.heap[D]? = some (.deferred (some [])) → Q .normal { a with defers := { target := .collected D, args := #[] } :: a.defers } W)
    (hstop : ∀ (D : Nat) (c : Code) (pre : List α) (W : World), w.heap.size ≤ D → (∀ k o, w.heap[k]? = some o → ¬ S k o → W.heap[k]? = some o) → pre <+: xs → Ix c pre W → W.heap[D]? = some (.deferred (some [])) → c.wpIn Fence.wide n P Q { a with defers := { target := .collected D, args := #[] } :: a.defers } W) :
    (Code.rangeFunc g ps assign body).wpIn Fence.wide n P Q a w := by
  refine wpIn_rangeFunc ?_
  intro fn hfn
  rw [show Fence.wide.round = none from rfl]
  obtain ⟨rec, hrec⟩ : ∃ rec : LoopState → Option Code → Loop, rec = fun st pe => { state := st, pending := pe, fn, tmps := a.tmps, params := ps, assign, body, defers := w.heap.size } := ⟨_, rfl⟩
  obtain ⟨W1, hW1⟩ : ∃ W1, (w.alloc (.deferred (some []))).alloc (.loop (rec .ready none)) = W1 := ⟨_, rfl⟩
  have hz1 : W1.heap.size = w.heap.size + 2 := by rw [← hW1]; simp
  have hL1 : W1.heap[w.heap.size + 1]? = some (.loop (rec .ready none)) := by
    rw [← hW1]; have := World.alloc_heap_new (w.alloc (.deferred (some []))) (.loop (rec .ready none)); rwa [World.size_alloc] at this
  have hK1 : W1.heap[w.heap.size]? = some (.deferred (some [])) := by
    rw [← hW1]; exact (Below.heap_alloc _ _ _ (by simp)).trans (World.alloc_heap_new w _)
  have hI1 : I [] W1 := by rw [← hW1]; exact hI.alloc _ (hI.alloc _ h0)
  have hbw : Below w.heap.size w W1 := by rw [← hW1]; exact ((Below.refl _ w).alloc (Nat.le_refl _) _).alloc (by simp) _
  have hb1 : Below w0.heap.size w0 W1 := hb0.trans (hbw.mono hb0.size)
  refine ⟨w.heap.size + 1, [{ target := .collected w.heap.size, args := #[] }], W1, { target := .fn (.func gf) lb, args := #[.func (.yield (w.heap.size + 1)) #[] #[]] }, W1, gf,
    #[.func (.yield (w.heap.size + 1)) #[] #[]] ++ lb, W1, ?_, ?_, ?_, ?_, fun _ => h1, ?_⟩
  · rw [← hW1, hrec]; exact run_enterLoop_outer _ _ _ _ _
  · simp only [resolve, hg]
    simp [go_sem]
  · intro f' hf'; trivial
  · simp [invoke, go_sem, eg]
  · have hrow : ∀ {A B : World} {row : Option Nat}, A.grownBy B row → (∀ r, row = some r → W1.heap.size ≤ r ∧ ∃ o : Obj, A.heap[r]? = some o ∧ T o) → ∀ (k : Nat) (o : Obj), k < W1.heap.size → A.heap[k]? = some o → B.heap[k]? = some o :=
      fun hg' hr k o hk ho => (hg'.block k (Array.getElem?_eq_some_iff.1 ho).1 (fun e => by have := (hr k e.symm).1; omega)).trans ho
    have hlow : ∀ {A : World} {row : Option Nat}, (∀ r, row = some r → W1.heap.size ≤ r ∧ ∃ o : Obj, A.heap[r]? = some o ∧ T o) → (∀ r, row = some r → w.heap.size ≤ r ∧ ∃ o : Obj, A.heap[r]? = some o ∧ T o) :=
      fun hr r e => ⟨by have := (hr r e).1; omega, (hr r e).2⟩
    -- C: the round's own blocks, and the loop's record
    have hCl : ∀ o : Obj, (fun k o => S k o ∨ k = w.heap.size + 1) (w.heap.size + 1) o := fun o => .inr rfl
    have hnS : ∀ (k : Nat) (o : Obj), w.heap.size ≤ k → o.isCells = false → ¬ S k o := fun k o hk ho h => (hS k o h).elim (fun h => by omega) (Rw_no ho)
    have back : ∀ {W2 : World}, (∀ k o, W1.heap[k]? = some o → ¬ (S k o ∨ k = w.heap.size + 1) → W2.heap[k]? = some o) → ∀ (q : Obj), ∀ k o, w.heap[k]? = some o → ¬ S k o → (W2.putObj (w.heap.size + 1) q).heap[k]? = some o := fun {W2} h q k o hk hn => by
      have hlt := (Array.getElem?_eq_some_iff.1 hk).1
      exact (World.putObj_heap_other (by omega)).trans (h k o ((hbw.block k hlt).trans hk) (by rintro (h | h); exact hn h; omega))
    refine (hseq (w.heap.size + 1)
      (fun pre W => I pre W ∧ W.heap[w.heap.size + 1]? = some (.loop (rec .ready none)) ∧ W.heap[w.heap.size]? = some (.deferred (some [])))
      (fun pre W => ∃ c, Ix c pre W ∧ W.heap[w.heap.size + 1]? = some (.loop (rec .done (some c))) ∧ W.heap[w.heap.size]? = some (.deferred (some [])))
      W1 (fun k o => S k o ∨ k = w.heap.size + 1) hb1
      (fun k o hk ho => by
        have h1 := (hD k hk).1
        have h2 := hb0.size
        rintro (h | h)
        · exact (hD k hk).2 o ((hbw.block k (by omega)).symm.trans ho) h
        · omega)
      (fun k o hk => by
        rintro (h | h)
        · rcases hS k o h with h | h
          · omega
          · exact h
        · omega)
      (fun s A B row hs hg' hr => ⟨hI s A B row hs.1 hg' (hlow hr), hrow hg' hr _ _ (by omega) hs.2.1, hrow hg' hr _ _ (by omega) hs.2.2⟩)
      (fun s A B row hs hg' hr => by
        obtain ⟨c, hc, hl, hk⟩ := hs
        exact ⟨c, hIx c s A B row hc hg' (hlow hr), hrow hg' hr _ _ (by omega) hl, hrow hg' hr _ _ (by omega) hk⟩)
      ?_ ⟨hI1, hL1, hK1⟩ (n - 1)).mono ?_
    · -- ONE ROUND
      rintro pre x rest W hxs ⟨hi, hl, hk⟩ m
      refine yieldAt_wide (n := n - 1 - 1) ?_
      have hltW : w.heap.size < W.heap.size := by have := (Array.getElem?_eq_some_iff.1 hl).1; omega
      have hy := run_yield (P := P) (args := encs x) hl (by rw [hrec]; exact hps x)
      rw [hrec] at hy
      refine ⟨fn, _, assign, body, hy, roundIn_of_wpIn hfn (hassign _ pre x rest W _ hxs hltW hi ?_)⟩
      clear hy
      intro a' Wa hkpa hia hax
      have hla := hkpa.same _ _ hl (hnS _ _ (by omega) rfl)
      have hka := hkpa.same _ _ hk (hnS _ _ (Nat.le_refl _) rfl)
      have hlt : w.heap.size + 1 < Wa.heap.size := (Array.getElem?_eq_some_iff.1 hla).1
      refine ⟨_, run_beginRound hla (by rw [hrec]), ?_⟩
      have hl2 : (Wa.putObj (w.heap.size + 1) (.loop { rec .ready none with state := .busy })).heap[w.heap.size + 1]? = some (.loop { rec .ready none with state := .busy }) := World.putObj_heap_same hlt
      have hk2 : (Wa.putObj (w.heap.size + 1) (.loop { rec .ready none with state := .busy })).heap[w.heap.size]? = some (.deferred (some [])) := (World.putObj_heap_other (by omega)).trans hka
      have hw2 : KpC (fun k o => S k o ∨ k = w.heap.size + 1) W (Wa.putObj (w.heap.size + 1) (.loop { rec .ready none with state := .busy })) := (hkpa.mono (fun k o h => .inl h)).trans (KpC.putObj _ _ (fun o _ => hCl o))
      refine wpIn_mono (hbody _ pre x rest a' _ hxs (by simp; omega) (hI.putObj _ hia (by omega) hla (hT _ rfl)) ((hAx x a').putObj (s := ()) _ hax (by omega) hla rfl)) ?_
      have fin : ∀ (jump : Option Code) (W3 : World), KpC S (Wa.putObj (w.heap.size + 1) (.loop { rec .ready none with state := .busy })) W3 →
          (Instr.endRound (w.heap.size + 1) jump).run P W3 = .ok (.bool jump.isNone) (W3.putObj (w.heap.size + 1) (.loop (rec (if jump.isNone then .ready else .done) jump))) ∧
          W3.heap[w.heap.size + 1]? = some (.loop { rec .ready none with state := .busy }) ∧
          (W3.putObj (w.heap.size + 1) (.loop (rec (if jump.isNone then .ready else .done) jump))).heap[w.heap.size + 1]? = some (.loop (rec (if jump.isNone then .ready else .done) jump)) ∧
          (W3.putObj (w.heap.size + 1) (.loop (rec (if jump.isNone then .ready else .done) jump))).heap[w.heap.size]? = some (.deferred (some [])) ∧
          KpC (fun k o => S k o ∨ k = w.heap.size + 1) W (W3.putObj (w.heap.size + 1) (.loop (rec (if jump.isNone then .ready else .done) jump))) := fun jump W3 hk3 => by
        have hl3 := hk3.same _ _ hl2 (hnS _ _ (by omega) rfl)
        have hr := run_endRound (P := P) jump hl3
        have hkp : KpC (fun k o => S k o ∨ k = w.heap.size + 1) W (W3.putObj (w.heap.size + 1) (.loop (rec (if jump.isNone then .ready else .done) jump))) := hw2.trans ((hk3.mono (fun k o h => Or.inl h)).trans (KpC.putObj _ _ (fun o _ => hCl o)))
        rw [hrec] at hr hl3 hkp ⊢
        exact ⟨hr, hl3, World.putObj_heap_same (Array.getElem?_eq_some_iff.1 hl3).1, (World.putObj_heap_other (by omega)).trans (hk3.same _ _ hk2 (hnS _ _ (Nat.le_refl _) rfl)), hkp⟩
      have leaves : ∀ (c : Code) (W3 : World), KpC S (Wa.putObj (w.heap.size + 1) (.loop { rec .ready none with state := .busy })) W3 → Ix c (pre ++ [x]) W3 → ∃ v W4, (Instr.endRound (w.heap.size + 1) (some c)).run P W3 = .ok v W4 ∧ KpC (fun k o => S k o ∨ k = w.heap.size + 1) W W4 ∧
          ((Ending.returned v = .returned (.bool true) ∧ (I (pre ++ [x]) W4 ∧ W4.heap[w.heap.size + 1]? = some (.loop (rec .ready none)) ∧ W4.heap[w.heap.size]? = some (.deferred (some [])))) ∨
           (Ending.returned v = .returned (.bool false) ∧ ∃ c', Ix c' (pre ++ [x]) W4 ∧ W4.heap[w.heap.size + 1]? = some (.loop (rec .done (some c'))) ∧ W4.heap[w.heap.size]? = some (.deferred (some [])))) := fun c W3 hk3 hi3 => by
        obtain ⟨hr, hl3, hl4, hk4, hkp⟩ := fin (some c) W3 hk3
        exact ⟨_, _, hr, hkp, .inr ⟨rfl, c, (hIx _).putObj _ hi3 (by omega) hl3 (hT _ rfl), hl4, hk4⟩⟩
      rintro e a3 W3 hp
      cases e with
      | normal =>
        obtain ⟨hk3, hi3⟩ := hp
        obtain ⟨hr, hl3, hl4, hk4, hkp⟩ := fin none W3 hk3
        exact ⟨_, _, hr, hkp, .inl ⟨rfl, hI.putObj _ hi3 (by omega) hl3 (hT _ rfl), hl4, hk4⟩⟩
      | ret => exact leaves .ret W3 hp.1 hp.2
      | exit id => exact leaves (.exit id) W3 hp.1 hp.2
      | goto t => exact leaves (.goto t) W3 hp.1 hp.2
      | panic ch => exact hp.elim
      | outgrown => exact hp.elim
    · -- BEHIND THE ITERATOR
      rintro e W2 ⟨⟨v, rfl⟩, hsame, (⟨hi, hl, hk⟩ | ⟨pre, hSp, c, hi, hl, hk⟩)⟩
      · exact ⟨none, _, by have := run_endLoop (P := P) hl (by rw [hrec]; simp); rw [hrec] at this; exact this, hdone _ _ (Nat.le_refl _) (back hsame _) (hI.putObj _ hi (by omega) hl (hT _ rfl)) ((World.putObj_heap_other (by omega)).trans hk)⟩
      · exact ⟨some c, _, by have := run_endLoop (P := P) hl (by rw [hrec]; simp); rw [hrec] at this; exact this, hstop _ c pre _ (Nat.le_refl _) (back hsame _) hSp ((hIx c).putObj _ hi (by omega) hl (hT _ rfl)) ((World.putObj_heap_other (by omega)).trans hk)⟩
end Go.Proofs.YtbomhpfckplgaaaDoor.P
namespace Go.Proofs.YtbomhpfckplgaaaDoor.P
open Go Go.RowKit Go.Shelf Go.Proofs.YtbomhpfckplgaaaDoorW.PrintWords
set_option linter.unusedVariables false
set_option maxRecDepth 100000
attribute [local go_sem] Oper.semAt_some
def itemsFrom (s : ByteArray) : Nat → Nat → List (Nat × Int × Int × Bool)
  | 0, _ => []
  | k + 1, p => if p < s.size then (p, stepW (s.extract p s.size)) :: itemsFrom s k (p + (Utf8.decode s p).2) else []
def items (s : ByteArray) : List (Nat × Int × Int × Bool) := itemsFrom s s.size 0
def encItem (x : Nat × Int × Int × Bool) : Array Value := #[.int .i64 x.1, .agg #[.int .i32 x.2.1, .int .i64 x.2.2.1, .bool x.2.2.2]]
theorem decode_pos (s : ByteArray) (p : Nat) (h : p < s.size) : 1 ≤ (Utf8.decode s p).2 := by
  by_cases ha : (s[p]'h).toNat < 128
  · rw [decode_ascii s p h ha]
    exact Nat.le_refl _
  · exact (decode_high s p h (by omega)).2
theorem grown_iterAt (w : World) (k : Nat) (s : ByteArray) (p : Nat) : w.grownBy (w.iterAt k s p) (some k) :=
  ⟨rfl, rfl, rfl, by rw [Lib.iterAt_size]; exact Nat.le_refl _, fun j _ hj => Lib.iterAt_other w k j s p (fun e => hj (by rw [e]))⟩
theorem keep_laid {C : Nat → Obj → Prop} {W W' : World} (h : Kept C W W') (hC : ∀ o, W.heap[0]? = some o → ¬ C 0 o) (hG : Laid W) : Laid W' := ⟨keep_cell h hC hG.c0, keep_cell h hC hG.c1, keep_cell h hC hG.c2⟩
set_option maxHeartbeats 2000000 in
theorem all1_seq (s : ByteArray) (hs : s.size ≤ 140737488351232) (w : World) (hG : Laid w) (Bn : Nat) (hB : w.cell? ⟨Bn, 0, none⟩ = some (.string s)) :
    Seq (fun o => o.isCells = false) Tryd.prog 126 #[.pointer (some ⟨Bn, 0, none⟩)] encItem (fun k => k = 0 ∨ k = Bn) (items s) w := by
  intro l J Jx W C hW hD hCn hJ hJx hY h0 m
  have hC0 : ∀ o, W.heap[0]? = some o → ¬ C 0 o := fun o ho => hD 0 o (.inl rfl) ho
  have hCB : ∀ o, W.heap[Bn]? = some o → ¬ C Bn o := fun o ho => hD Bn o (.inr rfl) ho
  have hBW := pw_cell_below hW hB
  have hGW := hG.below hW
  have hCW : ∀ s p, ¬ C W.heap.size (.stringIter s p) := fun s p h => Rw_no rfl (hCn _ _ (Nat.le_refl _) h)
  have hI0 : (W.iter s 0).heap[W.heap.size]? = some (.stringIter s 0) := World.iter_heap W s 0
  have hJ0 : J [] (W.iter s 0) := hJ.alloc _ h0
  have hG0 : Laid (W.iter s 0) := hGW.alloc _
  have hB0 : (W.iter s 0).cell? ⟨Bn, 0, none⟩ = some (.string s) := pw_cell_below ((Below.refl _ W).alloc (Nat.le_refl _) _) hBW
  have hz0 : (W.iter s 0).heap.size = W.heap.size + 1 := by show (W.alloc _).heap.size = _; simp
  have hS0 : ∀ k o, W.heap[k]? = some o → ¬ C k o → (W.iter s 0).heap[k]? = some o := fun k o hk _ => blk_alloc hk _
  refine callsIn_wide.2 ((callsIn_wide (n := 9)).1 ?_)
  refine callsIn_of_wp Tryd.func126 rfl trivial ?_ rfl
  simp only [Tryd.ntmps126, List.size_toArray, List.length_cons, List.length_nil, Nat.reduceAdd, Nat.reduceSub, Array.replicate_succ, Array.replicate_zero, List.push_toArray, List.append_toArray, List.nil_append, List.cons_append]
  clear hG hB hCn hD
  have HS0 := Aside0.mk hS0
  clear hS0
  gi_wp2
  gi_loopw [3] (fun v wr => ∃ (pre : List (Nat × Int × Int × Bool)) (p k : Nat), Aside0 (items s = pre ++ itemsFrom s k p) ∧ s.size ≤ p + k ∧ Aside0 (wr.heap[W.heap.size]? = some (.stringIter s p)) ∧ Aside0 (J pre wr) ∧ Aside0 (Laid wr) ∧ wr.cell? ⟨Bn, 0, none⟩ = some (.string s) ∧ W.heap.size < wr.heap.size ∧ Aside0 (∀ k o, W.heap[k]? = some o → ¬ C k o → wr.heap[k]? = some o))
    (fun v wr => s.size - wr.iterPos W.heap.size)
  case atStart => exact ⟨[], 0, s.size, ⟨rfl⟩, by omega, ⟨hI0⟩, ⟨hJ0⟩, ⟨hG0⟩, hB0, by omega, HS0⟩
  case round =>
    clear HS0
    obtain ⟨pre, p, k, hx, hk, hI, hJs, hGs, hBs, hzs, HS⟩ := hrel
    have hBn : Bn < W.heap.size := World.block_lt_of_cell? W _ hBW
    have h0W : 0 < W.heap.size := hGW.pos
    have hpos : wr.iterPos W.heap.size = p := by unfold World.iterPos; rw [hI.out]
    have HP := Aside0.mk hpos
    have HBW := Aside0.mk hBW
    have HGW := Aside0.mk hGW
    clear hI0 hJ0 hG0 hB0 hz0 hBW hGW h0 hpos
    by_cases hlt : p < s.size
    · have hn := Lib.run_next_any_at (P := Tryd.prog) wr W.heap.size s p 0 hI.out hlt
      obtain ⟨k, rfl⟩ : ∃ j, k = j + 1 := ⟨k - 1, by omega⟩
      have hx' : items s = pre ++ (p, stepW (s.extract p s.size)) :: itemsFrom s k (p + (Utf8.decode s p).2) := by rw [hx.out]; simp [itemsFrom, hlt]
      have hwd := decode_pos s p hlt
      have hg := grown_iterAt wr W.heap.size s (p + (Utf8.decode s p).2)
      have hI1 := Lib.iterAt_heap wr W.heap.size s p (p + (Utf8.decode s p).2) hI.out
      have hJ1 := hJ pre wr _ _ hJs.out hg (fun r e => by cases e; exact ⟨Nat.le_refl _, _, hI.out, rfl⟩)
      have hcell : ∀ (b o : Nat) (v : Value), b ≠ W.heap.size → wr.cell? ⟨b, o, none⟩ = some v → (wr.iterAt W.heap.size s (p + (Utf8.decode s p).2)).cell? ⟨b, o, none⟩ = some v := fun b o v hb h => by
        unfold World.cell? at h ⊢
        rw [Lib.iterAt_other wr _ _ s _ hb]
        exact h
      have hG1 : Laid (wr.iterAt W.heap.size s (p + (Utf8.decode s p).2)) := ⟨hcell _ _ _ (by omega) hGs.out.c0, hcell _ _ _ (by omega) hGs.out.c1, hcell _ _ _ (by omega) hGs.out.c2⟩
      have hB1 := hcell _ _ _ (by omega) hBs
      have hz1 : (wr.iterAt W.heap.size s (p + (Utf8.decode s p).2)).heap.size = wr.heap.size := Lib.iterAt_size _ _ _ _
      have hS1 : ∀ k o, W.heap[k]? = some o → ¬ C k o → (wr.iterAt W.heap.size s (p + (Utf8.decode s p).2)).heap[k]? = some o := fun k o hk hC => (Lib.iterAt_other wr _ _ s _ (by have := (Array.getElem?_eq_some_iff.1 hk).1; omega)).trans (HS.out k o hk hC)
      have hps : p ≤ s.size := by omega
      obtain ⟨c, hc⟩ : ∃ c, (Utf8.decode s p).1 = c := ⟨_, rfl⟩
      rw [hc] at hn
      generalize (Utf8.decode s p).2 = wd at *
      generalize hW1 : wr.iterAt W.heap.size s (p + wd) = W1 at *
      have HX := Aside0.mk hx'
      have HJ1 := Aside0.mk hJ1
      have HG1 := Aside0.mk hG1
      have HI1 := Aside0.mk hI1
      have HS1 := Aside0.mk hS1
      clear hx hx' hI hJs hGs hBs hg hI1 hJ1 hcell hG1 hc hW1 HS hS1
      have HC : Aside0 (∀ (w' : World), Laid w' → Calls Tryd.prog 127 #[.string (s.extract p s.size)] w' fun e w2 => e = .returned (.agg #[.int .i32 (stepW (s.extract p s.size)).1, .int .i64 (stepW (s.extract p s.size)).2.1, .bool (stepW (s.extract p s.size)).2.2]) ∧ Below w'.heap.size w' w2) :=
        ⟨fun w' hL => step_first.calls _ _ _ _ w' hL rfl⟩
      generalize stepW (s.extract p s.size) = st at *
      gi_wp2_with (refine ⟨trivial, ?_⟩; gi_at_call 127; refine (callsIn_wide.2 (HC.out _ HG1.out)).mono ?_; rintro e w3 ⟨rfl, hb3⟩; obtain ⟨fn, tmps, assign, body, hy, hR⟩ := hY pre (p, st) _ w3 HX.out (hJ pre W1 w3 none HJ1.out (grown_of_below hb3 none) (fun r e => by cases e)) 8; dsimp only [encItem] at hy)
      refine hR.mono ?_
      have hI3 := blk_below HI1.out hb3
      have hG3 := HG1.out.below hb3
      have hB3 := pw_cell_below hb3 hB1
      have hz3 := hb3.size
      rintro e W3 ⟨hk3, (⟨rfl, hJ3⟩ | ⟨rfl, hJx3⟩)⟩
      · have hI4 := hk3.same _ _ hI3 (hCW _ _)
        have hz4 := hk3.size
        have hS4 : ∀ k o, W.heap[k]? = some o → ¬ C k o → W3.heap[k]? = some o := fun k o hk hC => hk3.same _ _ (blk_below (HS1.out k o hk hC) hb3) hC
        have hB4 := keep_cell hS4 hCB HBW.out
        have hG4 : Laid W3 := keep_laid hS4 hC0 HGW.out
        have HI4 := Aside0.mk hI4
        have HJ3 := Aside0.mk hJ3
        have HG4 := Aside0.mk hG4
        have HS4 := Aside0.mk hS4
        clear hI3 hG3 hB3 hI4 hJ3 hG4 hk3 hS4
        gi_wp2
        go_roundw
        case rel => exact ⟨pre ++ [(p, st)], p + wd, k, ⟨by rw [HX.out]; simp⟩, by omega, HI4, HJ3, HG4, hB4, by omega, HS4⟩
        case measure =>
          have e1 : W3.iterPos W.heap.size = p + wd := by unfold World.iterPos; rw [HI4.out]
          rw [e1, HP.out]; omega
      · have hS4 : ∀ k o, W.heap[k]? = some o → ¬ C k o → W3.heap[k]? = some o := fun k o hk hC => hk3.same _ _ (blk_below (HS1.out k o hk hC) hb3) hC
        have HS4 := Aside0.mk hS4
        clear hS4
        gi_wp2
        refine bodyPost_ret (results_none rfl _ _ _) rfl ?_
        exact ⟨⟨_, rfl⟩, HS4.out, .inr ⟨pre ++ [(p, st)], ⟨_, by rw [HX.out]; simp; rfl⟩, hJx3⟩⟩
    · have hn := Lib.run_next_end_at (P := Tryd.prog) wr W.heap.size s p 0 hI.out hlt
      have hfin : items s = pre := by
        rw [hx.out]
        cases k with
        | zero => simp [itemsFrom]
        | succ k => simp [itemsFrom, hlt]
      have HF := Aside0.mk hfin
      clear hfin hx hI
      gi_wp2
      go_end0
      exact ⟨⟨_, rfl⟩, HS.out, .inl (by rw [HF.out]; exact hJs.out)⟩
theorem all_any (A : Option Addr) (c : Nat) (l : List Int) (w : World) (hr : Kd.C (Kd.int .u8) w A l.length l) :
    Calls Tryd.prog 116 #[.slice A l.length c] w fun e w' => e = .returned (.func (.func 126) #[] #[.pointer (some ⟨w.heap.size, 0, none⟩)]) ∧ w.alloc (.cells #[.string (strOfNums l)] 9) = w' := by
  have hcv := Kd.C_string (P := Tryd.prog) (A := A) (c := c) Tryd.underlying22 Tryd.underlying5 Tryd.underlying9 hr
  go_enter Tryd.func116, Tryd.ntmps116
  go_wp2
  go_ret
  exact ⟨rfl, rfl⟩
end Go.Proofs.YtbomhpfckplgaaaDoor.P
namespace Go.Proofs.YtbomhpfckplgaaaDoor.P
open Go Go.RowKit Go.Proofs.YtbomhpfckplgaaaDoorW.PrintWords Go.Proofs.YtbomhpfckplgaaaDoorW.PrintLast
set_option linter.unusedVariables false
set_option maxRecDepth 100000
set_option maxHeartbeats 1000000
def lenU (r : Int) : Int := if (0 ≤ r ∧ r < 55296) ∨ (57343 < r ∧ r ≤ 1114111) then (if 65535 < r then 2 else 1) else 0
theorem valid_yes (r : Int) (w : World) (h : (0 ≤ r ∧ r < 55296) ∨ (57343 < r ∧ r ≤ 1114111)) :
    Calls Tryd.prog 134 #[.int .i32 r] w fun e w' => e = .returned (.bool true) ∧ w = w' := by
  rcases h with ⟨h1, h2⟩ | ⟨h1, h2⟩
  · go_enter Tryd.func134, Tryd.ntmps134
    go_wp2
    go_ret
    exact ⟨rfl, rfl⟩
  · have h3 : decide (r < 55296) = false := by simp; omega
    go_enter Tryd.func134, Tryd.ntmps134
    go_wp2
    go_ret
    exact ⟨rfl, rfl⟩
theorem valid_no (r : Int) (w : World) (h : ¬ ((0 ≤ r ∧ r < 55296) ∨ (57343 < r ∧ r ≤ 1114111))) :
    Calls Tryd.prog 134 #[.int .i32 r] w fun e w' => e = .returned (.bool false) ∧ w = w' := by
  by_cases h1 : r < 0
  · clear h
    go_enter Tryd.func134, Tryd.ntmps134
    go_wp2
    go_ret
    exact ⟨rfl, rfl⟩
  · by_cases h2 : r ≤ 57343
    · have h3 : 55296 ≤ r := by omega
      clear h
      go_enter Tryd.func134, Tryd.ntmps134
      go_wp2
      go_ret
      exact ⟨rfl, rfl⟩
    · have h3 : 1114111 < r := by omega
      clear h
      go_enter Tryd.func134, Tryd.ntmps134
      go_wp2
      go_ret
      exact ⟨rfl, rfl⟩
theorem len_any (r : Int) (w : World) : Calls Tryd.prog 121 #[.int .i32 r] w fun e w' => e = .returned (.int .i64 (lenU r)) ∧ w = w' := by
  by_cases h : (0 ≤ r ∧ r < 55296) ∨ (57343 < r ∧ r ≤ 1114111)
  · have HV := Aside0.mk (valid_yes r w h)
    by_cases h2 : 65535 < r
    · have e : lenU r = 2 := by unfold lenU; rw [if_pos h, if_pos h2]
      rw [e]
      clear h e
      go_enter Tryd.func121, Tryd.ntmps121
      go_wp2_with (go_at_call 134; refine HV.out.mono ?_; rintro e w' ⟨rfl, rfl⟩)
      go_ret
      exact ⟨rfl, rfl⟩
    · have e : lenU r = 1 := by unfold lenU; rw [if_pos h, if_neg h2]
      rw [e]
      clear h e
      go_enter Tryd.func121, Tryd.ntmps121
      go_wp2_with (go_at_call 134; refine HV.out.mono ?_; rintro e w' ⟨rfl, rfl⟩)
      go_ret
      exact ⟨rfl, rfl⟩
  · have HV := Aside0.mk (valid_no r w h)
    have e : lenU r = 0 := by unfold lenU; rw [if_neg h]
    rw [e]
    clear h e
    go_enter Tryd.func121, Tryd.ntmps121
    go_wp2_with (go_at_call 134; refine HV.out.mono ?_; rintro e w' ⟨rfl, rfl⟩)
    go_ret
    exact ⟨rfl, rfl⟩
theorem counts_any (r wd : Int) (b : Bool) (w : World) : Calls Tryd.prog 117 #[.agg #[.int .i32 r, .int .i64 wd, .bool b]] w fun e w' => e = .returned (.agg #[.int .i64 0, .int .i64 wd, .int .i64 1, .int .i64 (lenU r)]) ∧ Below w.heap.size w w' := by
  go_enter Tryd.func117, Tryd.ntmps117
  go_wp2
  go_region_with (go_at_call 121; refine (len_any _ _).mono ?_; rintro e w' ⟨rfl, rfl⟩)
  all_goals go_wp2
  all_goals
    refine bodyPost_ret (results_cell_row rfl _ _ (w.heap.size + 1) 118 #[.int .i64 0, .int .i64 wd, .int .i64 1, .int .i64 (lenU r)] (0, 0) _ rfl (by have h_ := blk_new (w.alloc (.cells #[.int .i32 r, .int .i64 wd, .bool b] 121)) (.cells #[.int .i64 0, .int .i64 wd, .int .i64 1, .int .i64 (lenU r)] 118); rw [World.size_alloc] at h_; exact h_) Tryd.underlying118 rfl (by kernel_rfl)) rfl ?_
    exact ⟨rfl, below_drew (((Below.refl _ w).alloc (Nat.le_refl _) _).alloc (by simp) _)⟩
end Go.Proofs.YtbomhpfckplgaaaDoor.P
namespace Go.Proofs.YtbomhpfckplgaaaDoor.P
open Go Go.RowKit Go.Shelf Go.Proofs.YtbomhpfckplgaaaDoorW.PrintWords
set_option linter.unusedVariables false
set_option maxRecDepth 100000
attribute [local go_sem] Oper.semAt_some
abbrev Edge3 := Int × Int × Int
def addE (a : Edge3) (x : Nat × Int × Int × Bool) : Edge3 := (wrap64 (a.1 + x.2.2.1), wrap64 (a.2.1 + 1), wrap64 (a.2.2 + lenU x.2.1))
def scanE : Edge3 → List (Nat × Int × Int × Bool) → List Edge3
  | a, [] => [a]
  | a, x :: xs => a :: scanE (addE a x) xs
def e0 : Edge3 := (0, 0, 0)
def encEdge (x : Edge3) : Array Value := #[.agg #[.int .i64 0, .int .i64 x.1, .int .i64 x.2.1, .int .i64 x.2.2]]
theorem scanE_snoc (a : Edge3) (pre : List (Nat × Int × Int × Bool)) (x : Nat × Int × Int × Bool) : scanE a (pre ++ [x]) = scanE a pre ++ [addE (pre.foldl addE a) x] := by
  induction pre generalizing a with
  | nil => rfl
  | cons y pre ih => simp [scanE, ih]
theorem scanE_split (a : Edge3) (pre : List (Nat × Int × Int × Bool)) (x : Nat × Int × Int × Bool) (rest : List (Nat × Int × Int × Bool)) : ∃ r, scanE a (pre ++ x :: rest) = scanE a pre ++ addE (pre.foldl addE a) x :: r := by
  induction pre generalizing a with
  | nil => cases rest with
    | nil => exact ⟨[], rfl⟩
    | cons y rest => exact ⟨_, rfl⟩
  | cons y pre ih =>
    obtain ⟨r, hr⟩ := ih (addE a y)
    exact ⟨r, by simp [scanE, hr]⟩
theorem scanE_prefix (a : Edge3) (pre xs : List (Nat × Int × Int × Bool)) (h : pre <+: xs) : scanE a pre <+: scanE a xs := by
  obtain ⟨t, rfl⟩ := h
  induction pre generalizing a with
  | nil => cases t with
    | nil => exact List.prefix_refl _
    | cons y t => exact ⟨scanE (addE a y) t, rfl⟩
  | cons y pre ih =>
    simp only [scanE, List.cons_append]
    exact List.prefix_cons_inj _ |>.2 (ih _)
theorem scanE_cons (a : Edge3) (xs : List (Nat × Int × Int × Bool)) : ∃ r, scanE a xs = a :: r := by cases xs <;> exact ⟨_, rfl⟩
theorem keep_C {C : Nat → Obj → Prop} {W W' : World} {A : Option Addr} {n : Nat} {l : List Int} (h : Kept C W W') (hA : 0 < n → ∀ ad, A = some ad → ∀ o, W.heap[ad.block]? = some o → ¬ C ad.block o) (hr : Kd.C (Kd.int .u8) W A n l) : Kd.C (Kd.int .u8) W' A n l :=
  ⟨hr.1, hr.2.1, fun hn => by
    obtain ⟨ad, e, hc⟩ := hr.2.2 hn
    refine ⟨ad, e, fun j p hj => ?_⟩
    obtain ⟨c, hs, hr, hcell⟩ := hc j p hj
    refine ⟨c, hs, hr, fun i u hu => ?_⟩
    have hcc := hcell i u hu
    have hb : (ad.add (j * (Kd.int .u8).sz + i)).block = ad.block := by unfold Addr.add; split <;> rfl
    unfold World.cell? at hcc ⊢
    rw [hb] at hcc ⊢
    cases ho : W.heap[ad.block]? with
    | none => simp [ho] at hcc
    | some o =>
      simp only [ho] at hcc
      simp only [h _ _ ho (hA hn ad e _ ho)]
      exact hcc⟩
theorem KpC.blk {C : Nat → Obj → Prop} {W W' : World} (h : KpC C W W') {k : Nat} {o : Obj} (hk : ¬ C k o) (hb : W.heap[k]? = some o) : W'.heap[k]? = some o := h.same _ _ hb hk
def T118 (o : Obj) : Prop := o.isCells = false ∨ ∃ cs fz, o = .cells cs 118 fz
def aggE (x : Edge3) : Array Value := #[.int .i64 0, .int .i64 x.1, .int .i64 x.2.1, .int .i64 x.2.2]
set_option maxHeartbeats 8000000 in
theorem edges1_seq (A : Option Addr) (c : Nat) (l : List Int) (hl : l.length ≤ 140737488351232) (w : World) (hG : Laid w) (Bb : Nat) (hB : w.heap[Bb]? = some (.cells #[.slice A l.length c] 22 (0, 0))) (hr : Kd.C (Kd.int .u8) w A l.length l) :
    Seq T118 Tryd.prog 115 #[.pointer (some ⟨Bb, 0, none⟩)] encEdge (fun k => k = 0 ∨ k = Bb ∨ (0 < l.length ∧ ∃ ad, A = some ad ∧ k = ad.block)) (scanE e0 (items (strOfNums l))) w := by
  intro lo J Jx W C hW hD hCn hJ hJx hY h0 m
  have hC0 : ∀ o, W.heap[0]? = some o → ¬ C 0 o := fun o ho => hD 0 o (.inl rfl) ho
  have hCB : ¬ C Bb (.cells #[.slice A l.length c] 22 (0, 0)) := hD Bb _ (.inr (.inl rfl)) (blk_below hB hW)
  have hA : 0 < l.length → ∀ ad, A = some ad → ∀ o, W.heap[ad.block]? = some o → ¬ C ad.block o := fun hn ad e o ho => hD _ o (.inr (.inr ⟨hn, ad, e, rfl⟩)) ho
  have hBW := blk_below hB hW
  have h0W : 0 < W.heap.size := (hG.below hW).pos
  have hGW := hG.below hW
  have hrW := Kd.C_below hr hW
  obtain ⟨r0, hr0⟩ := scanE_cons e0 (items (strOfNums l))
  obtain ⟨fn, tmps, assign, body, hy, hR⟩ := hY [] e0 r0 ((W.alloc (.cells #[.func (.yield lo) #[] #[]] 151)).alloc (.cells #[.int .i64 0, .int .i64 0, .int .i64 0, .int .i64 0] 118)) hr0 (hJ.alloc _ (hJ.alloc _ h0)) 19
  simp only [encEdge, e0] at hy
  refine callsIn_wide.2 ((callsIn_wide (n := 20)).1 ?_)
  refine callsIn_of_wp_marks Tryd.func115 rfl trivial ?_ rfl
  simp only [Tryd.ntmps115, List.size_toArray, List.length_cons, List.length_nil, Nat.reduceAdd, Nat.reduceSub, Array.replicate_succ, Array.replicate_zero, List.push_toArray, List.append_toArray, List.nil_append, List.cons_append]
  have HH := Aside0.mk (And.intro hY (And.intro hJ hJx))
  clear hY hJ hJx hr0 hD
  gi_wp2
  refine hR.mono ?_
  clear hR hy
  have hz : ((W.alloc (.cells #[.func (.yield lo) #[] #[]] 151)).alloc (.cells #[.int .i64 0, .int .i64 0, .int .i64 0, .int .i64 0] 118)).heap.size = W.heap.size + 2 := by simp
  have bY : ((W.alloc (.cells #[.func (.yield lo) #[] #[]] 151)).alloc (.cells #[.int .i64 0, .int .i64 0, .int .i64 0, .int .i64 0] 118)).heap[W.heap.size]? = some (.cells #[.func (.yield lo) #[] #[]] 151 (0, 0)) := blk_alloc (blk_new W _) _
  have bA : ((W.alloc (.cells #[.func (.yield lo) #[] #[]] 151)).alloc (.cells #[.int .i64 0, .int .i64 0, .int .i64 0, .int .i64 0] 118)).heap[W.heap.size + 1]? = some (.cells #[.int .i64 0, .int .i64 0, .int .i64 0, .int .i64 0] 118 (0, 0)) := by
    have h_ := blk_new (W.alloc (.cells #[.func (.yield lo) #[] #[]] 151)) (.cells #[.int .i64 0, .int .i64 0, .int .i64 0, .int .i64 0] 118)
    rw [World.size_alloc] at h_
    exact h_
  have hb2 : Below W.heap.size W ((W.alloc (.cells #[.func (.yield lo) #[] #[]] 151)).alloc (.cells #[.int .i64 0, .int .i64 0, .int .i64 0, .int .i64 0] 118)) := ((Below.refl _ W).alloc (Nat.le_refl _) _).alloc (by simp) _
  generalize ((W.alloc (.cells #[.func (.yield lo) #[] #[]] 151)).alloc (.cells #[.int .i64 0, .int .i64 0, .int .i64 0, .int .i64 0] 118)) = W2 at *
  have hCY : ∀ v, ¬ C W.heap.size (.cells v 151 (0, 0)) := fun v h => Rw_cells (by decide) (hCn _ _ (Nat.le_refl _) h)
  have hCA : ∀ v, ¬ C (W.heap.size + 1) (.cells v 118 (0, 0)) := fun v h => Rw_cells (by decide) (hCn _ _ (by omega) h)
  rintro e W3 ⟨hk3, (⟨rfl, hJ3⟩ | ⟨rfl, hJx3⟩)⟩
  · have bY3 := hk3.blk (hCY _) bY
    have bA3 := hk3.blk (hCA _) bA
    have bB3 := hk3.blk hCB (blk_below hBW hb2)
    have cB3 : W3.cell? ⟨Bb, 0, none⟩ = some (.slice A l.length c) := (blk_cell bB3 0).trans rfl
    have hz3 := hk3.size
    rw [hz] at hz3
    have hS3 : ∀ k o, W.heap[k]? = some o → ¬ C k o → W3.heap[k]? = some o := fun k o hk hC => hk3.same _ _ (blk_below hk hb2) hC
    have hr3 := keep_C hS3 hA hrW
    have hG3 : Laid W3 := keep_laid hS3 hC0 hGW
    have HA := Aside0.mk (And.intro bY3 (And.intro bA3 (And.intro hG3 (And.intro hr3 (And.intro hJ3 (And.intro hz3 hS3))))))
    clear bY3 bA3 bB3 hG3 hr3 hJ3 hk3 hr hrW hB hBW hG hGW bY bA hb2 hz3 hS3 hz
    gi_wp2_with (refine ⟨trivial, ?_⟩; gi_at_call 116; refine (callsIn_wide.2 (all_any A c l W3 HA.out.2.2.2.1)).mono ?_; rintro e w3 ⟨rfl, rfl⟩)
    obtain ⟨bY3, bA3, hG3, hr3, hJ3, hz3, hS3⟩ := HA.out
    clear HA
    have hG4 : Laid (W3.alloc (.cells #[.string (strOfNums l)] 9)) := hG3.alloc _
    have cS4 : (W3.alloc (.cells #[.string (strOfNums l)] 9)).cell? ⟨W3.heap.size, 0, none⟩ = some (.string (strOfNums l)) := (blk_cell (blk_new W3 (.cells #[.string (strOfNums l)] 9)) 0).trans rfl
    have hS4 : ∀ k o, W.heap[k]? = some o → ¬ C k o → (W3.alloc (.cells #[.string (strOfNums l)] 9)).heap[k]? = some o := fun k o hk hC => blk_alloc (hS3 k o hk hC) _
    refine wpIn_seq (T := fun o => o.isCells = false) (fun _ h => h) (by omega) (gf := 126) (lb := #[.pointer (some ⟨W3.heap.size, 0, none⟩)]) rfl (enters_of Tryd.func126 (by kernel_rfl) rfl)
      (all1_seq (strOfNums l) ?hsz _ hG4 W3.heap.size cS4) (fun k o => k = W.heap.size + 1 ∨ C k o) ?hS ?hD (Below.refl _ _) (fun _ => rfl)
      (fun pre X => J (scanE e0 pre) X ∧ (X.heap[W.heap.size]? = some (.cells #[.func (.yield lo) #[] #[]] 151 (0, 0)) ∧ (X.heap[W.heap.size + 1]? = some (.cells (aggE (pre.foldl addE e0)) 118 (0, 0)) ∧ ∀ k o, W.heap[k]? = some o → ¬ C k o → X.heap[k]? = some o)))
      (fun c pre X => c = .ret ∧ (Jx (scanE e0 pre) X ∧ ∀ k o, W.heap[k]? = some o → ¬ C k o → X.heap[k]? = some o))
      ?hI ?hIx ?h0
      (fun x a' X => ∃ Bx, X.heap[Bx]? = some (.cells #[.int .i32 x.2.1, .int .i64 x.2.2.1, .bool x.2.2.2] 121 (0, 0)) ∧ a' = { tmps := #[.func (.yield lo) #[] #[], .pointer (some ⟨Bb, 0, none⟩), .pointer (some ⟨W.heap.size, 0, none⟩), .pointer (some ⟨W.heap.size + 1, 0, none⟩), undef, .pointer (some ⟨Bx, 0, none⟩), undef, undef, .func (.yield lo) #[] #[], .agg #[.int .i64 0, .int .i64 0, .int .i64 0, .int .i64 0], .bool true, .bool false, .slice A l.length c, .func (.func 126) #[] #[.pointer (some ⟨W3.heap.size, 0, none⟩)], .int .i64 x.1, .agg #[.int .i32 x.2.1, .int .i64 x.2.2.1, .bool x.2.2.2], undef, undef, undef, undef, undef, undef, undef, undef, undef, undef, undef, undef, undef, undef, undef, undef, undef], defers := [] })
      ?hAx ?assign ?body ?done ?stop
    case hsz => rw [strOfNums_size]; exact hl
    case hS =>
      rintro k o (h | h)
      · exact .inl (by simp; omega)
      · by_cases hlt : k < W.heap.size
        · exact .inl (by simp; omega)
        · exact .inr (hCn k o (by omega) h)
    case hD =>
      rintro k (rfl | rfl)
      · refine ⟨by simp, ?_⟩
        obtain ⟨o0, ho0⟩ : ∃ o, W.heap[0]? = some o := ⟨_, Array.getElem?_eq_getElem h0W⟩
        rintro o ho (h | h)
        · omega
        · rw [hS4 0 o0 ho0 (hC0 o0 ho0)] at ho
          cases ho
          exact hC0 o0 ho0 h
      · refine ⟨by simp, ?_⟩
        rintro o ho (h | h)
        · omega
        · rw [blk_new W3 (.cells #[.string (strOfNums l)] 9)] at ho
          cases ho
          exact Rw_cells (by decide) (hCn _ _ (by omega) h)
    case hI =>
      refine OwnT.and ?_ (OwnT.and ?_ (OwnT.and ?_ ?_))
      · exact fun s X X' row hs hg hr => HH.out.2.1 (scanE e0 s) X X' row hs hg (fun r e => by obtain ⟨h1, o, h2, h3⟩ := hr r e; exact ⟨by simp at h1; omega, o, h2, .inl h3⟩)
      · exact ownT_low _ _ _ (by simp; omega) _
      · exact ownT_low _ _ _ (by simp; omega) _
      · exact fun s X X' row hs hg hr k o hk hC => ownT_low (β := Unit) (fun o => o.isCells = false) _ k (by have := (Array.getElem?_eq_some_iff.1 hk).1; simp; omega) (fun _ => o) () X X' row (hs k o hk hC) hg hr
    case hIx =>
      exact fun cc s X X' row hs hg hr => ⟨hs.1, HH.out.2.2 (scanE e0 s) X X' row hs.2.1 hg (fun r e => by obtain ⟨h1, o, h2, h3⟩ := hr r e; exact ⟨by simp at h1; omega, o, h2, .inl h3⟩), fun k o hk hC => ownT_low (β := Unit) (fun o => o.isCells = false) _ k (by have := (Array.getElem?_eq_some_iff.1 hk).1; simp; omega) (fun _ => o) () X X' row (hs.2.2 k o hk hC) hg hr⟩
    case h0 => exact ⟨HH.out.2.1.alloc _ hJ3, blk_alloc bY3 _, blk_alloc bA3 _, hS4⟩
    case hAx =>
      rintro x a' s X X' row ⟨Bx, h1, h2⟩ hg hr
      exact ⟨Bx, ownT_blk (β := Unit) (fun o => o.isCells = false) _ Bx (fun _ => .cells #[.int .i32 x.2.1, .int .i64 x.2.2.1, .bool x.2.2.2] 121 (0, 0)) (fun _ h => by cases h) () X X' row h1 hg hr, h2⟩
    case assign =>
      rintro l' pre x rest X K hxs hlt ⟨hJx, bYx, bAx, hSx⟩ hK
      dsimp only [encItem]
      gi_wp2
      exact hK _ _ (KpC.alloc _ _) ⟨HH.out.2.1.alloc _ hJx, blk_alloc bYx _, blk_alloc bAx _, fun k o hk hC => blk_alloc (hSx k o hk hC) _⟩ ⟨X.heap.size, blk_new _ _, rfl⟩
    case body =>
      rintro l' pre x rest a' X hxs hlt ⟨hJp, bYx, bAx, hSx⟩ ⟨Bx, bBx, rfl⟩
      have s0 : X.cell? ⟨Bx, 0, none⟩ = some (.int .i32 x.2.1) := (blk_cell bBx 0).trans rfl
      have s1 : X.cell? ⟨Bx, 1, none⟩ = some (.int .i64 x.2.2.1) := (blk_cell bBx 1).trans rfl
      have s2 : X.cell? ⟨Bx, 2, none⟩ = some (.bool x.2.2.2) := (blk_cell bBx 2).trans rfl
      have HB := Aside0.mk (And.intro hxs (And.intro hJp (And.intro bYx (And.intro bAx hSx))))
      clear hxs hJp bYx bAx bBx hSx hS4 hS3 hlt
      gi_wp2_with (refine ⟨trivial, ?_⟩; gi_at_call 117; refine (CallsIn.inRound l' (callsIn_wide.2 (counts_any x.2.1 x.2.2.1 x.2.2.2 X))).mono ?_; rintro e w5 ⟨rfl, hb5⟩)
      obtain ⟨hxs, hJp, bYx, bAx, hSx⟩ := HB.out
      have hJ5 := HH.out.2.1 _ X w5 none hJp (grown_of_below hb5 none) (fun r e => by cases e)
      have bY5 := blk_below bYx hb5
      have bA5 := blk_below bAx hb5
      have hS5 : ∀ k o, W.heap[k]? = some o → ¬ C k o → w5.heap[k]? = some o := fun k o hk hC => blk_below (hSx k o hk hC) hb5
      have hk5 : KpC (fun k o => k = W.heap.size + 1 ∨ C k o) X w5 := KpC.below hb5
      clear HB hJp bYx bAx hb5 s0 s1 s2 hSx
      obtain ⟨⟨p, q, r⟩, hpq⟩ : ∃ z, pre.foldl addE e0 = z := ⟨_, rfl⟩
      rw [hpq] at bA5
      simp only [aggE] at bA5
      have a0 : w5.cell? ⟨W.heap.size + 1, 0, none⟩ = some (.int .i64 0) := (blk_cell bA5 0).trans rfl
      have a1 : w5.cell? ⟨W.heap.size + 1, 1, none⟩ = some (.int .i64 p) := (blk_cell bA5 1).trans rfl
      have a2 : w5.cell? ⟨W.heap.size + 1, 2, none⟩ = some (.int .i64 q) := (blk_cell bA5 2).trans rfl
      have a3 : w5.cell? ⟨W.heap.size + 1, 3, none⟩ = some (.int .i64 r) := (blk_cell bA5 3).trans rfl
      have f0 := blk_frozen bA5 0
      have f1 := blk_frozen bA5 1
      have f2 := blk_frozen bA5 2
      have f3 := blk_frozen bA5 3
      obtain ⟨xp, xr, xw, xb⟩ := x
      dsimp only at *
      obtain ⟨rr, hrr⟩ := scanE_split e0 pre (xp, xr, xw, xb) rest
      rw [← hxs, hpq] at hrr
      have HB5 := Aside0.mk (And.intro hrr (And.intro hJ5 (And.intro bY5 (And.intro bA5 (And.intro hk5 (And.intro hS5 (And.intro hxs hpq)))))))
      clear hrr hJ5 bY5 bA5 hk5 hS5 hxs hpq
      have i0 : ∀ w, (Instr.index 118 (.agg #[.int .i64 0, .int .i64 xw, .int .i64 1, .int .i64 (lenU xr)]) (.int .i64 0)).run Tryd.prog w = .ok (.int .i64 0) w := fun _ => by kernel_rfl
      have i1 : ∀ w, (Instr.index 118 (.agg #[.int .i64 0, .int .i64 xw, .int .i64 1, .int .i64 (lenU xr)]) (.int .i64 1)).run Tryd.prog w = .ok (.int .i64 xw) w := fun _ => by kernel_rfl
      have i2 : ∀ w, (Instr.index 118 (.agg #[.int .i64 0, .int .i64 xw, .int .i64 1, .int .i64 (lenU xr)]) (.int .i64 2)).run Tryd.prog w = .ok (.int .i64 1) w := fun _ => by kernel_rfl
      have i3 : ∀ w, (Instr.index 118 (.agg #[.int .i64 0, .int .i64 xw, .int .i64 1, .int .i64 (lenU xr)]) (.int .i64 3)).run Tryd.prog w = .ok (.int .i64 (lenU xr)) w := fun _ => by kernel_rfl
      refine wpIn_loop_rounds 5 ?_
      rw [roundsIn_succ]
      gi_wp2
      rw [roundsIn_succ]
      gi_wp2
      rw [roundsIn_succ]
      gi_wp2
      rw [roundsIn_succ]
      gi_wp2
      rw [roundsIn_succ]
      clear i0 i1 i2 i3 a0 a1 a2 a3 f0 f1 f2 f3
      obtain ⟨hrr, hJ5, bY5, bA5, hk5, hS5, hxs, hpq⟩ := HB5.out
      clear HB5
      have hg9 : w5.grownBy ((((w5.setCell ⟨W.heap.size + 1, 0, none⟩ (.int .i64 0)).setCell ⟨W.heap.size + 1, 1, none⟩ (.int .i64 (wrap64 (p + xw)))).setCell ⟨W.heap.size + 1, 2, none⟩ (.int .i64 (wrap64 (q + 1)))).setCell ⟨W.heap.size + 1, 3, none⟩ (.int .i64 (wrap64 (r + lenU xr)))) (some (W.heap.size + 1)) :=
        ⟨rfl, rfl, rfl, by have h1 := (KeepsWalks.setCell w5 ⟨W.heap.size + 1, 0, none⟩ (.int .i64 0)).size; have h2 := (KeepsWalks.setCell (w5.setCell ⟨W.heap.size + 1, 0, none⟩ (.int .i64 0)) ⟨W.heap.size + 1, 1, none⟩ (.int .i64 (wrap64 (p + xw)))).size; have h3 := (KeepsWalks.setCell ((w5.setCell ⟨W.heap.size + 1, 0, none⟩ (.int .i64 0)).setCell ⟨W.heap.size + 1, 1, none⟩ (.int .i64 (wrap64 (p + xw)))) ⟨W.heap.size + 1, 2, none⟩ (.int .i64 (wrap64 (q + 1)))).size; have h4 := (KeepsWalks.setCell (((w5.setCell ⟨W.heap.size + 1, 0, none⟩ (.int .i64 0)).setCell ⟨W.heap.size + 1, 1, none⟩ (.int .i64 (wrap64 (p + xw)))).setCell ⟨W.heap.size + 1, 2, none⟩ (.int .i64 (wrap64 (q + 1)))) ⟨W.heap.size + 1, 3, none⟩ (.int .i64 (wrap64 (r + lenU xr)))).size; omega,
          fun k _ hk => by have hn : k ≠ W.heap.size + 1 := fun e => hk (by rw [e]); exact (Below.heap_setCell _ _ _ k hn).trans ((Below.heap_setCell _ _ _ k hn).trans ((Below.heap_setCell _ _ _ k hn).trans (Below.heap_setCell _ _ _ k hn)))⟩
      have bA9 : ((((w5.setCell ⟨W.heap.size + 1, 0, none⟩ (.int .i64 0)).setCell ⟨W.heap.size + 1, 1, none⟩ (.int .i64 (wrap64 (p + xw)))).setCell ⟨W.heap.size + 1, 2, none⟩ (.int .i64 (wrap64 (q + 1)))).setCell ⟨W.heap.size + 1, 3, none⟩ (.int .i64 (wrap64 (r + lenU xr)))).heap[W.heap.size + 1]? = some (.cells #[.int .i64 0, .int .i64 (wrap64 (p + xw)), .int .i64 (wrap64 (q + 1)), .int .i64 (wrap64 (r + lenU xr))] 118 (0, 0)) := by
        refine blk_put (cs := #[.int .i64 0, .int .i64 (wrap64 (p + xw)), .int .i64 (wrap64 (q + 1)), .int .i64 r]) ?_ 3 _ rfl
        refine blk_put (cs := #[.int .i64 0, .int .i64 (wrap64 (p + xw)), .int .i64 q, .int .i64 r]) ?_ 2 _ rfl
        refine blk_put (cs := #[.int .i64 0, .int .i64 p, .int .i64 q, .int .i64 r]) ?_ 1 _ rfl
        exact blk_put (cs := #[.int .i64 0, .int .i64 p, .int .i64 q, .int .i64 r]) bA5 0 _ rfl
      generalize ((((w5.setCell ⟨W.heap.size + 1, 0, none⟩ (.int .i64 0)).setCell ⟨W.heap.size + 1, 1, none⟩ (.int .i64 (wrap64 (p + xw)))).setCell ⟨W.heap.size + 1, 2, none⟩ (.int .i64 (wrap64 (q + 1)))).setCell ⟨W.heap.size + 1, 3, none⟩ (.int .i64 (wrap64 (r + lenU xr)))) = W9 at *
      have hJ9 := HH.out.2.1 (scanE e0 pre) w5 W9 _ hJ5 hg9 (fun r e => by cases e; exact ⟨by omega, _, bA5, .inr ⟨_, _, rfl⟩⟩)
      have bY9 : W9.heap[W.heap.size]? = some (.cells #[.func (.yield lo) #[] #[]] 151 (0, 0)) := (hg9.block _ (blk_lt bY5) (by simp)).trans bY5
      have hS9 : ∀ k o, W.heap[k]? = some o → ¬ C k o → W9.heap[k]? = some o := fun k o hk hC => (hg9.block _ (blk_lt (hS5 k o hk hC)) (fun e => by have := (Array.getElem?_eq_some_iff.1 hk).1; cases e; omega)).trans (hS5 k o hk hC)
      have hk9 : KpC (fun k o => k = W.heap.size + 1 ∨ C k o) X W9 := hk5.trans (KpC.grown hg9 (fun r o e _ => by cases e; exact .inl rfl))
      obtain ⟨fn', tmps', assign', body', hy, hR⟩ := HH.out.1 (scanE e0 pre) _ rr W9 hrr hJ9 17
      simp only [encEdge, addE] at hy
      have cY : W9.cell? ⟨W.heap.size, 0, none⟩ = some (.func (.yield lo) #[] #[]) := (blk_cell bY9 0).trans rfl
      have c0 : W9.cell? ⟨W.heap.size + 1, 0, none⟩ = some (.int .i64 0) := (blk_cell bA9 0).trans rfl
      have c1 : W9.cell? ⟨W.heap.size + 1, 1, none⟩ = some (.int .i64 (wrap64 (p + xw))) := (blk_cell bA9 1).trans rfl
      have c2 : W9.cell? ⟨W.heap.size + 1, 2, none⟩ = some (.int .i64 (wrap64 (q + 1))) := (blk_cell bA9 2).trans rfl
      have c3 : W9.cell? ⟨W.heap.size + 1, 3, none⟩ = some (.int .i64 (wrap64 (r + lenU xr))) := (blk_cell bA9 3).trans rfl
      have HF := Aside0.mk (And.intro bY9 (And.intro bA9 (And.intro hS9 (And.intro hk9 (And.intro hxs hpq)))))
      clear hrr hJ5 bY5 bA5 hk5 hS5 hxs hpq hg9 bA9 hJ9 bY9 hS9 hk9
      gi_wp2
      refine hR.mono ?_
      clear hR hy
      obtain ⟨bY9, bA9, hS9, hk9, hxs, hpq⟩ := HF.out
      have hSC : ∀ (k : Nat) (o : Obj), ¬ (k = W.heap.size + 1 ∨ C k o) → ¬ C k o := fun k o hk hc => hk (.inr hc)
      rintro e W' ⟨hk', (⟨rfl, hJ'⟩ | ⟨rfl, hJx'⟩)⟩
      · have hkk : KpC (fun k o => k = W.heap.size + 1 ∨ C k o) X W' := hk9.trans ⟨hk'.size, fun k o hk hn => hk'.same k o hk (hSC k o hn)⟩
        have hfin : J (scanE e0 (pre ++ [(xp, xr, xw, xb)])) W' := by rw [scanE_snoc, hpq]; exact hJ'
        have bA' := hk'.blk (hCA _) bA9
        have hA' : W'.heap[W.heap.size + 1]? = some (.cells (aggE ((pre ++ [(xp, xr, xw, xb)]).foldl addE e0)) 118 (0, 0)) := by
          rw [List.foldl_append, hpq]; exact bA'
        have HZ := Aside0.mk (And.intro hkk (And.intro hfin (And.intro (hk'.blk (hCY _) bY9) (And.intro hA' (fun k o hk hC => hk'.same k o (hS9 k o hk hC) hC)))))
        clear hkk hfin bA' hA' hk' hJ' hk9 hS9 bA9 bY9 hxs hpq HF c0 c1 c2 c3 cY
        gi_wp2
        exact HZ.out
      · have hkk : KpC (fun k o => k = W.heap.size + 1 ∨ C k o) X W' := hk9.trans ⟨hk'.size, fun k o hk hn => hk'.same k o hk (hSC k o hn)⟩
        have hfin : Jx (scanE e0 (pre ++ [(xp, xr, xw, xb)])) W' := by rw [scanE_snoc, hpq]; exact hJx'
        have HZ := Aside0.mk (And.intro hkk (And.intro hfin (fun k o hk hC => hk'.same k o (hS9 k o hk hC) hC)))
        clear hkk hfin hk' hJx' hk9 hS9 bA9 bY9 hxs hpq HF c0 c1 c2 c3 cY
        gi_wp2
        exact ⟨HZ.out.1, rfl, HZ.out.2.1, HZ.out.2.2⟩
    case done =>
      rintro D X hD _ ⟨hJf, _, _, hSf⟩ hDf
      have HZ := Aside0.mk (And.intro (show J (scanE e0 (items (strOfNums l))) (X.putObj D (.deferred none)) from HH.out.2.1.putObj (.deferred none) hJf (by simp at hD; omega) hDf (.inl rfl)) (show ∀ k o, W.heap[k]? = some o → ¬ C k o → (X.putObj D (.deferred none)).heap[k]? = some o from fun k o hk hC => (have h1 := (Array.getElem?_eq_some_iff.1 hk).1; have hne : k ≠ D := (by simp at hD; omega); (World.putObj_heap_other hne).trans (hSf k o hk hC))))
      clear hJf hSf
      gi_wp2
      refine ⟨by simp, .inl ⟨_, _, rfl, run_takeDeferred hDf, ?_⟩⟩
      exact ⟨_, results_none rfl _ _ _, ⟨_, rfl⟩, HZ.out.2, .inl HZ.out.1⟩
    case stop =>
      rintro D cc pre X hD _ hpre ⟨rfl, hJf, hSf⟩ hDf
      have HZ := Aside0.mk (And.intro (show Jx (scanE e0 pre) (X.putObj D (.deferred none)) from HH.out.2.2.putObj (.deferred none) hJf (by simp at hD; omega) hDf (.inl rfl)) (show ∀ k o, W.heap[k]? = some o → ¬ C k o → (X.putObj D (.deferred none)).heap[k]? = some o from fun k o hk hC => (have h1 := (Array.getElem?_eq_some_iff.1 hk).1; have hne : k ≠ D := (by simp at hD; omega); (World.putObj_heap_other hne).trans (hSf k o hk hC))))
      clear hJf hSf
      gi_wp2
      refine ⟨by simp, .inl ⟨_, _, rfl, run_takeDeferred hDf, ?_⟩⟩
      exact ⟨_, results_none rfl _ _ _, ⟨_, rfl⟩, HZ.out.2, .inr ⟨_, scanE_prefix e0 _ _ hpre, HZ.out.1⟩⟩
  · have hS3 : ∀ k o, W.heap[k]? = some o → ¬ C k o → W3.heap[k]? = some o := fun k o hk hC => hk3.same _ _ (blk_below hk hb2) hC
    have HS3 := Aside0.mk hS3
    clear hS3 hk3
    gi_wp2
    exact ⟨_, results_none rfl _ _ _, ⟨_, rfl⟩, HS3.out, .inr ⟨[e0], scanE_prefix e0 [] _ List.nil_prefix, hJx3⟩⟩
theorem edges_any (A : Option Addr) (c n : Nat) (w : World) :
    Calls Tryd.prog 80 #[.slice A n c] w fun e w' => e = .returned (.func (.func 115) #[] #[.pointer (some ⟨w.heap.size, 0, none⟩)]) ∧ w.alloc (.cells #[.slice A n c] 22) = w' := by
  go_enter Tryd.func80, Tryd.ntmps80
  go_wp2
  go_ret
  exact ⟨rfl, rfl⟩
end Go.Proofs.YtbomhpfckplgaaaDoor.P
namespace Go.Proofs.YtbomhpfckplgaaaDoor.P
open Go Go.RowKit Go.Shelf Go.Proofs.YtbomhpfckplgaaaDoorW.PrintWords
set_option linter.unusedVariables false
set_option maxRecDepth 100000
attribute [local go_sem] Oper.semAt_some
def pickE (e : Edge3) (r : Nat) : Int := if r = 1 then e.1 else if r = 2 then e.2.1 else e.2.2
def edgesL (l : List Int) : List Edge3 := scanE e0 (items (strOfNums l))
theorem aggE_get (e : Edge3) (r : Nat) (h1 : 1 ≤ r) (h3 : r ≤ 3) : (aggE e)[r]? = some (.int .i64 (pickE e r)) := by
  obtain rfl | rfl | rfl : r = 1 ∨ r = 2 ∨ r = 3 := by omega
  · rfl
  · rfl
  · rfl
theorem lowA {w : World} {A : Option Addr} {n : Nat} {l : List Int} (hr : Kd.C (Kd.int .u8) w A n l) (hn : 0 < n) {ad : Addr} (e : A = some ad) : ad.block < w.heap.size := by
  obtain ⟨ad', e', hc⟩ := hr.2.2 hn
  rw [e] at e'
  cases e'
  obtain ⟨c, hs, hk, hcell⟩ := hc 0 _ (List.getElem?_eq_getElem (show 0 < l.length by have := hr.1; omega))
  have hk' : c = [Value.int .u8 _] := hk
  have := World.block_lt_of_cell? w _ (hcell 0 _ (by rw [hk']; rfl))
  have hb : (ad.add (0 * (Kd.int .u8).sz + 0)).block = ad.block := by unfold Addr.add; split <;> rfl
  rwa [hb] at this
set_option maxHeartbeats 4000000 in
theorem size_any (A : Option Addr) (c : Nat) (l : List Int) (hl : l.length ≤ 140737488351232) (r : Nat) (h1 : 1 ≤ r) (h3 : r ≤ 3) (w : World) (hr : Kd.C (Kd.int .u8) w A l.length l) (hG : Laid w) :
    Calls Tryd.prog 79 #[.slice A l.length c, .int .i64 r] w fun e w' => e = .returned (.int .i64 (pickE ((edgesL l).getLast?.getD e0) r)) ∧ Below w.heap.size w w' := by
  refine (callsIn_wide (n := 30)).1 ?_
  refine callsIn_of_wp_marks Tryd.func79 rfl trivial ?_ rfl
  simp only [Tryd.ntmps79, List.size_toArray, List.length_cons, List.length_nil, Nat.reduceAdd, Nat.reduceSub, Array.replicate_succ, Array.replicate_zero, List.push_toArray, List.append_toArray, List.nil_append, List.cons_append]
  have HG := Aside0.mk hG
  have HR := Aside0.mk hr
  clear hG hr
  gi_wp2_with (refine ⟨trivial, ?_⟩; gi_at_call 80; refine (callsIn_wide.2 (edges_any A c l.length _)).mono ?_; rintro e w3 ⟨rfl, rfl⟩)
  have bR : (((w.alloc (.cells #[.int .i64 r] 28)).alloc (.cells #[.int .i64 0] 3)).alloc (.cells #[.slice A l.length c] 22)).heap[w.heap.size]? = some (.cells #[.int .i64 r] 28 (0, 0)) := blk_alloc (blk_alloc (blk_new w _) _) _
  have bN : (((w.alloc (.cells #[.int .i64 r] 28)).alloc (.cells #[.int .i64 0] 3)).alloc (.cells #[.slice A l.length c] 22)).heap[w.heap.size + 1]? = some (.cells #[.int .i64 0] 3 (0, 0)) := by
    have h_ := blk_alloc (blk_new (w.alloc (.cells #[.int .i64 r] 28)) (.cells #[.int .i64 0] 3)) (.cells #[.slice A l.length c] 22)
    rw [World.size_alloc] at h_
    exact h_
  have bB : (((w.alloc (.cells #[.int .i64 r] 28)).alloc (.cells #[.int .i64 0] 3)).alloc (.cells #[.slice A l.length c] 22)).heap[w.heap.size + 1 + 1]? = some (.cells #[.slice A l.length c] 22 (0, 0)) := by
    have h_ := blk_new ((w.alloc (.cells #[.int .i64 r] 28)).alloc (.cells #[.int .i64 0] 3)) (.cells #[.slice A l.length c] 22)
    rw [World.size_alloc, World.size_alloc] at h_
    exact h_
  have hb : Below w.heap.size w (((w.alloc (.cells #[.int .i64 r] 28)).alloc (.cells #[.int .i64 0] 3)).alloc (.cells #[.slice A l.length c] 22)) := (((Below.refl _ w).alloc (Nat.le_refl _) _).alloc (by simp) _).alloc (by simp; omega) _
  have hz : (((w.alloc (.cells #[.int .i64 r] 28)).alloc (.cells #[.int .i64 0] 3)).alloc (.cells #[.slice A l.length c] 22)).heap.size = w.heap.size + 3 := by simp
  generalize (((w.alloc (.cells #[.int .i64 r] 28)).alloc (.cells #[.int .i64 0] 3)).alloc (.cells #[.slice A l.length c] 22)) = W0 at *
  refine wpIn_seq (T := T118) (fun _ h => .inl h) (by omega) (gf := 115) (lb := #[.pointer (some ⟨w.heap.size + 1 + 1, 0, none⟩)]) rfl (enters_of Tryd.func115 (by kernel_rfl) rfl)
    (edges1_seq A c l hl W0 (HG.out.below hb) (w.heap.size + 1 + 1) bB (Kd.C_below HR.out hb)) (fun k _ => k = w.heap.size + 1) ?hS ?hD (Below.refl _ _) (fun _ => rfl)
    (fun pre X => X.heap[w.heap.size]? = some (.cells #[.int .i64 r] 28 (0, 0)) ∧ (X.heap[w.heap.size + 1]? = some (.cells #[.int .i64 (if pre = [] then 0 else pickE (pre.getLast?.getD e0) r)] 3 (0, 0)) ∧ Below w.heap.size w X))
    (fun _ _ _ => False)
    (OwnT.and (ownT_low _ _ _ (by omega) _) (OwnT.and (ownT_low _ _ _ (by omega) _) (ownT_below _ (Nat.le_refl _) (by omega)))) (fun _ _ _ _ _ h _ _ => h) ⟨bR, bN, hb⟩
    (fun x a' X => ∃ Bx, X.heap[Bx]? = some (.cells (aggE x) 118 (0, 0)) ∧ a' = { tmps := #[.slice A l.length c, .int .i64 r, undef, .pointer (some ⟨w.heap.size, 0, none⟩), .int .i64 0, .pointer (some ⟨w.heap.size + 1, 0, none⟩), .pointer (some ⟨Bx, 0, none⟩), .slice A l.length c, .func (.func 115) #[] #[.pointer (some ⟨w.heap.size + 1 + 1, 0, none⟩)], .agg (aggE x), undef, undef, undef, undef], defers := [] })
    ?hAx ?assign ?body ?done ?stop
  case hS => rintro k o rfl; exact .inl (by omega)
  case hD =>
    rintro k (rfl | rfl | ⟨hn, ad, e, rfl⟩)
    · exact ⟨by omega, fun _ _ => by omega⟩
    · exact ⟨by omega, fun _ _ => by omega⟩
    · have := lowA HR.out hn e
      exact ⟨by omega, fun _ _ => by omega⟩
  case hAx =>
    rintro x a' s X X' row ⟨Bx, h1, h2⟩ hg hr
    exact ⟨Bx, ownT_blk (β := Unit) (fun o => o.isCells = false) _ Bx (fun _ => .cells (aggE x) 118 (0, 0)) (fun _ h => by cases h) () X X' row h1 hg hr, h2⟩
  case assign =>
    rintro l' pre x rest X K hxs hlt ⟨hR1, hN1, hB1⟩ hK
    dsimp only [encEdge]
    clear bR bN bB
    gi_wp2
    exact hK _ _ (KpC.alloc _ _) ⟨blk_alloc hR1 _, blk_alloc hN1 _, hB1.alloc hB1.size _⟩ ⟨X.heap.size, blk_new _ _, rfl⟩
  case body =>
    rintro l' pre x rest a' X hxs hlt ⟨hR1, hN1, hB1⟩ ⟨Bx, bBx, rfl⟩
    have cR : X.cell? ⟨w.heap.size, 0, none⟩ = some (.int .i64 r) := (blk_cell hR1 0).trans rfl
    have cX : X.cell? ⟨Bx, r, none⟩ = some (.int .i64 (pickE x r)) := (blk_cell bBx r).trans (aggE_get x r h1 h3)
    have cN := (blk_cell hN1 0).trans rfl
    have fN := blk_frozen hN1 0
    have HN := Aside0.mk (And.intro hR1 (And.intro hN1 hB1))
    clear hR1 hN1 hB1 bBx bR bN bB hxs
    gi_wp2
    obtain ⟨hR1, hN1, hB1⟩ := HN.out
    refine ⟨KpC.setCell _ _ _ (fun _ => rfl), ?_, ?_, ?_⟩
    · exact (Below.heap_setCell _ _ _ _ (by simp)).trans hR1
    · rw [if_neg (by simp)]
      exact blk_put (cs := #[_]) hN1 0 _ (by simp)
    · exact hB1.setCell (by simp) _
  case done =>
    rintro D X hD _ ⟨hR1, hN1, hB1⟩ hDf
    obtain ⟨q, hq⟩ := scanE_cons e0 (items (strOfNums l))
    have hne : scanE e0 (items (strOfNums l)) ≠ [] := by rw [hq]; simp
    rw [if_neg hne] at hN1
    have cN := (blk_cell hN1 0).trans rfl
    have HN := Aside0.mk (And.intro hR1 (And.intro hN1 hB1))
    clear hR1 hN1 hB1 bR bN bB hne hq
    gi_wp2
    refine ⟨by simp, .inl ⟨_, _, rfl, run_takeDeferred hDf, ?_⟩⟩
    exact ⟨_, results_tmp rfl _ _ _, rfl, HN.out.2.2.trans (belowK_b (w := w) (Nat.le_refl _) X D _ _ (by omega) hDf rfl rfl)⟩
  case stop =>
    rintro D cc pre X hD _ hpre h hDf
    exact h.elim
def rule_size.f (l0 : List Int) (a1 : Int) : Option (Int) := if l0.length ≤ 140737488351232 then (if 1 ≤ a1 ∧ a1 ≤ 3 then some (pickE ((edgesL l0).getLast?.getD e0) a1.toNat) else none) else none
theorem rule_size.calls (A0 : Option Addr) (c0 : Nat) (l0 : List Int) (a1 : Int) (r : Int) (w : World) (hr0 : Kd.C (Kd.int .u8) w A0 l0.length l0) (hc0 : l0.length ≤ c0) (hG : Laid w) (h : rule_size.f l0 a1 = some r) :
    Calls Tryd.prog 79 #[.slice A0 l0.length c0, .int .i64 a1] w fun e w' => e = .returned (.int .i64 r) ∧ Below w.heap.size w w' := by
  unfold rule_size.f at h
  by_cases h1 : l0.length ≤ 140737488351232
  · rw [if_pos h1] at h
    by_cases h2 : 1 ≤ a1 ∧ a1 ≤ 3
    · rw [if_pos h2] at h
      obtain rfl := Option.some.inj h
      obtain ⟨n, rfl⟩ : ∃ n : Nat, a1 = n := ⟨a1.toNat, by omega⟩
      exact size_any A0 c0 l0 h1 n (by omega) (by omega) w hr0 hG
    · rw [if_neg h2] at h; cases h
  · rw [if_neg h1] at h; cases h
end Go.Proofs.YtbomhpfckplgaaaDoor.P
namespace Go.Proofs.YtbomhpfckplgaaaDoor.P
open Go Go.RowKit Go.Shelf Go.Proofs.YtbomhpfckplgaaaDoorW.PrintWords Go.Proofs.YtbomhpfckplgaaaDoorW.PrintLast Go.Proofs.YtbomhpfckplgaaaDoorW.PrintMore
set_option linter.unusedVariables false
def noDefer (ops : Array Oper) : Bool := ops.all fun o => match o.op with
  | .defer _ => false
  | _ => true
theorem noDefer_at {ops : Array Oper} (h : noDefer ops = true) {i : Nat} {o : Oper} (hi : ops[i]? = some o) (c : Call) : o.op ≠ .defer c := by
  intro e
  obtain ⟨hlt, rfl⟩ := Array.getElem?_eq_some_iff.1 hi
  have := (Array.all_eq_true.1 h) i hlt
  rw [e] at this
  cases this
theorem rowsIn_wide {n : Nat} {P : Program} {row : String} {args : Array Value} {w : World} {R : Value → World → Prop} (h : Rows P row args w R) : RowsIn Fence.wide n P row args w R :=
  fun c cs _ => let ⟨v, w', r, s⟩ := h c cs; ⟨v, w', r, stepsIn_wide.2 s⟩
section
variable {P : Program} {ops : Array Oper} {Q : Exit → Act → World → Prop} {md : Region.Mode} {l n : Nat}
theorem operIn_wide {o : Oper} (hd : ∀ c, o.op ≠ .defer c) {a : Act} {w : World} {K : Act → World → Prop} (hl : ¬ LetsOut Q) (h : o.wp P a w K Q) : o.wpIn (Fence.wide.inRound l) n P a w K Q := by
  unfold Oper.wp at h
  refine ⟨fun _ _ => trivial, ?_⟩
  rw [Oper.semAt_eq _ _ _ hd]
  generalize (execOp a.eval o).run P w = r at *
  cases r with
  | ok x w' =>
    cases x
    case value => exact h
    case skip => exact h
    case defer => exact h
    case enter f args =>
      rw [Oper.upon_enter] at h
      rw [Oper.uponIn_enter]
      refine And.intro (fun hh => by cases hh) ((CallsIn.inRound l (callsIn_wide.2 h)).mono ?_)
      rintro e w'' he
      cases e <;> exact he
    case row f args =>
      rw [Oper.upon_row] at h
      rw [Oper.uponIn_row]
      exact And.intro (fun hh => by cases hh) (rowsIn_wide h)
    all_goals exact h.elim
  | halt x w' => cases x <;> simp only [Oper.upon, Oper.uponIn] at h ⊢ <;> exact h
theorem wpOpIn_wide (hn : noDefer ops = true) (hl : ¬ LetsOut Q) {i : Nat} {K K' : Act → World → Prop} (hK : ∀ a w, K a w → K' a w) {a : Act} {w : World} (h : wpOp P ops Q i K a w) : wpOpIn (Fence.wide.inRound l) n P ops Q i K' a w := by
  unfold wpOp at h
  unfold Go.wpOpIn
  cases ho : ops[i]? with
  | none => simp only [ho] at h; exact hK _ _ h
  | some o =>
    simp only [ho] at h ⊢
    split
    · rename_i hw
      simp only [hw, if_true] at h
      rcases h with h | ⟨_, h⟩
      · exact Oper.wpIn_mono hK (operIn_wide (noDefer_at hn ho) hl h)
      · exact absurd h hl
    · rename_i hw
      simp only [hw] at h
      exact ⟨fun _ _ => trivial, hK _ _ h⟩
theorem wpAnyIn_wide (hn : noDefer ops = true) (hl : ¬ LetsOut Q) : ∀ (fuel : Nat) (listed : Array Bool) (a : Act) (w : World), wpAny P md ops Q fuel listed a w → wpAnyIn (Fence.wide.inRound l) n P md ops Q fuel listed a w
  | 0, _, _, _, h => h
  | fuel + 1, _, _, _, h => ⟨h.1, fun i hi => wpOpIn_wide hn hl (fun a w h => wpAnyIn_wide hn hl fuel _ a w h) (h.2 i hi)⟩
theorem wpIn_of_any {id : Nat} {a : Act} {w : World} {Q' : Exit → Act → World → Prop} (hm : P.follows .mixedOrders = true) (hn : noDefer ops = true) (hl : ¬ LetsOut Q) (hQ : ∀ e a w, Q e a w → Q' e a w)
    (h : wpAny P .any ops Q ops.size (Array.replicate ops.size false) a w.drew) : (Code.region id ops true).wpIn (Fence.wide.inRound l) n P Q' a w :=
  Go.wpIn_mono (wpIn_region_any hm (wpAnyIn_wide hn hl _ _ _ _ h)) hQ
def onlyN (Q : Exit → Act → World → Prop) : Exit → Act → World → Prop
  | .normal, a, w => Q .normal a w
  | _, _, _ => False
theorem startIn_ {id cnt : Nat} {S : World → Prop} {ds : List Nat} {a : Act} {w : World} (l0 : Array Bool) (hm : P.follows .mixedOrders = true) (hnd : noDefer ops = true) (hn : ops.size = cnt) (hl : Array.replicate cnt false = l0) (hS : S w.drew)
    (h : S w.drew → wpAnyLast P .any ops (onlyN Q) S ds cnt l0 a w.drew) : (Code.region id ops true).wpIn (Fence.wide.inRound l) n P Q a w := by
  subst hn
  subst hl
  refine wpIn_of_any (Q := onlyN Q) hm hnd ?_ ?_ (wpAny_of_last _ _ _ _ (h hS))
  · rintro ⟨_, _, h⟩
    exact h
  · intro e a w h
    cases e <;> first | exact h | exact h.elim
end
end Go.Proofs.YtbomhpfckplgaaaDoor.P
namespace Go.Proofs.YtbomhpfckplgaaaDoor.P
open Go.RowKit Go.Proofs.YtbomhpfckplgaaaDoorW.PrintWords Go.Proofs.YtbomhpfckplgaaaDoorW.PrintLast Go.Proofs.YtbomhpfckplgaaaDoorW.PrintMore
attribute [local go_sem] max2_int min2_int max_two min_two max_three min_three max_four min_four   -- for this text's walks alone
set_option linter.unusedVariables false
set_option linter.unusedSimpArgs false
def rule_ruler.f (a0 : Int) : Option (Bool) := if a0 ≥ 1 then (some (decide (a0 ≤ 3))) else (some false)
set_option maxHeartbeats 8000000 in
set_option maxRecDepth 100000 in
theorem rule_ruler.calls (a0 : Int) (r : Bool) (w : World) (h : rule_ruler.f a0 = some r) :
  Calls Tryd.prog 78 #[.int .i64 a0] w fun e w' => e = .returned (.bool r) ∧ Drawn0 w w' := by
 have H : (if a0 ≥ 1 then (some (decide (a0 ≤ 3))) else (some false)) = some r := h
 clear h
 by_cases c2 : a0 ≥ 1
 ·
  rw [if_pos c2] at H
  have c2b0 : decide (1 ≤ a0) = true := decide_eq_true c2
  clear c2
  obtain rfl := Option.some.inj H
  go_enter Tryd.func78, Tryd.ntmps78
  go_wp2
  go_ret
  exact ⟨by first | rfl | (simp; done) | (simp [*]; done), by repeat (first | exact Drawn0.refl _ | apply Drawn0.step)⟩
 ·
  rw [if_neg c2] at H
  have c2b0 : decide (1 ≤ a0) = false := decide_eq_false c2
  clear c2
  obtain rfl := Option.some.inj H
  go_enter Tryd.func78, Tryd.ntmps78
  go_wp2
  go_ret
  exact ⟨by first | rfl | (simp; done) | (simp [*]; done), by repeat (first | exact Drawn0.refl _ | apply Drawn0.step)⟩
def galleyref01_SameInts.l0 : Nat → List Int → List Int → Int → Option (Bool)
 | 0, _, _, _ => none
 | k + 1, x0, x1, x5 => if x5 < (x0.length : Int) then (if 0 ≤ x5 then (if x5 < (x1.length : Int) then (if (rd x0 x5) = (rd x1 x5) then (galleyref01_SameInts.l0 k x0 x1 (wrap64 (x5 + 1))) else (some false)) else (none)) else (none)) else (some true)
def galleyref01_SameInts.f (k : Nat) (l0 : List Int) (l1 : List Int) : Option (Bool) := if (l0.length : Int) = (l1.length : Int) then (galleyref01_SameInts.l0 k l0 l1 0) else (some false)
set_option maxHeartbeats 8000000 in
set_option maxRecDepth 100000 in
theorem galleyref01_SameInts.calls (k : Nat) (A0 : Option Addr) (c0 : Nat) (l0 : List Int) (A1 : Option Addr) (c1 : Nat) (l1 : List Int) (r : Bool) (w : World) (hr0 : Kd.C (Kd.int .i64) w A0 l0.length l0) (hc0 : l0.length ≤ c0) (hr1 : Kd.C (Kd.int .i64) w A1 l1.length l1) (hc1 : l1.length ≤ c1) (h : galleyref01_SameInts.f k l0 l1 = some r) :
  Calls Tryd.prog 35 #[.slice A0 l0.length c0, .slice A1 l1.length c1] w fun e w' => e = .returned (.bool r) ∧ Drawn0 w w' := by
 have HR0 := Aside0.mk hr0
 have HC0 := Aside0.mk hc0
 clear hr0 hc0
 have HR1 := Aside0.mk hr1
 have HC1 := Aside0.mk hc1
 clear hr1 hc1
 have H : (if (l0.length : Int) = (l1.length : Int) then (galleyref01_SameInts.l0 k l0 l1 0) else (some false)) = some r := h
 clear h
 by_cases c3 : (l0.length : Int) = (l1.length : Int)
 ·
  rw [if_pos c3] at H
  have c3b0 : ((l0.length : Int) == (l1.length : Int)) = true := beq_iff_eq.mpr c3
  have c3b1 : ((l0.length : Int) != (l1.length : Int)) = false := bne_eq_false_iff_eq.mpr c3
  have c3b2 : (l0.length == l1.length) = true := by first | simpa using c3 | (simp at c3 ⊢; omega)
  clear c3
  have H' := Aside0.mk H
  clear H
  go_enter Tryd.func35, Tryd.ntmps35
  go_wp2
  repeat (go_quiet (fail); try go_wp2)
  go_loopg [5] k (fun kq v5 w' => ∃ (x5_1 : Int), v5 = .int .i64 x5_1 ∧ Aside0 (galleyref01_SameInts.l0 kq l0 l1 x5_1 = some r) ∧ Aside0 (kq ≤ k) ∧ Drawn0 w w')
  case atStart => exact ⟨(0), (by first | rfl | (simp; done) | (simp [*]; done)), H', ⟨Nat.le_refl _⟩, by repeat (first | exact Drawn0.refl _ | apply Drawn0.step)⟩
  case round =>
   clear H'
   (try clear c1); (try clear p2); (try clear c3); (try clear c3b0); (try clear c3b1); (try clear c3b2)
   obtain ⟨x5_1, rfl, HA, HK1, ⟨m1, rfl⟩⟩ := hrel
   cases gk with
   | zero => exact absurd HA.out (by simp [galleyref01_SameInts.l0])
   | succ k1 =>
    have H := HA.out
    clear HA
    simp only [galleyref01_SameInts.l0] at H
    by_cases c4 : x5_1 < (l0.length : Int)
    ·
     rw [if_pos c4] at H
     have c4b0 : decide (x5_1 < (l0.length : Int)) = true := decide_eq_true c4
     clear c4
     by_cases c5 : 0 ≤ x5_1
     ·
      rw [if_pos c5] at H
      have c5b0 : decide (0 ≤ x5_1) = true := decide_eq_true c5
      clear c5
      by_cases c6 : x5_1 < (l1.length : Int)
      ·
       rw [if_pos c6] at H
       have c6b0 : decide (x5_1 < (l1.length : Int)) = true := decide_eq_true c6
       clear c6
       by_cases c7 : (rd l0 x5_1) = (rd l1 x5_1)
       ·
        rw [if_pos c7] at H
        have c7b0 : ((rd l0 x5_1) == (rd l1 x5_1)) = true := beq_iff_eq.mpr c7
        have c7b1 : ((rd l0 x5_1) != (rd l1 x5_1)) = false := bne_eq_false_iff_eq.mpr c7
        clear c7
        have H' := Aside0.mk H
        clear H
        have p105 : 0 ≤ (x5_1 : Int) := of_decide_eq_true (by first | (with_reducible assumption) | assumption)
        have q105 : x5_1 < (l0.length : Int) := of_decide_eq_true (by first | (with_reducible assumption) | assumption)
        obtain ⟨ad105, e105, hx105_0⟩ := Kd.at_int HR0.out x5_1 p105 q105
        cases e105
        replace p105 := eq_true p105
        replace q105 := eq_true q105
        have p106 : 0 ≤ (x5_1 : Int) := of_decide_eq_true (by first | (with_reducible assumption) | assumption)
        have q106 : x5_1 < (l1.length : Int) := of_decide_eq_true (by first | (with_reducible assumption) | assumption)
        obtain ⟨ad106, e106, hx106_0⟩ := Kd.at_int HR1.out x5_1 p106 q106
        cases e106
        replace p106 := eq_true p106
        replace q106 := eq_true q106
        go_wp2
        repeat (go_quiet (fail); try go_wp2)
        go_roundg k1
        case measure => have := HK1.out; omega
        case rel => exact ⟨(wrap64 (x5_1 + 1)), (by first | rfl | (simp; done) | (simp [*]; done)), H', ⟨by have := HK1.out; omega⟩, by repeat (first | exact Drawn0.refl _ | apply Drawn0.step)⟩
       ·
        rw [if_neg c7] at H
        have c7b0 : ((rd l0 x5_1) == (rd l1 x5_1)) = false := beq_eq_false_iff_ne.mpr c7
        have c7b1 : ((rd l0 x5_1) != (rd l1 x5_1)) = true := bne_iff_ne.mpr c7
        obtain rfl := Option.some.inj H
        have p105 : 0 ≤ (x5_1 : Int) := of_decide_eq_true (by first | (with_reducible assumption) | assumption)
        have q105 : x5_1 < (l0.length : Int) := of_decide_eq_true (by first | (with_reducible assumption) | assumption)
        obtain ⟨ad105, e105, hx105_0⟩ := Kd.at_int HR0.out x5_1 p105 q105
        cases e105
        replace p105 := eq_true p105
        replace q105 := eq_true q105
        have p106 : 0 ≤ (x5_1 : Int) := of_decide_eq_true (by first | (with_reducible assumption) | assumption)
        have q106 : x5_1 < (l1.length : Int) := of_decide_eq_true (by first | (with_reducible assumption) | assumption)
        obtain ⟨ad106, e106, hx106_0⟩ := Kd.at_int HR1.out x5_1 p106 q106
        cases e106
        replace p106 := eq_true p106
        replace q106 := eq_true q106
        go_wp2
        repeat (go_quiet (fail); try go_wp2)
        go_ret
        exact ⟨by first | rfl | (simp; done) | (simp [*]; done), by repeat (first | exact Drawn0.refl _ | apply Drawn0.step)⟩
      ·
       rw [if_neg c6] at H
       exact absurd H (by simp)
     ·
      rw [if_neg c5] at H
      exact absurd H (by simp)
    ·
     rw [if_neg c4] at H
     have c4b0 : decide (x5_1 < (l0.length : Int)) = false := decide_eq_false c4
     clear c4
     obtain rfl := Option.some.inj H
     go_wp2
     repeat (go_quiet (fail); try go_wp2)
     go_ret
     exact ⟨by first | rfl | (simp; done) | (simp [*]; done), by repeat (first | exact Drawn0.refl _ | apply Drawn0.step)⟩
 ·
  rw [if_neg c3] at H
  have c3b0 : ((l0.length : Int) == (l1.length : Int)) = false := beq_eq_false_iff_ne.mpr c3
  have c3b1 : ((l0.length : Int) != (l1.length : Int)) = true := bne_iff_ne.mpr c3
  have c3b2 : (l0.length == l1.length) = false := by first | simpa using c3 | (simp at c3 ⊢; omega)
  obtain rfl := Option.some.inj H
  go_enter Tryd.func35, Tryd.ntmps35
  go_wp2
  repeat (go_quiet (fail); try go_wp2)
  go_ret
  exact ⟨by first | rfl | (simp; done) | (simp [*]; done), by repeat (first | exact Drawn0.refl _ | apply Drawn0.step)⟩
def rule_mode.f (a0 : Int) : Option (Bool) := if a0 ≥ 1 then (some (decide (a0 ≤ 3))) else (some false)
set_option maxHeartbeats 8000000 in
set_option maxRecDepth 100000 in
theorem rule_mode.calls (a0 : Int) (r : Bool) (w : World) (h : rule_mode.f a0 = some r) :
  Calls Tryd.prog 82 #[.int .i64 a0] w fun e w' => e = .returned (.bool r) ∧ Drawn0 w w' := by
 have H : (if a0 ≥ 1 then (some (decide (a0 ≤ 3))) else (some false)) = some r := h
 clear h
 by_cases c2 : a0 ≥ 1
 ·
  rw [if_pos c2] at H
  have c2b0 : decide (1 ≤ a0) = true := decide_eq_true c2
  clear c2
  obtain rfl := Option.some.inj H
  go_enter Tryd.func82, Tryd.ntmps82
  go_wp2
  go_ret
  exact ⟨by first | rfl | (simp; done) | (simp [*]; done), by repeat (first | exact Drawn0.refl _ | apply Drawn0.step)⟩
 ·
  rw [if_neg c2] at H
  have c2b0 : decide (1 ≤ a0) = false := decide_eq_false c2
  clear c2
  obtain rfl := Option.some.inj H
  go_enter Tryd.func82, Tryd.ntmps82
  go_wp2
  go_ret
  exact ⟨by first | rfl | (simp; done) | (simp [*]; done), by repeat (first | exact Drawn0.refl _ | apply Drawn0.step)⟩
end Go.Proofs.YtbomhpfckplgaaaDoor.P
namespace Go.Proofs.YtbomhpfckplgaaaDoor.P
open Go.RowKit Go.Proofs.YtbomhpfckplgaaaDoorW.PrintWords Go.Proofs.YtbomhpfckplgaaaDoorW.PrintLast Go.Proofs.YtbomhpfckplgaaaDoorW.PrintMore
attribute [local go_sem] max2_int min2_int max_two min_two max_three min_three max_four min_four   -- for this text's walks alone
set_option linter.unusedVariables false
set_option linter.unusedSimpArgs false
def lines_holds.l0 : Nat → List (S144) → Int → Int → Int → Int → Option (Int)
 | 0, _, _, _, _, _ => none
 | k + 1, x0, x1, x5, x8, x9 => if x9 < x8 then (if 0 ≤ x9 then (if x9 < (x0.length : Int) then (if ((rd_T144 x0 x9).f0) > x1 then (some x5) else (lines_holds.l0 k x0 x1 x9 x8 (wrap64 (x9 + 1)))) else (none)) else (none)) else (some x5)
def lines_holds.f (k : Nat) (l0 : List (S144)) (a1 : Int) : Option (Int) := lines_holds.l0 k l0 a1 0 (l0.length : Int) 0
set_option maxHeartbeats 8000000 in
set_option maxRecDepth 100000 in
theorem lines_holds.calls (k : Nat) (A0 : Option Addr) (c0 : Nat) (l0 : List (S144)) (a1 : Int) (r : Int) (w : World) (hr0 : Kd.C k144 w A0 l0.length l0) (hc0 : l0.length ≤ c0) (h : lines_holds.f k l0 a1 = some r) :
  Calls Tryd.prog 106 #[.slice A0 l0.length c0, .int .i64 a1] w fun e w' => e = .returned (.int .i64 r) ∧ Drawn0 w w' := by
 have HR0 := Aside0.mk hr0
 have HC0 := Aside0.mk hc0
 clear hr0 hc0
 have H : (lines_holds.l0 k l0 a1 0 (l0.length : Int) 0) = some r := h
 clear h
 have H' := Aside0.mk H
 clear H
 go_enter Tryd.func106, Tryd.ntmps106
 go_wp2
 go_loopg [5, 9] k (fun kq v5 v9 w' => ∃ (x5_1 : Int) (x9_1 : Int), v5 = .int .i64 x5_1 ∧ v9 = .int .i64 x9_1 ∧ Aside0 (lines_holds.l0 kq l0 a1 x5_1 (l0.length : Int) x9_1 = some r) ∧ Aside0 (kq ≤ k) ∧ Drawn0 w w')
 case atStart => exact ⟨(0), (0), (by first | rfl | (simp; done) | (simp [*]; done)), (by first | rfl | (simp; done) | (simp [*]; done)), H', ⟨Nat.le_refl _⟩, by repeat (first | exact Drawn0.refl _ | apply Drawn0.step)⟩
 case round =>
  clear H'
  (try clear c1); (try clear p2)
  obtain ⟨x5_1, x9_1, rfl, rfl, HA, HK1, ⟨m1, rfl⟩⟩ := hrel
  cases gk with
  | zero => exact absurd HA.out (by simp [lines_holds.l0])
  | succ k1 =>
   have H := HA.out
   clear HA
   simp only [lines_holds.l0] at H
   by_cases c3 : x9_1 < (l0.length : Int)
   ·
    rw [if_pos c3] at H
    have c3b0 : decide (x9_1 < (l0.length : Int)) = true := decide_eq_true c3
    clear c3
    by_cases c4 : 0 ≤ x9_1
    ·
     rw [if_pos c4] at H
     have c4b0 : decide (0 ≤ x9_1) = true := decide_eq_true c4
     clear c4
     by_cases c5 : x9_1 < (l0.length : Int)
     ·
      rw [if_pos c5] at H
      have c5b0 : decide (x9_1 < (l0.length : Int)) = true := decide_eq_true c5
      clear c5
      by_cases c6 : ((rd_T144 l0 x9_1).f0) > a1
      ·
       rw [if_pos c6] at H
       have c6b0 : decide (a1 < ((rd_T144 l0 x9_1).f0)) = true := decide_eq_true c6
       clear c6
       obtain rfl := Option.some.inj H
       have p739 : 0 ≤ (x9_1 : Int) := of_decide_eq_true (by first | (with_reducible assumption) | assumption)
       have q739 : x9_1 < (l0.length : Int) := of_decide_eq_true (by first | (with_reducible assumption) | assumption)
       obtain ⟨ad739, e739, hx739_0, hx739_1, hx739_2, hx739_3⟩ := at_T144 HR0.out x9_1 p739 q739
       cases e739
       replace p739 := eq_true p739
       replace q739 := eq_true q739
       go_wp2
       go_ret
       exact ⟨by first | rfl | (simp; done) | (simp [*]; done), by repeat (first | exact Drawn0.refl _ | apply Drawn0.step)⟩
      ·
       rw [if_neg c6] at H
       have c6b0 : decide (a1 < ((rd_T144 l0 x9_1).f0)) = false := decide_eq_false c6
       clear c6
       have H' := Aside0.mk H
       clear H
       have p739 : 0 ≤ (x9_1 : Int) := of_decide_eq_true (by first | (with_reducible assumption) | assumption)
       have q739 : x9_1 < (l0.length : Int) := of_decide_eq_true (by first | (with_reducible assumption) | assumption)
       obtain ⟨ad739, e739, hx739_0, hx739_1, hx739_2, hx739_3⟩ := at_T144 HR0.out x9_1 p739 q739
       cases e739
       replace p739 := eq_true p739
       replace q739 := eq_true q739
       go_wp2
       go_roundg k1
       case measure => have := HK1.out; omega
       case rel => exact ⟨(x9_1), (wrap64 (x9_1 + 1)), (by first | rfl | (simp; done) | (simp [*]; done)), (by first | rfl | (simp; done) | (simp [*]; done)), H', ⟨by have := HK1.out; omega⟩, by repeat (first | exact Drawn0.refl _ | apply Drawn0.step)⟩
     ·
      rw [if_neg c5] at H
      exact absurd H (by simp)
    ·
     rw [if_neg c4] at H
     exact absurd H (by simp)
   ·
    rw [if_neg c3] at H
    have c3b0 : decide (x9_1 < (l0.length : Int)) = false := decide_eq_false c3
    clear c3
    obtain rfl := Option.some.inj H
    go_wp2
    go_ret
    exact ⟨by first | rfl | (simp; done) | (simp [*]; done), by repeat (first | exact Drawn0.refl _ | apply Drawn0.step)⟩
def galleylaw07_Large.f (l0 : List Int) : Option (Bool) := some (decide ((l0.length : Int) > 600))
set_option maxHeartbeats 8000000 in
set_option maxRecDepth 100000 in
theorem galleylaw07_Large.calls (A0 : Option Addr) (c0 : Nat) (l0 : List Int) (r : Bool) (w : World) (hr0 : Kd.C (Kd.int .u8) w A0 l0.length l0) (hc0 : l0.length ≤ c0) (h : galleylaw07_Large.f l0 = some r) :
  Calls Tryd.prog 57 #[.slice A0 l0.length c0] w fun e w' => e = .returned (.bool r) ∧ Drawn0 w w' := by
 have HR0 := Aside0.mk hr0
 have HC0 := Aside0.mk hc0
 clear hr0 hc0
 have H : (some (decide ((l0.length : Int) > 600))) = some r := h
 clear h
 obtain rfl := Option.some.inj H
 go_enter Tryd.func57, Tryd.ntmps57
 go_wp2
 go_ret
 exact ⟨by first | rfl | (simp; done) | (simp [*]; done), by repeat (first | exact Drawn0.refl _ | apply Drawn0.step)⟩
def galleylaw07_own.f (l0 : List Int) : Option (List Int) := (some (([] : List Int) : List Int)).bind fun y779 => (if y779.length + l0.length < 140737488355328 then (some (y779 ++ l0)) else (none))
set_option maxHeartbeats 8000000 in
set_option maxRecDepth 100000 in
theorem galleylaw07_own.calls (A0 : Option Addr) (c0 : Nat) (l0 : List Int) (r : List Int) (w : World) (hr0 : Kd.C (Kd.int .u8) w A0 l0.length l0) (hc0 : l0.length ≤ c0) (h : galleylaw07_own.f l0 = some r) :
  Calls Tryd.prog 59 #[.slice A0 l0.length c0] w fun e w' => ∃ v0_ : Value, e = .returned (v0_) ∧ Kd.R (Kd.int .u8) 5 w' w.heap.size (fun _ => True) v0_ r ∧ Below w.heap.size w w' := by
 have HR0 := Aside0.mk hr0
 have HC0 := Aside0.mk hc0
 clear hr0 hc0
 have HB := Aside0.mk (Below.refl w.heap.size w)
 have H : ((some (([] : List Int) : List Int)).bind fun y779 => (if y779.length + l0.length < 140737488355328 then (some (y779 ++ l0)) else (none))) = some r := h
 clear h
 obtain ⟨y779, hy779⟩ : ∃ y_ : List Int, y_ = (([] : List Int)) := ⟨_, rfl⟩
 replace H : (if y779.length + l0.length < 140737488355328 then (some (y779 ++ l0)) else (none)) = some r := by first | (rw [hy779]; with_reducible exact H) | (have H2_ := (Option.bind_some _ _).symm.trans H; rw [hy779]; with_reducible exact H2_) | (have H2_ := (Option.bind_some _ _).symm.trans H; with_reducible exact H2_) | with_reducible exact H | (rw [hy779]; exact H) | exact H
 have Ny779 := Aside0.mk hy779
 clear hy779
 by_cases c2 : y779.length + l0.length < 140737488355328
 ·
  rw [if_pos c2] at H
  have LMc2 := Aside0.mk c2
  clear c2
  obtain ⟨y782, hy782⟩ : ∃ y_ : List Int, y_ = (y779 ++ l0) := ⟨_, rfl⟩
  replace H : (some y782) = some r := by first | (rw [hy782]; with_reducible exact H) | (have H2_ := (Option.bind_some _ _).symm.trans H; rw [hy782]; with_reducible exact H2_) | (have H2_ := (Option.bind_some _ _).symm.trans H; with_reducible exact H2_) | with_reducible exact H | (rw [hy782]; exact H) | exact H
  have Ny782 := Aside0.mk hy782
  clear hy782
  obtain rfl := Option.some.inj H
  go_enter Tryd.func59, Tryd.ntmps59
  go_wp2_with (first | ((with_reducible refine gate_dst (N := 3) rfl ?_); refine Kd.R_lit (Kd.int .u8) _ 5 ?hg (N := 3) ?hd (xs := ([] : List Int)) (inner := []) (ok := fun _ => True) (okp := fun _ => True) ?hr ?hp (fun _ hk => hk) trivial (Below.refl _ _) (Nat.le_refl _) (by simp) ?_; (case hd => rfl); (case hg => rfl); (case hr => first | (go_simp; done) | (go_simp; rfl)); (case hp => exact (Reps.none _ _)); intro v780 w3 ho4 hb hg_ hnew_; clear hg_ hnew_; (first | rw [← Ny779.out] at ho4 | (simp only [Int.reduceToNat] at ho4; rw [← Ny779.out] at ho4)); have n0_ := Aside0.mk (Kd.R_lower ho4 (below_size (by repeat (first | (with_reducible first | exact HB.out | apply below_alloc | apply pw_below_drewN | apply below_drew1) | exact HB.out)))); have n1_ := Aside0.mk (below_step (by repeat (first | (with_reducible first | exact HB.out | apply below_alloc | apply pw_below_drewN | apply below_drew1) | exact HB.out)) hb); clear HB; have HO781 := n0_; have HB := n1_; clear n0_ n1_; clear hb ho4) | ((with_reducible refine gate_builtin (b := .append) (xs := #[.tmp 3, .tmp 4]) rfl ?_); at_builtin; refine Kd.R_append_rows (Kd.int .u8) (w0 := w) w.heap.size rfl (.tmp 3) (.tmp 4) 22 5 (.int .u8 0) 1 rfl Tryd.underlying22 info5 rfl (by decide) (by omega) v780 y779 l0 _ _ _ (fun _ => True) (fun _ => False) rfl rfl ?aO ?aR (fun _ _ h => h) (fun _ h => h.elim) ?aF ?aB ?aS ?aL ?_; (case aR => repeat (first | exact (Kd.C_below HR0.out HB.out) | (with_reducible refine Kd.C_alloc ?_ _) | (with_reducible refine Kd.C_drewN ?_ _) | (with_reducible refine Kd.C_drew ?_))); (case aB => exact (by repeat (first | (with_reducible first | exact HB.out | apply below_alloc | apply pw_below_drewN | apply below_drew1) | exact HB.out))); (case aF => exact (fun _ _ => trivial)); (case aO => exact (by (with_reducible repeat (first | apply Kd.R_alloc | apply Kd.R_drewN | apply Kd.R_drew)); exact HO781.out)); (case aS => exact (below_size (by repeat (first | (with_reducible first | exact HB.out | apply below_alloc | apply pw_below_drewN | apply below_drew1) | exact HB.out)))); (case aL => have := LMc2.out; omega); intro v783 w5 ho hb hg hat; rw [← Ny782.out] at ho; have n0_ := Aside0.mk (hb); have n1_ := Aside0.mk (ho); clear HB; clear HO781; have HB := n0_; have HO784 := n1_; clear n0_ n1_; clear ho hb hg hat))
  go_ret
  exact ⟨_, by first | rfl | (simp [errW_none, errW_some] <;> rfl) | (simp [*, errW_none, errW_some] <;> rfl), by (with_reducible repeat (first | apply Kd.R_alloc | apply Kd.R_drewN | apply Kd.R_drew)); exact HO784.out, by repeat (first | (with_reducible first | exact HB.out | apply below_alloc | apply pw_below_drewN | apply below_drew1) | exact HB.out)⟩
 ·
  rw [if_neg c2] at H
  exact absurd H (by simp)
end Go.Proofs.YtbomhpfckplgaaaDoor.P
namespace Go.Proofs.YtbomhpfckplgaaaDoor.P
open Go.RowKit Go.Proofs.YtbomhpfckplgaaaDoorW.PrintWords Go.Proofs.YtbomhpfckplgaaaDoorW.PrintLast Go.Proofs.YtbomhpfckplgaaaDoorW.PrintMore
set_option linter.unusedVariables false
set_option linter.unusedSimpArgs false
set_option maxRecDepth 100000
attribute [local go_sem] max2_int min2_int max_two min_two max_three min_three max_four min_four
def linesF (l : List Int) : Nat → Int → Int → List S144
  | 0, _, _ => []
  | k + 1, i, s => if i < (l.length : Int) then (if rd l i = 10 then ⟨s, i, i, i + 1⟩ :: linesF l k (i + 1) (i + 1) else if rd l i = 13 then (if i + 1 < (l.length : Int) ∧ rd l (i + 1) = 10 then ⟨s, i, i + 1, i + 2⟩ :: linesF l k (i + 2) (i + 2) else ⟨s, i, i, i + 1⟩ :: linesF l k (i + 1) (i + 1)) else linesF l k (i + 1) s) else [⟨s, (l.length : Int), (l.length : Int), (l.length : Int)⟩]
def linesL (l : List Int) : List S144 := linesF l (l.length + 1) 0 0
theorem info144 : (Tryd.prog.info? 144).map (fun i => (i.zero, i.size, i.bytes)) = some (some (.agg #[(.int .i64 0), (.int .i64 0), (.int .i64 0), (.int .i64 0)]), 4, 32) := by kernel_rfl
def lines_all.f (l0 : List Int) : Option (List S144) := if l0.length < 4398046511000 then some (linesL l0) else none
set_option maxHeartbeats 8000000 in
theorem lines_all.calls (A0 : Option Addr) (c0 : Nat) (l0 : List Int) (r : List S144) (w : World) (hr0 : Kd.C (Kd.int .u8) w A0 l0.length l0) (hc0 : l0.length ≤ c0) (h : lines_all.f l0 = some r) :
    Calls Tryd.prog 102 #[.slice A0 l0.length c0] w fun e w' => ∃ v0_ : Value, e = .returned (v0_) ∧ Kd.R k144 144 w' w.heap.size (fun _ => True) v0_ r ∧ Below w.heap.size w w' := by
  have hu144 := Tryd.underlying144
  unfold lines_all.f at h
  by_cases hl : l0.length < 4398046511000
  case neg => rw [if_neg hl] at h; cases h
  rw [if_pos hl] at h
  obtain rfl := Option.some.inj h
  have HR0 := Aside0.mk hr0
  have HC0 := Aside0.mk hl
  clear hr0 hc0 hl h
  have HB := Aside0.mk (Below.refl w.heap.size w)
  go_enter Tryd.func102, Tryd.ntmps102
  go_wp2
  go_step3
  go_wp2
  go_step3
  go_wp2
  go_loopg [3, 4, 5] (l0.length + 1) (fun kq v3 v4 v5 w' => ∃ (xs : List S144) (s i : Int), v4 = .int .i64 s ∧ v5 = .int .i64 i ∧ Aside0 (0 ≤ i ∧ i ≤ (l0.length : Int) ∧ (l0.length : Int) - i < (kq : Int) ∧ (xs.length : Int) ≤ i ∧ linesL l0 = xs ++ linesF l0 kq i s) ∧ Aside0 (Kd.R k144 144 w' w.heap.size (fun _ => True) v3 xs) ∧ Aside0 (Below w.heap.size w w'))
  case atStart => exact ⟨[], 0, 0, rfl, rfl, ⟨by omega, by omega, by omega, by simp, rfl⟩, ⟨Kd.R_nil _ _ _ _ _⟩, HB⟩
  case round =>
    clear HB
    obtain ⟨xs, s, i, rfl, rfl, HI, HO, HB⟩ := hrel
    cases gk with
    | zero => exact absurd HI.out (by omega)
    | succ kk =>
    by_cases c1 : i < (l0.length : Int)
    case neg =>
      have c1' : decide (i < (l0.length : Int)) = false := decide_eq_false c1
      have HE : Aside0 (linesL l0 = xs ++ [⟨s, (l0.length : Int), (l0.length : Int), (l0.length : Int)⟩]) := ⟨by have := HI.out.2.2.2.2; rw [this]; simp only [linesF, if_neg c1]⟩
      clear c1
      go_wp2_with ((with_reducible refine gate_builtin (b := .append) (xs := #[.tmp 65, .tmp 74]) rfl ?_); (try (refine gate_guard (by rfl) ?_; dsimp only)); at_builtin; refine Kd.R_append k144 (w0 := w) w.heap.size rfl (.tmp 65) (.tmp 74) 141 144 (.agg #[(.int .i64 0), (.int .i64 0), (.int .i64 0), (.int .i64 0)]) 32 rfl Tryd.underlying141 info144 rfl (by decide) (by omega) u3 xs (⟨s, (l0.length : Int), (l0.length : Int), (l0.length : Int)⟩ : S144) [.int .i64 s, .int .i64 (l0.length : Int), .int .i64 (l0.length : Int), .int .i64 (l0.length : Int)] (fun _ => True) (fun _ => False) rfl rfl ?aP (fun _ hk => hk.elim) ?aF ?aO ?aB ?aS ?aL ?_; (case aP => exact k144_mkM _ _ _ (⟨s, (l0.length : Int), (l0.length : Int), (l0.length : Int)⟩ : S144)); (case aB => exact HB.out); (case aF => exact (fun _ _ => trivial)); (case aO => exact HO.out); (case aS => exact (below_size HB.out)); (case aL => have := HI.out; have := HC0.out; omega); intro v7 w15 ho hb hg hat; have HB := Aside0.mk hb; have HO := Aside0.mk ho; clear hb ho hg hat)
      try rw [Exit.noGoto_ret]
      go_ret
      exact ⟨_, rfl, by rw [HE.out]; exact HO.out, HB.out⟩
    have c1' : decide (i < (l0.length : Int)) = true := decide_eq_true c1
    have p0 : 0 ≤ i := HI.out.1
    have q0 : i < (l0.length : Int) := c1
    have hW1 : wrap64 (i + 1) = i + 1 := by
      have := HC0.out
      unfold wrap64
      omega
    have hW2 : wrap64 (i + 2) = i + 2 := by
      have := HC0.out
      unfold wrap64
      omega
    have HS := Aside0.mk HI.out.2.2.2.2
    obtain ⟨ad, ea, hx0⟩ := Kd.at_int HR0.out i p0 q0
    cases ea
    have hx := (HB.out.cell (World.block_lt_of_cell? w _ hx0)).trans hx0
    have HP := Aside0.mk (And.intro p0 q0)
    replace p0 := eq_true p0
    replace q0 := eq_true q0
    clear c1
    by_cases c2 : rd l0 i = 10
    case pos =>
      have c2' : (rd l0 i == 10) = true := beq_iff_eq.mpr c2
      have HE : Aside0 (linesL l0 = (xs ++ [⟨s, i, i, i + 1⟩]) ++ linesF l0 kk (i + 1) (i + 1)) := ⟨by rw [HS.out]; simp only [linesF, if_pos HP.out.2, if_pos c2, List.append_assoc, List.singleton_append]⟩
      have HW := Aside0.mk hW1
      clear c2 hW1 hW2
      go_wp2_with ((with_reducible refine gate_builtin (b := .append) (xs := #[.tmp 18, .tmp 25]) rfl ?_); (try (refine gate_guard (by rfl) ?_; dsimp only)); at_builtin; refine Kd.R_append k144 (w0 := w) w.heap.size rfl (.tmp 18) (.tmp 25) 141 144 (.agg #[(.int .i64 0), (.int .i64 0), (.int .i64 0), (.int .i64 0)]) 32 rfl Tryd.underlying141 info144 rfl (by decide) (by omega) u3 xs (⟨s, i, i, wrap64 (i + 1)⟩ : S144) [.int .i64 s, .int .i64 i, .int .i64 i, .int .i64 (wrap64 (i + 1))] (fun _ => True) (fun _ => False) rfl rfl ?aP (fun _ hk => hk.elim) ?aF ?aO ?aB ?aS ?aL ?_; (case aP => exact k144_mkM _ _ _ (⟨s, i, i, wrap64 (i + 1)⟩ : S144)); (case aB => exact HB.out); (case aF => exact (fun _ _ => trivial)); (case aO => exact HO.out); (case aS => exact (below_size HB.out)); (case aL => have := HI.out; have := HC0.out; omega); intro v7 w15 ho hb hg hat; have HB := Aside0.mk hb; have HO := Aside0.mk ho; clear hb ho hg hat)
      go_roundg kk
      case measure => omega
      case rel => exact ⟨xs ++ [⟨s, i, i, i + 1⟩], i + 1, i + 1, by rw [HW.out], by rw [HW.out], ⟨by have := HP.out; omega, by have := HP.out; omega, by have := HI.out; omega, by have := HI.out; simp; omega, HE.out⟩, ⟨by have h_ := HO.out; rw [HW.out] at h_; exact h_⟩, HB⟩
    have c2' : (rd l0 i == 10) = false := beq_eq_false_iff_ne.mpr c2
    by_cases c3 : rd l0 i = 13
    case neg =>
      have c3' : (rd l0 i == 13) = false := beq_eq_false_iff_ne.mpr c3
      have HE : Aside0 (linesL l0 = xs ++ linesF l0 kk (i + 1) s) := ⟨by rw [HS.out]; simp only [linesF, if_pos HP.out.2, if_neg c2, if_neg c3]⟩
      have HW := Aside0.mk hW1
      clear c2 c3 hW1 hW2
      go_wp2
      go_roundg kk
      case measure => omega
      case rel => exact ⟨xs, s, i + 1, rfl, by rw [HW.out], ⟨by have := HP.out; omega, by have := HP.out; omega, by have := HI.out; omega, by have := HI.out; omega, HE.out⟩, HO, HB⟩
    have c3' : (rd l0 i == 13) = true := beq_iff_eq.mpr c3
    by_cases c4 : i + 1 < (l0.length : Int)
    case neg =>
      have c4' : decide (wrap64 (i + 1) < (l0.length : Int)) = false := decide_eq_false (by rw [hW1]; exact c4)
      have HE : Aside0 (linesL l0 = (xs ++ [⟨s, i, i, i + 1⟩]) ++ linesF l0 kk (i + 1) (i + 1)) := ⟨by rw [HS.out]; simp only [linesF, if_pos HP.out.2, if_neg c2, if_pos c3, c4, false_and, if_false, List.append_assoc, List.singleton_append]⟩
      have HW := Aside0.mk hW1
      clear c2 c3 c4 hW1 hW2
      go_wp2_with ((with_reducible refine gate_builtin (b := .append) (xs := #[.tmp 54, .tmp 61]) rfl ?_); (try (refine gate_guard (by rfl) ?_; dsimp only)); at_builtin; refine Kd.R_append k144 (w0 := w) w.heap.size rfl (.tmp 54) (.tmp 61) 141 144 (.agg #[(.int .i64 0), (.int .i64 0), (.int .i64 0), (.int .i64 0)]) 32 rfl Tryd.underlying141 info144 rfl (by decide) (by omega) u3 xs (⟨s, i, i, wrap64 (i + 1)⟩ : S144) [.int .i64 s, .int .i64 i, .int .i64 i, .int .i64 (wrap64 (i + 1))] (fun _ => True) (fun _ => False) rfl rfl ?aP (fun _ hk => hk.elim) ?aF ?aO ?aB ?aS ?aL ?_; (case aP => exact k144_mkM _ _ _ (⟨s, i, i, wrap64 (i + 1)⟩ : S144)); (case aB => exact HB.out); (case aF => exact (fun _ _ => trivial)); (case aO => exact HO.out); (case aS => exact (below_size HB.out)); (case aL => have := HI.out; have := HC0.out; omega); intro v7 w15 ho hb hg hat; have HB := Aside0.mk hb; have HO := Aside0.mk ho; clear hb ho hg hat)
      go_roundg kk
      case measure => omega
      case rel => exact ⟨xs ++ [⟨s, i, i, i + 1⟩], i + 1, i + 1, by rw [HW.out], by rw [HW.out], ⟨by have := HP.out; omega, by have := HP.out; omega, by have := HI.out; omega, by have := HI.out; simp; omega, HE.out⟩, ⟨by have h_ := HO.out; rw [HW.out] at h_; exact h_⟩, HB⟩
    have c4' : decide (wrap64 (i + 1) < (l0.length : Int)) = true := decide_eq_true (by rw [hW1]; exact c4)
    have p1 : 0 ≤ wrap64 (i + 1) := by rw [hW1]; have := HP.out; omega
    have q1 : wrap64 (i + 1) < (l0.length : Int) := by rw [hW1]; exact c4
    obtain ⟨ad1, ea1, hx1⟩ := Kd.at_int HR0.out (wrap64 (i + 1)) p1 q1
    obtain rfl : ad = ad1 := (by injection ea1)
    have hx2 := (HB.out.cell (World.block_lt_of_cell? w _ hx1)).trans hx1
    have HP1 := Aside0.mk q1
    replace p1 := eq_true p1
    replace q1 := eq_true q1
    by_cases c5 : rd l0 (i + 1) = 10
    · have c5' : (rd l0 (wrap64 (i + 1)) == 10) = true := beq_iff_eq.mpr (by rw [hW1]; exact c5)
      have HE : Aside0 (linesL l0 = (xs ++ [⟨s, i, i + 1, i + 2⟩]) ++ linesF l0 kk (i + 2) (i + 2)) := ⟨by rw [HS.out]; simp only [linesF, if_pos HP.out.2, if_neg c2, if_pos c3, c4, c5, and_self, if_true, List.append_assoc, List.singleton_append]⟩
      have HW := Aside0.mk hW1
      have HW2 := Aside0.mk hW2
      have HW3 : Aside0 (wrap64 (wrap64 (i + 1) + 1) = i + 2) := ⟨by
        rw [hW1]
        have := HC0.out
        have := HP.out
        unfold wrap64
        omega⟩
      have HC4 := Aside0.mk c4
      clear c2 c3 c4 c5 hW1 hW2
      go_wp2_with ((with_reducible refine gate_builtin (b := .append) (xs := #[.tmp 42, .tmp 50]) rfl ?_); (try (refine gate_guard (by rfl) ?_; dsimp only)); at_builtin; refine Kd.R_append k144 (w0 := w) w.heap.size rfl (.tmp 42) (.tmp 50) 141 144 (.agg #[(.int .i64 0), (.int .i64 0), (.int .i64 0), (.int .i64 0)]) 32 rfl Tryd.underlying141 info144 rfl (by decide) (by omega) u3 xs (⟨s, i, wrap64 (i + 1), wrap64 (i + 2)⟩ : S144) [.int .i64 s, .int .i64 i, .int .i64 (wrap64 (i + 1)), .int .i64 (wrap64 (i + 2))] (fun _ => True) (fun _ => False) rfl rfl ?aP (fun _ hk => hk.elim) ?aF ?aO ?aB ?aS ?aL ?_; (case aP => exact k144_mkM _ _ _ (⟨s, i, wrap64 (i + 1), wrap64 (i + 2)⟩ : S144)); (case aB => exact HB.out); (case aF => exact (fun _ _ => trivial)); (case aO => exact HO.out); (case aS => exact (below_size HB.out)); (case aL => have := HI.out; have := HC0.out; omega); intro v7 w15 ho hb hg hat; have HB := Aside0.mk hb; have HO := Aside0.mk ho; clear hb ho hg hat)
      go_roundg kk
      case measure => omega
      case rel => exact ⟨xs ++ [⟨s, i, i + 1, i + 2⟩], i + 2, i + 2, by rw [HW3.out], by rw [HW3.out], ⟨by have := HP.out; omega, by have := HC4.out; omega, by have := HI.out; omega, by have := HI.out; simp; omega, HE.out⟩, ⟨by have h_ := HO.out; rw [HW.out, HW2.out] at h_; exact h_⟩, HB⟩
    · have c5' : (rd l0 (wrap64 (i + 1)) == 10) = false := beq_eq_false_iff_ne.mpr (by rw [hW1]; exact c5)
      have HE : Aside0 (linesL l0 = (xs ++ [⟨s, i, i, i + 1⟩]) ++ linesF l0 kk (i + 1) (i + 1)) := ⟨by rw [HS.out]; simp only [linesF, if_pos HP.out.2, if_neg c2, if_pos c3, c5, and_false, if_false, List.append_assoc, List.singleton_append]⟩
      have HW := Aside0.mk hW1
      clear c2 c3 c4 c5 hW1 hW2
      go_wp2_with ((with_reducible refine gate_builtin (b := .append) (xs := #[.tmp 54, .tmp 61]) rfl ?_); (try (refine gate_guard (by rfl) ?_; dsimp only)); at_builtin; refine Kd.R_append k144 (w0 := w) w.heap.size rfl (.tmp 54) (.tmp 61) 141 144 (.agg #[(.int .i64 0), (.int .i64 0), (.int .i64 0), (.int .i64 0)]) 32 rfl Tryd.underlying141 info144 rfl (by decide) (by omega) u3 xs (⟨s, i, i, wrap64 (i + 1)⟩ : S144) [.int .i64 s, .int .i64 i, .int .i64 i, .int .i64 (wrap64 (i + 1))] (fun _ => True) (fun _ => False) rfl rfl ?aP (fun _ hk => hk.elim) ?aF ?aO ?aB ?aS ?aL ?_; (case aP => exact k144_mkM _ _ _ (⟨s, i, i, wrap64 (i + 1)⟩ : S144)); (case aB => exact HB.out); (case aF => exact (fun _ _ => trivial)); (case aO => exact HO.out); (case aS => exact (below_size HB.out)); (case aL => have := HI.out; have := HC0.out; omega); intro v7 w15 ho hb hg hat; have HB := Aside0.mk hb; have HO := Aside0.mk ho; clear hb ho hg hat)
      go_roundg kk
      case measure => omega
      case rel => exact ⟨xs ++ [⟨s, i, i, i + 1⟩], i + 1, i + 1, by rw [HW.out], by rw [HW.out], ⟨by have := HP.out; omega, by have := HP.out; omega, by have := HI.out; omega, by have := HI.out; simp; omega, HE.out⟩, ⟨by have h_ := HO.out; rw [HW.out] at h_; exact h_⟩, HB⟩
end Go.Proofs.YtbomhpfckplgaaaDoor.P
namespace Go.Proofs.YtbomhpfckplgaaaDoor.P
open Go.RowKit Go.Proofs.YtbomhpfckplgaaaDoorW.PrintWords Go.Proofs.YtbomhpfckplgaaaDoorW.PrintLast Go.Proofs.YtbomhpfckplgaaaDoorW.PrintMore
attribute [local go_sem] max2_int min2_int max_two min_two max_three min_three max_four min_four   -- for this text's walks alone
set_option linter.unusedVariables false
set_option linter.unusedSimpArgs false
end Go.Proofs.YtbomhpfckplgaaaDoor.P
