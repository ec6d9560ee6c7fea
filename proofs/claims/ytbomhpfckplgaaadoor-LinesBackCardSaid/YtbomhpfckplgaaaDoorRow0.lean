/- What all rows share: the listed variable, a world for the witness, the opening of arguments. -/
import Derived.Test.YtbomhpfckplgaaaDoorCards
import Derived.Test.YtbomhpfckplgaaaDoorTie
import Derived.Test.YtbomhpfckplgaaaDoorU0
import Derived.WalkKit
import Derived.ProofKit
import Derived.OpenShut
import Derived.ShutString
import Derived.ChangeOld
import Derived.Below
import Derived.SizedLaws
import Derived.Deep.DeepHandedRow
import Derived.Lib.LaidTab
import Derived.Test.YtbomhpfckplgaaaDoorWSized
namespace Go.Proofs.YtbomhpfckplgaaaDoor.P
open Go Go.ChangeShapes Go.WideShapes Go.ChangeAt Go.RowKit Go.Proofs.YtbomhpfckplgaaaDoorW.PrintWords
set_option linter.unusedVariables false

theorem own : ownKnob Tryd.prog.godebug = none := by kernel_rfl
theorem laidOut : laidOutB Tryd.prog = true := by kernel_rfl
theorem gBad : Tryd.prog.globalNamed "galley/step.bad" = some 0 := by kernel_rfl
theorem gBadType : (Tryd.prog.globals[0]?).map (·.type) = some 121 := by kernel_rfl
theorem cells121 : Tryd.prog.cellsOf 121 = 3 := by kernel_rfl
theorem cells21 : Tryd.prog.cellsOf 21 = 1 := by kernel_rfl
theorem cells3 : Tryd.prog.cellsOf 3 = 1 := by kernel_rfl
theorem cells4 : Tryd.prog.cellsOf 4 = 1 := by kernel_rfl
theorem cells39 : Tryd.prog.cellsOf 39 = 3 := by kernel_rfl
/-- What the rows list: step.bad, as its initialiser lays it. -/
abbrev badRow : List (String × DataW Unit) := [("galley/step.bad", Rows.laid_galley_step_bad)]
set_option maxRecDepth 100000 in
theorem Laid.of_row {W : World} (h : laidMetH Tryd.prog badRow W) : Laid W := by
  rw [MakeChecks.laidMetH_plain _ _ _ (by kernel_rfl)] at h
  obtain ⟨ps, ⟨g0, t0, cs0, f0, p0, q0, hg0, ht0, hv0, hd0, _, _⟩, _, _⟩ := h
  obtain rfl := Option.some.inj (gBad.symm.trans hg0)
  obtain rfl := Option.some.inj (gBadType.symm.trans ht0)
  obtain ⟨xs, n, _, hx, hl, hn, hf⟩ := DataW.trod_struct Tryd.underlying121 hd0
  simp only [Prod.mk.injEq, Rows.laid_galley_step_bad, DataW.agg.injEq] at hx
  rw [cells121] at hl
  have k0 : DataW.trod _ Tryd.prog W 0 _ false n 21 ((cs0.toList.drop 0).take (Tryd.prog.cellsOf 21)) = xs[0]? := hf 0 _ rfl
  have k1 : DataW.trod _ Tryd.prog W 0 _ false n 3 ((cs0.toList.drop 1).take (Tryd.prog.cellsOf 3)) = xs[1]? := hf 1 _ rfl
  have k2 : DataW.trod _ Tryd.prog W 0 _ false n 4 ((cs0.toList.drop 2).take (Tryd.prog.cellsOf 4)) = xs[2]? := hf 2 _ rfl
  rw [cells21] at k0
  rw [cells3] at k1
  rw [cells4] at k2
  match xs, hn, hx with
  | [x0, x1, x2], _, hx =>
    obtain ⟨l⟩ := cs0
    match l, hl with
    | [c0, c1, c2], _ =>
      simp only [List.map_cons, List.map_nil, List.cons.injEq, and_true] at hx
      obtain ⟨⟨e0, e1, e2⟩, _⟩ := hx
      obtain ⟨a0, b0, d0, _⟩ := DataW.trod_int Tryd.underlying21 (show DataW.trod _ Tryd.prog W 0 _ false n 21 [c0] = some x0 from k0)
      obtain ⟨a1, b1, d1, _⟩ := DataW.trod_int Tryd.underlying3 (show DataW.trod _ Tryd.prog W 0 _ false n 3 [c1] = some x1 from k1)
      obtain ⟨a2, b2, d2⟩ := DataW.trod_bool Tryd.underlying4 (show DataW.trod _ Tryd.prog W 0 _ false n 4 [c2] = some x2 from k2)
      rw [d0] at e0
      rw [d1] at e1
      rw [d2] at e2
      have z0 : a0 = 65533 := by simpa using e0.symm
      have z1 : a1 = 1 := by simpa using e1.symm
      have z2 : a2 = false := by simpa using e2.symm
      have y0 : c0 = .int .i32 a0 := by simpa using b0
      have y1 : c1 = .int .i64 a1 := by simpa using b1
      have y2 : c2 = .bool a2 := by simpa using b2
      subst z0 z1 z2 y0 y1 y2
      exact ⟨World.var?_cell hg0 hv0 0, World.var?_cell hg0 hv0 1, World.var?_cell hg0 hv0 2⟩

/-- A world for the witness: the settled one, step.bad (block 0) holding what its initialiser lays. -/
noncomputable def laidWorld (os : Os) (args : Array Value) : World :=
  { World.holding Tryd.prog os ⟨#[], #[], []⟩ with heap := (World.holding Tryd.prog os ⟨#[], #[], []⟩).heap.modify 0 fun
      | .cells _ t frozen => .cells #[.int .i32 65533, .int .i64 1, .bool false] t frozen
      | o => o }
theorem laid_met (os : Os) (args : Array Value) : laidMet Tryd.prog badRow ((laidWorld os args).forCall (fun _ _ => 0) ⟨#[], args, []⟩).memory :=
  laidMet_of_run' 8 (by kernel_rfl) (by kernel_rfl)

/-! ### the bulk -/
theorem one_le {H : Type} (d : DataW H) : 1 ≤ Rows.uptoBulk d := by
  cases d with
  | lit l => cases l <;> simp [Rows.uptoBulk]
  | nil => simp [Rows.uptoBulk]
  | ptr d => simp [Rows.uptoBulk]
  | slice elems spare => simp [Rows.uptoBulk]
  | agg parts => simp [Rows.uptoBulk]
  | iface t d => simp [Rows.uptoBulk]
  | map entries => simp [Rows.uptoBulk]
  | held h => simp [Rows.uptoBulk]
theorem length_bulk {H : Type} (l : List (DataW H)) : l.length ≤ Rows.uptoBulkAll l := by
  induction l with
  | nil => simp [Rows.uptoBulkAll]
  | cons x r ih => have := one_le x; simp only [Rows.uptoBulkAll, List.length_cons]; omega
theorem part_bulk {H : Type} {d : DataW H} {l : List (DataW H)} (h : d ∈ l) : Rows.uptoBulk d ≤ Rows.uptoBulkAll l := by
  induction l with
  | nil => cases h
  | cons x r ih =>
    simp only [Rows.uptoBulkAll]
    cases List.mem_cons.1 h with
    | inl e => subst e; omega
    | inr e => have := ih e; omega
theorem upto_bound {H : Type} {l : List (DataW H)} (hk : Rows.uptoSmall H l = true) : Rows.uptoBulkAll l ≤ 1048576 := of_decide_eq_true hk

/-- What came in as a slice of bytes. -/
structure InBytes {H : Type} (W : World) (v : Value) (d : DataW H) (A : Option Addr) (c : Nat) (l : List Int) : Prop where
  val : v = .slice A l.length c
  reads : Kd.C (Kd.int .u8) W A l.length l
  cap : l.length ≤ c
  bytes : Bytes l
  bulk : l.length ≤ Rows.uptoBulk d
theorem in_bytes {H : Type} {enc : TypeId × Value → H} {W : World} {base : Nat} {spare : Nat → Bool} {held : Bool} {v : Value} {d : DataW H} {ps : List MemPlace} (hv : ∃ a l c, v = .slice a l c) (h : DataW.Trod enc Tryd.prog W base spare held 22 v d ps) :
    ∃ A c l, InBytes W v d A c l := by
  obtain ⟨a, len, cap, rfl⟩ := hv
  obtain ⟨fuel, hf⟩ := h
  rcases open_ints Tryd.underlying22 Tryd.underlying5 (by kernel_rfl) hf with ⟨hcs, hx⟩ | ⟨x, l, c, zs, hcs, _, hl, hm, hz, hx, hcell, hwz⟩
  · simp [Value.cells] at hcs
    obtain ⟨rfl, rfl, rfl⟩ := hcs
    exact ⟨none, 0, [], ⟨rfl, ⟨rfl, by decide, fun h => absurd h (by decide)⟩, Nat.le_refl _, (fun x h => absurd h (by simp)), Nat.zero_le _⟩⟩
  · simp [Value.cells] at hcs
    obtain ⟨rfl, rfl, rfl⟩ := hcs
    have hlz : len ≤ zs.length := by rw [hz]; split <;> omega
    have hlen : (zs.take len).length = len := by simp; omega
    have hd : d = .slice (lits .u8 (zs.take len)) (lits .u8 (zs.drop len)) := by
      have := congrArg Prod.fst hx
      exact this
    refine ⟨some x, cap, zs.take len, ⟨by rw [hlen], ⟨rfl, by rw [hlen]; unfold maxLen at hm; omega, fun _ => ⟨x, rfl, fun j p hj => ⟨[.int .u8 p], rfl, rfl, fun i u hu => ?_⟩⟩⟩, by rw [hlen]; exact hl, ?_, ?_⟩⟩
    · obtain ⟨rfl, rfl⟩ : i = 0 ∧ Value.int .u8 p = u := by
        cases i with
        | zero => exact ⟨rfl, by simpa using hu⟩
        | succ i => simp at hu
      obtain ⟨hj1, hj2⟩ := List.getElem?_eq_some_iff.1 hj
      have hjl : j < zs.length := by simp at hj1; omega
      have hc := hcell j hjl
      have e : zs.getD j 0 = p := by
        rw [List.getD_eq_getElem?_getD, List.getElem?_eq_getElem hjl]
        simp only [List.getElem_take] at hj2
        exact hj2
      rw [e] at hc
      have e2 : j * (Kd.int .u8).sz + 0 = j := Nat.mul_one j
      rw [e2]
      exact hc
    · intro y hy
      have := hwz y (List.mem_of_mem_take hy)
      simp [Lit.wf, IntKind.min, IntKind.max, IntKind.signed, IntKind.bits] at this
      omega
    · rw [hd]
      simp only [Rows.uptoBulk]
      have h1 := length_bulk (lits (H := H) .u8 (zs.take len))
      have h2 : (lits (H := H) .u8 (zs.take len)).length = (zs.take len).length := by simp [lits]
      omega
end Go.Proofs.YtbomhpfckplgaaaDoor.P
