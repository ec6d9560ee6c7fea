/- Facts that stay in every later world. -/
import Derived.Test.YtbomhpfckplgaaaDoorPx0
namespace Go.Proofs.YtbomhpfckplgaaaDoor.P
open Go Go.RowKit Go.Proofs.YtbomhpfckplgaaaDoorW.PrintWords Go.Proofs.YtbomhpfckplgaaaDoorW.PrintLast Go.Proofs.YtbomhpfckplgaaaDoorW.PrintMore
set_option linter.unusedVariables false
set_option linter.unusedSimpArgs false

/-- What holds of every world behind w0. -/
def Keeps (P : World → Prop) (w0 : World) : Prop := ∀ W, Below w0.heap.size w0 W → P W
section
variable {P Q : World → Prop} {w0 w1 : World}
theorem Keeps.next (h : Keeps P w0) (hb : Below w0.heap.size w0 w1) : Keeps P w1 := fun W hW => h W (hb.trans (hW.mono hb.size))
theorem Keeps.of (h : Keeps P w0) {W : World} (hW : Below w0.heap.size w0 W) : P W := h W hW
theorem Keeps.here (h : Keeps P w0) : P w0 := h _ (Below.refl _ _)
theorem Keeps.and (h : Keeps P w0) (h' : Keeps Q w0) : Keeps (fun W => P W ∧ Q W) w0 := fun W hW => ⟨h W hW, h' W hW⟩
theorem keeps_C {α : Type} {d : Kd α} {A : Option Addr} {n : Nat} {xs : List α} (h : d.C w0 A n xs) : Keeps (fun W => d.C W A n xs) w0 := fun W hW => Kd.C_below h hW
theorem keeps_cell {p : Addr} {v : Value} (h : w0.cell? p = some v) : Keeps (fun W => W.cell? p = some v) w0 := fun W hW => pw_cell_below hW h
theorem keeps_blk {g : Nat} {o : Obj} (h : w0.heap[g]? = some o) : Keeps (fun W => W.heap[g]? = some o) w0 := fun W hW => blk_below h hW
theorem keeps_laid (h : Laid w0) : Keeps (fun W => Laid W) w0 := fun W hW => h.below hW
theorem keeps_below {w : World} {n : Nat} (h : Below n w w0) (hn : n ≤ w0.heap.size) : Keeps (fun W => Below n w W) w0 := fun W hW => h.trans (hW.mono hn)
end
/-- A row of numbers of one block, marked or not, is read. -/
theorem C_blk {W : World} {g : Nat} {xs : List Int} {fz : Nat × Nat} {k : IntKind} {e : TypeId} (h : W.heap[g]? = some (.cells (List.map (Value.int k) xs).toArray e fz)) (hn : xs.length ≤ 9223372036854775807) : Kd.C (Kd.int k) W (some ⟨g, 0, none⟩) xs.length xs := by
  refine ⟨rfl, hn, fun _ => ⟨_, rfl, fun j p hj => ⟨[.int k p], rfl, rfl, fun i u hu => ?_⟩⟩⟩
  obtain ⟨rfl, rfl⟩ : i = 0 ∧ Value.int k p = u := by
    cases i with
    | zero => exact ⟨rfl, by simpa using hu⟩
    | succ i => simp at hu
  have ha : (⟨g, 0, none⟩ : Addr).add (j * (Kd.int k).sz + 0) = ⟨g, j, none⟩ := by
    have : j * (Kd.int k).sz + 0 = j := Nat.mul_one j
    rw [this]
    unfold Addr.add
    split <;> simp_all
  rw [ha]
  unfold World.cell?
  rw [h]
  simp [hj]
/-- The walk goes on in a world of another name. -/
theorem wp_world {P : Program} {c : Code} {Q : Exit → Act → World → Prop} {a : Act} {w : World} (h : ∀ W, W = w → c.wp P Q a W) : c.wp P Q a w := h w rfl
theorem str_of {A : Option Addr} {c : Nat} {l : List Int} {W : World} (h : Kd.C (Kd.int .u8) W A l.length l) : (convert 22 9 (.slice A l.length c)).run Tryd.prog W = .ok (.string (strOfNums l)) W := Kd.C_string (P := Tryd.prog) Tryd.underlying22 Tryd.underlying5 Tryd.underlying9 h
end Go.Proofs.YtbomhpfckplgaaaDoor.P
