/- The variable step.bad reads as it was laid: a fact on the world that later worlds keep. -/
import Derived.Test.YtbomhpfckplgaaaDoorProg
import Derived.Test.YtbomhpfckplgaaaDoorWWords
namespace Go.Proofs.YtbomhpfckplgaaaDoor.P
open Go.RowKit Go.Proofs.YtbomhpfckplgaaaDoorW.PrintWords

/-- The package-level variable step.bad (block 0) holds U+FFFD, 1, false. -/
structure Laid (w : World) : Prop where
  c0 : w.cell? ⟨0, 0, none⟩ = some (.int .i32 65533)
  c1 : w.cell? ⟨0, 1, none⟩ = some (.int .i64 1)
  c2 : w.cell? ⟨0, 2, none⟩ = some (.bool false)
theorem Laid.below {w w1 : World} (h : Laid w) (hb : Below w.heap.size w w1) : Laid w1 := ⟨pw_cell_below hb h.c0, pw_cell_below hb h.c1, pw_cell_below hb h.c2⟩
theorem Laid.alloc {w : World} (h : Laid w) (o : Obj) : Laid (w.alloc o) := h.below ((Below.refl _ _).alloc (Nat.le_refl _) _)
theorem Laid.drew {w : World} (h : Laid w) : Laid w.drew := ⟨h.c0, h.c1, h.c2⟩
theorem Laid.drewN {w : World} (h : Laid w) (n : Nat) : Laid (w.drewN n) := h.below (pw_below_drewN (Below.refl _ _) n)
theorem Laid.pos {w : World} (h : Laid w) : 0 < w.heap.size := World.block_lt_of_cell? w _ h.c0
theorem Laid.belowB {w w1 : World} {B : Nat} (h : Laid w) (hB : 0 < B) (hb : Below B w w1) : Laid w1 :=
  ⟨(hb.cell (p := ⟨0, 0, none⟩) hB).trans h.c0, (hb.cell (p := ⟨0, 1, none⟩) hB).trans h.c1, (hb.cell (p := ⟨0, 2, none⟩) hB).trans h.c2⟩
end Go.Proofs.YtbomhpfckplgaaaDoor.P
