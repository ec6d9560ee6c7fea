/- Facts that stay in every later world, and the calls that the rule's laws make again and again. -/
import Derived.Test.YtbomhpfckplgaaaDoorPx43
namespace Go.Proofs.YtbomhpfckplgaaaDoor.P
open Go Go.RowKit Go.Proofs.YtbomhpfckplgaaaDoorW.PrintWords Go.Proofs.YtbomhpfckplgaaaDoorW.PrintLast Go.Proofs.YtbomhpfckplgaaaDoorW.PrintMore
set_option linter.unusedVariables false
set_option linter.unusedSimpArgs false

/-- What holds of every world behind w0. -/
def Keeps (P : World → Prop) (w0 : World) : Prop := ∀ W, Below w0.heap.size w0 W → P W
section
variable {P Q : World → Prop} {w0 w1 : World}
theorem Keeps.next (h : Keeps P w0) (hb : Below w0.heap.size w0 w1) : Keeps P w1 := fun W hW => h W (hb.trans (hW.mono hb.size))
theorem Keeps.of (h : Keeps P w0) {W : World} (hW : Below w0.heap.size w0 W) : P W := h W hW
theorem Keeps.here (h : Keeps P w0) : P w0 := h _ (Below.refl _ _)
theorem Keeps.and (h : Keeps P w0) (h' : Keeps Q w0) : Keeps (fun W => P W ∧ Q W) w0 := fun W hW => ⟨h W hW, h' W hW⟩
theorem keeps_C {α : Type} {d : Kd α} {A : Option Addr} {n : Nat} {xs : List α} (h : d.C w0 A n xs) : Keeps (fun W => d.C W A n xs) w0 := fun W hW => Kd.C_below h hW
theorem keeps_cell {p : Addr} {v : Value} (h : w0.cell? p = some v) : Keeps (fun W => W.cell? p = some v) w0 := fun W hW => pw_cell_below hW h
theorem keeps_blk {g : Nat} {o : Obj} (h : w0.heap[g]? = some o) : Keeps (fun W => W.heap[g]? = some o) w0 := fun W hW => blk_below h hW
theorem keeps_laid (h : Laid w0) : Keeps (fun W => Laid W) w0 := fun W hW => h.below hW
theorem keeps_below {w : World} {n : Nat} (h : Below n w w0) (hn : n ≤ w0.heap.size) : Keeps (fun W => Below n w W) w0 := fun W hW => h.trans (hW.mono hn)
end
/-- A copy of the bytes. -/
theorem own_any (A : Option Addr) (c : Nat) (l : List Int) (hl : l.length ≤ 140737488351232) (w : World) (hr : Kd.C (Kd.int .u8) w A l.length l) (hc : l.length ≤ c) :
    Calls Tryd.prog 29 #[.slice A l.length c] w fun e w' => ∃ A' c', e = .returned (.slice A' l.length c') ∧ l.length ≤ c' ∧ Kd.C (Kd.int .u8) w' A' l.length l ∧ Below w.heap.size w w' := by
  refine (galleylaw06_own.calls A c l l w hr hc (by unfold galleylaw06_own.f; simp only [Option.bind_some, List.length_nil, Nat.zero_add, List.nil_append]; rw [if_pos (by omega)])).mono ?_
  rintro e w' ⟨v, rfl, hR, hb⟩
  obtain ⟨A', c', rfl⟩ := Kd.R_slice hR
  obtain ⟨-, h2, h3⟩ := Kd.R_reads' hR
  exact ⟨A', c', rfl, h2, h3, hb⟩
/-- What Cut answers. -/
theorem cut_any (k : Nat) (A : Option Addr) (c : Nat) (l : List Int) (r lo hi m : Int) (v : List Int) (n : Int) (w : World) (hr : Kd.C (Kd.int .u8) w A l.length l) (hc : l.length ≤ c) (hG : Laid w) (h : rule_Cut.f k l r lo hi m = some (v, n)) :
    Calls Tryd.prog 39 #[.slice A l.length c, .int .i64 r, .int .i64 lo, .int .i64 hi, .int .i64 m] w fun e w' => ∃ A' c', e = .returned (.tuple #[.slice A' v.length c', .int .i64 n]) ∧ v.length ≤ c' ∧ Kd.C (Kd.int .u8) w' A' v.length v ∧ Below w.heap.size w w' := by
  refine (rule_Cut.calls k A c l r lo hi m v n w hr hc hG h).mono ?_
  rintro e w' ⟨v0, rfl, hR, hb⟩
  obtain ⟨A', c', rfl⟩ := Kd.R_slice hR
  obtain ⟨-, h2, h3⟩ := Kd.R_reads' hR
  exact ⟨A', c', rfl, h2, h3, hb⟩
/-- What Table answers. -/
theorem table_any' (A : Option Addr) (c : Nat) (l : List Int) (r : Int) (v : List Int) (n : Int) (w : World) (hr : Kd.C (Kd.int .u8) w A l.length l) (hc : l.length ≤ c) (hG : Laid w) (h : rule_Table.f l r = some (v, n)) :
    Calls Tryd.prog 30 #[.slice A l.length c, .int .i64 r] w fun e w' => ∃ A' c', e = .returned (.tuple #[.slice A' v.length c', .int .i64 n]) ∧ v.length ≤ c' ∧ Kd.C (Kd.int .i64) w' A' v.length v ∧ Below w.heap.size w w' := by
  refine (rule_Table.calls A c l r v n w hr hc hG h).mono ?_
  rintro e w' ⟨v0, rfl, hR, hb⟩
  obtain ⟨A', c', rfl⟩ := Kd.R_slice hR
  obtain ⟨-, h2, h3⟩ := Kd.R_reads' hR
  exact ⟨A', c', rfl, h2, h3, hb⟩
theorem str_of {A : Option Addr} {c : Nat} {l : List Int} {W : World} (h : Kd.C (Kd.int .u8) W A l.length l) : (convert 22 9 (.slice A l.length c)).run Tryd.prog W = .ok (.string (strOfNums l)) W := Kd.C_string (P := Tryd.prog) Tryd.underlying22 Tryd.underlying5 Tryd.underlying9 h
end Go.Proofs.YtbomhpfckplgaaaDoor.P
