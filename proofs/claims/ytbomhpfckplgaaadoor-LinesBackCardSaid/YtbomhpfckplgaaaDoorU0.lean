/- 'With fuel enough', bytes and bounds: the words of the plain laws. -/
import Derived.Test.YtbomhpfckplgaaaDoorPx0
namespace Go.Proofs.YtbomhpfckplgaaaDoor.P
open Go.RowKit Go.Proofs.YtbomhpfckplgaaaDoorW.PrintWords
set_option linter.unusedVariables false
set_option linter.unusedSimpArgs false

/-- With fuel enough the answer is v. -/
def Ev {α : Type} (F : Nat → Option α) (v : α) : Prop := ∃ k0, ∀ k, k0 ≤ k → F k = some v
theorem Ev.pure {α : Type} (v : α) : Ev (fun _ => some v) v := ⟨0, fun _ _ => rfl⟩
theorem Ev.of {α : Type} {o : Option α} {v : α} (h : o = some v) : Ev (fun _ => o) v := ⟨0, fun _ _ => h⟩
theorem Ev.bind {α β : Type} {F : Nat → Option α} {G : Nat → α → Option β} {v : α} {u : β} (h : Ev F v) (h' : Ev (fun k => G k v) u) : Ev (fun k => (F k).bind fun x => G k x) u := by
  obtain ⟨k0, h0⟩ := h
  obtain ⟨k1, h1⟩ := h'
  exact ⟨max k0 k1, fun k hk => by show (F k).bind _ = _; rw [h0 k (by omega)]; exact h1 k (by omega)⟩
theorem Ev.step {α : Type} {F G : Nat → Option α} {v : α} (hs : ∀ k, F (k + 1) = G k) (h : Ev G v) : Ev F v := by
  obtain ⟨k0, h0⟩ := h
  exact ⟨k0 + 1, fun k hk => by obtain ⟨j, rfl⟩ : ∃ j, k = j + 1 := ⟨k - 1, by omega⟩; rw [hs]; exact h0 j (by omega)⟩
theorem Ev.congr {α : Type} {F G : Nat → Option α} {v : α} (hs : ∀ k, F k = G k) (h : Ev G v) : Ev F v := by
  obtain ⟨k0, h0⟩ := h
  exact ⟨k0, fun k hk => by rw [hs]; exact h0 k hk⟩
theorem Ev.ite_pos {α : Type} {F G : Nat → Option α} {v : α} {c : Prop} [Decidable c] (hc : c) (h : Ev F v) : Ev (fun k => if c then F k else G k) v := by simpa only [if_pos hc] using h
theorem Ev.ite_neg {α : Type} {F G : Nat → Option α} {v : α} {c : Prop} [Decidable c] (hc : ¬ c) (h : Ev G v) : Ev (fun k => if c then F k else G k) v := by simpa only [if_neg hc] using h
theorem Ev.get {α : Type} {F : Nat → Option α} {v : α} (h : Ev F v) : ∃ k, F k = some v := by obtain ⟨k0, h0⟩ := h; exact ⟨k0, h0 k0 (Nat.le_refl _)⟩

/-- Numbers that are bytes. -/
def Bytes (l : List Int) : Prop := ∀ x ∈ l, 0 ≤ x ∧ x ≤ 255
theorem w64 {n : Int} (h0 : -9223372036854775808 ≤ n) (h1 : n < 9223372036854775808) : wrap64 n = n := by unfold wrap64; omega
theorem rd_nat (l : List Int) (p : Nat) (h : p < l.length) : rd l (p : Int) = l[p] := by
  unfold rd
  rw [Int.toNat_natCast, List.getD_eq_getElem?_getD, List.getElem?_eq_getElem h]
  rfl
/-- A text that is not beyond all bounds. -/
def Small (l : List Int) : Prop := l.length < 1099511627776
/-- Lists that the row lets in. -/
def Wide (l : List Int) : Prop := l.length ≤ 140737488351232
theorem Small.wide {l : List Int} (h : Small l) : Wide l := by unfold Small at h; unfold Wide; omega
end Go.Proofs.YtbomhpfckplgaaaDoor.P
