/- Texts of this claim, put together: WKept, WShare, WN, WFootNe, WAt, WEqStruct, WRepsOne, WInvWords, WGuard, WNEv, WMore, Px0, U0, WSized, Row0, Row1, Px6, H, Px5, HKeep, ULcs, H9, HSteps, Px3, HTo, Px41. -/
import Derived.Laws.StructEq
import Derived.Test.YtbomhpfckplgaaaDoorProg
import Derived.Below
import Derived.Deep.Draws
import Derived.Deep.AppendLies
import Derived.Maps.AppendAt
import Derived.OwnWalk
import Derived.Laws.BytesArg
import Derived.Laws.MakeOwn
import Derived.Laws.OwnMore
import Derived.Deep.OwnRows
import Derived.Tactics
import Derived.Lib.ConvBytes
import Derived.Laws.Slices
import Derived.WalkKit
import Derived.KernelRfl
import Derived.RowKit3
import Derived.Deep.LoopGhost
import Derived.Deep.QuietTactic
import Derived.BigQuiet
import Derived.WideLaws
import Derived.Deep.DeepCutAuto
import Derived.Deep.CutBlock
import Derived.Deep.RegionHeld3
import Derived.Laws.Rows
import Derived.Lib.AppendStr
import Derived.ArgAppend
import Derived.Laws.IdiomCopy
import Derived.OrdersHeld
import Derived.Laws.BitsLemmas
import Derived.RowKit
import Derived.SizedLaws
import Derived.ChangeSlices
import Derived.Test.YtbomhpfckplgaaaDoorCards
import Derived.Test.YtbomhpfckplgaaaDoorTie
import Derived.ProofKit
import Derived.OpenShut
import Derived.ShutString
import Derived.ChangeOld
import Derived.Deep.DeepHandedRow
import Derived.Lib.LaidTab
import Derived.JoinedOf
import Derived.JoinedCond
import Derived.SevenTiedAt
import Derived.WalkLawsBesides
import Derived.WalkSpells
import Derived.Laws.RangeAny
import Derived.Laws.RangeString
import Derived.LoopN
import Derived.RangeFuncNested
import Derived.RangeFuncBound
import Derived.RangeFuncCalls
import Derived.RangeFuncLeaves
import Derived.Shelf.Abstract
import Derived.OwnWalkIn
import Derived.TacticsInMore
import Derived.LoopNIn
import Derived.LoopIn
import Derived.Lib.OthersKept
import Derived.LoopTactic
import Derived.Deep.RegionWith
import Derived.Test.YtbomhpfckplgaaaDoorT0
namespace Go.Proofs.YtbomhpfckplgaaaDoorW.PrintWords
open Go.RowKit
def Kept (w W : World) (S : Nat → Prop) : Prop := w.heap.size ≤ W.heap.size ∧ ∀ i, i < w.heap.size → ¬ S i → W.heap[i]? = w.heap[i]?
section
variable {w W W2 : World} {S S2 S' : Nat → Prop}
theorem Kept.refl (w : World) (S : Nat → Prop) : Kept w w S := ⟨Nat.le_refl _, fun _ _ _ => rfl⟩
theorem Kept.of_below (h : Below w.heap.size w W) (S : Nat → Prop) : Kept w W S := ⟨h.size, fun i hi _ => h.block i hi⟩
theorem Kept.mono (h : Kept w W S) (hs : ∀ k, S k → S' k) : Kept w W S' := ⟨h.1, fun i hi hn => h.2 i hi (fun hk => hn (hs i hk))⟩
theorem Kept.then_ (h : Kept w W S) (k : Kept W W2 S2) (hs : ∀ k, S2 k → S k ∨ w.heap.size ≤ k) : Kept w W2 S :=
  ⟨Nat.le_trans h.1 k.1, fun i hi hn => (k.2 i (Nat.lt_of_lt_of_le hi h.1) (fun h2 => (hs i h2).elim hn (fun h3 => by omega))).trans (h.2 i hi hn)⟩
theorem Kept.below (h : Kept w W S) (hb : Below W.heap.size W W2) : Kept w W2 S := h.then_ (Kept.of_below hb (fun _ => False)) (fun _ hk => hk.elim)
theorem Kept.alloc (h : Kept w W S) (o : Obj) : Kept w (W.alloc o) S := h.below (below_alloc (Below.refl _ _) o)
theorem Kept.drew (h : Kept w W S) : Kept w W.drew S := h
theorem Kept.drewN (h : Kept w W S) (m : Nat) : Kept w (W.drewN m) S := h
theorem Kept.setCell (h : Kept w W S) {p : Addr} (hp : S p.block ∨ w.heap.size ≤ p.block) (u : Value) : Kept w (W.setCell p u) S :=
  h.then_ (S2 := fun k => k = p.block) ⟨by simp [World.setCell], fun i _ hn => Below.heap_setCell W p u i hn⟩ (fun k hk => by rw [hk]; exact hp)
theorem Kept.keep {g : Nat} (h : KeepBut w W g none) (k : Kept W W2 S2) (hs : ∀ k, S2 k → w.heap.size ≤ k) : KeepBut w W2 g none :=
  ⟨Nat.le_trans h.1 k.1, fun i hi hg hr => (k.2 i (Nat.lt_of_lt_of_le hi h.1) (fun h2 => by have := hs i h2; omega)).trans (h.2 i hi hg hr)⟩
end
namespace Kd
section
variable {α : Type} {d : Kd α} {e base n c : Nat} {ok oki S S2 : Nat → Prop} {w w0 W W1 W2 : World} {v : Value} {A : Option Addr} {xs : List α} {i : Int} {cs : List Value}
end
end Kd
end Go.Proofs.YtbomhpfckplgaaaDoorW.PrintWords
namespace Go.Proofs.YtbomhpfckplgaaaDoorW.PrintWords
open Go.RowKit
def Foot (P : World → Prop) (W : World) (ok : Nat → Prop) : Prop := ∀ W' : World, (∀ k, ok k → k < W.heap.size → W'.heap[k]? = W.heap[k]?) → P W'
theorem heap_lt {W W1 : World} {k : Nat} (h : W1.heap[k]? = W.heap[k]?) (hlt : k < W.heap.size) : k < W1.heap.size := by
  rw [Array.getElem?_eq_getElem hlt] at h
  exact (Array.getElem?_eq_some_iff.1 h).1
namespace Foot
variable {P Q : World → Prop} {W W1 : World} {ok ok' : Nat → Prop}
theorem mono (h : Foot P W ok) (hok : ∀ k, ok k → ok' k) : Foot P W ok' := fun W' hW => h W' (fun k hk hlt => hW k (hok k hk) hlt)
theorem step (h : Foot P W ok) (hm : ∀ k, ok k → k < W.heap.size → W1.heap[k]? = W.heap[k]?) : Foot P W1 ok := fun W' hW => h W' (fun k hk hlt => (hW k hk (heap_lt (hm k hk hlt) hlt)).trans (hm k hk hlt))
end Foot
namespace Kd
def F {α : Type} (d : Kd α) (W : World) (ok : Nat → Prop) (A : Option Addr) (n : Nat) (xs : List α) : Prop := Foot (fun W => d.C W A n xs) W ok
def FK {α : Type} (d : Kd α) (W : World) (ok : Nat → Prop) (x : α) (c : List Value) : Prop := Foot (fun W => d.K W x c) W ok
section
variable {α β : Type} {d : Kd α} {e base n n' cc g N : Nat} {ok ok' okp S : Nat → Prop} {w w0 w1 W W1 : World} {A A' : Option Addr} {u v v1 : Value} {xs : List α} {xs' : List β} {d' : Kd β} {x : α} {c : List Value}
theorem F_nil (d : Kd α) (W : World) (ok : Nat → Prop) : F d W ok none ([] : List α).length [] := fun W' _ => C_nil d W'
theorem FK_of_M (h : d.M W base ok x c) : FK d W ok x c := fun _ hW => d.K_of_M (M_step h hW)
end
end Kd
end Go.Proofs.YtbomhpfckplgaaaDoorW.PrintWords
namespace Go.Proofs.YtbomhpfckplgaaaDoorW.PrintWords
open Go.RowKit
namespace Kd
def chunks (sz : Nat) (n : Nat) (inner : List Value) : List (List Value) := (List.range n).map fun j => (inner.drop (j * sz)).take sz
theorem chunks_length (sz n : Nat) (inner : List Value) : (chunks sz n inner).length = n := by simp [chunks]
theorem chunks_at {sz n : Nat} {inner : List Value} {j : Nat} (hj : j < n) : (chunks sz n inner)[j]? = some ((inner.drop (j * sz)).take sz) := by simp [chunks, hj]
theorem chunks_get {sz n : Nat} {inner : List Value} {j : Nat} {c : List Value} (h : (chunks sz n inner)[j]? = some c) : c = (inner.drop (j * sz)).take sz := by
  have hj : j < n := by have := (List.getElem?_eq_some_iff.1 h).1; rwa [chunks_length] at this
  rw [chunks_at hj] at h
  injection h with h
  exact h.symm
theorem reps_raw {α : Type} {Rr : α → List Value → Prop} {sz : Nat} {xs : List α} {inner : List Value} (h : Reps Rr sz xs inner) (hR : ∀ x c, Rr x c → c.length = sz ∧ ∀ u ∈ c, u.oneCell' = true) : Reps (fun x cs => cs = x ∧ cs.length = sz ∧ ∀ u ∈ cs, u.oneCell' = true) sz (chunks sz xs.length inner) inner := by
  refine ⟨by rw [chunks_length]; exact h.1, fun j p hj => ?_⟩
  have hjl : j < xs.length := by have := (List.getElem?_eq_some_iff.1 hj).1; rwa [chunks_length] at this
  have hp := chunks_get hj
  exact ⟨hp.symm, hR _ _ (h.2 j _ (List.getElem?_eq_getElem hjl))⟩
section
variable {α : Type} {d : Kd α} {e base n cc g : Nat} {ok ok' okp S : Nat → Prop} {w w1 W W1 : World} {A : Option Addr} {u v v1 : Value} {xs : List α} {x : α} {c : List Value}
def N {α : Type} (d : Kd α) (e : Nat) (w : World) (base : Nat) (ok : Nat → Prop) (v : Value) (xs : List α) : Prop :=
  (∀ k, v.ownBlock = some k → ok k) ∧ ∃ rows : List (List Value), rows.length = xs.length ∧ (raw d.sz).R e w base (fun k => some k = v.ownBlock) v rows ∧ ∀ (j : Nat) (x : α) (c : List Value), xs[j]? = some x → rows[j]? = some c → FK d w (fun k => ok k ∧ some k ≠ v.ownBlock) x c
theorem R_N (h : d.R e w base ok v xs) : N d e w base ok v xs := by
  obtain ⟨h0, inner, ho, hr⟩ := h
  refine ⟨h0, chunks d.sz xs.length inner, chunks_length _ _ _, ⟨fun k hk => hk.symm, inner, by rw [chunks_length]; exact ho, reps_raw hr (fun x c hp => ⟨d.K_len (d.K_of_M hp), d.K_one (d.K_of_M hp)⟩)⟩, fun j x c hx hc => ?_⟩
  rw [chunks_get hc]
  exact FK_of_M (hr.2 j x hx)
theorem N_nil (d : Kd α) (e : Nat) (w : World) (base : Nat) (ok : Nat → Prop) : N d e w base ok (.slice none 0 0) [] := R_N (R_nil _ _ _ _ _)
end
end Kd
end Go.Proofs.YtbomhpfckplgaaaDoorW.PrintWords
namespace Go.Proofs.YtbomhpfckplgaaaDoorW.PrintWords
open Go.RowKit
namespace Kd
section
variable {α : Type} {d : Kd α} {W : World} {g n : Nat} {S ok : Nat → Prop} {A : Option Addr} {ad : Addr} {xs : List α}
end
end Kd
end Go.Proofs.YtbomhpfckplgaaaDoorW.PrintWords
namespace Go.Proofs.YtbomhpfckplgaaaDoorW.PrintWords
open Go.RowKit
section
variable {w w' u : World} {m B g : Nat} {o : Obj} {row : Option Nat} {S : Nat → Prop} {a : Addr} {v : Value}
end
namespace Kd
section
variable {α : Type} {d : Kd α} {e base n m : Nat} {ok : Nat → Prop} {w w' : World} {v : Value} {A : Option Addr} {xs : List α}
end
end Kd
end Go.Proofs.YtbomhpfckplgaaaDoorW.PrintWords
namespace Go.Proofs.YtbomhpfckplgaaaDoorW.PrintWords
open Go.RowKit
section
variable {P : Program} {d : Nat} {xs ys : Array Value} {f : Field} {fs : List Field} {a b : Value} {r s : Bool} {w : World}
theorem eqf_last (hn : (f.name == "_") = false) (ha : (part f.type xs f.offset).run P w = .ok a w) (hb : (part f.type ys f.offset).run P w = .ok b w) (he : (Op.equalIn d f.type a b).run P w = .ok r w) : (Op.eqFields d xs ys [f]).run P w = .ok r w := by
  have hn' : f.name ≠ "_" := by simpa using hn
  simp only [Op.eqFields, if_pos hn', Sem.run_bind, ha, hb, he, Result.andThen_ok]
  cases r <;> simp
theorem eqf_cons (hn : (f.name == "_") = false) (ha : (part f.type xs f.offset).run P w = .ok a w) (hb : (part f.type ys f.offset).run P w = .ok b w) (he : (Op.equalIn d f.type a b).run P w = .ok r w) (hr : (Op.eqFields d xs ys fs).run P w = .ok s w) : (Op.eqFields d xs ys (f :: fs)).run P w = .ok (r && s) w := by
  have hn' : f.name ≠ "_" := by simpa using hn
  rw [Op.eqFields]
  simp only [if_pos hn', Sem.run_bind, ha, hb, he, Result.andThen_ok]
  cases r
  · simp
  · simpa using hr
theorem eqA_of {t : TypeId} {fs : Array Field} (hu : P.underlying t = some (.struct fs)) (hp : P.stoodInHeld t = false) (h : (Op.eqFields d xs ys fs.toList).run P w = .ok r w) : (Op.equalIn (d + 1) t (.agg xs) (.agg ys)).run P w = .ok r w := by
  have hf : P.fieldsOf t = fs := by simp [Program.fieldsOf, hu]
  rw [run_equalIn_struct (P := P) w d t xs ys (by rw [hf]; exact hu) hp, hf]
  exact h
end
end Go.Proofs.YtbomhpfckplgaaaDoorW.PrintWords
namespace Go.Proofs.YtbomhpfckplgaaaDoorW.PrintWords
theorem Reps.front {α : Type} {R : α → List Value → Prop} {size : Nat} {ps : List α} {cs c all : List Value} {p : α} (hp : R p c) (hc : c.length = size) (h : Reps R size ps cs) (ha : c ++ cs = all) : Reps R size (p :: ps) all := by
  subst ha
  refine ⟨by rw [List.length_append, hc, h.1, List.length_cons, Nat.succ_mul, Nat.add_comm], fun j q hq => ?_⟩
  cases j with
  | zero =>
    simp only [List.getElem?_cons_zero, Option.some.injEq] at hq
    subst hq
    rw [Nat.zero_mul, List.drop_zero, List.take_append_of_le_length (by omega), List.take_of_length_le (by omega)]
    exact hp
  | succ j =>
    simp only [List.getElem?_cons_succ] at hq
    have h1 := h.2 j q hq
    rw [Nat.succ_mul, List.drop_append, List.drop_of_length_le (by rw [hc]; exact Nat.le_add_left _ _), List.nil_append, hc, Nat.add_sub_cancel]
    exact h1
theorem Reps.c2 {α : Type} {R : α → List Value → Prop} {ps : List α} {cs : List Value} {p : α} {va vb : Value} (hp : R p [va, vb]) (h : Reps R 2 ps cs) : Reps R 2 (p :: ps) (va :: vb :: cs) := Reps.front hp rfl h rfl
theorem Reps.c3 {α : Type} {R : α → List Value → Prop} {ps : List α} {cs : List Value} {p : α} {va vb vc : Value} (hp : R p [va, vb, vc]) (h : Reps R 3 ps cs) : Reps R 3 (p :: ps) (va :: vb :: vc :: cs) := Reps.front hp rfl h rfl
theorem Reps.c4 {α : Type} {R : α → List Value → Prop} {ps : List α} {cs : List Value} {p : α} {va vb vc vd : Value} (hp : R p [va, vb, vc, vd]) (h : Reps R 4 ps cs) : Reps R 4 (p :: ps) (va :: vb :: vc :: vd :: cs) := Reps.front hp rfl h rfl
theorem Reps.c5 {α : Type} {R : α → List Value → Prop} {ps : List α} {cs : List Value} {p : α} {va vb vc vd ve : Value} (hp : R p [va, vb, vc, vd, ve]) (h : Reps R 5 ps cs) : Reps R 5 (p :: ps) (va :: vb :: vc :: vd :: ve :: cs) := Reps.front hp rfl h rfl
theorem Reps.c6 {α : Type} {R : α → List Value → Prop} {ps : List α} {cs : List Value} {p : α} {va vb vc vd ve vf : Value} (hp : R p [va, vb, vc, vd, ve, vf]) (h : Reps R 6 ps cs) : Reps R 6 (p :: ps) (va :: vb :: vc :: vd :: ve :: vf :: cs) := Reps.front hp rfl h rfl
theorem Reps.c7 {α : Type} {R : α → List Value → Prop} {ps : List α} {cs : List Value} {p : α} {va vb vc vd ve vf vg : Value} (hp : R p [va, vb, vc, vd, ve, vf, vg]) (h : Reps R 7 ps cs) : Reps R 7 (p :: ps) (va :: vb :: vc :: vd :: ve :: vf :: vg :: cs) := Reps.front hp rfl h rfl
theorem Reps.c8 {α : Type} {R : α → List Value → Prop} {ps : List α} {cs : List Value} {p : α} {va vb vc vd ve vf vg vh : Value} (hp : R p [va, vb, vc, vd, ve, vf, vg, vh]) (h : Reps R 8 ps cs) : Reps R 8 (p :: ps) (va :: vb :: vc :: vd :: ve :: vf :: vg :: vh :: cs) := Reps.front hp rfl h rfl
theorem Reps.c9 {α : Type} {R : α → List Value → Prop} {ps : List α} {cs : List Value} {p : α} {va vb vc vd ve vf vg vh vi : Value} (hp : R p [va, vb, vc, vd, ve, vf, vg, vh, vi]) (h : Reps R 9 ps cs) : Reps R 9 (p :: ps) (va :: vb :: vc :: vd :: ve :: vf :: vg :: vh :: vi :: cs) := Reps.front hp rfl h rfl
theorem Reps.c10 {α : Type} {R : α → List Value → Prop} {ps : List α} {cs : List Value} {p : α} {va vb vc vd ve vf vg vh vi vj : Value} (hp : R p [va, vb, vc, vd, ve, vf, vg, vh, vi, vj]) (h : Reps R 10 ps cs) : Reps R 10 (p :: ps) (va :: vb :: vc :: vd :: ve :: vf :: vg :: vh :: vi :: vj :: cs) := Reps.front hp rfl h rfl
end Go.Proofs.YtbomhpfckplgaaaDoorW.PrintWords
namespace Go.Proofs.YtbomhpfckplgaaaDoorW.PrintWords
open Go.RowKit
end Go.Proofs.YtbomhpfckplgaaaDoorW.PrintWords
namespace Go.Proofs.YtbomhpfckplgaaaDoorW.PrintLast
section
variable {ops : Array Oper} {a : Act} {o og : Oper} {g : Nat} {t : Tmp} {u : Bool}
end
end Go.Proofs.YtbomhpfckplgaaaDoorW.PrintLast
namespace Go.Proofs.YtbomhpfckplgaaaDoorW.PrintWords
open Go.RowKit
section
variable {P : Program} {ops : Array Oper} {rest : List Oper} {o : Oper} {a : Act} {Q : Exit → Act → World → Prop} {W : World}
theorem gate_guard (hw : Region.wanted o (yielded ops a.tmps) = true) (h : wpList P ops Q ({ o with guard := none } :: rest) a W) : wpList P ops Q (o :: rest) a W := by
  have h1 : Region.wanted { o with guard := none } (yielded ops a.tmps) = true := rfl
  unfold wpList at h ⊢
  rw [if_pos h1] at h
  rw [if_pos hw]
  exact h
end
end Go.Proofs.YtbomhpfckplgaaaDoorW.PrintWords
namespace Go.Proofs.YtbomhpfckplgaaaDoorW.PrintWords
open Go.RowKit
namespace Kd
section
variable {α : Type} {d : Kd α} {e base n cap g : Nat} {ok ok' okp : Nat → Prop} {w w1 W : World} {v v1 : Value} {xs ys : List α}
end
section
variable {P : Program} {ops : Array Oper} {rest : List Oper} {o : Oper} {a : Act} {Q : Exit → Act → World → Prop} {Kc : Act → World → Prop} {α : Type}
end
end Kd
end Go.Proofs.YtbomhpfckplgaaaDoorW.PrintWords
namespace Go.Proofs.YtbomhpfckplgaaaDoorW.PrintMore
open Go.RowKit Go.Proofs.YtbomhpfckplgaaaDoorW.PrintWords
namespace Kd
open Go.Proofs.YtbomhpfckplgaaaDoorW.PrintWords.Kd
end Kd
namespace Kd
open Go.Proofs.YtbomhpfckplgaaaDoorW.PrintWords.Kd
section
variable {α : Type} {d : Kd α} {e base g N : Nat} {ok : Nat → Prop} {W w1 : World} {u v : Value} {xs : List α}
end
end Kd
theorem max2_int (k k' : IntKind) (x y : Int) : Builtin.max2 (.int k x) (.int k' y) = pure (.int k (if x < y then y else x)) := by simp only [Builtin.max2, gt_iff_lt]
theorem min2_int (k k' : IntKind) (x y : Int) : Builtin.min2 (.int k x) (.int k' y) = pure (.int k (if y < x then y else x)) := by simp only [Builtin.min2]
theorem max_two (ats : Array TypeId) (ty : TypeId) (a b : Value) : Builtin.max_ ats ty #[a, b] = (Builtin.max2 a b >>= fun s => pure s) := by simp only [Builtin.max_, List.foldlM_cons, List.foldlM_nil]
theorem min_two (ats : Array TypeId) (ty : TypeId) (a b : Value) : Builtin.min_ ats ty #[a, b] = (Builtin.min2 a b >>= fun s => pure s) := by simp only [Builtin.min_, List.foldlM_cons, List.foldlM_nil]
theorem max_three (ats : Array TypeId) (ty : TypeId) (a b c : Value) : Builtin.max_ ats ty #[a, b, c] = (Builtin.max2 a b >>= fun s => Builtin.max2 s c >>= fun s => pure s) := by simp only [Builtin.max_, List.foldlM_cons, List.foldlM_nil]
theorem min_three (ats : Array TypeId) (ty : TypeId) (a b c : Value) : Builtin.min_ ats ty #[a, b, c] = (Builtin.min2 a b >>= fun s => Builtin.min2 s c >>= fun s => pure s) := by simp only [Builtin.min_, List.foldlM_cons, List.foldlM_nil]
theorem max_four (ats : Array TypeId) (ty : TypeId) (a b c d : Value) : Builtin.max_ ats ty #[a, b, c, d] = (Builtin.max2 a b >>= fun s => Builtin.max2 s c >>= fun s => Builtin.max2 s d >>= fun s => pure s) := by simp only [Builtin.max_, List.foldlM_cons, List.foldlM_nil]
theorem min_four (ats : Array TypeId) (ty : TypeId) (a b c d : Value) : Builtin.min_ ats ty #[a, b, c, d] = (Builtin.min2 a b >>= fun s => Builtin.min2 s c >>= fun s => Builtin.min2 s d >>= fun s => pure s) := by simp only [Builtin.min_, List.foldlM_cons, List.foldlM_nil]
end Go.Proofs.YtbomhpfckplgaaaDoorW.PrintMore
namespace Go.Proofs.YtbomhpfckplgaaaDoorW.PrintWords
open Go.RowKit
section
variable {P : Program} {ops : Array Oper} {rest : List Oper} {o : Oper} {a : Act} {Q : Exit → Act → World → Prop} {W : World}
theorem gate_callee {f : FuncId} {as_ : Array Operand} {ts : Array TypeId} (_ho : o.op = .call { callee := .value (.func f), args := as_, argTypes := ts }) (h : wpList P ops Q (o :: rest) a W) : wpList P ops Q (o :: rest) a W := h
theorem gate_builtin {b : Builtin} {xs : Array Operand} {ts : Array TypeId} (_ho : o.op = .call { callee := .builtin b, args := xs, argTypes := ts }) (h : wpList P ops Q (o :: rest) a W) : wpList P ops Q (o :: rest) a W := h
end
def mx (a b : Int) : Int := if a < b then b else a
def mn (a b : Int) : Int := if b < a then b else a
namespace Kd
section
variable {α : Type} {d : Kd α} {e base : Nat} {ok : Nat → Prop} {W w1 : World} {v : Value} {xs : List α}
end
section
variable {α : Type} {d : Kd α} {e base g n cap : Nat} {ok oki okp : Nat → Prop} {W : World} {xs : List α} {i : Int} {c : List Value}
end
section
variable {α : Type} {d : Kd α} {e base b b' g N : Nat} {ok ok1 : Nat → Prop} {W W2 w1 : World} {u v : Value} {xs ys : List α} {S : Nat → Prop}
end
end Kd
end Go.Proofs.YtbomhpfckplgaaaDoorW.PrintWords
namespace Go.Proofs.YtbomhpfckplgaaaDoorW.PrintWords
open Go.RowKit
namespace Kd
def V {α : Type} (d : Kd α) (_e : Nat) (W : World) (_base : Nat) (ok : Nat → Prop) (v : Value) (xs : List α) : Prop := ∃ A c, v = .slice A xs.length c ∧ xs.length ≤ c ∧ F d W ok A xs.length xs
section
variable {α β : Type} {d : Kd α} {e base base' n m c g N' lo hi : Nat} {ok ok' S : Nat → Prop} {w W w1 : World} {A : Option Addr} {ad : Addr} {u v v1 : Value} {xs : List α}
theorem V_nil (d : Kd α) (e : Nat) (W : World) (base : Nat) (ok : Nat → Prop) : V d e W base ok (.slice none 0 0) [] := ⟨none, 0, rfl, Nat.le_refl _, F_nil d W ok⟩
end
end Kd
end Go.Proofs.YtbomhpfckplgaaaDoorW.PrintWords
namespace Go.Proofs.YtbomhpfckplgaaaDoor.P
open Go.RowKit Go.Proofs.YtbomhpfckplgaaaDoorW.PrintWords Go.Proofs.YtbomhpfckplgaaaDoorW.PrintLast Go.Proofs.YtbomhpfckplgaaaDoorW.PrintMore
attribute [local go_sem] max2_int min2_int max_two min_two max_three min_three max_four min_four   -- for this text's walks alone
set_option linter.unusedVariables false
set_option linter.unusedSimpArgs false
def errW : Option Int → Value
 | none => .nilIface
 | some c => .iface 0 (.int .i64 c)
theorem errW_none : errW none = .nilIface := rfl
theorem errW_some (c : Int) : errW (some c) = .iface 0 (.int .i64 c) := rfl
theorem info3 : (Tryd.prog.info? 3).map (fun i => (i.zero, i.size, i.bytes)) = some (some (.int .i64 0), 1, 8) := by kernel_rfl
theorem info5 : (Tryd.prog.info? 5).map (fun i => (i.zero, i.size, i.bytes)) = some (some (.int .u8 0), 1, 1) := by kernel_rfl
theorem info9 : (Tryd.prog.info? 9).map (fun i => (i.zero, i.size, i.bytes)) = some (some (.string ⟨#[]⟩), 1, 16) := by kernel_rfl
theorem info102 : (Tryd.prog.info? 102).map (fun i => (i.zero, i.size, i.bytes)) = some (some (.agg #[(.int .i64 0), (.int .i64 0), (.string ⟨#[]⟩)]), 3, 32) := by kernel_rfl
structure S121 where
 f0 : Int
 f1 : Int
 f2 : Bool
structure S102 where
 f0 : Int
 f1 : Int
 f2 : ByteArray
def z102 : S102 := ⟨(0 : Int), (0 : Int), (⟨#[]⟩ : ByteArray)⟩
def k102 : Kd S102 := Kd.iso (Kd.pair (Kd.int .i64) (Kd.pair (Kd.int .i64) Kd.string)) (fun x : S102 => (x.f0, x.f1, x.f2))
theorem k102_open {w : World} {x : S102} {cs : List Value} (h : k102.K w x cs) : cs = [.int .i64 x.f0, .int .i64 x.f1, .string x.f2] := by
 obtain ⟨_, _, rfl, rfl, ⟨_, _, rfl, rfl, rfl⟩⟩ := h
 exact rfl
theorem k102_openM {w : World} {base : Nat} {ok : Nat → Prop} {x : S102} {cs : List Value} (h : k102.M w base ok x cs) : cs = [.int .i64 x.f0, .int .i64 x.f1, .string x.f2] := by
 obtain ⟨_, _, rfl, rfl, ⟨_, _, rfl, rfl, rfl⟩⟩ := h
 exact rfl
theorem k102_mk (w : World) (x : S102)  : k102.K w x [.int .i64 x.f0, .int .i64 x.f1, .string x.f2] := ⟨[.int .i64 x.f0], [.int .i64 x.f1, .string x.f2], rfl, rfl, ⟨[.int .i64 x.f1], [.string x.f2], rfl, rfl, rfl⟩⟩
theorem k102_mkM (w : World) (base : Nat) (ok : Nat → Prop) (x : S102)  : k102.M w base ok x [.int .i64 x.f0, .int .i64 x.f1, .string x.f2] := ⟨[.int .i64 x.f0], [.int .i64 x.f1, .string x.f2], rfl, rfl, ⟨[.int .i64 x.f1], [.string x.f2], rfl, rfl, rfl⟩⟩
def rd_T102 (xs : List S102) (i : Int) : S102 := xs.getD i.toNat z102
theorem at_T102 {w : World} {A : Option Addr} {n : Nat} {xs : List S102} (h : Kd.C k102 w A n xs) (i : Int) (h0 : 0 ≤ i) (h1 : i < n) : ∃ ad , A = some ad ∧ w.cell? (ad.add (i.toNat * 3)) = some (.int .i64 (rd_T102 xs i).f0) ∧ w.cell? ⟨(ad.add (i.toNat * 3)).block, (ad.add (i.toNat * 3)).off + 1, none⟩ = some (.int .i64 (rd_T102 xs i).f1) ∧ w.cell? ⟨(ad.add (i.toNat * 3)).block, (ad.add (i.toNat * 3)).off + 2, none⟩ = some (.string (rd_T102 xs i).f2) := by
 obtain ⟨ad, c, e, _, hK, hc0⟩ := Kd.C_get h z102 i h0 h1
 have hc : ∀ j u, c[j]? = some u → w.cell? (ad.add (i.toNat * 3 + j)) = some u := hc0
 obtain rfl := k102_open hK
 exact ⟨ad, e, hc 0 _ rfl, by rw [← add_field _ _ 1 (by omega)]; exact hc 1 _ rfl, by rw [← add_field _ _ 2 (by omega)]; exact hc 2 _ rfl⟩
structure S144 where
 f0 : Int
 f1 : Int
 f2 : Int
 f3 : Int
def z144 : S144 := ⟨(0 : Int), (0 : Int), (0 : Int), (0 : Int)⟩
def k144 : Kd S144 := Kd.iso (Kd.pair (Kd.int .i64) (Kd.pair (Kd.int .i64) (Kd.pair (Kd.int .i64) (Kd.int .i64)))) (fun x : S144 => (x.f0, x.f1, x.f2, x.f3))
theorem k144_open {w : World} {x : S144} {cs : List Value} (h : k144.K w x cs) : cs = [.int .i64 x.f0, .int .i64 x.f1, .int .i64 x.f2, .int .i64 x.f3] := by
 obtain ⟨_, _, rfl, rfl, ⟨_, _, rfl, rfl, ⟨_, _, rfl, rfl, rfl⟩⟩⟩ := h
 exact rfl
theorem k144_mkM (w : World) (base : Nat) (ok : Nat → Prop) (x : S144)  : k144.M w base ok x [.int .i64 x.f0, .int .i64 x.f1, .int .i64 x.f2, .int .i64 x.f3] := ⟨[.int .i64 x.f0], [.int .i64 x.f1, .int .i64 x.f2, .int .i64 x.f3], rfl, rfl, ⟨[.int .i64 x.f1], [.int .i64 x.f2, .int .i64 x.f3], rfl, rfl, ⟨[.int .i64 x.f2], [.int .i64 x.f3], rfl, rfl, rfl⟩⟩⟩
def rd_T144 (xs : List S144) (i : Int) : S144 := xs.getD i.toNat z144
theorem at_T144 {w : World} {A : Option Addr} {n : Nat} {xs : List S144} (h : Kd.C k144 w A n xs) (i : Int) (h0 : 0 ≤ i) (h1 : i < n) : ∃ ad , A = some ad ∧ w.cell? (ad.add (i.toNat * 4)) = some (.int .i64 (rd_T144 xs i).f0) ∧ w.cell? ⟨(ad.add (i.toNat * 4)).block, (ad.add (i.toNat * 4)).off + 1, none⟩ = some (.int .i64 (rd_T144 xs i).f1) ∧ w.cell? ⟨(ad.add (i.toNat * 4)).block, (ad.add (i.toNat * 4)).off + 2, none⟩ = some (.int .i64 (rd_T144 xs i).f2) ∧ w.cell? ⟨(ad.add (i.toNat * 4)).block, (ad.add (i.toNat * 4)).off + 3, none⟩ = some (.int .i64 (rd_T144 xs i).f3) := by
 obtain ⟨ad, c, e, _, hK, hc0⟩ := Kd.C_get h z144 i h0 h1
 have hc : ∀ j u, c[j]? = some u → w.cell? (ad.add (i.toNat * 4 + j)) = some u := hc0
 obtain rfl := k144_open hK
 exact ⟨ad, e, hc 0 _ rfl, by rw [← add_field _ _ 1 (by omega)]; exact hc 1 _ rfl, by rw [← add_field _ _ 2 (by omega)]; exact hc 2 _ rfl, by rw [← add_field _ _ 3 (by omega)]; exact hc 3 _ rfl⟩
structure S88 where
 f0 : Int
 f1 : Int
 f2 : Int
structure S71 where
 f0 : Int
 f1 : Int
structure S73 where
 f0 : S71
 f1 : Int
 f2 : Int
end Go.Proofs.YtbomhpfckplgaaaDoor.P
namespace Go.Proofs.YtbomhpfckplgaaaDoor.P
open Go.RowKit Go.Proofs.YtbomhpfckplgaaaDoorW.PrintWords
set_option linter.unusedVariables false
set_option linter.unusedSimpArgs false
def Ev {α : Type} (F : Nat → Option α) (v : α) : Prop := ∃ k0, ∀ k, k0 ≤ k → F k = some v
theorem Ev.pure {α : Type} (v : α) : Ev (fun _ => some v) v := ⟨0, fun _ _ => rfl⟩
theorem Ev.of {α : Type} {o : Option α} {v : α} (h : o = some v) : Ev (fun _ => o) v := ⟨0, fun _ _ => h⟩
theorem Ev.bind {α β : Type} {F : Nat → Option α} {G : Nat → α → Option β} {v : α} {u : β} (h : Ev F v) (h' : Ev (fun k => G k v) u) : Ev (fun k => (F k).bind fun x => G k x) u := by
  obtain ⟨k0, h0⟩ := h
  obtain ⟨k1, h1⟩ := h'
  exact ⟨max k0 k1, fun k hk => by show (F k).bind _ = _; rw [h0 k (by omega)]; exact h1 k (by omega)⟩
theorem Ev.step {α : Type} {F G : Nat → Option α} {v : α} (hs : ∀ k, F (k + 1) = G k) (h : Ev G v) : Ev F v := by
  obtain ⟨k0, h0⟩ := h
  exact ⟨k0 + 1, fun k hk => by obtain ⟨j, rfl⟩ : ∃ j, k = j + 1 := ⟨k - 1, by omega⟩; rw [hs]; exact h0 j (by omega)⟩
theorem Ev.congr {α : Type} {F G : Nat → Option α} {v : α} (hs : ∀ k, F k = G k) (h : Ev G v) : Ev F v := by
  obtain ⟨k0, h0⟩ := h
  exact ⟨k0, fun k hk => by rw [hs]; exact h0 k hk⟩
theorem Ev.ite_pos {α : Type} {F G : Nat → Option α} {v : α} {c : Prop} [Decidable c] (hc : c) (h : Ev F v) : Ev (fun k => if c then F k else G k) v := by simpa only [if_pos hc] using h
theorem Ev.ite_neg {α : Type} {F G : Nat → Option α} {v : α} {c : Prop} [Decidable c] (hc : ¬ c) (h : Ev G v) : Ev (fun k => if c then F k else G k) v := by simpa only [if_neg hc] using h
theorem Ev.get {α : Type} {F : Nat → Option α} {v : α} (h : Ev F v) : ∃ k, F k = some v := by obtain ⟨k0, h0⟩ := h; exact ⟨k0, h0 k0 (Nat.le_refl _)⟩
def Bytes (l : List Int) : Prop := ∀ x ∈ l, 0 ≤ x ∧ x ≤ 255
theorem w64 {n : Int} (h0 : -9223372036854775808 ≤ n) (h1 : n < 9223372036854775808) : wrap64 n = n := by unfold wrap64; omega
theorem rd_nat (l : List Int) (p : Nat) (h : p < l.length) : rd l (p : Int) = l[p] := by
  unfold rd
  rw [Int.toNat_natCast, List.getD_eq_getElem?_getD, List.getElem?_eq_getElem h]
  rfl
def Small (l : List Int) : Prop := l.length < 1099511627776
def Wide (l : List Int) : Prop := l.length ≤ 140737488351232
theorem Small.wide {l : List Int} (h : Small l) : Wide l := by unfold Small at h; unfold Wide; omega
end Go.Proofs.YtbomhpfckplgaaaDoor.P
namespace Go.Proofs.YtbomhpfckplgaaaDoorW.PrintWords
open Go.ChangeShapes Go.WideShapes
theorem sized_ints {H : Type} {enc : TypeId × Value → H} {P : Program} {W : World} {base : Nat} {spare : Nat → Bool} {held : Bool} {t e : TypeId} {k : IntKind} {a : Option Addr} {len cap : Nat} {d : DataW H} {ps : List MemPlace} {ts : List TypeId} {ds : List (DataW H)} {j : Nat}
    (hsz : (DataW.weightsEach P ts ds).all (· ≤ reachBytes) = true) (ht : ts[j]? = some t) (hd : ds[j]? = some d) (hu : P.underlying t = some (.slice e)) (he : P.underlying e = some (.int k)) (hc : P.cellsOf e = 1) {B : Nat} (hB : P.bytesOf e = B)
    (h : DataW.Trod enc P W base spare held t (.slice a len cap) d ps) : len * B ≤ 140737488351232 := by
  obtain ⟨fuel, hf⟩ := h
  rcases open_ints hu he hc hf with ⟨hcs, _⟩ | ⟨x, l, c, zs, hcs, _, hl, _, hz, hx, _, _⟩
  · simp [Value.cells] at hcs
    obtain ⟨rfl, rfl, rfl⟩ := hcs
    simp
  · simp [Value.cells] at hcs
    obtain ⟨rfl, rfl, rfl⟩ := hcs
    obtain ⟨hx, _⟩ := Prod.mk.inj hx
    subst hx
    have z := sized_slice hsz ht hd hu
    rw [hB] at z
    have hl2 : len ≤ zs.length := by
      rw [hz]
      split
      · exact hl
      · exact Nat.le_refl _
    have h1 : (lits (H := H) k (zs.take len)).length + (lits (H := H) k (zs.drop len)).length = zs.length := by
      simp [lits]
      omega
    rw [h1] at z
    exact Nat.le_trans (Nat.mul_le_mul_right _ hl2) z
end Go.Proofs.YtbomhpfckplgaaaDoorW.PrintWords
namespace Go.Proofs.YtbomhpfckplgaaaDoor.P
open Go Go.ChangeShapes Go.WideShapes Go.ChangeAt Go.RowKit Go.Proofs.YtbomhpfckplgaaaDoorW.PrintWords
set_option linter.unusedVariables false
theorem own : ownKnob Tryd.prog.godebug = none := by kernel_rfl
theorem laidOut : laidOutB Tryd.prog = true := by kernel_rfl
theorem gBad : Tryd.prog.globalNamed "galley/step.bad" = some 0 := by kernel_rfl
theorem gBadType : (Tryd.prog.globals[0]?).map (·.type) = some 121 := by kernel_rfl
theorem cells121 : Tryd.prog.cellsOf 121 = 3 := by kernel_rfl
theorem cells21 : Tryd.prog.cellsOf 21 = 1 := by kernel_rfl
theorem cells3 : Tryd.prog.cellsOf 3 = 1 := by kernel_rfl
theorem cells4 : Tryd.prog.cellsOf 4 = 1 := by kernel_rfl
abbrev badRow : List (String × DataW Unit) := [("galley/step.bad", Rows.laid_galley_step_bad)]
set_option maxRecDepth 100000 in
theorem Laid.of_row {W : World} (h : laidMetH Tryd.prog badRow W) : Laid W := by
  rw [MakeChecks.laidMetH_plain _ _ _ (by kernel_rfl)] at h
  obtain ⟨ps, ⟨g0, t0, cs0, f0, p0, q0, hg0, ht0, hv0, hd0, _, _⟩, _, _⟩ := h
  obtain rfl := Option.some.inj (gBad.symm.trans hg0)
  obtain rfl := Option.some.inj (gBadType.symm.trans ht0)
  obtain ⟨xs, n, _, hx, hl, hn, hf⟩ := DataW.trod_struct Tryd.underlying121 hd0
  simp only [Prod.mk.injEq, Rows.laid_galley_step_bad, DataW.agg.injEq] at hx
  rw [cells121] at hl
  have k0 : DataW.trod _ Tryd.prog W 0 _ false n 21 ((cs0.toList.drop 0).take (Tryd.prog.cellsOf 21)) = xs[0]? := hf 0 _ rfl
  have k1 : DataW.trod _ Tryd.prog W 0 _ false n 3 ((cs0.toList.drop 1).take (Tryd.prog.cellsOf 3)) = xs[1]? := hf 1 _ rfl
  have k2 : DataW.trod _ Tryd.prog W 0 _ false n 4 ((cs0.toList.drop 2).take (Tryd.prog.cellsOf 4)) = xs[2]? := hf 2 _ rfl
  rw [cells21] at k0
  rw [cells3] at k1
  rw [cells4] at k2
  match xs, hn, hx with
  | [x0, x1, x2], _, hx =>
    obtain ⟨l⟩ := cs0
    match l, hl with
    | [c0, c1, c2], _ =>
      simp only [List.map_cons, List.map_nil, List.cons.injEq, and_true] at hx
      obtain ⟨⟨e0, e1, e2⟩, _⟩ := hx
      obtain ⟨a0, b0, d0, _⟩ := DataW.trod_int Tryd.underlying21 (show DataW.trod _ Tryd.prog W 0 _ false n 21 [c0] = some x0 from k0)
      obtain ⟨a1, b1, d1, _⟩ := DataW.trod_int Tryd.underlying3 (show DataW.trod _ Tryd.prog W 0 _ false n 3 [c1] = some x1 from k1)
      obtain ⟨a2, b2, d2⟩ := DataW.trod_bool Tryd.underlying4 (show DataW.trod _ Tryd.prog W 0 _ false n 4 [c2] = some x2 from k2)
      rw [d0] at e0
      rw [d1] at e1
      rw [d2] at e2
      have z0 : a0 = 65533 := by simpa using e0.symm
      have z1 : a1 = 1 := by simpa using e1.symm
      have z2 : a2 = false := by simpa using e2.symm
      have y0 : c0 = .int .i32 a0 := by simpa using b0
      have y1 : c1 = .int .i64 a1 := by simpa using b1
      have y2 : c2 = .bool a2 := by simpa using b2
      subst z0 z1 z2 y0 y1 y2
      exact ⟨World.var?_cell hg0 hv0 0, World.var?_cell hg0 hv0 1, World.var?_cell hg0 hv0 2⟩
noncomputable def laidWorld (os : Os) (args : Array Value) : World :=
  { World.holding Tryd.prog os ⟨#[], #[], []⟩ with heap := (World.holding Tryd.prog os ⟨#[], #[], []⟩).heap.modify 0 fun
      | .cells _ t frozen => .cells #[.int .i32 65533, .int .i64 1, .bool false] t frozen
      | o => o }
theorem laid_met (os : Os) (args : Array Value) : laidMet Tryd.prog badRow ((laidWorld os args).forCall (fun _ _ => 0) ⟨#[], args, []⟩).memory :=
  laidMet_of_run' 8 (by kernel_rfl) (by kernel_rfl)
theorem one_le {H : Type} (d : DataW H) : 1 ≤ Rows.uptoBulk d := by
  cases d with
  | lit l => cases l <;> simp [Rows.uptoBulk]
  | nil => simp [Rows.uptoBulk]
  | ptr d => simp [Rows.uptoBulk]
  | slice elems spare => simp [Rows.uptoBulk]
  | agg parts => simp [Rows.uptoBulk]
  | iface t d => simp [Rows.uptoBulk]
  | map entries => simp [Rows.uptoBulk]
  | held h => simp [Rows.uptoBulk]
theorem length_bulk {H : Type} (l : List (DataW H)) : l.length ≤ Rows.uptoBulkAll l := by
  induction l with
  | nil => simp [Rows.uptoBulkAll]
  | cons x r ih => have := one_le x; simp only [Rows.uptoBulkAll, List.length_cons]; omega
structure InBytes {H : Type} (W : World) (v : Value) (d : DataW H) (A : Option Addr) (c : Nat) (l : List Int) : Prop where
  val : v = .slice A l.length c
  reads : Kd.C (Kd.int .u8) W A l.length l
  cap : l.length ≤ c
  bytes : Bytes l
  bulk : l.length ≤ Rows.uptoBulk d
theorem in_bytes {H : Type} {enc : TypeId × Value → H} {W : World} {base : Nat} {spare : Nat → Bool} {held : Bool} {v : Value} {d : DataW H} {ps : List MemPlace} (hv : ∃ a l c, v = .slice a l c) (h : DataW.Trod enc Tryd.prog W base spare held 22 v d ps) :
    ∃ A c l, InBytes W v d A c l := by
  obtain ⟨a, len, cap, rfl⟩ := hv
  obtain ⟨fuel, hf⟩ := h
  rcases open_ints Tryd.underlying22 Tryd.underlying5 (by kernel_rfl) hf with ⟨hcs, hx⟩ | ⟨x, l, c, zs, hcs, _, hl, hm, hz, hx, hcell, hwz⟩
  · simp [Value.cells] at hcs
    obtain ⟨rfl, rfl, rfl⟩ := hcs
    exact ⟨none, 0, [], ⟨rfl, ⟨rfl, by decide, fun h => absurd h (by decide)⟩, Nat.le_refl _, (fun x h => absurd h (by simp)), Nat.zero_le _⟩⟩
  · simp [Value.cells] at hcs
    obtain ⟨rfl, rfl, rfl⟩ := hcs
    have hlz : len ≤ zs.length := by rw [hz]; split <;> omega
    have hlen : (zs.take len).length = len := by simp; omega
    have hd : d = .slice (lits .u8 (zs.take len)) (lits .u8 (zs.drop len)) := by
      have := congrArg Prod.fst hx
      exact this
    refine ⟨some x, cap, zs.take len, ⟨by rw [hlen], ⟨rfl, by rw [hlen]; unfold maxLen at hm; omega, fun _ => ⟨x, rfl, fun j p hj => ⟨[.int .u8 p], rfl, rfl, fun i u hu => ?_⟩⟩⟩, by rw [hlen]; exact hl, ?_, ?_⟩⟩
    · obtain ⟨rfl, rfl⟩ : i = 0 ∧ Value.int .u8 p = u := by
        cases i with
        | zero => exact ⟨rfl, by simpa using hu⟩
        | succ i => simp at hu
      obtain ⟨hj1, hj2⟩ := List.getElem?_eq_some_iff.1 hj
      have hjl : j < zs.length := by simp at hj1; omega
      have hc := hcell j hjl
      have e : zs.getD j 0 = p := by
        rw [List.getD_eq_getElem?_getD, List.getElem?_eq_getElem hjl]
        simp only [List.getElem_take] at hj2
        exact hj2
      rw [e] at hc
      have e2 : j * (Kd.int .u8).sz + 0 = j := Nat.mul_one j
      rw [e2]
      exact hc
    · intro y hy
      have := hwz y (List.mem_of_mem_take hy)
      simp [Lit.wf, IntKind.min, IntKind.max, IntKind.signed, IntKind.bits] at this
      omega
    · rw [hd]
      simp only [Rows.uptoBulk]
      have h1 := length_bulk (lits (H := H) .u8 (zs.take len))
      have h2 : (lits (H := H) .u8 (zs.take len)).length = (zs.take len).length := by simp [lits]
      omega
end Go.Proofs.YtbomhpfckplgaaaDoor.P
namespace Go.Proofs.YtbomhpfckplgaaaDoor.P
open Go
set_option linter.unusedVariables false
set_option linter.unusedSimpArgs false
def orderNums : List Nat := [104, 97, 114, 110, 101, 115, 115, 32, 51, 57, 50, 102, 51, 102, 97, 48, 100, 101, 48, 55, 99, 97, 101, 52, 99, 50, 55, 101, 97, 98, 50, 57, 97, 56, 98, 56, 99, 100, 56, 102, 97, 53, 97, 99, 53, 100, 54, 54, 57, 102, 53, 48, 56, 101, 50, 98, 98, 99, 97, 54, 50, 54, 50, 55, 49, 50, 49, 53, 98, 97, 102, 100, 32, 99, 117, 116, 32, 97, 116, 32, 103, 97, 108, 108, 101, 121, 47, 103, 97, 108, 108, 101, 121, 108, 97, 119, 48, 54, 46, 82, 117, 108, 101, 83, 105, 122, 101, 115, 32, 103, 97, 108, 108, 101, 121, 47, 103, 97, 108, 108, 101, 121, 108, 97, 119, 48, 54, 46, 82, 117, 108, 101, 84, 111, 32, 103, 97, 108, 108, 101, 121, 47, 103, 97, 108, 108, 101, 121, 108, 97, 119, 48, 54, 46, 82, 117, 108, 101, 67, 117, 116, 115, 32, 103, 97, 108, 108, 101, 121, 47, 103, 97, 108, 108, 101, 121, 108, 97, 119, 48, 54, 46, 82, 117, 108, 101, 66, 97, 99, 107, 32, 103, 97, 108, 108, 101, 121, 47, 103, 97, 108, 108, 101, 121, 108, 97, 119, 49, 57, 46, 68, 105, 102, 102, 79, 119, 110, 32, 103, 97, 108, 108, 101, 121, 47, 103, 97, 108, 108, 101, 121, 108, 97, 119, 48, 54, 46, 82, 117, 108, 101, 82, 105, 115, 101, 115, 32, 103, 97, 108, 108, 101, 121, 47, 103, 97, 108, 108, 101, 121, 108, 97, 119, 48, 54, 46, 82, 117, 108, 101, 65, 100, 100, 115, 32, 103, 97, 108, 108, 101, 121, 47, 103, 97, 108, 108, 101, 121, 108, 97, 119, 49, 57, 46, 68, 105, 102, 102, 78, 111, 76, 101, 115, 115, 32, 103, 97, 108, 108, 101, 121, 47, 103, 97, 108, 108, 101, 121, 108, 97, 119, 48, 54, 46, 82, 117, 108, 101, 79, 119, 110, 32, 103, 97, 108, 108, 101, 121, 47, 103, 97, 108, 108, 101, 121, 108, 97, 119, 48, 54, 46, 82, 117, 108, 101, 84, 97, 98, 108, 101, 115, 32, 103, 97, 108, 108, 101, 121, 47, 103, 97, 108, 108, 101, 121, 108, 97, 119, 48, 55, 46, 76, 105, 110, 101, 115, 65, 116, 32, 103, 97, 108, 108, 101, 121, 47, 103, 97, 108, 108, 101, 121, 108, 97, 119, 48, 55, 46, 76, 105, 110, 101, 115, 67, 111, 108, 117, 109, 110, 115, 32, 103, 97, 108, 108, 101, 121, 47, 103, 97, 108, 108, 101, 121, 108, 97, 119, 48, 55, 46, 76, 105, 110, 101, 115, 82, 111, 119, 115, 32, 103, 97, 108, 108, 101, 121, 47, 103, 97, 108, 108, 101, 121, 108, 97, 119, 48, 55, 46, 76, 105, 110, 101, 115, 80, 97, 114, 116, 115, 32, 103, 97, 108, 108, 101, 121, 47, 103, 97, 108, 108, 101, 121, 108, 97, 119, 48, 55, 46, 76, 105, 110, 101, 115, 77, 111, 100, 101, 115, 32, 103, 97, 108, 108, 101, 121, 47, 103, 97, 108, 108, 101, 121, 108, 97, 119, 48, 55, 46, 76, 105, 110, 101, 115, 87, 104, 101, 114, 101, 32, 103, 97, 108, 108, 101, 121, 47, 103, 97, 108, 108, 101, 121, 108, 97, 119, 48, 55, 46, 76, 105, 110, 101, 115, 66, 97, 99, 107, 32, 103, 97, 108, 108, 101, 121, 47, 103, 97, 108, 108, 101, 121, 108, 97, 119, 48, 55, 46, 76, 105, 110, 101, 115, 79, 119, 110, 32, 103, 97, 108, 108, 101, 121, 47, 103, 97, 108, 108, 101, 121, 108, 97, 119, 49, 57, 46, 68, 105, 102, 102, 68, 105, 115, 116, 97, 110, 99, 101, 32, 103, 97, 108, 108, 101, 121, 47, 103, 97, 108, 108, 101, 121, 108, 97, 119, 49, 57, 46, 68, 105, 102, 102, 71, 114, 101, 97, 116, 32, 103, 97, 108, 108, 101, 121, 47, 103, 97, 108, 108, 101, 121, 108, 97, 119, 49, 57, 46, 68, 105, 102, 102, 76, 101, 97, 115, 116, 32, 103, 97, 108, 108, 101, 121, 47, 103, 97, 108, 108, 101, 121, 108, 97, 119, 49, 57, 46, 68, 105, 102, 102, 76, 105, 110, 101, 115, 32, 103, 97, 108, 108, 101, 121, 47, 103, 97, 108, 108, 101, 121, 108, 97, 119, 49, 57, 46, 68, 105, 102, 102, 67, 111, 115, 116, 115, 32, 103, 97, 108, 108, 101, 121, 47, 103, 97, 108, 108, 101, 121, 108, 97, 119, 49, 57, 46, 68, 105, 102, 102, 77, 101, 116, 114, 105, 99]
def orderWs : List (List Nat) := [[99, 117, 116], [97, 116], [103, 97, 108, 108, 101, 121, 47, 103, 97, 108, 108, 101, 121, 108, 97, 119, 48, 54, 46, 82, 117, 108, 101, 83, 105, 122, 101, 115], [103, 97, 108, 108, 101, 121, 47, 103, 97, 108, 108, 101, 121, 108, 97, 119, 48, 54, 46, 82, 117, 108, 101, 84, 111], [103, 97, 108, 108, 101, 121, 47, 103, 97, 108, 108, 101, 121, 108, 97, 119, 48, 54, 46, 82, 117, 108, 101, 67, 117, 116, 115], [103, 97, 108, 108, 101, 121, 47, 103, 97, 108, 108, 101, 121, 108, 97, 119, 48, 54, 46, 82, 117, 108, 101, 66, 97, 99, 107], [103, 97, 108, 108, 101, 121, 47, 103, 97, 108, 108, 101, 121, 108, 97, 119, 49, 57, 46, 68, 105, 102, 102, 79, 119, 110], [103, 97, 108, 108, 101, 121, 47, 103, 97, 108, 108, 101, 121, 108, 97, 119, 48, 54, 46, 82, 117, 108, 101, 82, 105, 115, 101, 115], [103, 97, 108, 108, 101, 121, 47, 103, 97, 108, 108, 101, 121, 108, 97, 119, 48, 54, 46, 82, 117, 108, 101, 65, 100, 100, 115], [103, 97, 108, 108, 101, 121, 47, 103, 97, 108, 108, 101, 121, 108, 97, 119, 49, 57, 46, 68, 105, 102, 102, 78, 111, 76, 101, 115, 115], [103, 97, 108, 108, 101, 121, 47, 103, 97, 108, 108, 101, 121, 108, 97, 119, 48, 54, 46, 82, 117, 108, 101, 79, 119, 110], [103, 97, 108, 108, 101, 121, 47, 103, 97, 108, 108, 101, 121, 108, 97, 119, 48, 54, 46, 82, 117, 108, 101, 84, 97, 98, 108, 101, 115], [103, 97, 108, 108, 101, 121, 47, 103, 97, 108, 108, 101, 121, 108, 97, 119, 48, 55, 46, 76, 105, 110, 101, 115, 65, 116], [103, 97, 108, 108, 101, 121, 47, 103, 97, 108, 108, 101, 121, 108, 97, 119, 48, 55, 46, 76, 105, 110, 101, 115, 67, 111, 108, 117, 109, 110, 115], [103, 97, 108, 108, 101, 121, 47, 103, 97, 108, 108, 101, 121, 108, 97, 119, 48, 55, 46, 76, 105, 110, 101, 115, 82, 111, 119, 115], [103, 97, 108, 108, 101, 121, 47, 103, 97, 108, 108, 101, 121, 108, 97, 119, 48, 55, 46, 76, 105, 110, 101, 115, 80, 97, 114, 116, 115], [103, 97, 108, 108, 101, 121, 47, 103, 97, 108, 108, 101, 121, 108, 97, 119, 48, 55, 46, 76, 105, 110, 101, 115, 77, 111, 100, 101, 115], [103, 97, 108, 108, 101, 121, 47, 103, 97, 108, 108, 101, 121, 108, 97, 119, 48, 55, 46, 76, 105, 110, 101, 115, 87, 104, 101, 114, 101], [103, 97, 108, 108, 101, 121, 47, 103, 97, 108, 108, 101, 121, 108, 97, 119, 48, 55, 46, 76, 105, 110, 101, 115, 66, 97, 99, 107], [103, 97, 108, 108, 101, 121, 47, 103, 97, 108, 108, 101, 121, 108, 97, 119, 48, 55, 46, 76, 105, 110, 101, 115, 79, 119, 110], [103, 97, 108, 108, 101, 121, 47, 103, 97, 108, 108, 101, 121, 108, 97, 119, 49, 57, 46, 68, 105, 102, 102, 68, 105, 115, 116, 97, 110, 99, 101], [103, 97, 108, 108, 101, 121, 47, 103, 97, 108, 108, 101, 121, 108, 97, 119, 49, 57, 46, 68, 105, 102, 102, 71, 114, 101, 97, 116], [103, 97, 108, 108, 101, 121, 47, 103, 97, 108, 108, 101, 121, 108, 97, 119, 49, 57, 46, 68, 105, 102, 102, 76, 101, 97, 115, 116], [103, 97, 108, 108, 101, 121, 47, 103, 97, 108, 108, 101, 121, 108, 97, 119, 49, 57, 46, 68, 105, 102, 102, 76, 105, 110, 101, 115], [103, 97, 108, 108, 101, 121, 47, 103, 97, 108, 108, 101, 121, 108, 97, 119, 49, 57, 46, 68, 105, 102, 102, 67, 111, 115, 116, 115], [103, 97, 108, 108, 101, 121, 47, 103, 97, 108, 108, 101, 121, 108, 97, 119, 49, 57, 46, 68, 105, 102, 102, 77, 101, 116, 114, 105, 99]]
set_option maxRecDepth 100000
theorem orderChars : Tryd.prog.initOrder.toList = orderNums.map Char.ofNat := by
  have e : Tryd.prog.initOrder = String.ofList (orderNums.map Char.ofNat) := by kernel_rfl
  rw [e]
  exact String.toList_ofList
theorem orderWords : behindMainWord (wordsSigns Tryd.prog.initOrder.toList) = orderWs.map (·.map Char.ofNat) := by
  rw [orderChars]
  kernel_rfl
theorem headLifts_eq : Tryd.prog.headLifts = [] := by
  unfold Program.headLifts
  rw [orderWords]
  kernel_rfl
theorem make_of {P : Program} {r : List (List Char)} (h : behindMainWord (wordsSigns P.initOrder.toList) = [99, 117, 116].map Char.ofNat :: r) : P.make = some Make.cut := by
  unfold Program.make
  rw [h]
  have e1 : (([99, 117, 116].map Char.ofNat) == "gc".toList || ([99, 117, 116].map Char.ofNat) == "spec".toList) = false := by decide
  have e2 : (([99, 117, 116].map Char.ofNat) == "cut".toList) = true := by decide
  dsimp only
  rw [e1, e2, Bool.true_or]
  rfl
theorem mayEnter_of {P : Program} {r : List (List Char)} (h : behindMainWord (wordsSigns P.initOrder.toList) = [99, 117, 116].map Char.ofNat :: r) (h1 : P.laysLater = false) (h2 : P.bearsReflect = false) (h3 : P.doorFits [] = true) : P.mayEnter = true := by
  have hs : stripLifts liftWords ([99, 117, 116].map Char.ofNat :: r) = ([], [99, 117, 116].map Char.ofNat :: r) := by
    unfold liftWords
    simp only [stripLifts]
    repeat (rw [if_neg (by decide)])
  unfold Program.mayEnter
  rw [h]
  simp only [hs, h1, h2, h3]
  have e : ((([99, 117, 116].map Char.ofNat :: r).head?) == some "cut".toList) = true := by
    show (some ([99, 117, 116].map Char.ofNat) == some "cut".toList) = true
    decide
  rw [e]
  simp
theorem words_cons : behindMainWord (wordsSigns Tryd.prog.initOrder.toList) = [99, 117, 116].map Char.ofNat :: (orderWs.tail.map (·.map Char.ofNat)) := orderWords
theorem make_eq : Tryd.prog.make = some Make.cut := make_of words_cons
theorem mayEnter_eq : Tryd.prog.mayEnter = true := mayEnter_of words_cons (by kernel_rfl) (by kernel_rfl) (by kernel_rfl)
theorem liftsFinal_eq : Tryd.prog.liftsFinal = false := by
  unfold Program.liftsFinal
  rw [orderWords, headLifts_eq]
  kernel_rfl
def headWs : List (List Nat) := [[104, 97, 114, 110, 101, 115, 115], [51, 57, 50, 102, 51, 102, 97, 48, 100, 101, 48, 55, 99, 97, 101, 52, 99, 50, 55, 101, 97, 98, 50, 57, 97, 56, 98, 56, 99, 100, 56, 102, 97, 53, 97, 99, 53, 100, 54, 54, 57, 102, 53, 48, 56, 101, 50, 98, 98, 99, 97, 54, 50, 54, 50, 55, 49, 50, 49, 53, 98, 97, 102, 100]]
theorem allWords : wordsSigns Tryd.prog.initOrder.toList = (headWs.getD 0 []).map Char.ofNat :: (headWs.getD 1 []).map Char.ofNat :: orderWs.map (·.map Char.ofNat) := by
  rw [orderChars]
  kernel_rfl
theorem mainIs_of {P : Program} {h s : List Char} {r : List (List Char)} (hw : wordsSigns P.initOrder.toList = h :: s :: r) (h1 : isSumSigns s = true) (h2 : (h == "harness".toList) = true) : P.mainIs = some (true, s) := by
  unfold Program.mainIs
  rw [hw]
  simp only [h1, h2]
  rfl
theorem sumChars : "392f3fa0de07cae4c27eab29a8b8cd8fa5ac5d669f508e2bbca626271215bafd".toList = (headWs.getD 1 []).map Char.ofNat := by
  have e : "392f3fa0de07cae4c27eab29a8b8cd8fa5ac5d669f508e2bbca626271215bafd" = String.ofList ((headWs.getD 1 []).map Char.ofNat) := by kernel_rfl
  rw [e]
  exact String.toList_ofList
theorem mainIs_eq : Tryd.pinned.checked.prog.mainIs = some (true, "392f3fa0de07cae4c27eab29a8b8cd8fa5ac5d669f508e2bbca626271215bafd".toList) := by
  rw [sumChars]
  exact (mainIs_of allWords (by kernel_rfl) (by kernel_rfl) : Tryd.prog.mainIs = _)
end Go.Proofs.YtbomhpfckplgaaaDoor.P
namespace Go.Proofs.YtbomhpfckplgaaaDoor.P
open Go.RowKit Go.Proofs.YtbomhpfckplgaaaDoorW.PrintWords Go.Proofs.YtbomhpfckplgaaaDoorW.PrintLast Go.Proofs.YtbomhpfckplgaaaDoorW.PrintMore
attribute [local go_sem] max2_int min2_int max_two min_two max_three min_three max_four min_four   -- for this text's walks alone
set_option linter.unusedVariables false
set_option linter.unusedSimpArgs false
def galleyref02_at.f (l0 : List Int) (a1 : Int) : Option (Int) := if a1 < 0 then (some (-1)) else (if a1 ≥ (l0.length : Int) then (some (-1)) else (if 0 ≤ a1 then (if a1 < (l0.length : Int) then (some (wrap64 (rd l0 a1))) else (none)) else (none)))
set_option maxHeartbeats 8000000 in
set_option maxRecDepth 100000 in
theorem galleyref02_at.calls (A0 : Option Addr) (c0 : Nat) (l0 : List Int) (a1 : Int) (r : Int) (w : World) (hr0 : Kd.C (Kd.int .u8) w A0 l0.length l0) (hc0 : l0.length ≤ c0) (h : galleyref02_at.f l0 a1 = some r) :
  Calls Tryd.prog 132 #[.slice A0 l0.length c0, .int .i64 a1] w fun e w' => e = .returned (.int .i64 r) ∧ Drawn0 w w' := by
 have HR0 := Aside0.mk hr0
 have HC0 := Aside0.mk hc0
 clear hr0 hc0
 have H : (if a1 < 0 then (some (-1)) else (if a1 ≥ (l0.length : Int) then (some (-1)) else (if 0 ≤ a1 then (if a1 < (l0.length : Int) then (some (wrap64 (rd l0 a1))) else (none)) else (none)))) = some r := h
 clear h
 by_cases c3 : a1 < 0
 ·
  rw [if_pos c3] at H
  have c3b0 : decide (a1 < 0) = true := decide_eq_true c3
  clear c3
  obtain rfl := Option.some.inj H
  go_enter Tryd.func132, Tryd.ntmps132
  go_wp2
  go_ret
  exact ⟨by first | rfl | (simp; done) | (simp [*]; done), by repeat (first | exact Drawn0.refl _ | apply Drawn0.step)⟩
 ·
  rw [if_neg c3] at H
  have c3b0 : decide (a1 < 0) = false := decide_eq_false c3
  clear c3
  by_cases c4 : a1 ≥ (l0.length : Int)
  ·
   rw [if_pos c4] at H
   have c4b0 : decide ((l0.length : Int) ≤ a1) = true := decide_eq_true c4
   clear c4
   obtain rfl := Option.some.inj H
   go_enter Tryd.func132, Tryd.ntmps132
   go_wp2
   go_ret
   exact ⟨by first | rfl | (simp; done) | (simp [*]; done), by repeat (first | exact Drawn0.refl _ | apply Drawn0.step)⟩
  ·
   rw [if_neg c4] at H
   have c4b0 : decide ((l0.length : Int) ≤ a1) = false := decide_eq_false c4
   clear c4
   by_cases c5 : 0 ≤ a1
   ·
    rw [if_pos c5] at H
    have c5b0 : decide (0 ≤ a1) = true := decide_eq_true c5
    clear c5
    by_cases c6 : a1 < (l0.length : Int)
    ·
     rw [if_pos c6] at H
     have c6b0 : decide (a1 < (l0.length : Int)) = true := decide_eq_true c6
     clear c6
     obtain rfl := Option.some.inj H
     have p150 : 0 ≤ (a1 : Int) := of_decide_eq_true (by first | (with_reducible assumption) | assumption)
     have q150 : a1 < (l0.length : Int) := of_decide_eq_true (by first | (with_reducible assumption) | assumption)
     obtain ⟨ad150, e150, hx150_0⟩ := Kd.at_int HR0.out a1 p150 q150
     cases e150
     replace p150 := eq_true p150
     replace q150 := eq_true q150
     go_enter Tryd.func132, Tryd.ntmps132
     go_wp2
     go_ret
     exact ⟨by first | rfl | (simp; done) | (simp [*]; done), by repeat (first | exact Drawn0.refl _ | apply Drawn0.step)⟩
    ·
     rw [if_neg c6] at H
     exact absurd H (by simp)
   ·
    rw [if_neg c5] at H
    exact absurd H (by simp)
def galleyref02_in.f (a0 : Int) (a1 : Int) (a2 : Int) : Option (Bool) := if a0 ≥ a1 then (some (decide (a0 ≤ a2))) else (some false)
set_option maxHeartbeats 8000000 in
set_option maxRecDepth 100000 in
theorem galleyref02_in.calls (a0 : Int) (a1 : Int) (a2 : Int) (r : Bool) (w : World) (h : galleyref02_in.f a0 a1 a2 = some r) :
  Calls Tryd.prog 133 #[.int .i64 a0, .int .i64 a1, .int .i64 a2] w fun e w' => e = .returned (.bool r) ∧ Drawn0 w w' := by
 have H : (if a0 ≥ a1 then (some (decide (a0 ≤ a2))) else (some false)) = some r := h
 clear h
 by_cases c4 : a0 ≥ a1
 ·
  rw [if_pos c4] at H
  have c4b0 : decide (a1 ≤ a0) = true := decide_eq_true c4
  clear c4
  obtain rfl := Option.some.inj H
  go_enter Tryd.func133, Tryd.ntmps133
  go_wp2
  go_ret
  exact ⟨by first | rfl | (simp; done) | (simp [*]; done), by repeat (first | exact Drawn0.refl _ | apply Drawn0.step)⟩
 ·
  rw [if_neg c4] at H
  have c4b0 : decide (a1 ≤ a0) = false := decide_eq_false c4
  clear c4
  obtain rfl := Option.some.inj H
  go_enter Tryd.func133, Tryd.ntmps133
  go_wp2
  go_ret
  exact ⟨by first | rfl | (simp; done) | (simp [*]; done), by repeat (first | exact Drawn0.refl _ | apply Drawn0.step)⟩
end Go.Proofs.YtbomhpfckplgaaaDoor.P
namespace Go.Proofs.YtbomhpfckplgaaaDoor.P
open Go.RowKit Go.Proofs.YtbomhpfckplgaaaDoorW.PrintWords Go.Proofs.YtbomhpfckplgaaaDoorW.PrintLast
set_option linter.unusedVariables false
set_option maxRecDepth 100000
set_option maxHeartbeats 400000
theorem first_world (w : World) (hG : Laid w) (s : ByteArray) (p : Nat) (W : World) (hW : W = (w.alloc (.cells #[.int .i32 0, .int .i64 0, .bool false] 121)).iter s p) :
    Laid W ∧ W.heap.size = w.heap.size + 2 ∧ W.heap[w.heap.size]? = some (.cells #[.int .i32 0, .int .i64 0, .bool false] 121 (0, 0)) ∧ Below w.heap.size w W := by
  subst hW
  refine ⟨(hG.alloc _).alloc _, ?_, ?_, ?_⟩
  · show (((w.alloc _).alloc _).heap.size) = _
    simp
  · show ((w.alloc _).alloc _).heap[w.heap.size]? = _
    exact blk_alloc (blk_new w _) _
  · exact ((Below.refl _ _).alloc (Nat.le_refl _) _).alloc (by simp) _
theorem first_empty (s : ByteArray) (w : World) (hG : Laid w) (h0 : s.size = 0) :
    Calls Tryd.prog 127 #[.string s] w fun e w' => e = .returned (.agg #[.int .i32 65533, .int .i64 1, .bool false]) ∧ Below w.heap.size w w' := by
  have hp := hG.pos
  have hne := run_next_end (P := Tryd.prog) (w.alloc (.cells #[.int .i32 0, .int .i64 0, .bool false] 121)) s 0 0 (by omega)
  obtain ⟨hL, hz, hc, hB⟩ := first_world w hG s 0 _ rfl
  rw [World.size_alloc] at hne
  clear hG
  go_enter Tryd.func127, Tryd.ntmps127
  go_wp2_with (fail)
  refine wp_loop_rounds 1 ?_
  rw [rounds_succ]
  generalize ((w.alloc (.cells #[.int .i32 0, .int .i64 0, .bool false] 121)).iter s 0) = W at *
  have c0 := hL.c0
  have c1 := hL.c1
  have c2 := hL.c2
  have d0 : W.cell? ⟨w.heap.size, 0, none⟩ = some (.int .i32 0) := (blk_cell hc 0).trans rfl
  have d1 : W.cell? ⟨w.heap.size, 1, none⟩ = some (.int .i64 0) := (blk_cell hc 1).trans rfl
  have d2 : W.cell? ⟨w.heap.size, 2, none⟩ = some (.bool false) := (blk_cell hc 2).trans rfl
  have f0 := blk_frozen hc 0
  have f1 := blk_frozen hc 1
  have f2 := blk_frozen hc 2
  have BK := Aside0.mk hc
  have HB := Aside0.mk hB
  clear hL hc hB
  go_wp2_with (fail)
  refine bodyPost_ret (results_cell_row rfl _ _ w.heap.size 121 #[.int .i32 65533, .int .i64 1, .bool false] (0, 0) _ rfl (by refine blk_put (cs := #[.int .i32 65533, .int .i64 1, .bool false]) ?_ 2 _ rfl; refine blk_put (cs := #[.int .i32 65533, .int .i64 0, .bool false]) ?_ 1 _ rfl; refine blk_put (cs := #[.int .i32 0, .int .i64 0, .bool false]) ?_ 0 _ rfl; exact BK.out) Tryd.underlying121 rfl (by kernel_rfl)) rfl ?_
  exact ⟨rfl, ((HB.out.setCell (by simp) _).setCell (by simp) _).setCell (by simp) _⟩
theorem hasPrefix_short (s : ByteArray) (w : World) (h : s.size < 3) :
    Calls Tryd.prog 139 #[.string s, .string ⟨#[239, 191, 189]⟩] w fun e w' => e = .returned (.bool false) ∧ w = w' := by
  go_enter Tryd.func139, Tryd.ntmps139
  go_wp2
  go_ret
  exact ⟨rfl, rfl⟩
theorem hasPrefix_long (s : ByteArray) (w : World) (h : 3 ≤ s.size) :
    Calls Tryd.prog 139 #[.string s, .string ⟨#[239, 191, 189]⟩] w fun e w' => e = .returned (.bool ((s.extract 0 3).toList == [239, 191, 189])) ∧ w = w' := by
  go_enter Tryd.func139, Tryd.ntmps139
  go_wp2
  go_ret
  exact ⟨rfl, rfl⟩
theorem first_other (s : ByteArray) (w : World) (hG : Laid w) (h0 : 0 < s.size) (c : Nat) (wd : Nat) (hd : Utf8.decode s 0 = (c, wd)) (hc6 : ((c : Int) == 65533) = false) :
    Calls Tryd.prog 127 #[.string s] w fun e w' => e = .returned (.agg #[.int .i32 c, .int .i64 (Utf8.encode c).size, .bool true]) ∧ Below w.heap.size w w' := by
  have hp := hG.pos
  have hn := run_next_any (P := Tryd.prog) (w.alloc (.cells #[.int .i32 0, .int .i64 0, .bool false] 121)) s 0 0 h0
  rw [hd] at hn
  obtain ⟨hL, hz, hc, hB⟩ := first_world w hG s (0 + wd) _ rfl
  rw [World.size_alloc] at hn
  clear hG hd
  go_enter Tryd.func127, Tryd.ntmps127
  go_wp2_with (fail)
  refine wp_loop_rounds 1 ?_
  rw [rounds_succ]
  generalize ((w.alloc (.cells #[.int .i32 0, .int .i64 0, .bool false] 121)).iter s 0) = W0 at *
  generalize ((w.alloc (.cells #[.int .i32 0, .int .i64 0, .bool false] 121)).iter s (0 + wd)) = W at *
  have c0 := hL.c0
  have c1 := hL.c1
  have c2 := hL.c2
  have d0 : W.cell? ⟨w.heap.size, 0, none⟩ = some (.int .i32 0) := (blk_cell hc 0).trans rfl
  have d1 : W.cell? ⟨w.heap.size, 1, none⟩ = some (.int .i64 0) := (blk_cell hc 1).trans rfl
  have d2 : W.cell? ⟨w.heap.size, 2, none⟩ = some (.bool false) := (blk_cell hc 2).trans rfl
  have f0 := blk_frozen hc 0
  have f1 := blk_frozen hc 1
  have f2 := blk_frozen hc 2
  have BK := Aside0.mk hc
  have HB := Aside0.mk hB
  clear hL hc hB
  go_wp2_with (fail)
  refine bodyPost_ret (results_cell_row rfl _ _ w.heap.size 121 #[.int .i32 (c : Int), .int .i64 ((Utf8.encode c).size : Int), .bool true] (0, 0) _ rfl (by refine blk_put (cs := #[.int .i32 (c : Int), .int .i64 ((Utf8.encode c).size : Int), .bool false]) ?_ 2 _ rfl; refine blk_put (cs := #[.int .i32 (c : Int), .int .i64 0, .bool false]) ?_ 1 _ rfl; refine blk_put (cs := #[.int .i32 0, .int .i64 0, .bool false]) ?_ 0 _ rfl; exact BK.out) Tryd.underlying121 rfl (by kernel_rfl)) rfl ?_
  exact ⟨rfl, ((HB.out.setCell (by simp) _).setCell (by simp) _).setCell (by simp) _⟩
theorem first_bad (s : ByteArray) (w : World) (hG : Laid w) (h0 : 0 < s.size) (wd : Nat) (hd : Utf8.decode s 0 = (65533, wd)) (hs : (3 ≤ s.size ∧ ((s.extract 0 3).toList == [239, 191, 189]) = false) ∨ s.size < 3) :
    Calls Tryd.prog 127 #[.string s] w fun e w' => e = .returned (.agg #[.int .i32 65533, .int .i64 1, .bool false]) ∧ Below w.heap.size w w' := by
  have hp := hG.pos
  have hn := run_next_any (P := Tryd.prog) (w.alloc (.cells #[.int .i32 0, .int .i64 0, .bool false] 121)) s 0 0 h0
  rw [hd] at hn
  obtain ⟨hL, hz, hc, hB⟩ := first_world w hG s (0 + wd) _ rfl
  rw [World.size_alloc] at hn
  clear hG hd
  go_enter Tryd.func127, Tryd.ntmps127
  go_wp2_with (fail)
  refine wp_loop_rounds 1 ?_
  rw [rounds_succ]
  generalize ((w.alloc (.cells #[.int .i32 0, .int .i64 0, .bool false] 121)).iter s 0) = W0 at *
  generalize ((w.alloc (.cells #[.int .i32 0, .int .i64 0, .bool false] 121)).iter s (0 + wd)) = W at *
  have c0 := hL.c0
  have c1 := hL.c1
  have c2 := hL.c2
  have d0 : W.cell? ⟨w.heap.size, 0, none⟩ = some (.int .i32 0) := (blk_cell hc 0).trans rfl
  have d1 : W.cell? ⟨w.heap.size, 1, none⟩ = some (.int .i64 0) := (blk_cell hc 1).trans rfl
  have d2 : W.cell? ⟨w.heap.size, 2, none⟩ = some (.bool false) := (blk_cell hc 2).trans rfl
  have f0 := blk_frozen hc 0
  have f1 := blk_frozen hc 1
  have f2 := blk_frozen hc 2
  have BK := Aside0.mk hc
  have HB := Aside0.mk hB
  clear hL hc hB
  have hpx : Calls Tryd.prog 139 #[.string s, .string ⟨#[239, 191, 189]⟩] W fun e w' => e = .returned (.bool false) ∧ W = w' := by
    rcases hs with ⟨h3, h4⟩ | h3
    · rw [← h4]; exact hasPrefix_long s W h3
    · exact hasPrefix_short s W h3
  have HP := Aside0.mk hpx
  clear hpx hs
  go_wp2_with (go_at_call 139; refine HP.out.mono ?_; rintro e w' ⟨rfl, rfl⟩)
  refine bodyPost_ret (results_cell_row rfl _ _ w.heap.size 121 #[.int .i32 65533, .int .i64 1, .bool false] (0, 0) _ rfl (by refine blk_put (cs := #[.int .i32 65533, .int .i64 1, .bool false]) ?_ 2 _ rfl; refine blk_put (cs := #[.int .i32 65533, .int .i64 0, .bool false]) ?_ 1 _ rfl; refine blk_put (cs := #[.int .i32 0, .int .i64 0, .bool false]) ?_ 0 _ rfl; exact BK.out) Tryd.underlying121 rfl (by kernel_rfl)) rfl ?_
  exact ⟨rfl, ((HB.out.setCell (by simp) _).setCell (by simp) _).setCell (by simp) _⟩
theorem first_whole (s : ByteArray) (w : World) (hG : Laid w) (h0 : 0 < s.size) (wd : Nat) (hd : Utf8.decode s 0 = (65533, wd)) (h3 : 3 ≤ s.size) (h4 : ((s.extract 0 3).toList == [239, 191, 189]) = true) :
    Calls Tryd.prog 127 #[.string s] w fun e w' => e = .returned (.agg #[.int .i32 65533, .int .i64 3, .bool true]) ∧ Below w.heap.size w w' := by
  have hp := hG.pos
  have hn := run_next_any (P := Tryd.prog) (w.alloc (.cells #[.int .i32 0, .int .i64 0, .bool false] 121)) s 0 0 h0
  rw [hd] at hn
  obtain ⟨hL, hz, hc, hB⟩ := first_world w hG s (0 + wd) _ rfl
  rw [World.size_alloc] at hn
  clear hG hd
  go_enter Tryd.func127, Tryd.ntmps127
  go_wp2_with (fail)
  refine wp_loop_rounds 1 ?_
  rw [rounds_succ]
  generalize ((w.alloc (.cells #[.int .i32 0, .int .i64 0, .bool false] 121)).iter s 0) = W0 at *
  generalize ((w.alloc (.cells #[.int .i32 0, .int .i64 0, .bool false] 121)).iter s (0 + wd)) = W at *
  have c0 := hL.c0
  have c1 := hL.c1
  have c2 := hL.c2
  have d0 : W.cell? ⟨w.heap.size, 0, none⟩ = some (.int .i32 0) := (blk_cell hc 0).trans rfl
  have d1 : W.cell? ⟨w.heap.size, 1, none⟩ = some (.int .i64 0) := (blk_cell hc 1).trans rfl
  have d2 : W.cell? ⟨w.heap.size, 2, none⟩ = some (.bool false) := (blk_cell hc 2).trans rfl
  have f0 := blk_frozen hc 0
  have f1 := blk_frozen hc 1
  have f2 := blk_frozen hc 2
  have BK := Aside0.mk hc
  have HB := Aside0.mk hB
  clear hL hc hB
  have hpx : Calls Tryd.prog 139 #[.string s, .string ⟨#[239, 191, 189]⟩] W fun e w' => e = .returned (.bool true) ∧ W = w' := by
    rw [← h4]; exact hasPrefix_long s W h3
  have HP := Aside0.mk hpx
  clear hpx h4
  go_wp2_with (go_at_call 139; refine HP.out.mono ?_; rintro e w' ⟨rfl, rfl⟩)
  refine bodyPost_ret (results_cell_row rfl _ _ w.heap.size 121 #[.int .i32 65533, .int .i64 3, .bool true] (0, 0) _ rfl (by refine blk_put (cs := #[.int .i32 65533, .int .i64 3, .bool false]) ?_ 2 _ rfl; refine blk_put (cs := #[.int .i32 65533, .int .i64 0, .bool false]) ?_ 1 _ rfl; refine blk_put (cs := #[.int .i32 0, .int .i64 0, .bool false]) ?_ 0 _ rfl; exact BK.out) Tryd.underlying121 rfl (by kernel_rfl)) rfl ?_
  exact ⟨rfl, ((HB.out.setCell (by simp) _).setCell (by simp) _).setCell (by simp) _⟩
def stepW (s : ByteArray) : Int × Int × Bool :=
  if s.size = 0 then (65533, 1, false)
  else if (Utf8.decode s 0).1 = 65533 then
    if 3 ≤ s.size ∧ ((s.extract 0 3).toList == [239, 191, 189]) = true then (65533, 3, true) else (65533, 1, false)
  else ((Utf8.decode s 0).1, (Utf8.encode (Utf8.decode s 0).1).size, true)
def step_first.f (a0 : ByteArray) : Option (Int × Int × Bool) := some (stepW a0)
theorem step_first.calls (a0 : ByteArray) (r1 : Int) (r2 : Int) (r3 : Bool) (w : World) (hG : Laid w) (h : step_first.f a0 = some (r1, r2, r3)) :
    Calls Tryd.prog 127 #[.string a0] w fun e w' => e = .returned (.agg #[.int .i32 r1, .int .i64 r2, .bool r3]) ∧ Below w.heap.size w w' := by
  have h := Option.some.inj h
  unfold stepW at h
  by_cases h0 : a0.size = 0
  · rw [if_pos h0] at h
    simp only [Prod.mk.injEq] at h
    obtain ⟨rfl, rfl, rfl⟩ := h
    exact first_empty a0 w hG h0
  · rw [if_neg h0] at h
    by_cases h1 : (Utf8.decode a0 0).1 = 65533
    · rw [if_pos h1] at h
      have hd : Utf8.decode a0 0 = (65533, (Utf8.decode a0 0).2) := by rw [← h1]
      by_cases h2 : 3 ≤ a0.size ∧ ((a0.extract 0 3).toList == [239, 191, 189]) = true
      · rw [if_pos h2] at h
        simp only [Prod.mk.injEq] at h
        obtain ⟨rfl, rfl, rfl⟩ := h
        exact first_whole a0 w hG (by omega) _ hd h2.1 h2.2
      · rw [if_neg h2] at h
        simp only [Prod.mk.injEq] at h
        obtain ⟨rfl, rfl, rfl⟩ := h
        refine first_bad a0 w hG (by omega) _ hd ?_
        by_cases h3 : 3 ≤ a0.size
        · exact .inl ⟨h3, Bool.eq_false_iff.2 fun h4 => h2 ⟨h3, h4⟩⟩
        · exact .inr (by omega)
    · rw [if_neg h1] at h
      simp only [Prod.mk.injEq] at h
      obtain ⟨rfl, rfl, rfl⟩ := h
      exact first_other a0 w hG (by omega) _ _ rfl (by simp; omega)
end Go.Proofs.YtbomhpfckplgaaaDoor.P
namespace Go.Proofs.YtbomhpfckplgaaaDoor.P
open Go Go.RowKit Go.Shelf
set_option linter.unusedVariables false
structure KpC (C : Nat → Obj → Prop) (W W' : World) : Prop where
  size : W.heap.size ≤ W'.heap.size
  same : ∀ (k : Nat) (o : Obj), W.heap[k]? = some o → ¬ C k o → W'.heap[k]? = some o
theorem KpC.refl (C : Nat → Obj → Prop) (W : World) : KpC C W W := ⟨Nat.le_refl _, fun _ _ h _ => h⟩
theorem KpC.trans {C : Nat → Obj → Prop} {X Y Z : World} (h : KpC C X Y) (k : KpC C Y Z) : KpC C X Z := ⟨Nat.le_trans h.size k.size, fun i o hi hC => k.same i o (h.same i o hi hC) hC⟩
theorem KpC.mono {C C' : Nat → Obj → Prop} {X Y : World} (h : KpC C X Y) (hC : ∀ k o, C k o → C' k o) : KpC C' X Y := ⟨h.size, fun i o hi hn => h.same i o hi (fun hc => hn (hC i o hc))⟩
theorem KpC.putObj {C : Nat → Obj → Prop} (W : World) {l : Nat} (o' : Obj) (hl : ∀ o, W.heap[l]? = some o → C l o) : KpC C W (W.putObj l o') :=
  ⟨by simp, fun k q hk hn => (World.putObj_heap_other (fun e => hn (by subst e; exact hl q hk))).trans hk⟩
theorem KpC.alloc {C : Nat → Obj → Prop} (W : World) (o : Obj) : KpC C W (W.alloc o) := ⟨by simp, fun k q hk _ => (Below.heap_alloc W o k (Array.getElem?_eq_some_iff.1 hk).1).trans hk⟩
theorem KpC.below {C : Nat → Obj → Prop} {W W' : World} (h : Below W.heap.size W W') : KpC C W W' := ⟨h.size, fun k q hk _ => (h.block k (Array.getElem?_eq_some_iff.1 hk).1).trans hk⟩
theorem KpC.drew {C : Nat → Obj → Prop} (W : World) : KpC C W W.drew := ⟨Nat.le_refl _, fun _ _ h _ => h⟩
theorem KpC.setCell {C : Nat → Obj → Prop} (W : World) (a : Addr) (v : Value) (ha : ∀ o, C a.block o) : KpC C W (W.setCell a v) :=
  ⟨(KeepsWalks.setCell W a v).size, fun k q hk hC => (Below.heap_setCell W a v k (fun e => hC (by rw [e]; exact ha _))).trans hk⟩
theorem KpC.grown {C : Nat → Obj → Prop} {W W' : World} {row : Option Nat} (hg : W.grownBy W' row) (hr : ∀ r o, row = some r → W.heap[r]? = some o → C r o) : KpC C W W' :=
  ⟨hg.size, fun k q hk hC => (hg.block k (Array.getElem?_eq_some_iff.1 hk).1 (fun e => hC (hr k q e.symm hk))).trans hk⟩
def Kept (C : Nat → Obj → Prop) (W W' : World) : Prop := ∀ (k : Nat) (o : Obj), W.heap[k]? = some o → ¬ C k o → W'.heap[k]? = some o
theorem keep_cell {C : Nat → Obj → Prop} {W W' : World} (h : Kept C W W') {b i : Nat} {v : Value} (ha : ∀ o, W.heap[b]? = some o → ¬ C b o) (hc : W.cell? ⟨b, i, none⟩ = some v) : W'.cell? ⟨b, i, none⟩ = some v := by
  unfold World.cell? at hc ⊢
  cases ho : W.heap[b]? with
  | none => simp [ho] at hc
  | some o =>
    simp only [ho] at hc
    simp only [h _ _ ho (ha _ ho)]
    exact hc
def OwnT {β : Type} (T : Obj → Prop) (B : Nat) (I : β → World → Prop) : Prop :=
  ∀ s W W' row, I s W → W.grownBy W' row → (∀ r, row = some r → B ≤ r ∧ ∃ o : Obj, W.heap[r]? = some o ∧ T o) → I s W'
theorem OwnT.alloc {β : Type} {T : Obj → Prop} {B : Nat} {I : β → World → Prop} (h : OwnT T B I) {s : β} {W : World} (o : Obj) (hs : I s W) : I s (W.alloc o) := h s W _ none hs (World.grownBy_alloc W o none) (fun r e => by cases e)
theorem OwnT.putObj {β : Type} {T : Obj → Prop} {B : Nat} {I : β → World → Prop} (h : OwnT T B I) {s : β} {W : World} {l : Nat} {o : Obj} (o' : Obj) (hs : I s W) (hB : B ≤ l) (hl : W.heap[l]? = some o) (ho : T o) : I s (W.putObj l o') :=
  h s W _ (some l) hs (grownBy_putObj' W l o') (fun r e => by cases e; exact ⟨hB, o, hl, ho⟩)
theorem OwnT.and {β : Type} {T : Obj → Prop} {B : Nat} {I I' : β → World → Prop} (h : OwnT T B I) (h' : OwnT T B I') : OwnT T B (fun s W => I s W ∧ I' s W) := fun s W W' row hs hg hr => ⟨h s W W' row hs.1 hg hr, h' s W W' row hs.2 hg hr⟩
theorem OwnT.later {β : Type} {T : Obj → Prop} {B B' : Nat} {I : β → World → Prop} (h : OwnT T B I) (hB : B ≤ B') : OwnT T B' I := fun s W W' row hs hg hr => h s W W' row hs hg (fun r e => ⟨Nat.le_trans hB (hr r e).1, (hr r e).2⟩)
theorem OwnT.mono {β : Type} {T T' : Obj → Prop} {B : Nat} {I : β → World → Prop} (h : OwnT T B I) (hT : ∀ o, T' o → T o) : OwnT T' B I := fun s W W' row hs hg hr => h s W W' row hs hg (fun r e => by obtain ⟨h1, o, h2, h3⟩ := hr r e; exact ⟨h1, o, h2, hT o h3⟩)
theorem ownT_blk {β : Type} (T : Obj → Prop) (B k : Nat) (f : β → Obj) (hf : ∀ s, ¬ T (f s)) : OwnT T B (fun s W => W.heap[k]? = some (f s)) := fun s W W' row hs hg hr =>
  (hg.block k (Array.getElem?_eq_some_iff.1 hs).1 (fun e => by obtain ⟨_, o, ho, hc⟩ := hr k e.symm; rw [hs] at ho; cases ho; exact hf s hc)).trans hs
theorem ownT_low {β : Type} (T : Obj → Prop) (B k : Nat) (hk : k < B) (f : β → Obj) : OwnT T B (fun s W => W.heap[k]? = some (f s)) := fun s W W' row hs hg hr =>
  (hg.block k (Array.getElem?_eq_some_iff.1 hs).1 (fun e => by have := (hr k e.symm).1; omega)).trans hs
theorem ownT_below {β : Type} (T : Obj → Prop) {B n₀ : Nat} {w₀ : World} (h0 : n₀ ≤ w₀.heap.size) (hB : n₀ ≤ B) : OwnT T B (fun (_ : β) W => Below n₀ w₀ W) := fun _ W W' row hs hg hr =>
  hs.grown hg (Nat.le_trans h0 hs.size) (fun k e => Nat.le_trans hB (hr k e).1)
def seqPost {α : Type} (S : Nat → Obj → Prop) (I : List α → World → Prop) (Ix : Code → List α → World → Prop) (xs : List α) (W : World) : Exit → Act → World → Prop
  | .normal, _, W' => KpC S W W' ∧ I xs W'
  | .ret, _, W' => KpC S W W' ∧ Ix .ret xs W'
  | .exit id, _, W' => KpC S W W' ∧ Ix (.exit id) xs W'
  | .goto t, _, W' => KpC S W W' ∧ Ix (.goto t) xs W'
  | .panic _, _, _ => False
  | .outgrown, _, _ => False
theorem roundIn_wide {P : Program} {l : Nat} {f : FuncId} {tmps : Array Value} {assign body : Code} {w : World} {R : Ending → World → Prop} {n m : Nat} (h : RoundIn Fence.wide n P l f tmps assign body w R) : RoundIn Fence.wide m P l f tmps assign body w R :=
  ⟨h.1, fun c cs _ => h.2 c cs (room_wide _)⟩
theorem yieldAt_wide {P : Program} {l : Nat} {args : Array Value} {w : World} {R : Ending → World → Prop} {n m : Nat} (h : YieldAt Fence.wide n P l args w R) : YieldAt Fence.wide m P l args w R := by
  obtain ⟨fn, tmps, assign, body, h1, h2⟩ := h
  exact ⟨fn, tmps, assign, body, h1, roundIn_wide h2⟩
end Go.Proofs.YtbomhpfckplgaaaDoor.P
namespace Go.Proofs.YtbomhpfckplgaaaDoor.P
open Go Go.RowKit Go.Shelf Go.Proofs.YtbomhpfckplgaaaDoorW.PrintWords
set_option linter.unusedVariables false
set_option maxRecDepth 100000
attribute [local go_sem] Oper.semAt_some
def itemsFrom (s : ByteArray) : Nat → Nat → List (Nat × Int × Int × Bool)
  | 0, _ => []
  | k + 1, p => if p < s.size then (p, stepW (s.extract p s.size)) :: itemsFrom s k (p + (Utf8.decode s p).2) else []
def items (s : ByteArray) : List (Nat × Int × Int × Bool) := itemsFrom s s.size 0
def encItem (x : Nat × Int × Int × Bool) : Array Value := #[.int .i64 x.1, .agg #[.int .i32 x.2.1, .int .i64 x.2.2.1, .bool x.2.2.2]]
theorem decode_pos (s : ByteArray) (p : Nat) (h : p < s.size) : 1 ≤ (Utf8.decode s p).2 := by
  by_cases ha : (s[p]'h).toNat < 128
  · rw [decode_ascii s p h ha]
    exact Nat.le_refl _
  · exact (decode_high s p h (by omega)).2
theorem grown_iterAt (w : World) (k : Nat) (s : ByteArray) (p : Nat) : w.grownBy (w.iterAt k s p) (some k) :=
  ⟨rfl, rfl, rfl, by rw [Lib.iterAt_size]; exact Nat.le_refl _, fun j _ hj => Lib.iterAt_other w k j s p (fun e => hj (by rw [e]))⟩
theorem keep_laid {C : Nat → Obj → Prop} {W W' : World} (h : Kept C W W') (hC : ∀ o, W.heap[0]? = some o → ¬ C 0 o) (hG : Laid W) : Laid W' := ⟨keep_cell h hC hG.c0, keep_cell h hC hG.c1, keep_cell h hC hG.c2⟩
theorem all_any (A : Option Addr) (c : Nat) (l : List Int) (w : World) (hr : Kd.C (Kd.int .u8) w A l.length l) :
    Calls Tryd.prog 116 #[.slice A l.length c] w fun e w' => e = .returned (.func (.func 126) #[] #[.pointer (some ⟨w.heap.size, 0, none⟩)]) ∧ w.alloc (.cells #[.string (strOfNums l)] 9) = w' := by
  have hcv := Kd.C_string (P := Tryd.prog) (A := A) (c := c) Tryd.underlying22 Tryd.underlying5 Tryd.underlying9 hr
  go_enter Tryd.func116, Tryd.ntmps116
  go_wp2
  go_ret
  exact ⟨rfl, rfl⟩
end Go.Proofs.YtbomhpfckplgaaaDoor.P
namespace Go.Proofs.YtbomhpfckplgaaaDoor.P
open Go Go.RowKit Go.Proofs.YtbomhpfckplgaaaDoorW.PrintWords Go.Proofs.YtbomhpfckplgaaaDoorW.PrintLast
set_option linter.unusedVariables false
set_option maxRecDepth 100000
set_option maxHeartbeats 1000000
end Go.Proofs.YtbomhpfckplgaaaDoor.P
namespace Go.Proofs.YtbomhpfckplgaaaDoor.P
open Go Go.RowKit Go.Shelf Go.Proofs.YtbomhpfckplgaaaDoorW.PrintWords
set_option linter.unusedVariables false
set_option maxRecDepth 100000
attribute [local go_sem] Oper.semAt_some
abbrev Edge3 := Int × Int × Int
def e0 : Edge3 := (0, 0, 0)
theorem KpC.blk {C : Nat → Obj → Prop} {W W' : World} (h : KpC C W W') {k : Nat} {o : Obj} (hk : ¬ C k o) (hb : W.heap[k]? = some o) : W'.heap[k]? = some o := h.same _ _ hb hk
end Go.Proofs.YtbomhpfckplgaaaDoor.P
namespace Go.Proofs.YtbomhpfckplgaaaDoor.P
open Go Go.RowKit Go.Shelf Go.Proofs.YtbomhpfckplgaaaDoorW.PrintWords
set_option linter.unusedVariables false
set_option maxRecDepth 100000
attribute [local go_sem] Oper.semAt_some
end Go.Proofs.YtbomhpfckplgaaaDoor.P
namespace Go.Proofs.YtbomhpfckplgaaaDoor.P
open Go Go.RowKit Go.Shelf Go.Proofs.YtbomhpfckplgaaaDoorW.PrintWords Go.Proofs.YtbomhpfckplgaaaDoorW.PrintLast Go.Proofs.YtbomhpfckplgaaaDoorW.PrintMore
set_option linter.unusedVariables false
def noDefer (ops : Array Oper) : Bool := ops.all fun o => match o.op with
  | .defer _ => false
  | _ => true
theorem noDefer_at {ops : Array Oper} (h : noDefer ops = true) {i : Nat} {o : Oper} (hi : ops[i]? = some o) (c : Call) : o.op ≠ .defer c := by
  intro e
  obtain ⟨hlt, rfl⟩ := Array.getElem?_eq_some_iff.1 hi
  have := (Array.all_eq_true.1 h) i hlt
  rw [e] at this
  cases this
theorem rowsIn_wide {n : Nat} {P : Program} {row : String} {args : Array Value} {w : World} {R : Value → World → Prop} (h : Rows P row args w R) : RowsIn Fence.wide n P row args w R :=
  fun c cs _ => let ⟨v, w', r, s⟩ := h c cs; ⟨v, w', r, stepsIn_wide.2 s⟩
section
variable {P : Program} {ops : Array Oper} {Q : Exit → Act → World → Prop} {md : Region.Mode} {l n : Nat}
theorem operIn_wide {o : Oper} (hd : ∀ c, o.op ≠ .defer c) {a : Act} {w : World} {K : Act → World → Prop} (hl : ¬ LetsOut Q) (h : o.wp P a w K Q) : o.wpIn (Fence.wide.inRound l) n P a w K Q := by
  unfold Oper.wp at h
  refine ⟨fun _ _ => trivial, ?_⟩
  rw [Oper.semAt_eq _ _ _ hd]
  generalize (execOp a.eval o).run P w = r at *
  cases r with
  | ok x w' =>
    cases x
    case value => exact h
    case skip => exact h
    case defer => exact h
    case enter f args =>
      rw [Oper.upon_enter] at h
      rw [Oper.uponIn_enter]
      refine And.intro (fun hh => by cases hh) ((CallsIn.inRound l (callsIn_wide.2 h)).mono ?_)
      rintro e w'' he
      cases e <;> exact he
    case row f args =>
      rw [Oper.upon_row] at h
      rw [Oper.uponIn_row]
      exact And.intro (fun hh => by cases hh) (rowsIn_wide h)
    all_goals exact h.elim
  | halt x w' => cases x <;> simp only [Oper.upon, Oper.uponIn] at h ⊢ <;> exact h
theorem wpOpIn_wide (hn : noDefer ops = true) (hl : ¬ LetsOut Q) {i : Nat} {K K' : Act → World → Prop} (hK : ∀ a w, K a w → K' a w) {a : Act} {w : World} (h : wpOp P ops Q i K a w) : wpOpIn (Fence.wide.inRound l) n P ops Q i K' a w := by
  unfold wpOp at h
  unfold Go.wpOpIn
  cases ho : ops[i]? with
  | none => simp only [ho] at h; exact hK _ _ h
  | some o =>
    simp only [ho] at h ⊢
    split
    · rename_i hw
      simp only [hw, if_true] at h
      rcases h with h | ⟨_, h⟩
      · exact Oper.wpIn_mono hK (operIn_wide (noDefer_at hn ho) hl h)
      · exact absurd h hl
    · rename_i hw
      simp only [hw] at h
      exact ⟨fun _ _ => trivial, hK _ _ h⟩
theorem wpAnyIn_wide (hn : noDefer ops = true) (hl : ¬ LetsOut Q) : ∀ (fuel : Nat) (listed : Array Bool) (a : Act) (w : World), wpAny P md ops Q fuel listed a w → wpAnyIn (Fence.wide.inRound l) n P md ops Q fuel listed a w
  | 0, _, _, _, h => h
  | fuel + 1, _, _, _, h => ⟨h.1, fun i hi => wpOpIn_wide hn hl (fun a w h => wpAnyIn_wide hn hl fuel _ a w h) (h.2 i hi)⟩
theorem wpIn_of_any {id : Nat} {a : Act} {w : World} {Q' : Exit → Act → World → Prop} (hm : P.follows .mixedOrders = true) (hn : noDefer ops = true) (hl : ¬ LetsOut Q) (hQ : ∀ e a w, Q e a w → Q' e a w)
    (h : wpAny P .any ops Q ops.size (Array.replicate ops.size false) a w.drew) : (Code.region id ops true).wpIn (Fence.wide.inRound l) n P Q' a w :=
  Go.wpIn_mono (wpIn_region_any hm (wpAnyIn_wide hn hl _ _ _ _ h)) hQ
def onlyN (Q : Exit → Act → World → Prop) : Exit → Act → World → Prop
  | .normal, a, w => Q .normal a w
  | _, _, _ => False
theorem startIn_ {id cnt : Nat} {S : World → Prop} {ds : List Nat} {a : Act} {w : World} (l0 : Array Bool) (hm : P.follows .mixedOrders = true) (hnd : noDefer ops = true) (hn : ops.size = cnt) (hl : Array.replicate cnt false = l0) (hS : S w.drew)
    (h : S w.drew → wpAnyLast P .any ops (onlyN Q) S ds cnt l0 a w.drew) : (Code.region id ops true).wpIn (Fence.wide.inRound l) n P Q a w := by
  subst hn
  subst hl
  refine wpIn_of_any (Q := onlyN Q) hm hnd ?_ ?_ (wpAny_of_last _ _ _ _ (h hS))
  · rintro ⟨_, _, h⟩
    exact h
  · intro e a w h
    cases e <;> first | exact h | exact h.elim
end
theorem ownT_R {β α : Type} {T : Obj → Prop} {B base : Nat} (d : Kd α) (hE : d.E = []) (e : Nat) (hT : ∀ cs fz, ¬ T (.cells cs e fz)) (v : β → Value) (xs : β → List α) : OwnT T B (fun s W => d.R e W base (fun _ => True) (v s) (xs s)) := fun s W W' row hs hg hr =>
  Kd.R_mono (Kd.R_move (Kd.R_bound hs) (fun k hk => hg.block k hk.2.2.1 (fun er => by
    obtain ⟨_, _, _, q, hq, cells, hc⟩ := hk
    obtain ⟨_, o, ho, hto⟩ := hr k er.symm
    rw [hE] at hq
    simp only [List.mem_singleton] at hq
    subst hq
    rw [hc] at ho
    cases ho
    exact hT _ _ hto))) (fun _ _ => trivial)
end Go.Proofs.YtbomhpfckplgaaaDoor.P
namespace Go.Proofs.YtbomhpfckplgaaaDoor.P
open Go.RowKit Go.Proofs.YtbomhpfckplgaaaDoorW.PrintWords Go.Proofs.YtbomhpfckplgaaaDoorW.PrintLast Go.Proofs.YtbomhpfckplgaaaDoorW.PrintMore
attribute [local go_sem] max2_int min2_int max_two min_two max_three min_three max_four min_four   -- for this text's walks alone
set_option linter.unusedVariables false
set_option linter.unusedSimpArgs false
end Go.Proofs.YtbomhpfckplgaaaDoor.P
namespace Go.Proofs.YtbomhpfckplgaaaDoor.P
open Go Go.RowKit Go.Proofs.YtbomhpfckplgaaaDoorW.PrintWords Go.Proofs.YtbomhpfckplgaaaDoorW.PrintLast Go.Proofs.YtbomhpfckplgaaaDoorW.PrintMore
set_option linter.unusedVariables false
set_option linter.unusedSimpArgs false
def Keeps (P : World → Prop) (w0 : World) : Prop := ∀ W, Below w0.heap.size w0 W → P W
section
variable {P Q : World → Prop} {w0 w1 : World}
theorem Keeps.next (h : Keeps P w0) (hb : Below w0.heap.size w0 w1) : Keeps P w1 := fun W hW => h W (hb.trans (hW.mono hb.size))
theorem Keeps.of (h : Keeps P w0) {W : World} (hW : Below w0.heap.size w0 W) : P W := h W hW
theorem Keeps.and (h : Keeps P w0) (h' : Keeps Q w0) : Keeps (fun W => P W ∧ Q W) w0 := fun W hW => ⟨h W hW, h' W hW⟩
end
theorem C_blk {W : World} {g : Nat} {xs : List Int} {fz : Nat × Nat} {k : IntKind} {e : TypeId} (h : W.heap[g]? = some (.cells (List.map (Value.int k) xs).toArray e fz)) (hn : xs.length ≤ 9223372036854775807) : Kd.C (Kd.int k) W (some ⟨g, 0, none⟩) xs.length xs := by
  refine ⟨rfl, hn, fun _ => ⟨_, rfl, fun j p hj => ⟨[.int k p], rfl, rfl, fun i u hu => ?_⟩⟩⟩
  obtain ⟨rfl, rfl⟩ : i = 0 ∧ Value.int k p = u := by
    cases i with
    | zero => exact ⟨rfl, by simpa using hu⟩
    | succ i => simp at hu
  have ha : (⟨g, 0, none⟩ : Addr).add (j * (Kd.int k).sz + 0) = ⟨g, j, none⟩ := by
    have : j * (Kd.int k).sz + 0 = j := Nat.mul_one j
    rw [this]
    unfold Addr.add
    split <;> simp_all
  rw [ha]
  unfold World.cell?
  rw [h]
  simp [hj]
end Go.Proofs.YtbomhpfckplgaaaDoor.P
set_option linter.unusedVariables false
namespace Go.Proofs.YtbomhpfckplgaaaDoor.P.LCS
set_option linter.unusedSectionVars false
variable {α : Type} [DecidableEq α]
def lcs : List α → List α → Nat
  | [], _ => 0
  | _ :: _, [] => 0
  | a :: as_, b :: bs => if a = b then lcs as_ bs + 1 else max (lcs as_ (b :: bs)) (lcs (a :: as_) bs)
termination_by x y => x.length + y.length
theorem lcs_nil_left (b : List α) : lcs [] b = 0 := by simp [lcs]
theorem lcs_nil_right (a : List α) : lcs a [] = 0 := by cases a <;> simp [lcs]
theorem lcs_cons (a : α) (as_ : List α) (b : α) (bs : List α) : lcs (a :: as_) (b :: bs) = if a = b then lcs as_ bs + 1 else max (lcs as_ (b :: bs)) (lcs (a :: as_) bs) := by
  rw [lcs]
def IsLcs (a b : List α) (n : Nat) : Prop := (∃ s : List α, s.Sublist a ∧ s.Sublist b ∧ s.length = n) ∧ ∀ s : List α, s.Sublist a → s.Sublist b → s.length ≤ n
theorem IsLcs.unique {a b : List α} {n m : Nat} (h : IsLcs a b n) (k : IsLcs a b m) : n = m := by
  obtain ⟨⟨s, h1, h2, rfl⟩, h3⟩ := h
  obtain ⟨⟨t, k1, k2, rfl⟩, k3⟩ := k
  exact Nat.le_antisymm (k3 s h1 h2) (h3 t k1 k2)
theorem IsLcs.symm {a b : List α} {n : Nat} (h : IsLcs a b n) : IsLcs b a n := by
  obtain ⟨⟨s, h1, h2, h4⟩, h3⟩ := h
  exact ⟨⟨s, h2, h1, h4⟩, fun t t1 t2 => h3 t t2 t1⟩
theorem IsLcs.nil_left (b : List α) : IsLcs [] b 0 := ⟨⟨[], List.Sublist.refl _, List.nil_sublist _, rfl⟩, fun s h _ => by simp [List.sublist_nil.1 h]⟩
theorem IsLcs.nil_right (a : List α) : IsLcs a [] 0 := (IsLcs.nil_left a).symm
theorem IsLcs.cons_eq {a b : List α} {x : α} {n : Nat} (h : IsLcs a b n) : IsLcs (x :: a) (x :: b) (n + 1) := by
  obtain ⟨⟨s, h1, h2, h4⟩, h3⟩ := h
  refine ⟨⟨x :: s, h1.cons_cons x, h2.cons_cons x, by simp [h4]⟩, fun t t1 t2 => ?_⟩
  cases t with
  | nil => simp
  | cons y t =>
    have t1' : t.Sublist a := by
      cases t1 with
      | cons _ h => exact (List.sublist_cons_self y t).trans h
      | cons_cons _ h => exact h
    have t2' : t.Sublist b := by
      cases t2 with
      | cons _ h => exact (List.sublist_cons_self y t).trans h
      | cons_cons _ h => exact h
    have := h3 t t1' t2'
    simp; omega
theorem IsLcs.cons_ne {a b : List α} {x y : α} {n m : Nat} (hne : x ≠ y) (h : IsLcs a (y :: b) n) (k : IsLcs (x :: a) b m) : IsLcs (x :: a) (y :: b) (max n m) := by
  obtain ⟨⟨s, h1, h2, h4⟩, h3⟩ := h
  obtain ⟨⟨t, k1, k2, k4⟩, k3⟩ := k
  refine ⟨?_, fun u u1 u2 => ?_⟩
  · rcases Nat.le_total n m with hl | hl
    · exact ⟨t, k1, k2.cons y, by omega⟩
    · exact ⟨s, h1.cons x, h2, by omega⟩
  · cases u1 with
    | cons _ h =>
      have := h3 u h u2
      omega
    | cons_cons _ h =>
      rename_i u'
      cases u2 with
      | cons _ h' =>
        have := k3 _ (h.cons_cons x) h'
        omega
      | cons_cons _ _ => exact absurd rfl hne
theorem lcs_is (a b : List α) : IsLcs a b (lcs a b) := by
  fun_induction lcs a b with
  | case1 b => exact IsLcs.nil_left b
  | case2 => exact IsLcs.nil_right _
  | case3 as_ y bs ih => exact ih.cons_eq
  | case4 a as_ b bs h ih1 ih2 => exact IsLcs.cons_ne h ih1 ih2
theorem lcs_comm (a b : List α) : lcs a b = lcs b a := (lcs_is a b).unique (lcs_is b a).symm
theorem lcs_le_left (a b : List α) : lcs a b ≤ a.length := by
  obtain ⟨⟨s, h1, _, h4⟩, _⟩ := lcs_is a b
  rw [← h4]; exact h1.length_le
theorem lcs_ge {a b s : List α} (h : s.Sublist a) (k : s.Sublist b) : s.length ≤ lcs a b := (lcs_is a b).2 s h k
theorem IsLcs.reverse {a b : List α} {n : Nat} (h : IsLcs a b n) : IsLcs a.reverse b.reverse n := by
  obtain ⟨⟨s, h1, h2, h4⟩, h3⟩ := h
  refine ⟨⟨s.reverse, h1.reverse, h2.reverse, by simp [h4]⟩, fun t t1 t2 => ?_⟩
  have := h3 t.reverse (by simpa using t1.reverse) (by simpa using t2.reverse)
  simpa using this
theorem lcs_reverse (a b : List α) : lcs a.reverse b.reverse = lcs a b := (lcs_is _ _).unique (lcs_is a b).reverse
theorem lcs_snoc (a : List α) (x : α) (b : List α) (y : α) : lcs (a ++ [x]) (b ++ [y]) = if x = y then lcs a b + 1 else max (lcs a (b ++ [y])) (lcs (a ++ [x]) b) := by
  rw [← lcs_reverse, List.reverse_append, List.reverse_append]
  simp only [List.reverse_cons, List.reverse_nil, List.nil_append, List.singleton_append]
  rw [lcs_cons]
  have e1 : lcs a.reverse (y :: b.reverse) = lcs a (b ++ [y]) := by rw [← lcs_reverse a]; simp
  have e2 : lcs (x :: a.reverse) b.reverse = lcs (a ++ [x]) b := by rw [← lcs_reverse (a ++ [x])]; simp
  rw [e1, e2, lcs_reverse]
theorem lcs_grow_left (a b : List α) (x : α) : lcs (a ++ [x]) b ≤ lcs a b + 1 := by
  obtain ⟨⟨s, h1, h2, h4⟩, _⟩ := lcs_is (a ++ [x]) b
  rw [List.sublist_append_iff] at h1
  obtain ⟨s1, s2, rfl, k1, k2⟩ := h1
  have := lcs_ge k1 ((List.sublist_append_left _ _).trans h2)
  have := k2.length_le
  simp at h4 this
  omega
theorem lcs_grow_right (a b : List α) (y : α) : lcs a (b ++ [y]) ≤ lcs a b + 1 := by rw [lcs_comm a, lcs_comm a b]; exact lcs_grow_left _ _ _
theorem lcs_snoc_ref (a : List α) (x : α) (b : List α) (y : α) : lcs (a ++ [x]) (b ++ [y]) = if x = y then max (max (lcs (a ++ [x]) b) (lcs a (b ++ [y]))) (lcs a b + 1) else max (lcs (a ++ [x]) b) (lcs a (b ++ [y])) := by
  rw [lcs_snoc]
  have h1 := lcs_grow_left a b x
  have h2 := lcs_grow_right a b y
  split <;> omega
end Go.Proofs.YtbomhpfckplgaaaDoor.P.LCS
namespace Go.Proofs.YtbomhpfckplgaaaDoor.P.LCS
variable {α : Type} [DecidableEq α]
def dpRow (x : α) : List α → List Nat → List Nat
  | [], _ => [0]
  | y :: ys, r => (if x = y then r.tail.headD 0 + 1 else max (r.headD 0) ((dpRow x ys r.tail).headD 0)) :: dpRow x ys r.tail
def dp : List α → List α → List Nat
  | [], b => List.replicate (b.length + 1) 0
  | x :: xs, b => dpRow x b (dp xs b)
def tailsOf : List α → List (List α)
  | [] => [[]]
  | y :: ys => (y :: ys) :: tailsOf ys
theorem dpRow_is (x : α) (xs : List α) : ∀ b : List α, dpRow x b ((tailsOf b).map (lcs xs)) = (tailsOf b).map (lcs (x :: xs))
  | [] => by simp [dpRow, tailsOf, lcs_nil_right]
  | y :: ys => by
    have ih := dpRow_is x xs ys
    unfold dpRow
    simp only [tailsOf, List.map_cons, List.tail_cons, List.headD_cons]
    rw [ih, lcs_cons]
    cases ys with
    | nil => simp [tailsOf]
    | cons z zs => simp [tailsOf]
theorem dp_is : ∀ a b : List α, dp a b = (tailsOf b).map (lcs a)
  | [], b => by
    unfold dp
    induction b with
    | nil => simp [tailsOf, lcs_nil_left]
    | cons y ys ih =>
      rw [List.length_cons, List.replicate_succ, ih]
      simp [tailsOf, lcs_nil_left]
  | x :: xs, b => by
    unfold dp
    rw [dp_is xs b, dpRow_is]
def lcsN (a b : List α) : Nat := (dp a b).headD 0
theorem lcsN_is (a b : List α) : lcsN a b = lcs a b := by
  unfold lcsN
  rw [dp_is]
  cases b <;> simp [tailsOf]
end Go.Proofs.YtbomhpfckplgaaaDoor.P.LCS
namespace Go.Proofs.YtbomhpfckplgaaaDoor.P.Lead
open Go.Proofs.YtbomhpfckplgaaaDoor.P Go.Proofs.YtbomhpfckplgaaaDoor.P.LCS
inductive Raw where
  | keep (x : ByteArray)
  | put (x : ByteArray)
  | drop (x : ByteArray)
def rawL : List ByteArray → List ByteArray → List Raw
  | [], [] => []
  | [], b :: bs => .put b :: rawL [] bs
  | a :: as_, [] => .drop a :: rawL as_ []
  | a :: as_, b :: bs => if a = b then .keep a :: rawL as_ bs else if lcsN as_ (b :: bs) ≤ lcsN (a :: as_) bs then .put b :: rawL (a :: as_) bs else .drop a :: rawL as_ (b :: bs)
termination_by a b => a.length + b.length
def sizeB : List ByteArray → Nat
  | [] => 0
  | x :: xs => x.size + sizeB xs
def catB : List ByteArray → ByteArray
  | [] => ByteArray.empty
  | x :: xs => x ++ catB xs
theorem sizeB_append (xs ys : List ByteArray) : sizeB (xs ++ ys) = sizeB xs + sizeB ys := by
  induction xs with
  | nil => simp [sizeB]
  | cons x xs ih => simp [sizeB, ih]; omega
theorem catB_append (xs ys : List ByteArray) : catB (xs ++ ys) = catB xs ++ catB ys := by
  induction xs with
  | nil => simp [catB]
  | cons x xs ih => simp [catB, ih, ByteArray.append_assoc]
theorem catB_size (xs : List ByteArray) : (catB xs).size = sizeB xs := by
  induction xs with
  | nil => simp [catB, sizeB]
  | cons x xs ih => simp [catB, sizeB, ih]
def keepO (xs : List ByteArray) : S102 := ⟨1, sizeB xs, ⟨#[]⟩⟩
def putO (xs : List ByteArray) : S102 := ⟨2, 0, catB xs⟩
def dropO (xs : List ByteArray) : S102 := ⟨3, sizeB xs, ⟨#[]⟩⟩
inductive Run : List ByteArray → List ByteArray → List S102 → Nat → Prop
  | nil : Run [] [] [] 0
  | keep (xs : List ByteArray) {A B : List ByteArray} {d : List S102} {c : Nat} (h : xs ≠ []) (r : Run A B d c) : Run (xs ++ A) (xs ++ B) (keepO xs :: d) c
  | put (xs : List ByteArray) {A B : List ByteArray} {d : List S102} {c : Nat} (h : xs ≠ []) (r : Run A B d c) : Run A (xs ++ B) (putO xs :: d) (xs.length + c)
  | drop (xs : List ByteArray) {A B : List ByteArray} {d : List S102} {c : Nat} (h : xs ≠ []) (r : Run A B d c) : Run (xs ++ A) B (dropO xs :: d) (xs.length + c)
theorem Run.append {A B A' B' : List ByteArray} {d d' : List S102} {c c' : Nat} (h : Run A B d c) (h' : Run A' B' d' c') : Run (A ++ A') (B ++ B') (d ++ d') (c + c') := by
  induction h with
  | nil => simpa using h'
  | keep xs hx r ih => rw [List.append_assoc, List.append_assoc]; exact .keep xs hx ih
  | put xs hx r ih => rw [List.append_assoc, Nat.add_assoc]; exact .put xs hx ih
  | drop xs hx r ih => rw [List.append_assoc, Nat.add_assoc]; exact .drop xs hx ih
theorem Run.put1 {xs : List ByteArray} (h : xs ≠ []) : Run [] xs [putO xs] xs.length := by simpa using Run.put xs h .nil
def okNext (a b : S102) : Prop := a.f0 ≠ b.f0 ∧ ¬ (a.f0 = 3 ∧ b.f0 = 2)
def CanonO (d : List S102) : Prop := ∀ (i : Nat) (h : i + 1 < d.length), okNext d[i] d[i + 1]
theorem CanonO.nil : CanonO [] := fun i h => absurd h (by simp)
theorem CanonO.snoc {d : List S102} {x : S102} (h : CanonO d) (hx : ∀ y, d.getLast? = some y → okNext y x) : CanonO (d ++ [x]) := by
  intro i hi
  rw [List.length_append, List.length_singleton] at hi
  rcases Nat.lt_or_ge (i + 1) d.length with g | g
  · rw [List.getElem_append_left (by omega), List.getElem_append_left g]
    exact h i g
  · have e : i + 1 = d.length := by omega
    rw [List.getElem_append_left (by omega), List.getElem_append_right (by omega)]
    simp only [e, Nat.sub_self, List.getElem_cons_zero]
    refine hx _ ?_
    rw [List.getLast?_eq_getElem?, show d.length - 1 = i by omega, List.getElem?_eq_getElem]
inductive Md where
  | none
  | kept (ks : List ByteArray)
  | changed (ps ds : List ByteArray)
def flushO (ps ds : List ByteArray) : List S102 := (if ps = [] then [] else [putO ps]) ++ (if ds = [] then [] else [dropO ds])
def endO (out : List S102) : Md → List S102
  | .none => out
  | .kept ks => out ++ [keepO ks]
  | .changed ps ds => out ++ flushO ps ds
def stepO : List S102 × Md → Raw → List S102 × Md
  | (out, .none), .keep x => (out, .kept [x])
  | (out, .none), .put x => (out, .changed [x] [])
  | (out, .none), .drop x => (out, .changed [] [x])
  | (out, .kept ks), .keep x => (out, .kept (ks ++ [x]))
  | (out, .kept ks), .put x => (out ++ [keepO ks], .changed [x] [])
  | (out, .kept ks), .drop x => (out ++ [keepO ks], .changed [] [x])
  | (out, .changed ps ds), .keep x => (out ++ flushO ps ds, .kept [x])
  | (out, .changed ps ds), .put x => (out, .changed (ps ++ [x]) ds)
  | (out, .changed ps ds), .drop x => (out, .changed ps (ds ++ [x]))
def canonR (rs : List Raw) : List S102 := let s := rs.foldl stepO ([], .none); endO s.1 s.2
def Raw.a : Raw → List ByteArray
  | .keep x => [x]
  | .put _ => []
  | .drop x => [x]
def Raw.b : Raw → List ByteArray
  | .keep x => [x]
  | .put x => [x]
  | .drop _ => []
def Raw.c : Raw → Nat
  | .keep _ => 0
  | .put _ => 1
  | .drop _ => 1
end Go.Proofs.YtbomhpfckplgaaaDoor.P.Lead
namespace Go.Proofs.YtbomhpfckplgaaaDoor.P
open Go Go.RowKit Go.Shelf
set_option linter.unusedVariables false
def Rw9 (o : Obj) : Prop := ∃ cs fz, o = .cells cs 9 fz
theorem Rw9_no {o : Obj} (h : o.isCells = false) : ¬ Rw9 o := by
  rintro ⟨_, _, rfl⟩
  cases h
def Seq9 {α : Type} (T : Obj → Prop) (P : Program) (g : Nat) (lb : Array Value) (encs : α → Array Value) (D : Nat → Prop) (xs : List α) (w : World) : Prop :=
  ∀ (l : Nat) (J Jx : List α → World → Prop) (W : World) (C : Nat → Obj → Prop), Below w.heap.size w W → (∀ k o, D k → W.heap[k]? = some o → ¬ C k o) → (∀ k o, W.heap.size ≤ k → C k o → Rw9 o) → OwnT T W.heap.size J → OwnT T W.heap.size Jx →
    (∀ pre x rest W1, xs = pre ++ x :: rest → J pre W1 → ∀ m, YieldAt Fence.wide m P l (encs x) W1 fun e W' =>
      KpC C W1 W' ∧ ((e = .returned (.bool true) ∧ J (pre ++ [x]) W') ∨ (e = .returned (.bool false) ∧ Jx (pre ++ [x]) W'))) →
    J [] W →
    ∀ m, CallsIn Fence.wide m P g (#[.func (.yield l) #[] #[]] ++ lb) W fun e W' => (∃ v, e = .returned v) ∧ (∀ k o, W.heap[k]? = some o → ¬ C k o → W'.heap[k]? = some o) ∧ (J xs W' ∨ ∃ pre, pre <+: xs ∧ Jx pre W')
theorem wpIn_seq9 {α : Type} {T : Obj → Prop} (hT : ∀ o : Obj, o.isCells = false → T o) {P : Program} {n : Nat} {g : Operand} {ps : Array Tmp} {assign body : Code} {Q : Exit → Act → World → Prop} {a : Act} {w : World}
    (h1 : 1 ≤ n) {gf : Nat} {lb : Array Value} (hg : a.eval g = .func (.func gf) #[] lb) (eg : ∀ args w, (callFunc gf args).run P w = .ok (.enter gf args) w)
    {encs : α → Array Value} {D : Nat → Prop} {xs : List α} {w0 : World} (hseq : Seq9 T P gf lb encs D xs w0)
    (S : Nat → Obj → Prop) (hS : ∀ k o, S k o → k < w.heap.size ∨ Rw9 o) (hD : ∀ k, D k → k < w0.heap.size ∧ ∀ o, w.heap[k]? = some o → ¬ S k o) (hb0 : Below w0.heap.size w0 w) (hps : ∀ x, (encs x).size = ps.size)
    (I : List α → World → Prop) (Ix : Code → List α → World → Prop) (hI : OwnT T w.heap.size I) (hIx : ∀ c, OwnT T w.heap.size (Ix c)) (h0 : I [] w) (Ax : α → Act → World → Prop) (hAx : ∀ x a', OwnT (fun o => o.isCells = false) w.heap.size (fun (_ : Unit) W => Ax x a' W))
    (hassign : ∀ (l : Nat) (pre : List α) (x : α) (rest : List α) (W : World) (K : Act → World → Prop), xs = pre ++ x :: rest → w.heap.size < W.heap.size → I pre W → (∀ a' W', KpC S W W' → I pre W' → Ax x a' W' → K a' W') →
      assign.wpIn (Fence.wide.inRound l) (n - 1 - 1) P (Exit.then K (fun _ _ _ => False)) { tmps := (ps.zip (encs x)).foldl (fun t (p, v) => t.setIfInBounds p v) a.tmps, defers := [] } W)
    (hbody : ∀ (l : Nat) (pre : List α) (x : α) (rest : List α) (a' : Act) (W : World), xs = pre ++ x :: rest → w.heap.size < W.heap.size → I pre W → Ax x a' W → body.wpIn (Fence.wide.inRound l) (n - 1 - 1) P (seqPost S I Ix (pre ++ [x]) W) a' W)
    (hdone : ∀ (D : Nat) (W : World), w.heap.size ≤ D → (∀ k o, w.heap[k]? = some o → ¬ S k o → W.heap[k]? = some o) → I xs W → W.heap[D]? = some (.deferred (some [])) → Q .normal { a with defers := { target := .collected D, args := #[] } :: a.defers } W)
    (hstop : ∀ (D : Nat) (c : Code) (pre : List α) (W : World), w.heap.size ≤ D → (∀ k o, w.heap[k]? = some o → ¬ S k o → W.heap[k]? = some o) → pre <+: xs → Ix c pre W → W.heap[D]? = some (.deferred (some [])) → c.wpIn Fence.wide n P Q { a with defers := { target := .collected D, args := #[] } :: a.defers } W) :
    (Code.rangeFunc g ps assign body).wpIn Fence.wide n P Q a w := by
  refine wpIn_rangeFunc ?_
  intro fn hfn
  rw [show Fence.wide.round = none from rfl]
  obtain ⟨rec, hrec⟩ : ∃ rec : LoopState → Option Code → Loop, rec = fun st pe => { state := st, pending := pe, fn, tmps := a.tmps, params := ps, assign, body, defers := w.heap.size } := ⟨_, rfl⟩
  obtain ⟨W1, hW1⟩ : ∃ W1, (w.alloc (.deferred (some []))).alloc (.loop (rec .ready none)) = W1 := ⟨_, rfl⟩
  have hz1 : W1.heap.size = w.heap.size + 2 := by rw [← hW1]; simp
  have hL1 : W1.heap[w.heap.size + 1]? = some (.loop (rec .ready none)) := by
    rw [← hW1]; have := World.alloc_heap_new (w.alloc (.deferred (some []))) (.loop (rec .ready none)); rwa [World.size_alloc] at this
  have hK1 : W1.heap[w.heap.size]? = some (.deferred (some [])) := by
    rw [← hW1]; exact (Below.heap_alloc _ _ _ (by simp)).trans (World.alloc_heap_new w _)
  have hI1 : I [] W1 := by rw [← hW1]; exact hI.alloc _ (hI.alloc _ h0)
  have hbw : Below w.heap.size w W1 := by rw [← hW1]; exact ((Below.refl _ w).alloc (Nat.le_refl _) _).alloc (by simp) _
  have hb1 : Below w0.heap.size w0 W1 := hb0.trans (hbw.mono hb0.size)
  refine ⟨w.heap.size + 1, [{ target := .collected w.heap.size, args := #[] }], W1, { target := .fn (.func gf) lb, args := #[.func (.yield (w.heap.size + 1)) #[] #[]] }, W1, gf,
    #[.func (.yield (w.heap.size + 1)) #[] #[]] ++ lb, W1, ?_, ?_, ?_, ?_, fun _ => h1, ?_⟩
  · rw [← hW1, hrec]; exact run_enterLoop_outer _ _ _ _ _
  · simp only [resolve, hg]
    simp [go_sem]
  · intro f' hf'; trivial
  · simp [invoke, go_sem, eg]
  · have hrow : ∀ {A B : World} {row : Option Nat}, A.grownBy B row → (∀ r, row = some r → W1.heap.size ≤ r ∧ ∃ o : Obj, A.heap[r]? = some o ∧ T o) → ∀ (k : Nat) (o : Obj), k < W1.heap.size → A.heap[k]? = some o → B.heap[k]? = some o :=
      fun hg' hr k o hk ho => (hg'.block k (Array.getElem?_eq_some_iff.1 ho).1 (fun e => by have := (hr k e.symm).1; omega)).trans ho
    have hlow : ∀ {A : World} {row : Option Nat}, (∀ r, row = some r → W1.heap.size ≤ r ∧ ∃ o : Obj, A.heap[r]? = some o ∧ T o) → (∀ r, row = some r → w.heap.size ≤ r ∧ ∃ o : Obj, A.heap[r]? = some o ∧ T o) :=
      fun hr r e => ⟨by have := (hr r e).1; omega, (hr r e).2⟩
    -- C: the round's own blocks, and the loop's record
    have hCl : ∀ o : Obj, (fun k o => S k o ∨ k = w.heap.size + 1) (w.heap.size + 1) o := fun o => .inr rfl
    have hnS : ∀ (k : Nat) (o : Obj), w.heap.size ≤ k → o.isCells = false → ¬ S k o := fun k o hk ho h => (hS k o h).elim (fun h => by omega) (Rw9_no ho)
    have back : ∀ {W2 : World}, (∀ k o, W1.heap[k]? = some o → ¬ (S k o ∨ k = w.heap.size + 1) → W2.heap[k]? = some o) → ∀ (q : Obj), ∀ k o, w.heap[k]? = some o → ¬ S k o → (W2.putObj (w.heap.size + 1) q).heap[k]? = some o := fun {W2} h q k o hk hn => by
      have hlt := (Array.getElem?_eq_some_iff.1 hk).1
      exact (World.putObj_heap_other (by omega)).trans (h k o ((hbw.block k hlt).trans hk) (by rintro (h | h); exact hn h; omega))
    refine (hseq (w.heap.size + 1)
      (fun pre W => I pre W ∧ W.heap[w.heap.size + 1]? = some (.loop (rec .ready none)) ∧ W.heap[w.heap.size]? = some (.deferred (some [])))
      (fun pre W => ∃ c, Ix c pre W ∧ W.heap[w.heap.size + 1]? = some (.loop (rec .done (some c))) ∧ W.heap[w.heap.size]? = some (.deferred (some [])))
      W1 (fun k o => S k o ∨ k = w.heap.size + 1) hb1
      (fun k o hk ho => by
        have h1 := (hD k hk).1
        have h2 := hb0.size
        rintro (h | h)
        · exact (hD k hk).2 o ((hbw.block k (by omega)).symm.trans ho) h
        · omega)
      (fun k o hk => by
        rintro (h | h)
        · rcases hS k o h with h | h
          · omega
          · exact h
        · omega)
      (fun s A B row hs hg' hr => ⟨hI s A B row hs.1 hg' (hlow hr), hrow hg' hr _ _ (by omega) hs.2.1, hrow hg' hr _ _ (by omega) hs.2.2⟩)
      (fun s A B row hs hg' hr => by
        obtain ⟨c, hc, hl, hk⟩ := hs
        exact ⟨c, hIx c s A B row hc hg' (hlow hr), hrow hg' hr _ _ (by omega) hl, hrow hg' hr _ _ (by omega) hk⟩)
      ?_ ⟨hI1, hL1, hK1⟩ (n - 1)).mono ?_
    · -- ONE ROUND
      rintro pre x rest W hxs ⟨hi, hl, hk⟩ m
      refine yieldAt_wide (n := n - 1 - 1) ?_
      have hltW : w.heap.size < W.heap.size := by have := (Array.getElem?_eq_some_iff.1 hl).1; omega
      have hy := run_yield (P := P) (args := encs x) hl (by rw [hrec]; exact hps x)
      rw [hrec] at hy
      refine ⟨fn, _, assign, body, hy, roundIn_of_wpIn hfn (hassign _ pre x rest W _ hxs hltW hi ?_)⟩
      clear hy
      intro a' Wa hkpa hia hax
      have hla := hkpa.same _ _ hl (hnS _ _ (by omega) rfl)
      have hka := hkpa.same _ _ hk (hnS _ _ (Nat.le_refl _) rfl)
      have hlt : w.heap.size + 1 < Wa.heap.size := (Array.getElem?_eq_some_iff.1 hla).1
      refine ⟨_, run_beginRound hla (by rw [hrec]), ?_⟩
      have hl2 : (Wa.putObj (w.heap.size + 1) (.loop { rec .ready none with state := .busy })).heap[w.heap.size + 1]? = some (.loop { rec .ready none with state := .busy }) := World.putObj_heap_same hlt
      have hk2 : (Wa.putObj (w.heap.size + 1) (.loop { rec .ready none with state := .busy })).heap[w.heap.size]? = some (.deferred (some [])) := (World.putObj_heap_other (by omega)).trans hka
      have hw2 : KpC (fun k o => S k o ∨ k = w.heap.size + 1) W (Wa.putObj (w.heap.size + 1) (.loop { rec .ready none with state := .busy })) := (hkpa.mono (fun k o h => .inl h)).trans (KpC.putObj _ _ (fun o _ => hCl o))
      refine wpIn_mono (hbody _ pre x rest a' _ hxs (by simp; omega) (hI.putObj _ hia (by omega) hla (hT _ rfl)) ((hAx x a').putObj (s := ()) _ hax (by omega) hla rfl)) ?_
      have fin : ∀ (jump : Option Code) (W3 : World), KpC S (Wa.putObj (w.heap.size + 1) (.loop { rec .ready none with state := .busy })) W3 →
          (Instr.endRound (w.heap.size + 1) jump).run P W3 = .ok (.bool jump.isNone) (W3.putObj (w.heap.size + 1) (.loop (rec (if jump.isNone then .ready else .done) jump))) ∧
          W3.heap[w.heap.size + 1]? = some (.loop { rec .ready none with state := .busy }) ∧
          (W3.putObj (w.heap.size + 1) (.loop (rec (if jump.isNone then .ready else .done) jump))).heap[w.heap.size + 1]? = some (.loop (rec (if jump.isNone then .ready else .done) jump)) ∧
          (W3.putObj (w.heap.size + 1) (.loop (rec (if jump.isNone then .ready else .done) jump))).heap[w.heap.size]? = some (.deferred (some [])) ∧
          KpC (fun k o => S k o ∨ k = w.heap.size + 1) W (W3.putObj (w.heap.size + 1) (.loop (rec (if jump.isNone then .ready else .done) jump))) := fun jump W3 hk3 => by
        have hl3 := hk3.same _ _ hl2 (hnS _ _ (by omega) rfl)
        have hr := run_endRound (P := P) jump hl3
        have hkp : KpC (fun k o => S k o ∨ k = w.heap.size + 1) W (W3.putObj (w.heap.size + 1) (.loop (rec (if jump.isNone then .ready else .done) jump))) := hw2.trans ((hk3.mono (fun k o h => Or.inl h)).trans (KpC.putObj _ _ (fun o _ => hCl o)))
        rw [hrec] at hr hl3 hkp ⊢
        exact ⟨hr, hl3, World.putObj_heap_same (Array.getElem?_eq_some_iff.1 hl3).1, (World.putObj_heap_other (by omega)).trans (hk3.same _ _ hk2 (hnS _ _ (Nat.le_refl _) rfl)), hkp⟩
      have leaves : ∀ (c : Code) (W3 : World), KpC S (Wa.putObj (w.heap.size + 1) (.loop { rec .ready none with state := .busy })) W3 → Ix c (pre ++ [x]) W3 → ∃ v W4, (Instr.endRound (w.heap.size + 1) (some c)).run P W3 = .ok v W4 ∧ KpC (fun k o => S k o ∨ k = w.heap.size + 1) W W4 ∧
          ((Ending.returned v = .returned (.bool true) ∧ (I (pre ++ [x]) W4 ∧ W4.heap[w.heap.size + 1]? = some (.loop (rec .ready none)) ∧ W4.heap[w.heap.size]? = some (.deferred (some [])))) ∨
           (Ending.returned v = .returned (.bool false) ∧ ∃ c', Ix c' (pre ++ [x]) W4 ∧ W4.heap[w.heap.size + 1]? = some (.loop (rec .done (some c'))) ∧ W4.heap[w.heap.size]? = some (.deferred (some [])))) := fun c W3 hk3 hi3 => by
        obtain ⟨hr, hl3, hl4, hk4, hkp⟩ := fin (some c) W3 hk3
        exact ⟨_, _, hr, hkp, .inr ⟨rfl, c, (hIx _).putObj _ hi3 (by omega) hl3 (hT _ rfl), hl4, hk4⟩⟩
      rintro e a3 W3 hp
      cases e with
      | normal =>
        obtain ⟨hk3, hi3⟩ := hp
        obtain ⟨hr, hl3, hl4, hk4, hkp⟩ := fin none W3 hk3
        exact ⟨_, _, hr, hkp, .inl ⟨rfl, hI.putObj _ hi3 (by omega) hl3 (hT _ rfl), hl4, hk4⟩⟩
      | ret => exact leaves .ret W3 hp.1 hp.2
      | exit id => exact leaves (.exit id) W3 hp.1 hp.2
      | goto t => exact leaves (.goto t) W3 hp.1 hp.2
      | panic ch => exact hp.elim
      | outgrown => exact hp.elim
    · -- BEHIND THE ITERATOR
      rintro e W2 ⟨⟨v, rfl⟩, hsame, (⟨hi, hl, hk⟩ | ⟨pre, hSp, c, hi, hl, hk⟩)⟩
      · exact ⟨none, _, by have := run_endLoop (P := P) hl (by rw [hrec]; simp); rw [hrec] at this; exact this, hdone _ _ (Nat.le_refl _) (back hsame _) (hI.putObj _ hi (by omega) hl (hT _ rfl)) ((World.putObj_heap_other (by omega)).trans hk)⟩
      · exact ⟨some c, _, by have := run_endLoop (P := P) hl (by rw [hrec]; simp); rw [hrec] at this; exact this, hstop _ c pre _ (Nat.le_refl _) (back hsame _) hSp ((hIx c).putObj _ hi (by omega) hl (hT _ rfl)) ((World.putObj_heap_other (by omega)).trans hk)⟩
end Go.Proofs.YtbomhpfckplgaaaDoor.P
namespace Go.Proofs.YtbomhpfckplgaaaDoor.P
open Go Go.RowKit Go.Shelf Go.Proofs.YtbomhpfckplgaaaDoorW.PrintWords
set_option linter.unusedVariables false
set_option maxRecDepth 100000
attribute [local go_sem] Oper.semAt_some
set_option maxHeartbeats 2000000 in
theorem all1_seq9 (s : ByteArray) (hs : s.size ≤ 140737488351232) (w : World) (hG : Laid w) (Bn : Nat) (hB : w.cell? ⟨Bn, 0, none⟩ = some (.string s)) :
    Seq9 (fun o => o.isCells = false) Tryd.prog 126 #[.pointer (some ⟨Bn, 0, none⟩)] encItem (fun k => k = 0 ∨ k = Bn) (items s) w := by
  intro l J Jx W C hW hD hCn hJ hJx hY h0 m
  have hC0 : ∀ o, W.heap[0]? = some o → ¬ C 0 o := fun o ho => hD 0 o (.inl rfl) ho
  have hCB : ∀ o, W.heap[Bn]? = some o → ¬ C Bn o := fun o ho => hD Bn o (.inr rfl) ho
  have hBW := pw_cell_below hW hB
  have hGW := hG.below hW
  have hCW : ∀ s p, ¬ C W.heap.size (.stringIter s p) := fun s p h => Rw9_no rfl (hCn _ _ (Nat.le_refl _) h)
  have hI0 : (W.iter s 0).heap[W.heap.size]? = some (.stringIter s 0) := World.iter_heap W s 0
  have hJ0 : J [] (W.iter s 0) := hJ.alloc _ h0
  have hG0 : Laid (W.iter s 0) := hGW.alloc _
  have hB0 : (W.iter s 0).cell? ⟨Bn, 0, none⟩ = some (.string s) := pw_cell_below ((Below.refl _ W).alloc (Nat.le_refl _) _) hBW
  have hz0 : (W.iter s 0).heap.size = W.heap.size + 1 := by show (W.alloc _).heap.size = _; simp
  have hS0 : ∀ k o, W.heap[k]? = some o → ¬ C k o → (W.iter s 0).heap[k]? = some o := fun k o hk _ => blk_alloc hk _
  refine callsIn_wide.2 ((callsIn_wide (n := 9)).1 ?_)
  refine callsIn_of_wp Tryd.func126 rfl trivial ?_ rfl
  simp only [Tryd.ntmps126, List.size_toArray, List.length_cons, List.length_nil, Nat.reduceAdd, Nat.reduceSub, Array.replicate_succ, Array.replicate_zero, List.push_toArray, List.append_toArray, List.nil_append, List.cons_append]
  clear hG hB hCn hD
  have HS0 := Aside0.mk hS0
  clear hS0
  gi_wp2
  gi_loopw [3] (fun v wr => ∃ (pre : List (Nat × Int × Int × Bool)) (p k : Nat), Aside0 (items s = pre ++ itemsFrom s k p) ∧ s.size ≤ p + k ∧ Aside0 (wr.heap[W.heap.size]? = some (.stringIter s p)) ∧ Aside0 (J pre wr) ∧ Aside0 (Laid wr) ∧ wr.cell? ⟨Bn, 0, none⟩ = some (.string s) ∧ W.heap.size < wr.heap.size ∧ Aside0 (∀ k o, W.heap[k]? = some o → ¬ C k o → wr.heap[k]? = some o))
    (fun v wr => s.size - wr.iterPos W.heap.size)
  case atStart => exact ⟨[], 0, s.size, ⟨rfl⟩, by omega, ⟨hI0⟩, ⟨hJ0⟩, ⟨hG0⟩, hB0, by omega, HS0⟩
  case round =>
    clear HS0
    obtain ⟨pre, p, k, hx, hk, hI, hJs, hGs, hBs, hzs, HS⟩ := hrel
    have hBn : Bn < W.heap.size := World.block_lt_of_cell? W _ hBW
    have h0W : 0 < W.heap.size := hGW.pos
    have hpos : wr.iterPos W.heap.size = p := by unfold World.iterPos; rw [hI.out]
    have HP := Aside0.mk hpos
    have HBW := Aside0.mk hBW
    have HGW := Aside0.mk hGW
    clear hI0 hJ0 hG0 hB0 hz0 hBW hGW h0 hpos
    by_cases hlt : p < s.size
    · have hn := Lib.run_next_any_at (P := Tryd.prog) wr W.heap.size s p 0 hI.out hlt
      obtain ⟨k, rfl⟩ : ∃ j, k = j + 1 := ⟨k - 1, by omega⟩
      have hx' : items s = pre ++ (p, stepW (s.extract p s.size)) :: itemsFrom s k (p + (Utf8.decode s p).2) := by rw [hx.out]; simp [itemsFrom, hlt]
      have hwd := decode_pos s p hlt
      have hg := grown_iterAt wr W.heap.size s (p + (Utf8.decode s p).2)
      have hI1 := Lib.iterAt_heap wr W.heap.size s p (p + (Utf8.decode s p).2) hI.out
      have hJ1 := hJ pre wr _ _ hJs.out hg (fun r e => by cases e; exact ⟨Nat.le_refl _, _, hI.out, rfl⟩)
      have hcell : ∀ (b o : Nat) (v : Value), b ≠ W.heap.size → wr.cell? ⟨b, o, none⟩ = some v → (wr.iterAt W.heap.size s (p + (Utf8.decode s p).2)).cell? ⟨b, o, none⟩ = some v := fun b o v hb h => by
        unfold World.cell? at h ⊢
        rw [Lib.iterAt_other wr _ _ s _ hb]
        exact h
      have hG1 : Laid (wr.iterAt W.heap.size s (p + (Utf8.decode s p).2)) := ⟨hcell _ _ _ (by omega) hGs.out.c0, hcell _ _ _ (by omega) hGs.out.c1, hcell _ _ _ (by omega) hGs.out.c2⟩
      have hB1 := hcell _ _ _ (by omega) hBs
      have hz1 : (wr.iterAt W.heap.size s (p + (Utf8.decode s p).2)).heap.size = wr.heap.size := Lib.iterAt_size _ _ _ _
      have hS1 : ∀ k o, W.heap[k]? = some o → ¬ C k o → (wr.iterAt W.heap.size s (p + (Utf8.decode s p).2)).heap[k]? = some o := fun k o hk hC => (Lib.iterAt_other wr _ _ s _ (by have := (Array.getElem?_eq_some_iff.1 hk).1; omega)).trans (HS.out k o hk hC)
      have hps : p ≤ s.size := by omega
      obtain ⟨c, hc⟩ : ∃ c, (Utf8.decode s p).1 = c := ⟨_, rfl⟩
      rw [hc] at hn
      generalize (Utf8.decode s p).2 = wd at *
      generalize hW1 : wr.iterAt W.heap.size s (p + wd) = W1 at *
      have HX := Aside0.mk hx'
      have HJ1 := Aside0.mk hJ1
      have HG1 := Aside0.mk hG1
      have HI1 := Aside0.mk hI1
      have HS1 := Aside0.mk hS1
      clear hx hx' hI hJs hGs hBs hg hI1 hJ1 hcell hG1 hc hW1 HS hS1
      have HC : Aside0 (∀ (w' : World), Laid w' → Calls Tryd.prog 127 #[.string (s.extract p s.size)] w' fun e w2 => e = .returned (.agg #[.int .i32 (stepW (s.extract p s.size)).1, .int .i64 (stepW (s.extract p s.size)).2.1, .bool (stepW (s.extract p s.size)).2.2]) ∧ Below w'.heap.size w' w2) :=
        ⟨fun w' hL => step_first.calls _ _ _ _ w' hL rfl⟩
      generalize stepW (s.extract p s.size) = st at *
      gi_wp2_with (refine ⟨trivial, ?_⟩; gi_at_call 127; refine (callsIn_wide.2 (HC.out _ HG1.out)).mono ?_; rintro e w3 ⟨rfl, hb3⟩; obtain ⟨fn, tmps, assign, body, hy, hR⟩ := hY pre (p, st) _ w3 HX.out (hJ pre W1 w3 none HJ1.out (grown_of_below hb3 none) (fun r e => by cases e)) 8; dsimp only [encItem] at hy)
      refine hR.mono ?_
      have hI3 := blk_below HI1.out hb3
      have hG3 := HG1.out.below hb3
      have hB3 := pw_cell_below hb3 hB1
      have hz3 := hb3.size
      rintro e W3 ⟨hk3, (⟨rfl, hJ3⟩ | ⟨rfl, hJx3⟩)⟩
      · have hI4 := hk3.same _ _ hI3 (hCW _ _)
        have hz4 := hk3.size
        have hS4 : ∀ k o, W.heap[k]? = some o → ¬ C k o → W3.heap[k]? = some o := fun k o hk hC => hk3.same _ _ (blk_below (HS1.out k o hk hC) hb3) hC
        have hB4 := keep_cell hS4 hCB HBW.out
        have hG4 : Laid W3 := keep_laid hS4 hC0 HGW.out
        have HI4 := Aside0.mk hI4
        have HJ3 := Aside0.mk hJ3
        have HG4 := Aside0.mk hG4
        have HS4 := Aside0.mk hS4
        clear hI3 hG3 hB3 hI4 hJ3 hG4 hk3 hS4
        gi_wp2
        go_roundw
        case rel => exact ⟨pre ++ [(p, st)], p + wd, k, ⟨by rw [HX.out]; simp⟩, by omega, HI4, HJ3, HG4, hB4, by omega, HS4⟩
        case measure =>
          have e1 : W3.iterPos W.heap.size = p + wd := by unfold World.iterPos; rw [HI4.out]
          rw [e1, HP.out]; omega
      · have hS4 : ∀ k o, W.heap[k]? = some o → ¬ C k o → W3.heap[k]? = some o := fun k o hk hC => hk3.same _ _ (blk_below (HS1.out k o hk hC) hb3) hC
        have HS4 := Aside0.mk hS4
        clear hS4
        gi_wp2
        refine bodyPost_ret (results_none rfl _ _ _) rfl ?_
        exact ⟨⟨_, rfl⟩, HS4.out, .inr ⟨pre ++ [(p, st)], ⟨_, by rw [HX.out]; simp; rfl⟩, hJx3⟩⟩
    · have hn := Lib.run_next_end_at (P := Tryd.prog) wr W.heap.size s p 0 hI.out hlt
      have hfin : items s = pre := by
        rw [hx.out]
        cases k with
        | zero => simp [itemsFrom]
        | succ k => simp [itemsFrom, hlt]
      have HF := Aside0.mk hfin
      clear hfin hx hI
      gi_wp2
      go_end0
      exact ⟨⟨_, rfl⟩, HS.out, .inl (by rw [HF.out]; exact hJs.out)⟩
end Go.Proofs.YtbomhpfckplgaaaDoor.P
namespace Go.Proofs.YtbomhpfckplgaaaDoor.P
open Go Go.RowKit Go.Shelf Go.Proofs.YtbomhpfckplgaaaDoorW.PrintWords Go.Proofs.YtbomhpfckplgaaaDoorW.PrintLast Go.Proofs.YtbomhpfckplgaaaDoorW.PrintMore
set_option linter.unusedVariables false
set_option linter.unusedSimpArgs false
set_option maxRecDepth 100000
attribute [local go_sem] Oper.semAt_some
def stepB (l : List Int) (x : Nat × Int × Int × Bool) : ByteArray := strOfNums ((l.take (x.1 + x.2.2.1.toNat)).drop x.1)
def stepsB (l : List Int) : List ByteArray := (items (strOfNums l)).map (stepB l)
def lies (l : List Int) (x : Nat × Int × Int × Bool) : Bool := decide (0 ≤ x.2.2.1 ∧ (x.1 : Int) + x.2.2.1 ≤ (l.length : Int))
set_option maxHeartbeats 8000000 in
theorem steps_any (A : Option Addr) (c : Nat) (l : List Int) (hc : l.length ≤ c) (hl : l.length ≤ 1099511627776) (hE : (items (strOfNums l)).length ≤ 1099511627776) (hin : ∀ x ∈ items (strOfNums l), lies l x = true) (w : World) (hr : Kd.C (Kd.int .u8) w A l.length l) (hG : Laid w) :
    Calls Tryd.prog 87 #[.slice A l.length c] w fun e w' => ∃ v0_ : Value, e = .returned v0_ ∧ Kd.R Kd.string 9 w' w.heap.size (fun _ => True) v0_ (stepsB l) ∧ Below w.heap.size w w' := by
  refine (callsIn_wide (n := 30)).1 ?_
  refine callsIn_of_wp_marks Tryd.func87 rfl trivial ?_ rfl
  simp only [Tryd.ntmps87, List.size_toArray, List.length_cons, List.length_nil, Nat.reduceAdd, Nat.reduceSub, Array.replicate_succ, Array.replicate_zero, List.push_toArray, List.append_toArray, List.nil_append, List.cons_append]
  have HG := Aside0.mk hG
  have HR := Aside0.mk hr
  have HIN := Aside0.mk hin
  have HCC := Aside0.mk hc
  have HLL := Aside0.mk hl
  clear hG hr hin hc hl
  gi_wp2_with (refine ⟨trivial, ?_⟩; gi_at_call 116; refine (callsIn_wide.2 (all_any A c l _ ?hrr)).mono ?_; (case hrr => exact Kd.C_below HR.out (((Below.refl _ w).alloc (Nat.le_refl _) _).alloc (by simp) _)); rintro e w3 ⟨rfl, rfl⟩)
  obtain ⟨W0, hW0⟩ : ∃ W0, (((w.alloc (.cells #[.slice A l.length c] 22)).alloc (.cells #[.slice none 0 0] 110)).alloc (.cells #[.string (strOfNums l)] 9)) = W0 := ⟨_, rfl⟩
  have bA : W0.heap[w.heap.size]? = some (.cells #[.slice A l.length c] 22 (0, 0)) := by rw [← hW0]; exact blk_alloc (blk_alloc (blk_new w _) _) _
  have bN : W0.heap[w.heap.size + 1]? = some (.cells #[.slice none 0 0] 110 (0, 0)) := by
    have h_ := blk_alloc (blk_new (w.alloc (.cells #[.slice A l.length c] 22)) (.cells #[.slice none 0 0] 110)) (.cells #[.string (strOfNums l)] 9)
    rw [World.size_alloc] at h_
    rw [← hW0]
    exact h_
  have cS : W0.cell? ⟨w.heap.size + 1 + 1, 0, none⟩ = some (.string (strOfNums l)) := by
    have h_ := blk_new ((w.alloc (.cells #[.slice A l.length c] 22)).alloc (.cells #[.slice none 0 0] 110)) (.cells #[.string (strOfNums l)] 9)
    rw [World.size_alloc, World.size_alloc] at h_
    rw [← hW0]
    exact (blk_cell h_ 0).trans rfl
  have hb : Below w.heap.size w W0 := by
    rw [← hW0]
    exact (((Below.refl _ w).alloc (Nat.le_refl _) _).alloc (by simp) _).alloc (by simp; omega) _
  have hz : W0.heap.size = w.heap.size + 3 := by rw [← hW0]; simp
  have HSZ : Aside0 ((strOfNums l).size ≤ 140737488351232) := ⟨by have := HLL.out; rw [strOfNums_size]; omega⟩
  rw [hW0]
  clear hW0
  refine wpIn_seq9 (T := fun o => o.isCells = false) (fun _ h => h) (by omega) (gf := 126) (lb := #[.pointer (some ⟨w.heap.size + 1 + 1, 0, none⟩)]) rfl (enters_of Tryd.func126 (by kernel_rfl) rfl)
    (all1_seq9 (strOfNums l) HSZ.out W0 (HG.out.below hb) (w.heap.size + 1 + 1) cS) (fun k o => k = w.heap.size + 1 ∨ (w.heap.size + 3 ≤ k ∧ Rw9 o)) ?hS ?hD (Below.refl _ _) (fun _ => rfl)
    (fun pre X => X.heap[w.heap.size]? = some (.cells #[.slice A l.length c] 22 (0, 0)) ∧ (Below w.heap.size w X ∧ ∃ v, (X.heap[w.heap.size + 1]? = some (.cells #[v] 110 (0, 0)) ∧ Kd.R Kd.string 9 X (w.heap.size + 3) (fun _ => True) v (pre.map (stepB l)))))
    (fun _ _ _ => False)
    (OwnT.and (ownT_low _ _ _ (by omega) _) (OwnT.and (ownT_below _ (Nat.le_refl _) (by omega)) ?hI2)) (fun _ _ _ _ _ h _ _ => h) ⟨bA, hb, _, bN, Kd.R_nil _ _ _ _ _⟩
    (fun x a' X => ∃ Bx, X.heap[Bx]? = some (.cells #[.int .i32 x.2.1, .int .i64 x.2.2.1, .bool x.2.2.2] 121 (0, 0)) ∧ a' = { tmps := #[.slice A l.length c, .pointer (some ⟨w.heap.size, 0, none⟩), .slice none 0 0, .pointer (some ⟨w.heap.size + 1, 0, none⟩), .int .i64 x.1, .pointer (some ⟨Bx, 0, none⟩), .slice A l.length c, .func (.func 126) #[] #[.pointer (some ⟨w.heap.size + 1 + 1, 0, none⟩)], .int .i64 x.1, .agg #[.int .i32 x.2.1, .int .i64 x.2.2.1, .bool x.2.2.2], undef, undef, undef, undef, undef, undef, undef, undef, undef, undef, undef, undef], defers := [] })
    ?hAx ?assign ?body ?done ?stop
  case hS =>
    rintro k o (rfl | ⟨_, h⟩)
    · exact .inl (by omega)
    · exact .inr h
  case hD =>
    rintro k (rfl | rfl)
    · refine ⟨by omega, fun o ho h => ?_⟩
      have := HG.out.pos
      omega
    · exact ⟨by omega, fun _ _ => by omega⟩
  case hI2 =>
    rintro pre X X' row ⟨v, h1, h2⟩ hg hr
    exact ⟨v, ownT_low (β := Unit) _ _ _ (by omega) (fun _ => .cells #[v] 110 (0, 0)) () X X' row h1 hg hr, ownT_R (β := Unit) Kd.string rfl 9 (fun cs fz h => by cases h) (fun _ => v) (fun _ => pre.map (stepB l)) () X X' row h2 hg hr⟩
  case hAx =>
    rintro x a' s X X' row ⟨Bx, h1, h2⟩ hg hr
    exact ⟨Bx, ownT_blk (β := Unit) (fun o => o.isCells = false) _ Bx (fun _ => .cells #[.int .i32 x.2.1, .int .i64 x.2.2.1, .bool x.2.2.2] 121 (0, 0)) (fun _ h => by cases h) () X X' row h1 hg hr, h2⟩
  case assign =>
    rintro l' pre x rest X K hxs hlt ⟨hR1, hB1, v, hN1, hV1⟩ hK
    dsimp only [encItem]
    clear bA bN cS
    gi_wp2
    exact hK _ _ (KpC.alloc _ _) ⟨blk_alloc hR1 _, hB1.alloc hB1.size _, v, blk_alloc hN1 _, Kd.R_alloc hV1 _⟩ ⟨X.heap.size, blk_new _ _, rfl⟩
  case body =>
    rintro l' pre x rest a' X hxs hlt ⟨hR1, hB1, v, hN1, hV1⟩ ⟨Bx, bBx, rfl⟩
    have hx := HIN.out x (by rw [hxs]; simp)
    have hx' := of_decide_eq_true hx
    obtain ⟨q, hq⟩ : ∃ q : Nat, x.2.2.1 = q := ⟨x.2.2.1.toNat, by omega⟩
    have hlen : x.1 + q ≤ l.length := by omega
    have cR : X.cell? ⟨w.heap.size, 0, none⟩ = some (.slice A l.length c) := (blk_cell hR1 0).trans rfl
    have cX : X.cell? ⟨Bx, 1, none⟩ = some (.int .i64 q) := by rw [← hq]; exact (blk_cell bBx 1).trans rfl
    have cN : X.cell? ⟨w.heap.size + 1, 0, none⟩ = some v := (blk_cell hN1 0).trans rfl
    have hst : stepB l x = strOfNums ((l.take (x.1 + q)).drop x.1) := by unfold stepB; rw [hq, Int.toNat_natCast]
    have hwr : wrap64 ((x.1 : Int) + q) = (x.1 : Int) + q := by have := HLL.out; unfold wrap64; omega
    obtain ⟨i05, hi05, _, hsz5, _⟩ := info_parts info5
    obtain ⟨A15, hcut15, hA15, hC15⟩ := print_mid_of (P := Tryd.prog) (Value.int .u8) 0 22 5 .i64 .i64 Tryd.underlying22 hi05 hsz5 A c l (x.1 : Int) ((x.1 : Int) + (q : Int)) (by omega) (by omega) (by omega) HCC.out
    rw [Int.toNat_natCast, show ((x.1 : Int) + (q : Int)).toNat = x.1 + q by omega] at hcut15 hA15
    have hql : ((l.take (x.1 + q)).drop x.1).length = q := by rw [List.length_drop, List.length_take]; omega
    have hzX : X.heap.size ≤ X.drew.heap.size := Nat.le_refl _
    have HCV : ∀ W, Below X.heap.size X W → (convert 22 9 (.slice A15 q (c - x.1))).run Tryd.prog W = .ok (.string (stepB l x)) W := fun W hW => by
      rw [hst]
      have h_ := Kd.C_string (P := Tryd.prog) (src := 22) (dst := 9) (c := c - x.1) Tryd.underlying22 Tryd.underlying5 Tryd.underlying9 (Kd.C_of_reads (h1 := fun _ => rfl) (hA15 _ (Kd.reads_of_C (Kd.C_below HR.out (hB1.trans (hW.mono hB1.size))))))
      rw [hql] at h_
      exact h_
    rw [hql] at hcut15
    clear hql
    refine wpIn_block ?_
    refine startIn_ (S := fun w' => Below X.heap.size X w') (ds := [10, 11]) #[false, false, false, false, false, false, false, false, false, false, false, false] (by kernel_rfl) (by kernel_rfl) rfl rfl (Below.refl _ _).drew (fun hHeld => ?_)
    clear hC15 hA15 hi05 hsz5 bA bN cS hx
    have CC := Aside0.mk (And.intro cR (And.intro cX (And.intro cN (And.intro hcut15 HCV))))
    have HXS := Aside0.mk hxs
    have HQ := Aside0.mk (And.intro hq (And.intro hlen (And.intro hx' hst)))
    clear cR cX cN hcut15 HCV hxs hq hlen hx' hst
    refine take_ (i := 0) (N := some 10) (v := ?_) (a' := ?_) #[true, false, false, false, false, false, false, false, false, false, false, false] rfl rfl (by kernel_rfl) (fun _ _ _ h => h) (Or.inl ⟨by rfl, ?_⟩) hHeld ?_ ?_
    rotate_left
    · intro w' hS_
      have s0 := pw_cell_below hS_ CC.out.2.2.1
      go_simp
      with_reducible rfl
    rotate_left
    · simp only [Act.put, List.setIfInBounds_toArray, List.set_cons_zero, List.set_cons_succ, i64_w, i32_w]
      rfl
    refine take_ (i := 1) (N := some 11) (v := ?_) (a' := ?_) #[true, true, false, false, false, false, false, false, false, false, false, false] rfl rfl (by kernel_rfl) (fun _ _ _ h => h) (Or.inl ⟨by rfl, ?_⟩) hHeld ?_ ?_
    rotate_left
    · intro w' hS_
      have s0 := pw_cell_below hS_ CC.out.1
      go_simp
      with_reducible rfl
    rotate_left
    · simp only [Act.put, List.setIfInBounds_toArray, List.set_cons_zero, List.set_cons_succ, i64_w, i32_w]
      rfl
    refine pure_ (i := 2) (N := some 12) (v := ?_) (a' := ?_) #[true, true, true, false, false, false, false, false, false, false, false, false] rfl rfl (by kernel_rfl) (fun _ _ _ h => h) (Or.inl ⟨by rfl, ?_⟩) ?_ ?_
    rotate_left
    · intro w'
      go_simp
      with_reducible rfl
    rotate_left
    · simp only [Act.put, List.setIfInBounds_toArray, List.set_cons_zero, List.set_cons_succ, i64_w, i32_w]
      rfl
    refine pure_ (i := 3) (N := some 13) (v := ?_) (a' := ?_) #[true, true, true, true, false, false, false, false, false, false, false, false] rfl rfl (by kernel_rfl) (fun _ _ _ h => h) (Or.inl ⟨by rfl, ?_⟩) ?_ ?_
    rotate_left
    · intro w'
      go_simp
      with_reducible rfl
    rotate_left
    · simp only [Act.put, List.setIfInBounds_toArray, List.set_cons_zero, List.set_cons_succ, i64_w, i32_w]
      rfl
    refine pure_ (i := 4) (N := some 14) (v := ?_) (a' := ?_) #[true, true, true, true, true, false, false, false, false, false, false, false] rfl rfl (by kernel_rfl) (fun _ _ _ h => h) (Or.inl ⟨by rfl, ?_⟩) ?_ ?_
    rotate_left
    · intro w'
      go_simp
      with_reducible rfl
    rotate_left
    · simp only [Act.put, List.setIfInBounds_toArray, List.set_cons_zero, List.set_cons_succ, i64_w, i32_w]
      rfl
    refine take_ (i := 5) (N := some 15) (v := ?_) (a' := ?_) #[true, true, true, true, true, true, false, false, false, false, false, false] rfl rfl (by kernel_rfl) (fun _ _ _ h => h) (Or.inl ⟨by rfl, ?_⟩) hHeld ?_ ?_
    rotate_left
    · intro w' hS_
      have s0 := pw_cell_below hS_ CC.out.2.1
      go_simp
      with_reducible rfl
    rotate_left
    · simp only [Act.put, List.setIfInBounds_toArray, List.set_cons_zero, List.set_cons_succ, i64_w, i32_w]
      rfl
    refine pure_ (i := 6) (N := some 16) (v := ?_) (a' := ?_) #[true, true, true, true, true, true, true, false, false, false, false, false] rfl rfl (by kernel_rfl) (fun _ _ _ h => h) (Or.inl ⟨by rfl, ?_⟩) ?_ ?_
    rotate_left
    · intro w'
      try rw [hwr]
      go_simp
      with_reducible rfl
    rotate_left
    · simp only [Act.put, List.setIfInBounds_toArray, List.set_cons_zero, List.set_cons_succ, i64_w, i32_w]
      rfl
    refine pure_ (i := 7) (N := some 17) (v := ?_) (a' := ?_) #[true, true, true, true, true, true, true, true, false, false, false, false] rfl rfl (by kernel_rfl) (fun _ _ _ h => h) (Or.inl ⟨by rfl, ?_⟩) ?_ ?_
    rotate_left
    · intro w'
      have s0 := CC.out.2.2.2.1
      go_simp
      with_reducible rfl
    rotate_left
    · simp only [Act.put, List.setIfInBounds_toArray, List.set_cons_zero, List.set_cons_succ, i64_w, i32_w]
      rfl
    refine take_ (i := 8) (N := some 18) (v := ?_) (a' := ?_) #[true, true, true, true, true, true, true, true, true, false, false, false] rfl rfl (by kernel_rfl) (fun _ _ _ h => h) (Or.inl ⟨by rfl, ?_⟩) hHeld ?_ ?_
    rotate_left
    · intro w' hS_
      have s0 := CC.out.2.2.2.2 w' hS_
      go_simp
      with_reducible rfl
    rotate_left
    · simp only [Act.put, List.setIfInBounds_toArray, List.set_cons_zero, List.set_cons_succ, i64_w, i32_w]
      rfl
    refine one_ (i := 9) (N := some 19) #[true, true, true, true, true, true, true, true, true, true, false, false] rfl rfl (by kernel_rfl) (by decide) (fun K hK => ?_)
    refine value_ (w1 := ?_) (v := ?_) (by rfl) rfl ?_ ?_
    rotate_left 2
    · go_simp
      constructor
      · rfl
      · rfl
    refine hK.out _ _ ((Below.refl _ X).drew.alloc (Nat.le_refl _) _) (fun _ => ?_)
    clear hK K
    refine norm_ (a' := ?_) ?_ ?_
    rotate_left
    · show Act.put _ (some 19) _ = _
      simp only [Act.put, List.setIfInBounds_toArray, List.set_cons_zero, List.set_cons_succ, i64_w, i32_w]
      rfl
    refine last_ (i := 10) (N := some 20) #[true, true, true, true, true, true, true, true, true, true, true, false] rfl rfl (by kernel_rfl) (by decide) (fun K hK => ?_)
    refine Kd.R_append_step Kd.string (w0 := X.drew) (W := X.drew) (w.heap.size + 3) (by rfl) (.tmp 10) (.tmp 19) 110 9 (.string ⟨#[]⟩) 16 rfl Tryd.underlying110 info9 rfl (by decide) (by omega) v (pre.map (stepB l)) (stepB l x) [.string (stepB l x)] (fun _ => True) (fun _ => False) rfl rfl rfl (fun _ hk => hk.elim) (fun _ _ => trivial) (Kd.R_drew hV1) (Below.refl _ _) (by show _ ≤ X.heap.size; omega) ?aL ?_
    case aL =>
      have hlen : (items (strOfNums l)).length = (pre ++ x :: rest).length := congrArg List.length HXS.out
      rw [List.length_append, List.length_cons] at hlen
      rw [List.length_map]
      omega
    intro v1 w17 ho hbg hg hat
    refine hK.out _ _ ?_
    clear hK K
    refine norm_ (a' := ?_) ?_ ?_
    rotate_left
    · show Act.put _ (some 20) _ = _
      simp only [Act.put, List.setIfInBounds_toArray, List.set_cons_zero, List.set_cons_succ, i64_w, i32_w]
      rfl
    obtain ⟨A1, c1, rfl⟩ := Kd.R_slice ho
    rw [show ((pre.map (stepB l)) ++ [stepB l x]).length = pre.length + 1 from by simp] at ho
    have hown : ∀ k, v.ownBlock = some k → w.heap.size + 3 ≤ k ∧ k < X.heap.size ∧ ∃ cells, X.heap[k]? = some (.cells cells 9 (0, 0)) := fun k hk => by
      obtain ⟨inner, ho1⟩ := Kd.R_own hV1
      exact ⟨own_base ho1 k hk, own_lt ho1 k hk, own_typed ho1 k hk⟩
    have hN17 : w17.heap[w.heap.size + 1]? = some (.cells #[v] 110 (0, 0)) := (hg.block _ (show _ < X.heap.size by omega) (fun e => by have := (hown _ e.symm).1; omega)).trans hN1
    have hR17 : w17.heap[w.heap.size]? = some (.cells #[.slice A l.length c] 22 (0, 0)) := (hg.block _ (show _ < X.heap.size by omega) (fun e => by have := (hown _ e.symm).1; omega)).trans hR1
    have c17 : w17.cell? ⟨w.heap.size + 1, 0, none⟩ = some v := (blk_cell hN17 0).trans rfl
    have f17 := blk_frozen hN17 0
    have HZ := Aside0.mk (And.intro hown (And.intro hN17 (And.intro hR17 (And.intro ho (And.intro hbg (And.intro hg (And.intro hR1 (And.intro hB1 hN1))))))))
    clear hown hN17 hR17 ho hbg hg hat hR1 hB1 hN1 hHeld bBx
    refine last_ (i := 11) (N := none) #[true, true, true, true, true, true, true, true, true, true, true, true] rfl rfl (by kernel_rfl) (by decide) (fun K hK => ?_)
    refine skip_ (w1 := ?_) (by rfl) rfl ?_ ?_
    rotate_left
    · go_simp
      rfl
    refine hK.out _ _ ?_
    clear hK K
    refine done_ (by kernel_rfl) ?_
    obtain ⟨hown, hN17, hR17, ho, hbg, hg, hR1, hB1, hN1⟩ := HZ.out
    refine ⟨?k1, ?k2, ?k3, .slice A1 (pre.length + 1) c1, ?k4, ?k5⟩
    case k1 => exact (KpC.drew X).trans ((KpC.grown hg (fun q o e ho => by
      obtain ⟨h1, _, cells, hc⟩ := hown q e
      refine .inr ⟨h1, ?_⟩
      rw [show X.drew.heap[q]? = X.heap[q]? from rfl, hc] at ho
      cases ho
      exact ⟨_, _, rfl⟩)).trans (KpC.setCell _ _ _ (fun _ => .inl rfl)))
    case k2 => exact (Below.heap_setCell _ _ _ _ (by simp)).trans hR17
    case k3 => exact (hB1.drew.trans (hbg.mono (by omega))).setCell (by simp) _
    case k4 => exact blk_put (cs := #[_]) hN17 0 _ (by simp)
    case k5 =>
      rw [List.map_append]
      exact Kd.R_set ho hN17 (by decide) 0 _
  case done =>
    rintro D X hD _ ⟨hR1, hB1, v, hN1, hV1⟩ hDf
    have cN : X.cell? ⟨w.heap.size + 1, 0, none⟩ = some v := (blk_cell hN1 0).trans rfl
    have HN := Aside0.mk (And.intro hR1 (And.intro hN1 (And.intro hB1 hV1)))
    clear hR1 hN1 hB1 hV1 bA bN cS
    gi_wp2
    refine ⟨by simp, .inl ⟨_, _, rfl, run_takeDeferred hDf, ?_⟩⟩
    refine ⟨_, results_tmp rfl _ _ _, v, rfl, ?_, ?_⟩
    · exact Kd.R_lower ((ownT_R (β := Unit) (T := fun o => o.isCells = false) (B := 0) Kd.string rfl 9 (fun _ _ h => by cases h) (fun _ => v) (fun _ => stepsB l)).putObj (s := ()) (.deferred none) HN.out.2.2.2 (Nat.zero_le _) hDf rfl) (by omega)
    · exact HN.out.2.2.1.trans (belowK_b (w := w) (Nat.le_refl _) X D _ _ (by omega) hDf rfl rfl)
  case stop =>
    rintro D cc pre X hD _ hpre h hDf
    exact h.elim
def diff_steps.f (l0 : List Int) : Option (List ByteArray) :=
  if l0.length ≤ 1099511627776 then
    if (items (strOfNums l0)).length ≤ 1099511627776 then
      if (items (strOfNums l0)).all (lies l0) = true then some (stepsB l0) else none
    else none
  else none
theorem diff_steps.calls (A0 : Option Addr) (c0 : Nat) (l0 : List Int) (r : List ByteArray) (w : World) (hr0 : Kd.C (Kd.int .u8) w A0 l0.length l0) (hc0 : l0.length ≤ c0) (hG : Laid w) (h : diff_steps.f l0 = some r) :
    Calls Tryd.prog 87 #[.slice A0 l0.length c0] w fun e w' => ∃ v0_ : Value, e = .returned (v0_) ∧ Kd.R Kd.string 9 w' w.heap.size (fun _ => True) v0_ r ∧ Below w.heap.size w w' := by
  unfold diff_steps.f at h
  by_cases c1 : l0.length ≤ 1099511627776
  · rw [if_pos c1] at h
    by_cases c2 : (items (strOfNums l0)).length ≤ 1099511627776
    · rw [if_pos c2] at h
      by_cases c3 : (items (strOfNums l0)).all (lies l0) = true
      · rw [if_pos c3] at h
        obtain rfl := Option.some.inj h
        exact steps_any A0 c0 l0 hc0 c1 c2 (fun x hx => List.all_eq_true.1 c3 x hx) w hr0 hG
      · rw [if_neg c3] at h
        cases h
    · rw [if_neg c2] at h
      cases h
  · rw [if_neg c1] at h
    cases h
end Go.Proofs.YtbomhpfckplgaaaDoor.P
namespace Go.Proofs.YtbomhpfckplgaaaDoor.P
open Go.RowKit Go.Proofs.YtbomhpfckplgaaaDoorW.PrintWords Go.Proofs.YtbomhpfckplgaaaDoorW.PrintLast Go.Proofs.YtbomhpfckplgaaaDoorW.PrintMore
attribute [local go_sem] max2_int min2_int max_two min_two max_three min_three max_four min_four   -- for this text's walks alone
set_option linter.unusedVariables false
set_option linter.unusedSimpArgs false
theorem eqA102 (d : Nat) (w : World) (x0 y0 : Int) (x1 y1 : Int) (x2 y2 : ByteArray) :
  (Op.equalIn (d + 2) 102 (.agg #[.int .i64 x0, .int .i64 x1, .string x2]) (.agg #[.int .i64 y0, .int .i64 y1, .string y2])).run Tryd.prog w = .ok (x0 == y0 && (x1 == y1 && (x2.toList == y2.toList))) w := by
 refine eqA_of Tryd.underlying102 (by kernel_rfl) ?_
 refine eqf_cons (by rfl) (by go_simp; rfl) (by go_simp; rfl) (by go_simp) ?_
 refine eqf_cons (by rfl) (by go_simp; rfl) (by go_simp; rfl) (by go_simp) ?_
 exact eqf_last (by rfl) (by go_simp; rfl) (by go_simp; rfl) (by go_simp)
end Go.Proofs.YtbomhpfckplgaaaDoor.P
namespace Go.Proofs.YtbomhpfckplgaaaDoor.P
open Go Go.RowKit Go.Shelf Go.Proofs.YtbomhpfckplgaaaDoorW.PrintWords Go.Proofs.YtbomhpfckplgaaaDoorW.PrintLast Go.Proofs.YtbomhpfckplgaaaDoorW.PrintMore
set_option linter.unusedVariables false
set_option linter.unusedSimpArgs false
set_option maxRecDepth 100000
attribute [local go_sem] Oper.semAt_some
section
variable {Y w : World} {b k n : Nat} {t : TypeId} {u0 u1 u2 u3 v0 v1 v2 v3 : Value}
end
end Go.Proofs.YtbomhpfckplgaaaDoor.P
namespace Go.Proofs.YtbomhpfckplgaaaDoor.P
open Go.RowKit Go.Proofs.YtbomhpfckplgaaaDoorW.PrintWords Go.Proofs.YtbomhpfckplgaaaDoorW.PrintLast Go.Proofs.YtbomhpfckplgaaaDoorW.PrintMore
attribute [local go_sem] max2_int min2_int max_two min_two max_three min_three max_four min_four   -- for this text's walks alone
set_option linter.unusedVariables false
set_option linter.unusedSimpArgs false
end Go.Proofs.YtbomhpfckplgaaaDoor.P
