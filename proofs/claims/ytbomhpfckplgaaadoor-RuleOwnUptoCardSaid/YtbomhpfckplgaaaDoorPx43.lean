/- What the statement's own questions of rule answer: true. Walked by hand. The world bears the variable step.bad as it was laid. -/
import Derived.Test.YtbomhpfckplgaaaDoorPx41
import Derived.Test.YtbomhpfckplgaaaDoorPx42
import Derived.Test.YtbomhpfckplgaaaDoorHTable
import Derived.Test.YtbomhpfckplgaaaDoorHTo
import Derived.Lib.SlBytesConst
namespace Go.Proofs.YtbomhpfckplgaaaDoor.P
open Go Go.RowKit Go.Proofs.YtbomhpfckplgaaaDoorW.PrintWords Go.Proofs.YtbomhpfckplgaaaDoorW.PrintLast Go.Proofs.YtbomhpfckplgaaaDoorW.PrintMore
set_option linter.unusedVariables false
set_option linter.unusedSimpArgs false

def b06 : List Int := [97, 240, 159, 152, 128, 226, 130, 10]
theorem s06 : rule_Size.f b06 3 = some (6, 0) := by kernel_rfl
theorem t06 : rule_To.f b06 1 3 3 2 = some (3, 0) := by kernel_rfl
theorem u06 : rule_To.f b06 1 3 3 3 = some (0, 4) := by kernel_rfl
theorem v06 : rule_Table.f b06 3 = some ([0, 1, 3, 4, 5, 6], 0) := by kernel_rfl
theorem c06 : rule_Cut.f 5 b06 3 2 4 1 = some ([240, 159, 152, 128, 226], 0) := by kernel_rfl
theorem x06 : rule_Edge.f b06 1 6 = some true := by kernel_rfl
theorem y06 : rule_Edge.f b06 1 4 = some false := by kernel_rfl
theorem z06 : galleyref01_SameInts.f 9 [0, 1, 3, 4, 5, 6] [0, 1, 3, 4, 5, 6] = some true := by kernel_rfl

/-- A row of bytes, marked or not, is read. -/
theorem C_of_blk {W : World} {g : Nat} {xs : List Int} {fz : Nat × Nat} {k : IntKind} {e : TypeId} (h : W.heap[g]? = some (.cells (List.map (Value.int k) xs).toArray e fz)) (hn : xs.length ≤ 9223372036854775807) : Kd.C (Kd.int k) W (some ⟨g, 0, none⟩) xs.length xs := by
  refine ⟨rfl, hn, fun _ => ⟨_, rfl, fun j p hj => ⟨[.int k p], rfl, rfl, fun i u hu => ?_⟩⟩⟩
  obtain ⟨rfl, rfl⟩ : i = 0 ∧ Value.int k p = u := by
    cases i with
    | zero => exact ⟨rfl, by simpa using hu⟩
    | succ i => simp at hu
  have ha : (⟨g, 0, none⟩ : Addr).add (j * (Kd.int k).sz + 0) = ⟨g, j, none⟩ := by
    have : j * (Kd.int k).sz + 0 = j := Nat.mul_one j
    rw [this]
    unfold Addr.add
    split <;> simp_all
  rw [ha]
  unfold World.cell?
  rw [h]
  simp [hj]
def galleylaw06_wakes.f (k : Nat) : Option Bool := some true
theorem galleylaw06_wakes.mono : ∀ k, LeO (galleylaw06_wakes.f k) (galleylaw06_wakes.f (k + 1)) := fun _ _ h => h
set_option maxHeartbeats 8000000 in
set_option maxRecDepth 100000 in
theorem wakes06_any (w : World) (hG : Laid w) : Calls Tryd.prog 27 #[] w fun e w' => e = .returned (.bool true) ∧ Below w.heap.size w w' := by
  have hcv := Go.Lib.run_convert_bytes_const (P := Tryd.prog) w 22 5 (List.map (Value.int .u8) b06).toArray 8 8 Tryd.underlying22 Tryd.underlying5
  have hG1 : Laid (w.alloc (.cells (List.map (Value.int .u8) b06).toArray 5 ((List.map (Value.int .u8) b06).toArray.size, (List.map (Value.int .u8) b06).toArray.size + 1))) := hG.alloc _
  have hb1 : Below w.heap.size w (w.alloc (.cells (List.map (Value.int .u8) b06).toArray 5 ((List.map (Value.int .u8) b06).toArray.size, (List.map (Value.int .u8) b06).toArray.size + 1))) := (Below.refl _ w).alloc (Nat.le_refl _) _
  have hR1 := blk_new w (.cells (List.map (Value.int .u8) b06).toArray 5 ((List.map (Value.int .u8) b06).toArray.size, (List.map (Value.int .u8) b06).toArray.size + 1))
  generalize w.alloc (.cells (List.map (Value.int .u8) b06).toArray 5 ((List.map (Value.int .u8) b06).toArray.size, (List.map (Value.int .u8) b06).toArray.size + 1)) = W1 at *
  rw [show (List.map (Value.int .u8) b06).toArray = #[.int .u8 97, .int .u8 240, .int .u8 159, .int .u8 152, .int .u8 128, .int .u8 226, .int .u8 130, .int .u8 10] from rfl] at hcv
  have HB1 := Aside0.mk hb1
  have hC : ∀ W, Below W1.heap.size W1 W → Kd.C (Kd.int .u8) W (some ⟨w.heap.size, 0, none⟩) b06.length b06 := fun W hW => C_of_blk ((hW.block _ (Array.getElem?_eq_some_iff.1 hR1).1).trans hR1) (by decide)
  have hL : ∀ W, Below W1.heap.size W1 W → Laid W := fun W hW => hG1.below hW
  have K1 : Aside0 (∀ W, Below W1.heap.size W1 W → Calls Tryd.prog 28 #[.slice (some ⟨w.heap.size, 0, none⟩) 8 8, .int .i64 3] W fun e w' => e = .returned (.tuple #[.int .i64 6, .int .i64 0]) ∧ Below W1.heap.size W1 w') := ⟨fun W hW => (rule_Size.calls _ 8 b06 3 6 0 W (hC W hW) (by decide) (hL W hW) s06).mono (fun e w' ⟨h1, h3⟩ => ⟨h1, hW.trans (h3.mono hW.size)⟩)⟩
  have K2 : Aside0 (∀ W, Below W1.heap.size W1 W → Calls Tryd.prog 37 #[.slice (some ⟨w.heap.size, 0, none⟩) 8 8, .int .i64 1, .int .i64 3, .int .i64 3, .int .i64 2] W fun e w' => e = .returned (.tuple #[.int .i64 3, .int .i64 0]) ∧ Below W1.heap.size W1 w') := ⟨fun W hW => (rule_To.calls _ 8 b06 1 3 3 2 3 0 W (hC W hW) (by decide) (hL W hW) t06).mono (fun e w' ⟨h1, h3⟩ => ⟨h1, hW.trans (h3.mono hW.size)⟩)⟩
  have K3 : Aside0 (∀ W, Below W1.heap.size W1 W → Calls Tryd.prog 37 #[.slice (some ⟨w.heap.size, 0, none⟩) 8 8, .int .i64 1, .int .i64 3, .int .i64 3, .int .i64 3] W fun e w' => e = .returned (.tuple #[.int .i64 0, .int .i64 4]) ∧ Below W1.heap.size W1 w') := ⟨fun W hW => (rule_To.calls _ 8 b06 1 3 3 3 0 4 W (hC W hW) (by decide) (hL W hW) u06).mono (fun e w' ⟨h1, h3⟩ => ⟨h1, hW.trans (h3.mono hW.size)⟩)⟩
  have K4 : Aside0 (∀ W, Below W1.heap.size W1 W → Calls Tryd.prog 30 #[.slice (some ⟨w.heap.size, 0, none⟩) 8 8, .int .i64 3] W fun e w' => ∃ v0_ : Value, e = .returned (.tuple #[v0_, .int .i64 0]) ∧ Kd.R (Kd.int .i64) 3 w' W.heap.size (fun _ => True) v0_ [0, 1, 3, 4, 5, 6] ∧ Below W1.heap.size W1 w') := ⟨fun W hW => (rule_Table.calls _ 8 b06 3 [0, 1, 3, 4, 5, 6] 0 W (hC W hW) (by decide) (hL W hW) v06).mono (fun e w' ⟨v, h1, h2, h3⟩ => ⟨v, h1, h2, hW.trans (h3.mono hW.size)⟩)⟩
  have K5 : Aside0 (∀ W, Below W1.heap.size W1 W → Calls Tryd.prog 39 #[.slice (some ⟨w.heap.size, 0, none⟩) 8 8, .int .i64 3, .int .i64 2, .int .i64 4, .int .i64 1] W fun e w' => ∃ v0_ : Value, e = .returned (.tuple #[v0_, .int .i64 0]) ∧ Kd.R (Kd.int .u8) 5 w' W.heap.size (fun _ => True) v0_ [240, 159, 152, 128, 226] ∧ Below W1.heap.size W1 w' ∧ Below W.heap.size W w') := ⟨fun W hW => (rule_Cut.calls 5 _ 8 b06 3 2 4 1 [240, 159, 152, 128, 226] 0 W (hC W hW) (by decide) (hL W hW) c06).mono (fun e w' ⟨v, h1, h2, h3⟩ => ⟨v, h1, h2, hW.trans (h3.mono hW.size), h3⟩)⟩
  have K6 : Aside0 (∀ W, Below W1.heap.size W1 W → Calls Tryd.prog 31 #[.slice (some ⟨w.heap.size, 0, none⟩) 8 8, .int .i64 1, .int .i64 6] W fun e w' => e = .returned (.bool true) ∧ Below W1.heap.size W1 w') := ⟨fun W hW => (rule_Edge.calls _ 8 b06 1 6 true W (hC W hW) (by decide) (hL W hW) x06).mono (fun e w' ⟨h1, h3⟩ => ⟨h1, hW.trans (h3.mono hW.size)⟩)⟩
  have K7 : Aside0 (∀ W, Below W1.heap.size W1 W → Calls Tryd.prog 31 #[.slice (some ⟨w.heap.size, 0, none⟩) 8 8, .int .i64 1, .int .i64 4] W fun e w' => e = .returned (.bool false) ∧ Below W1.heap.size W1 w') := ⟨fun W hW => (rule_Edge.calls _ 8 b06 1 4 false W (hC W hW) (by decide) (hL W hW) y06).mono (fun e w' ⟨h1, h3⟩ => ⟨h1, hW.trans (h3.mono hW.size)⟩)⟩
  clear hC hL hb1 hR1 hG1 hG
  go_enter Tryd.func27, Tryd.ntmps27
  go_upto_region 7 with (first | (go_at_call 28; refine (K1.out _ (Below.refl _ _)).mono ?_; rintro e w3 ⟨rfl, hb3⟩) | (go_at_call 37; (first | (with_reducible refine (K2.out _ hb3).mono ?_; rintro e w4 ⟨rfl, hb4⟩) | (with_reducible refine (K3.out _ hb4).mono ?_; rintro e w5 ⟨rfl, hb5⟩))) | (go_at_call 30; refine (K4.out _ hb5).mono ?_; rintro e w6 ⟨v6, rfl, hT, hb6⟩) | (go_at_call 39; refine (K5.out _ hb6).mono ?_; rintro e w7 ⟨v7, rfl, hK, hb7, hb67⟩))
  obtain ⟨A6, c6, rfl⟩ := Kd.R_slice hT
  obtain ⟨A7, c7, rfl⟩ := Kd.R_slice hK
  obtain ⟨-, hT2, hT3⟩ := Kd.R_reads' hT
  obtain ⟨-, hK2, hK3⟩ := Kd.R_reads' hK
  have HW : Aside0 (∀ W, Below w7.heap.size w7 W → (convert 22 9 (.slice A7 5 c7)).run Tryd.prog W = .ok (.string (strOfNums [240, 159, 152, 128, 226])) W) := ⟨fun W hW => Kd.C_string (P := Tryd.prog) Tryd.underlying22 Tryd.underlying5 Tryd.underlying9 (Kd.C_below hK3 hW)⟩
  have K8 : Aside0 (Calls Tryd.prog 35 #[.slice A6 6 c6, .slice (some ⟨w7.heap.size, 0, none⟩) 6 6] (w7.alloc (.cells #[.int .i64 0, .int .i64 1, .int .i64 3, .int .i64 4, .int .i64 5, .int .i64 6] 3)) fun e w' => e = .returned (.bool true) ∧ Below w7.heap.size w7 w') := ⟨(galleyref01_SameInts.calls 9 A6 c6 [0, 1, 3, 4, 5, 6] _ 6 [0, 1, 3, 4, 5, 6] true _ (Kd.C_alloc (Kd.C_below hT3 hb67) _) hT2 (C_of_blk (blk_new w7 _) (by decide)) (by decide) z06).mono (fun e w' ⟨h1, h2⟩ => ⟨h1, ((Below.refl _ w7).alloc (Nat.le_refl _) _).trans (h2.below.mono (by simp))⟩)⟩
  clear hT hK hT2 hT3 hK2 hK3 hb67
  have hstr : ((strOfNums [240, 159, 152, 128, 226]).toList == ([240, 159, 152, 128, 226] : List UInt8)) = true := by kernel_rfl
  go_wp2_with (first | (go_at_call 35; refine K8.out.mono ?_; rintro e w8 ⟨rfl, hb8⟩; have hcv9 := HW.out _ hb8; have hb78 := hb7.trans (hb8.mono hb7.size)) | (go_at_call 31; (first | (with_reducible refine (K6.out _ hb78).mono ?_; rintro e w9 ⟨rfl, hb9⟩) | (with_reducible refine (K7.out _ hb9).mono ?_; rintro e w10 ⟨rfl, hb10⟩))))
  go_ret
  exact ⟨rfl, HB1.out.trans (hb10.mono HB1.out.size)⟩
theorem galleylaw06_wakes.calls (k : Nat) (r : Bool) (w : World) (hG : Laid w) (h : galleylaw06_wakes.f k = some r) :
    Calls Tryd.prog 27 #[] w fun e w' => e = .returned (.bool r) ∧ Below w.heap.size w w' := by
  obtain rfl := Option.some.inj h
  exact wakes06_any w hG
end Go.Proofs.YtbomhpfckplgaaaDoor.P
