/- The statement's own question of lines: true. Walked by hand. The world bears the variable step.bad as it was laid. -/
import Derived.Test.YtbomhpfckplgaaaDoorPx54
import Derived.Test.YtbomhpfckplgaaaDoorHKeep
import Derived.Lib.SlBytesConst
namespace Go.Proofs.YtbomhpfckplgaaaDoor.P
open Go Go.RowKit Go.Proofs.YtbomhpfckplgaaaDoorW.PrintWords Go.Proofs.YtbomhpfckplgaaaDoorW.PrintLast Go.Proofs.YtbomhpfckplgaaaDoorW.PrintMore
set_option linter.unusedVariables false
set_option linter.unusedSimpArgs false
set_option maxRecDepth 100000
attribute [local go_sem] max2_int min2_int max_two min_two max_three min_three max_four min_four

def b07 : List Int := [97, 13, 10, 226, 130, 172, 120, 10, 13, 98]
theorem s07 : lines_Starts.f 9 b07 = some [0, 3, 8, 9] := by kernel_rfl
theorem w07 : lines_Where.f 9 b07 7 = some (7, 5, 5, 1, 4, 2, 2, 0) := by kernel_rfl
theorem a07 : lines_At.f 9 b07 1 1 2 3 = some (6, 0) := by kernel_rfl
theorem i07 : galleyref01_SameInts.f 9 [0, 3, 8, 9] [0, 3, 8, 9] = some true := by kernel_rfl
theorem c07 : lines_Count.f b07 = some 4 := by kernel_rfl
def galleylaw07_awake.f (k : Nat) : Option Bool := some true
theorem galleylaw07_awake.mono : ∀ k, LeO (galleylaw07_awake.f k) (galleylaw07_awake.f (k + 1)) := fun _ _ h => h
set_option maxHeartbeats 8000000 in
theorem awake07_any (w : World) (hG : Laid w) : Calls Tryd.prog 56 #[] w fun e w' => e = .returned (.bool true) ∧ Below w.heap.size w w' := by
  have hu79 := Tryd.underlying79
  have hu71 := Tryd.underlying71
  have hcv := Go.Lib.run_convert_bytes_const (P := Tryd.prog) w 22 5 (List.map (Value.int .u8) b07).toArray 10 10 Tryd.underlying22 Tryd.underlying5
  have hG1 : Laid (w.alloc (.cells (List.map (Value.int .u8) b07).toArray 5 ((List.map (Value.int .u8) b07).toArray.size, (List.map (Value.int .u8) b07).toArray.size + 1))) := hG.alloc _
  have hb1 : Below w.heap.size w (w.alloc (.cells (List.map (Value.int .u8) b07).toArray 5 ((List.map (Value.int .u8) b07).toArray.size, (List.map (Value.int .u8) b07).toArray.size + 1))) := (Below.refl _ w).alloc (Nat.le_refl _) _
  have hR1 := blk_new w (.cells (List.map (Value.int .u8) b07).toArray 5 ((List.map (Value.int .u8) b07).toArray.size, (List.map (Value.int .u8) b07).toArray.size + 1))
  generalize w.alloc (.cells (List.map (Value.int .u8) b07).toArray 5 ((List.map (Value.int .u8) b07).toArray.size, (List.map (Value.int .u8) b07).toArray.size + 1)) = W1 at *
  rw [show (List.map (Value.int .u8) b07).toArray = #[.int .u8 97, .int .u8 13, .int .u8 10, .int .u8 226, .int .u8 130, .int .u8 172, .int .u8 120, .int .u8 10, .int .u8 13, .int .u8 98] from rfl] at hcv
  have F : Aside0 (Keeps (fun W => Kd.C (Kd.int .u8) W (some ⟨w.heap.size, 0, none⟩) b07.length b07 ∧ Laid W ∧ Below w.heap.size w W) W1) := ⟨(keeps_C (C_blk hR1 (by decide))).and ((keeps_laid hG1).and (keeps_below hb1 hb1.size))⟩
  clear hb1 hR1 hG1 hG
  have C1 : Aside0 (∀ W, Kd.C (Kd.int .u8) W (some ⟨w.heap.size, 0, none⟩) b07.length b07 → Calls Tryd.prog 61 #[.slice (some ⟨w.heap.size, 0, none⟩) 10 10] W fun e w' => ∃ A c, e = .returned (.slice A 4 c) ∧ 4 ≤ c ∧ Kd.C (Kd.int .i64) w' A 4 [0, 3, 8, 9] ∧ Below W.heap.size W w') := ⟨fun W hW => by
    refine (lines_Starts.calls 9 _ 10 b07 [0, 3, 8, 9] W hW (by decide) s07).mono ?_
    rintro e w' ⟨v, rfl, hR, hb⟩
    obtain ⟨A', c', rfl⟩ := Kd.R_slice hR
    obtain ⟨-, h2, h3⟩ := Kd.R_reads' hR
    exact ⟨A', c', rfl, h2, h3, hb⟩⟩
  have C2 : Aside0 (∀ W, Kd.C (Kd.int .u8) W (some ⟨w.heap.size, 0, none⟩) b07.length b07 → Laid W → Calls Tryd.prog 62 #[.slice (some ⟨w.heap.size, 0, none⟩) 10 10, .int .i64 7] W fun e w' => e = .returned (.tuple #[.agg #[.int .i64 7, .int .i64 5, .int .i64 5, .int .i64 1, .int .i64 4, .int .i64 2, .int .i64 2], .int .i64 0]) ∧ Below W.heap.size W w') := ⟨fun W hW hL => lines_Where.calls 9 _ 10 b07 7 7 5 5 1 4 2 2 0 W hW (by decide) hL w07⟩
  have C3 : Aside0 (∀ W, Kd.C (Kd.int .u8) W (some ⟨w.heap.size, 0, none⟩) b07.length b07 → Laid W → Calls Tryd.prog 58 #[.slice (some ⟨w.heap.size, 0, none⟩) 10 10, .agg #[.int .i64 1, .int .i64 1], .int .i64 2, .int .i64 3] W fun e w' => e = .returned (.tuple #[.int .i64 6, .int .i64 0]) ∧ Below W.heap.size W w') := ⟨fun W hW hL => lines_At.calls 9 _ 10 b07 1 1 2 3 6 0 W hW (by decide) hL a07⟩
  have C4 : Aside0 (∀ W, Kd.C (Kd.int .u8) W (some ⟨w.heap.size, 0, none⟩) b07.length b07 → Calls Tryd.prog 64 #[.slice (some ⟨w.heap.size, 0, none⟩) 10 10] W fun e w' => e = .returned (.int .i64 4) ∧ Below W.heap.size W w') := ⟨fun W hW => lines_Count.calls _ 10 b07 4 W hW (by decide) c07⟩
  have C5 : Aside0 (∀ W A c B d, Kd.C (Kd.int .i64) W A 4 [0, 3, 8, 9] → 4 ≤ c → Kd.C (Kd.int .i64) W B 4 [0, 3, 8, 9] → 4 ≤ d → Calls Tryd.prog 35 #[.slice A 4 c, .slice B 4 d] W fun e w' => e = .returned (.bool true) ∧ Below W.heap.size W w') := ⟨fun W A c B d h1 h2 h3 h4 => (galleyref01_SameInts.calls 9 A c [0, 3, 8, 9] B d [0, 3, 8, 9] true W h1 h2 h3 h4 i07).mono (fun e w' ⟨h, hd⟩ => ⟨h, hd.below⟩)⟩
  go_enter Tryd.func56, Tryd.ntmps56
  go_upto_region 4 with (first | (go_at_call 61; refine (C1.out _ F.out.here.1).mono ?_; rintro e w3 ⟨A, c, rfl, hc, hA, hb⟩; have F2 := Aside0.mk ((F.out.next hb).and (keeps_C hA)); have HC := Aside0.mk hc; clear hb hA hc) | (go_at_call 62; refine (C2.out _ F2.out.here.1.1 F2.out.here.1.2.1).mono ?_; rintro e w4 ⟨rfl, hb⟩; have F3 := Aside0.mk (F2.out.next hb); clear hb) | ((with_reducible refine gate_dst (N := 3) rfl ?_); refine box_event ?hg (N := 3) ?hd (cs := #[.int .i64 0, .int .i64 0, .int .i64 0, .int .i64 0, .int .i64 0, .int .i64 0, .int .i64 0]) (t := 79) ?hr ?_; (case hd => rfl); (case hg => rfl); (case hr => first | (go_simp; done) | (go_simp; rfl)); intro g3 hg3 w5 hx hb; have X3 := Aside0.mk hx; have F4 := Aside0.mk (F3.out.next hb); have G3 : Aside0 (w4.heap.size ≤ g3) := ⟨by rw [hg3]; exact Nat.le_refl _⟩; have B5 := Aside0.mk hb; clear hb hx hg3; have c30 : w5.cell? ⟨g3, 0, none⟩ = some (.int .i64 0) := (blk_cell X3.out 0).trans rfl; have f30 := blk_frozen X3.out 0; have c31 : w5.cell? ⟨g3, 1, none⟩ = some (.int .i64 0) := (blk_cell X3.out 1).trans rfl; have f31 := blk_frozen X3.out 1; have c32 : w5.cell? ⟨g3, 2, none⟩ = some (.int .i64 0) := (blk_cell X3.out 2).trans rfl; have f32 := blk_frozen X3.out 2; have c33 : w5.cell? ⟨g3, 3, none⟩ = some (.int .i64 0) := (blk_cell X3.out 3).trans rfl; have f33 := blk_frozen X3.out 3; have c34 : w5.cell? ⟨g3, 4, none⟩ = some (.int .i64 0) := (blk_cell X3.out 4).trans rfl; have f34 := blk_frozen X3.out 4; have c35 : w5.cell? ⟨g3, 5, none⟩ = some (.int .i64 0) := (blk_cell X3.out 5).trans rfl; have f35 := blk_frozen X3.out 5; have c36 : w5.cell? ⟨g3, 6, none⟩ = some (.int .i64 0) := (blk_cell X3.out 6).trans rfl; have f36 := blk_frozen X3.out 6))
  refine wp_world (fun V hV => ?_)
  have GE : Aside0 (w.heap.size ≤ g3) := ⟨Nat.le_trans F3.out.here.1.2.2.size G3.out⟩
  have Q3 : V.heap[g3]? = some (.cells #[.int .i64 7, .int .i64 5, .int .i64 5, .int .i64 1, .int .i64 4, .int .i64 2, .int .i64 2] 79 (0, 0)) := by
    rw [hV]
    refine blk_put (cs := #[.int .i64 7, .int .i64 5, .int .i64 5, .int .i64 1, .int .i64 4, .int .i64 2, .int .i64 0]) ?_ 6 _ rfl
    refine blk_put (cs := #[.int .i64 7, .int .i64 5, .int .i64 5, .int .i64 1, .int .i64 4, .int .i64 0, .int .i64 0]) ?_ 5 _ rfl
    refine blk_put (cs := #[.int .i64 7, .int .i64 5, .int .i64 5, .int .i64 1, .int .i64 0, .int .i64 0, .int .i64 0]) ?_ 4 _ rfl
    refine blk_put (cs := #[.int .i64 7, .int .i64 5, .int .i64 5, .int .i64 0, .int .i64 0, .int .i64 0, .int .i64 0]) ?_ 3 _ rfl
    refine blk_put (cs := #[.int .i64 7, .int .i64 5, .int .i64 0, .int .i64 0, .int .i64 0, .int .i64 0, .int .i64 0]) ?_ 2 _ rfl
    refine blk_put (cs := #[.int .i64 7, .int .i64 0, .int .i64 0, .int .i64 0, .int .i64 0, .int .i64 0, .int .i64 0]) ?_ 1 _ rfl
    refine blk_put (cs := #[.int .i64 0, .int .i64 0, .int .i64 0, .int .i64 0, .int .i64 0, .int .i64 0, .int .i64 0]) ?_ 0 _ rfl
    exact X3.out
  have FV : Keeps (fun W => (Kd.C (Kd.int .u8) W (some ⟨w.heap.size, 0, none⟩) b07.length b07 ∧ Laid W ∧ Below w.heap.size w W) ∧ Kd.C (Kd.int .i64) W A 4 [0, 3, 8, 9]) V := by
    have hb : Below w4.heap.size w4 V := by
      rw [hV]
      exact ((((((B5.out.setCell G3.out _).setCell G3.out _).setCell G3.out _).setCell G3.out _).setCell G3.out _).setCell G3.out _).setCell G3.out _
    exact F3.out.next hb
  have F5 := Aside0.mk (FV.and (keeps_cell ((blk_cell Q3 5).trans rfl : V.cell? ⟨g3, 5, none⟩ = some (.int .i64 2))))
  clear c30 f30 c31 f31 c32 f32 c33 f33 c34 f34 c35 f35 c36 f36
  clear hV Q3 FV F F2 F3 F4
  go_wp2_with (first | (go_at_call 58; refine (C3.out _ F5.out.here.1.1.1 F5.out.here.1.1.2.1).mono ?_; rintro e w7 ⟨rfl, hb⟩; replace F5 := Aside0.mk (F5.out.next hb); clear hb) | (go_at_call 35; refine (C5.out _ _ _ _ _ (Kd.C_alloc F5.out.here.1.2 _) HC.out (C_blk (fz := (0, 0)) (blk_new _ _) (by decide)) (by decide)).mono ?_; rintro e w8 ⟨rfl, hb⟩; replace F5 := Aside0.mk ((F5.out.next ((Below.refl _ _).alloc (Nat.le_refl _) _)).next hb); clear hb) | (go_at_call 64; refine (C4.out _ F5.out.here.1.1.1).mono ?_; rintro e w9 ⟨rfl, hb⟩; replace F5 := Aside0.mk (F5.out.next hb); clear hb; have c5 := F5.out.here.2))
  go_ret
  exact ⟨rfl, F5.out.here.1.1.2.2⟩
theorem galleylaw07_awake.calls (k : Nat) (r : Bool) (w : World) (hG : Laid w) (h : galleylaw07_awake.f k = some r) :
    Calls Tryd.prog 56 #[] w fun e w' => e = .returned (.bool r) ∧ Below w.heap.size w w' := by
  obtain rfl := Option.some.inj h
  exact awake07_any w hG
end Go.Proofs.YtbomhpfckplgaaaDoor.P
