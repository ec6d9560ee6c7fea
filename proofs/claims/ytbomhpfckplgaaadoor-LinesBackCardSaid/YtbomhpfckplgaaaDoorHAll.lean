/- What lines.all answers. -/
import Derived.Test.YtbomhpfckplgaaaDoorPx0
namespace Go.Proofs.YtbomhpfckplgaaaDoor.P
open Go.RowKit Go.Proofs.YtbomhpfckplgaaaDoorW.PrintWords Go.Proofs.YtbomhpfckplgaaaDoorW.PrintLast Go.Proofs.YtbomhpfckplgaaaDoorW.PrintMore
set_option linter.unusedVariables false
set_option linter.unusedSimpArgs false
set_option maxRecDepth 100000
attribute [local go_sem] max2_int min2_int max_two min_two max_three min_three max_four min_four

/-- The lines from place i on, the present one beginning at s. -/
def linesF (l : List Int) : Nat → Int → Int → List S144
  | 0, _, _ => []
  | k + 1, i, s => if i < (l.length : Int) then (if rd l i = 10 then ⟨s, i, i, i + 1⟩ :: linesF l k (i + 1) (i + 1) else if rd l i = 13 then (if i + 1 < (l.length : Int) ∧ rd l (i + 1) = 10 then ⟨s, i, i + 1, i + 2⟩ :: linesF l k (i + 2) (i + 2) else ⟨s, i, i, i + 1⟩ :: linesF l k (i + 1) (i + 1)) else linesF l k (i + 1) s) else [⟨s, (l.length : Int), (l.length : Int), (l.length : Int)⟩]
def linesL (l : List Int) : List S144 := linesF l (l.length + 1) 0 0
theorem info144 : (Tryd.prog.info? 144).map (fun i => (i.zero, i.size, i.bytes)) = some (some (.agg #[(.int .i64 0), (.int .i64 0), (.int .i64 0), (.int .i64 0)]), 4, 32) := by kernel_rfl
def lines_all.f (l0 : List Int) : Option (List S144) := if l0.length < 4398046511000 then some (linesL l0) else none
set_option maxHeartbeats 8000000 in
theorem lines_all.calls (A0 : Option Addr) (c0 : Nat) (l0 : List Int) (r : List S144) (w : World) (hr0 : Kd.C (Kd.int .u8) w A0 l0.length l0) (hc0 : l0.length ≤ c0) (h : lines_all.f l0 = some r) :
    Calls Tryd.prog 102 #[.slice A0 l0.length c0] w fun e w' => ∃ v0_ : Value, e = .returned (v0_) ∧ Kd.R k144 144 w' w.heap.size (fun _ => True) v0_ r ∧ Below w.heap.size w w' := by
  have hu144 := Tryd.underlying144
  unfold lines_all.f at h
  by_cases hl : l0.length < 4398046511000
  case neg => rw [if_neg hl] at h; cases h
  rw [if_pos hl] at h
  obtain rfl := Option.some.inj h
  have HR0 := Aside0.mk hr0
  have HC0 := Aside0.mk hl
  clear hr0 hc0 hl h
  have HB := Aside0.mk (Below.refl w.heap.size w)
  go_enter Tryd.func102, Tryd.ntmps102
  go_wp2
  go_step3
  go_wp2
  go_step3
  go_wp2
  go_loopg [3, 4, 5] (l0.length + 1) (fun kq v3 v4 v5 w' => ∃ (xs : List S144) (s i : Int), v4 = .int .i64 s ∧ v5 = .int .i64 i ∧ Aside0 (0 ≤ i ∧ i ≤ (l0.length : Int) ∧ (l0.length : Int) - i < (kq : Int) ∧ (xs.length : Int) ≤ i ∧ linesL l0 = xs ++ linesF l0 kq i s) ∧ Aside0 (Kd.R k144 144 w' w.heap.size (fun _ => True) v3 xs) ∧ Aside0 (Below w.heap.size w w'))
  case atStart => exact ⟨[], 0, 0, rfl, rfl, ⟨by omega, by omega, by omega, by simp, rfl⟩, ⟨Kd.R_nil _ _ _ _ _⟩, HB⟩
  case round =>
    clear HB
    obtain ⟨xs, s, i, rfl, rfl, HI, HO, HB⟩ := hrel
    cases gk with
    | zero => exact absurd HI.out (by omega)
    | succ kk =>
    by_cases c1 : i < (l0.length : Int)
    case neg =>
      have c1' : decide (i < (l0.length : Int)) = false := decide_eq_false c1
      have HE : Aside0 (linesL l0 = xs ++ [⟨s, (l0.length : Int), (l0.length : Int), (l0.length : Int)⟩]) := ⟨by have := HI.out.2.2.2.2; rw [this]; simp only [linesF, if_neg c1]⟩
      clear c1
      go_wp2_with ((with_reducible refine gate_builtin (b := .append) (xs := #[.tmp 65, .tmp 74]) rfl ?_); (try (refine gate_guard (by rfl) ?_; dsimp only)); at_builtin; refine Kd.R_append k144 (w0 := w) w.heap.size rfl (.tmp 65) (.tmp 74) 141 144 (.agg #[(.int .i64 0), (.int .i64 0), (.int .i64 0), (.int .i64 0)]) 32 rfl Tryd.underlying141 info144 rfl (by decide) (by omega) u3 xs (⟨s, (l0.length : Int), (l0.length : Int), (l0.length : Int)⟩ : S144) [.int .i64 s, .int .i64 (l0.length : Int), .int .i64 (l0.length : Int), .int .i64 (l0.length : Int)] (fun _ => True) (fun _ => False) rfl rfl ?aP (fun _ hk => hk.elim) ?aF ?aO ?aB ?aS ?aL ?_; (case aP => exact k144_mkM _ _ _ (⟨s, (l0.length : Int), (l0.length : Int), (l0.length : Int)⟩ : S144)); (case aB => exact HB.out); (case aF => exact (fun _ _ => trivial)); (case aO => exact HO.out); (case aS => exact (below_size HB.out)); (case aL => have := HI.out; have := HC0.out; omega); intro v7 w15 ho hb hg hat; have HB := Aside0.mk hb; have HO := Aside0.mk ho; clear hb ho hg hat)
      try rw [Exit.noGoto_ret]
      go_ret
      exact ⟨_, rfl, by rw [HE.out]; exact HO.out, HB.out⟩
    have c1' : decide (i < (l0.length : Int)) = true := decide_eq_true c1
    have p0 : 0 ≤ i := HI.out.1
    have q0 : i < (l0.length : Int) := c1
    have hW1 : wrap64 (i + 1) = i + 1 := by
      have := HC0.out
      unfold wrap64
      omega
    have hW2 : wrap64 (i + 2) = i + 2 := by
      have := HC0.out
      unfold wrap64
      omega
    have HS := Aside0.mk HI.out.2.2.2.2
    obtain ⟨ad, ea, hx0⟩ := Kd.at_int HR0.out i p0 q0
    cases ea
    have hx := (HB.out.cell (World.block_lt_of_cell? w _ hx0)).trans hx0
    have HP := Aside0.mk (And.intro p0 q0)
    replace p0 := eq_true p0
    replace q0 := eq_true q0
    clear c1
    by_cases c2 : rd l0 i = 10
    case pos =>
      have c2' : (rd l0 i == 10) = true := beq_iff_eq.mpr c2
      have HE : Aside0 (linesL l0 = (xs ++ [⟨s, i, i, i + 1⟩]) ++ linesF l0 kk (i + 1) (i + 1)) := ⟨by rw [HS.out]; simp only [linesF, if_pos HP.out.2, if_pos c2, List.append_assoc, List.singleton_append]⟩
      have HW := Aside0.mk hW1
      clear c2 hW1 hW2
      go_wp2_with ((with_reducible refine gate_builtin (b := .append) (xs := #[.tmp 18, .tmp 25]) rfl ?_); (try (refine gate_guard (by rfl) ?_; dsimp only)); at_builtin; refine Kd.R_append k144 (w0 := w) w.heap.size rfl (.tmp 18) (.tmp 25) 141 144 (.agg #[(.int .i64 0), (.int .i64 0), (.int .i64 0), (.int .i64 0)]) 32 rfl Tryd.underlying141 info144 rfl (by decide) (by omega) u3 xs (⟨s, i, i, wrap64 (i + 1)⟩ : S144) [.int .i64 s, .int .i64 i, .int .i64 i, .int .i64 (wrap64 (i + 1))] (fun _ => True) (fun _ => False) rfl rfl ?aP (fun _ hk => hk.elim) ?aF ?aO ?aB ?aS ?aL ?_; (case aP => exact k144_mkM _ _ _ (⟨s, i, i, wrap64 (i + 1)⟩ : S144)); (case aB => exact HB.out); (case aF => exact (fun _ _ => trivial)); (case aO => exact HO.out); (case aS => exact (below_size HB.out)); (case aL => have := HI.out; have := HC0.out; omega); intro v7 w15 ho hb hg hat; have HB := Aside0.mk hb; have HO := Aside0.mk ho; clear hb ho hg hat)
      go_roundg kk
      case measure => omega
      case rel => exact ⟨xs ++ [⟨s, i, i, i + 1⟩], i + 1, i + 1, by rw [HW.out], by rw [HW.out], ⟨by have := HP.out; omega, by have := HP.out; omega, by have := HI.out; omega, by have := HI.out; simp; omega, HE.out⟩, ⟨by have h_ := HO.out; rw [HW.out] at h_; exact h_⟩, HB⟩
    have c2' : (rd l0 i == 10) = false := beq_eq_false_iff_ne.mpr c2
    by_cases c3 : rd l0 i = 13
    case neg =>
      have c3' : (rd l0 i == 13) = false := beq_eq_false_iff_ne.mpr c3
      have HE : Aside0 (linesL l0 = xs ++ linesF l0 kk (i + 1) s) := ⟨by rw [HS.out]; simp only [linesF, if_pos HP.out.2, if_neg c2, if_neg c3]⟩
      have HW := Aside0.mk hW1
      clear c2 c3 hW1 hW2
      go_wp2
      go_roundg kk
      case measure => omega
      case rel => exact ⟨xs, s, i + 1, rfl, by rw [HW.out], ⟨by have := HP.out; omega, by have := HP.out; omega, by have := HI.out; omega, by have := HI.out; omega, HE.out⟩, HO, HB⟩
    have c3' : (rd l0 i == 13) = true := beq_iff_eq.mpr c3
    by_cases c4 : i + 1 < (l0.length : Int)
    case neg =>
      have c4' : decide (wrap64 (i + 1) < (l0.length : Int)) = false := decide_eq_false (by rw [hW1]; exact c4)
      have HE : Aside0 (linesL l0 = (xs ++ [⟨s, i, i, i + 1⟩]) ++ linesF l0 kk (i + 1) (i + 1)) := ⟨by rw [HS.out]; simp only [linesF, if_pos HP.out.2, if_neg c2, if_pos c3, c4, false_and, if_false, List.append_assoc, List.singleton_append]⟩
      have HW := Aside0.mk hW1
      clear c2 c3 c4 hW1 hW2
      go_wp2_with ((with_reducible refine gate_builtin (b := .append) (xs := #[.tmp 54, .tmp 61]) rfl ?_); (try (refine gate_guard (by rfl) ?_; dsimp only)); at_builtin; refine Kd.R_append k144 (w0 := w) w.heap.size rfl (.tmp 54) (.tmp 61) 141 144 (.agg #[(.int .i64 0), (.int .i64 0), (.int .i64 0), (.int .i64 0)]) 32 rfl Tryd.underlying141 info144 rfl (by decide) (by omega) u3 xs (⟨s, i, i, wrap64 (i + 1)⟩ : S144) [.int .i64 s, .int .i64 i, .int .i64 i, .int .i64 (wrap64 (i + 1))] (fun _ => True) (fun _ => False) rfl rfl ?aP (fun _ hk => hk.elim) ?aF ?aO ?aB ?aS ?aL ?_; (case aP => exact k144_mkM _ _ _ (⟨s, i, i, wrap64 (i + 1)⟩ : S144)); (case aB => exact HB.out); (case aF => exact (fun _ _ => trivial)); (case aO => exact HO.out); (case aS => exact (below_size HB.out)); (case aL => have := HI.out; have := HC0.out; omega); intro v7 w15 ho hb hg hat; have HB := Aside0.mk hb; have HO := Aside0.mk ho; clear hb ho hg hat)
      go_roundg kk
      case measure => omega
      case rel => exact ⟨xs ++ [⟨s, i, i, i + 1⟩], i + 1, i + 1, by rw [HW.out], by rw [HW.out], ⟨by have := HP.out; omega, by have := HP.out; omega, by have := HI.out; omega, by have := HI.out; simp; omega, HE.out⟩, ⟨by have h_ := HO.out; rw [HW.out] at h_; exact h_⟩, HB⟩
    have c4' : decide (wrap64 (i + 1) < (l0.length : Int)) = true := decide_eq_true (by rw [hW1]; exact c4)
    have p1 : 0 ≤ wrap64 (i + 1) := by rw [hW1]; have := HP.out; omega
    have q1 : wrap64 (i + 1) < (l0.length : Int) := by rw [hW1]; exact c4
    obtain ⟨ad1, ea1, hx1⟩ := Kd.at_int HR0.out (wrap64 (i + 1)) p1 q1
    obtain rfl : ad = ad1 := (by injection ea1)
    have hx2 := (HB.out.cell (World.block_lt_of_cell? w _ hx1)).trans hx1
    have HP1 := Aside0.mk q1
    replace p1 := eq_true p1
    replace q1 := eq_true q1
    by_cases c5 : rd l0 (i + 1) = 10
    · have c5' : (rd l0 (wrap64 (i + 1)) == 10) = true := beq_iff_eq.mpr (by rw [hW1]; exact c5)
      have HE : Aside0 (linesL l0 = (xs ++ [⟨s, i, i + 1, i + 2⟩]) ++ linesF l0 kk (i + 2) (i + 2)) := ⟨by rw [HS.out]; simp only [linesF, if_pos HP.out.2, if_neg c2, if_pos c3, c4, c5, and_self, if_true, List.append_assoc, List.singleton_append]⟩
      have HW := Aside0.mk hW1
      have HW2 := Aside0.mk hW2
      have HW3 : Aside0 (wrap64 (wrap64 (i + 1) + 1) = i + 2) := ⟨by
        rw [hW1]
        have := HC0.out
        have := HP.out
        unfold wrap64
        omega⟩
      have HC4 := Aside0.mk c4
      clear c2 c3 c4 c5 hW1 hW2
      go_wp2_with ((with_reducible refine gate_builtin (b := .append) (xs := #[.tmp 42, .tmp 50]) rfl ?_); (try (refine gate_guard (by rfl) ?_; dsimp only)); at_builtin; refine Kd.R_append k144 (w0 := w) w.heap.size rfl (.tmp 42) (.tmp 50) 141 144 (.agg #[(.int .i64 0), (.int .i64 0), (.int .i64 0), (.int .i64 0)]) 32 rfl Tryd.underlying141 info144 rfl (by decide) (by omega) u3 xs (⟨s, i, wrap64 (i + 1), wrap64 (i + 2)⟩ : S144) [.int .i64 s, .int .i64 i, .int .i64 (wrap64 (i + 1)), .int .i64 (wrap64 (i + 2))] (fun _ => True) (fun _ => False) rfl rfl ?aP (fun _ hk => hk.elim) ?aF ?aO ?aB ?aS ?aL ?_; (case aP => exact k144_mkM _ _ _ (⟨s, i, wrap64 (i + 1), wrap64 (i + 2)⟩ : S144)); (case aB => exact HB.out); (case aF => exact (fun _ _ => trivial)); (case aO => exact HO.out); (case aS => exact (below_size HB.out)); (case aL => have := HI.out; have := HC0.out; omega); intro v7 w15 ho hb hg hat; have HB := Aside0.mk hb; have HO := Aside0.mk ho; clear hb ho hg hat)
      go_roundg kk
      case measure => omega
      case rel => exact ⟨xs ++ [⟨s, i, i + 1, i + 2⟩], i + 2, i + 2, by rw [HW3.out], by rw [HW3.out], ⟨by have := HP.out; omega, by have := HC4.out; omega, by have := HI.out; omega, by have := HI.out; simp; omega, HE.out⟩, ⟨by have h_ := HO.out; rw [HW.out, HW2.out] at h_; exact h_⟩, HB⟩
    · have c5' : (rd l0 (wrap64 (i + 1)) == 10) = false := beq_eq_false_iff_ne.mpr (by rw [hW1]; exact c5)
      have HE : Aside0 (linesL l0 = (xs ++ [⟨s, i, i, i + 1⟩]) ++ linesF l0 kk (i + 1) (i + 1)) := ⟨by rw [HS.out]; simp only [linesF, if_pos HP.out.2, if_neg c2, if_pos c3, c5, and_false, if_false, List.append_assoc, List.singleton_append]⟩
      have HW := Aside0.mk hW1
      clear c2 c3 c4 c5 hW1 hW2
      go_wp2_with ((with_reducible refine gate_builtin (b := .append) (xs := #[.tmp 54, .tmp 61]) rfl ?_); (try (refine gate_guard (by rfl) ?_; dsimp only)); at_builtin; refine Kd.R_append k144 (w0 := w) w.heap.size rfl (.tmp 54) (.tmp 61) 141 144 (.agg #[(.int .i64 0), (.int .i64 0), (.int .i64 0), (.int .i64 0)]) 32 rfl Tryd.underlying141 info144 rfl (by decide) (by omega) u3 xs (⟨s, i, i, wrap64 (i + 1)⟩ : S144) [.int .i64 s, .int .i64 i, .int .i64 i, .int .i64 (wrap64 (i + 1))] (fun _ => True) (fun _ => False) rfl rfl ?aP (fun _ hk => hk.elim) ?aF ?aO ?aB ?aS ?aL ?_; (case aP => exact k144_mkM _ _ _ (⟨s, i, i, wrap64 (i + 1)⟩ : S144)); (case aB => exact HB.out); (case aF => exact (fun _ _ => trivial)); (case aO => exact HO.out); (case aS => exact (below_size HB.out)); (case aL => have := HI.out; have := HC0.out; omega); intro v7 w15 ho hb hg hat; have HB := Aside0.mk hb; have HO := Aside0.mk ho; clear hb ho hg hat)
      go_roundg kk
      case measure => omega
      case rel => exact ⟨xs ++ [⟨s, i, i, i + 1⟩], i + 1, i + 1, by rw [HW.out], by rw [HW.out], ⟨by have := HP.out; omega, by have := HP.out; omega, by have := HI.out; omega, by have := HI.out; simp; omega, HE.out⟩, ⟨by have h_ := HO.out; rw [HW.out] at h_; exact h_⟩, HB⟩
end Go.Proofs.YtbomhpfckplgaaaDoor.P
