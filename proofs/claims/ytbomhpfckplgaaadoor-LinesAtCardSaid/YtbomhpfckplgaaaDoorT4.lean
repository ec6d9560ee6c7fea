/- Texts of this claim, put together: Px53, Px25, Px26. -/
import Derived.Test.YtbomhpfckplgaaaDoorT0
import Derived.Test.YtbomhpfckplgaaaDoorT1
import Derived.Test.YtbomhpfckplgaaaDoorT2
import Derived.Test.YtbomhpfckplgaaaDoorT3
namespace Go.Proofs.YtbomhpfckplgaaaDoor.P
open Go.RowKit Go.Proofs.YtbomhpfckplgaaaDoorW.PrintWords Go.Proofs.YtbomhpfckplgaaaDoorW.PrintLast Go.Proofs.YtbomhpfckplgaaaDoorW.PrintMore
attribute [local go_sem] max2_int min2_int max_two min_two max_three min_three max_four min_four   -- for this text's walks alone
set_option linter.unusedVariables false
set_option linter.unusedSimpArgs false
mutual
def lines_At.j0 : Nat → List Int → Int → Int → Bool → Int → Int → Option (Int × Int)
 | 0, _, _, _, _, _, _ => none
 | k + 1, x0, x2, x3, x28, x730000, x730001 => if x28 = true then (some (0, 3)) else ((lines_all.f x0).bind fun t730 => (if x730000 < 0 then (lines_At.j1 k x0 x2 x3 t730 true x730000 x730001) else (if x730000 ≥ (t730.length : Int) then (lines_At.j1 k x0 x2 x3 t730 true x730000 x730001) else (lines_At.j1 k x0 x2 x3 t730 (decide (x730001 < 0)) x730000 x730001))))
def lines_At.j1 : Nat → List Int → Int → Int → List (S144) → Bool → Int → Int → Option (Int × Int)
 | 0, _, _, _, _, _, _, _ => none
 | k + 1, x0, x2, x3, x10, x45, x730000, x730001 => if x45 = true then (some (0, 2)) else (if 0 ≤ x730000 then (if x730000 < (x10.length : Int) then (if 0 ≤ ((rd_T144 x10 x730000).f0) then (if ((rd_T144 x10 x730000).f0) ≤ ((rd_T144 x10 x730000).f2) then (if ((rd_T144 x10 x730000).f2) ≤ (x0.length : Int) then ((lines_size.f ((x0.take (((rd_T144 x10 x730000).f2) : Int).toNat).drop (((rd_T144 x10 x730000).f0) : Int).toNat) x2).bind fun t736 => (if x730001 ≤ t736 then ((rule_To.f ((x0.take (((rd_T144 x10 x730000).f2) : Int).toNat).drop (((rd_T144 x10 x730000).f0) : Int).toNat) x2 x730001 1 x3).bind fun bt737 => (if bt737.2 = 0 then (some (wrap64 (((rd_T144 x10 x730000).f0) + bt737.1), 0)) else (some (0, bt737.2)))) else (if x3 = 3 then (some (0, 2)) else (some ((rd_T144 x10 x730000).f1, 0))))) else (none)) else (none)) else (none)) else (none)) else (none))
end
def lines_At.f (k : Nat) (l0 : List Int) (a1_0 : Int) (a1_1 : Int) (a2 : Int) (a3 : Int) : Option (Int × Int) := if a2 < 1 then (lines_At.j0 k l0 a2 a3 true a1_0 a1_1) else (if a2 > 3 then (lines_At.j0 k l0 a2 a3 true a1_0 a1_1) else (if a3 < 1 then (lines_At.j0 k l0 a2 a3 true a1_0 a1_1) else (lines_At.j0 k l0 a2 a3 (decide (a3 > 3)) a1_0 a1_1)))
set_option maxHeartbeats 8000000 in
set_option maxRecDepth 100000 in
theorem lines_At.calls (k : Nat) (A0 : Option Addr) (c0 : Nat) (l0 : List Int) (a1_0 : Int) (a1_1 : Int) (a2 : Int) (a3 : Int) (r1 : Int) (r2 : Int) (w : World) (hr0 : Kd.C (Kd.int .u8) w A0 l0.length l0) (hc0 : l0.length ≤ c0) (hG : Laid w) (h : lines_At.f k l0 a1_0 a1_1 a2 a3 = some (r1, r2)) :
  Calls Tryd.prog 58 #[.slice A0 l0.length c0, .agg #[.int .i64 a1_0, .int .i64 a1_1], .int .i64 a2, .int .i64 a3] w fun e w' => e = .returned (.tuple #[.int .i64 r1, .int .i64 r2]) ∧ Below w.heap.size w w' := by
 have hu71 := Tryd.underlying71
 have hu144 := Tryd.underlying144
 have HG := Aside0.mk hG
 clear hG
 have HR0 := Aside0.mk hr0
 have HC0 := Aside0.mk hc0
 clear hr0 hc0
 have HB := Aside0.mk (Below.refl w.heap.size w)
 have H : (if a2 < 1 then (lines_At.j0 k l0 a2 a3 true a1_0 a1_1) else (if a2 > 3 then (lines_At.j0 k l0 a2 a3 true a1_0 a1_1) else (if a3 < 1 then (lines_At.j0 k l0 a2 a3 true a1_0 a1_1) else (lines_At.j0 k l0 a2 a3 (decide (a3 > 3)) a1_0 a1_1)))) = some (r1, r2) := h
 clear h
 have HC5 := Aside0.mk H
 clear H
 go_enter Tryd.func58, Tryd.ntmps58
 go_upto_region 1 with (first | ((with_reducible refine gate_dst (N := 5) rfl ?_); (try (refine gate_guard (by rfl) ?_; dsimp only)); refine box_event ?hg (N := 5) ?hd (cs := #[.int .i64 a1_0, .int .i64 a1_1]) (t := 71) ?hr ?_; (case hd => rfl); (case hg => rfl); (case hr => first | (go_simp; done) | (go_simp; rfl)); intro gb729 hg w6 hbox hb; have n0_ := Aside0.mk (below_step (by repeat (first | (with_reducible first | exact HB.out | apply below_alloc | apply pw_below_drewN | apply below_drew1) | exact HB.out)) hb); have n1_ := Aside0.mk (hbox); have n2_ := Aside0.mk ((by rw [hg]; exact (below_size (by repeat (first | (with_reducible first | exact HB.out | apply below_alloc | apply pw_below_drewN | apply below_drew1) | exact HB.out))) : w.heap.size ≤ gb729)); have n3_ := Aside0.mk ((by rw [hg]; exact (below_size (by repeat (first | (with_reducible first | exact HB.out | apply below_alloc | apply pw_below_drewN | apply below_drew1) | exact HB.out))) : w.heap.size ≤ gb729)); clear HB; have HB := n0_; have BK729 := n1_; have GW729 := n2_; have GE729 := n3_; clear n0_ n1_ n2_ n3_; clear hb hbox hg))
 (try simp only [Act.put, List.setIfInBounds_toArray, List.set_cons_zero, List.set_cons_succ])
 go_cut [28] (fun v28 wc => ∃ (kq : Nat) (x28_4 : Bool), v28 = .bool x28_4 ∧ Aside0 (lines_At.j0 kq l0 a2 a3 x28_4 a1_0 a1_1 = some (r1, r2)) ∧ Aside0 (kq ≤ k) ∧ Aside0 (wc.heap[gb729]? = some (.cells #[.int .i64 a1_0, .int .i64 a1_1] 71 (0, 0))) ∧ Aside0 (Below w.heap.size w wc))
 case first =>
  have H := HC5.out
  clear HC5
  by_cases c7 : a2 < 1
  ·
   rw [if_pos c7] at H
   have c7b0 : decide (a2 < 1) = true := decide_eq_true c7
   clear c7
   (first | rw [c7b0] | (simp only [i64_w, i32_w]; rw [c7b0]) | skip)
   have H' := Aside0.mk H
   clear H
   go_wp2
   go_meet
   case rel => exact ⟨_, (true), (by first | rfl | (simp; done) | (simp [*]; done)), H', ⟨by first | omega | exact Nat.le_refl _⟩, ⟨by (with_reducible repeat (first | refine blk_drewN ?_ _ | refine blk_drew ?_ | refine blk_alloc ?_ _)); exact BK729.out⟩, ⟨by repeat (first | (with_reducible first | exact HB.out | apply below_alloc | apply pw_below_drewN | apply below_drew1 | refine below_set ?_ GE729.out) | exact HB.out)⟩⟩
  ·
   rw [if_neg c7] at H
   have c7b0 : decide (a2 < 1) = false := decide_eq_false c7
   clear c7
   (first | rw [c7b0] | (simp only [i64_w, i32_w]; rw [c7b0]) | skip)
   by_cases c8 : a2 > 3
   ·
    rw [if_pos c8] at H
    have c8b0 : decide (3 < a2) = true := decide_eq_true c8
    clear c8
    have H' := Aside0.mk H
    clear H
    go_wp2
    go_meet
    case rel => exact ⟨_, (true), (by first | rfl | (simp; done) | (simp [*]; done)), H', ⟨by first | omega | exact Nat.le_refl _⟩, ⟨by (with_reducible repeat (first | refine blk_drewN ?_ _ | refine blk_drew ?_ | refine blk_alloc ?_ _)); exact BK729.out⟩, ⟨by repeat (first | (with_reducible first | exact HB.out | apply below_alloc | apply pw_below_drewN | apply below_drew1 | refine below_set ?_ GE729.out) | exact HB.out)⟩⟩
   ·
    rw [if_neg c8] at H
    have c8b0 : decide (3 < a2) = false := decide_eq_false c8
    clear c8
    by_cases c9 : a3 < 1
    ·
     rw [if_pos c9] at H
     have c9b0 : decide (a3 < 1) = true := decide_eq_true c9
     clear c9
     have H' := Aside0.mk H
     clear H
     go_wp2
     go_meet
     case rel => exact ⟨_, (true), (by first | rfl | (simp; done) | (simp [*]; done)), H', ⟨by first | omega | exact Nat.le_refl _⟩, ⟨by (with_reducible repeat (first | refine blk_drewN ?_ _ | refine blk_drew ?_ | refine blk_alloc ?_ _)); exact BK729.out⟩, ⟨by repeat (first | (with_reducible first | exact HB.out | apply below_alloc | apply pw_below_drewN | apply below_drew1 | refine below_set ?_ GE729.out) | exact HB.out)⟩⟩
    ·
     rw [if_neg c9] at H
     have c9b0 : decide (a3 < 1) = false := decide_eq_false c9
     clear c9
     have H' := Aside0.mk H
     clear H
     go_wp2
     go_meet
     case rel => exact ⟨_, (decide (a3 > 3)), (by first | rfl | (simp; done) | (simp [*]; done)), H', ⟨by first | omega | exact Nat.le_refl _⟩, ⟨by (with_reducible repeat (first | refine blk_drewN ?_ _ | refine blk_drew ?_ | refine blk_alloc ?_ _)); exact BK729.out⟩, ⟨by repeat (first | (with_reducible first | exact HB.out | apply below_alloc | apply pw_below_drewN | apply below_drew1 | refine below_set ?_ GE729.out) | exact HB.out)⟩⟩
 case rest =>
  clear HC5
  (try clear p2); (try clear c5); (try clear c7); (try clear c7b0); (try clear c8); (try clear c8b0); (try clear c9); (try clear c9b0)
  obtain ⟨kq, x28_4, rfl, HA, HJ4, BK729, HB⟩ := hcut
  cases kq with
  | zero => exact absurd HA.out (by simp [lines_At.j0])
  | succ kj4 =>
   have H := HA.out
   clear HA
   simp only [lines_At.j0] at H
   by_cases c10 : x28_4 = true
   ·
    subst c10
    have H1 : (some (0, 3)) = some (r1, r2) := by rw [if_pos rfl] at H; exact H
    clear H
    have H := H1
    clear H1
    simp only [Option.some.injEq, Prod.mk.injEq] at H
    obtain ⟨rfl, rfl⟩ := H
    go_wp2
    go_ret2
    exact ⟨by first | rfl | (simp [errW_none, errW_some] <;> rfl) | (simp [*, errW_none, errW_some] <;> rfl), by repeat (first | (with_reducible first | exact HB.out | apply below_alloc | apply pw_below_drewN | apply below_drew1 | refine below_set ?_ GE729.out) | exact HB.out)⟩
   ·
    replace c10 := Bool.eq_false_iff.mpr c10
    subst c10
    have H1 : ((lines_all.f l0).bind fun t730 => (if a1_0 < 0 then (lines_At.j1 kj4 l0 a2 a3 t730 true a1_0 a1_1) else (if a1_0 ≥ (t730.length : Int) then (lines_At.j1 kj4 l0 a2 a3 t730 true a1_0 a1_1) else (lines_At.j1 kj4 l0 a2 a3 t730 (decide (a1_1 < 0)) a1_0 a1_1)))) = some (r1, r2) := by rw [if_neg (show ¬ (false = true) by decide)] at H; exact H
    clear H
    have H := H1
    clear H1
    replace H := Option.bind_eq_some_iff.mp H
    obtain ⟨t730, A110, H⟩ := H
    replace H : (if a1_0 < 0 then (lines_At.j1 kj4 l0 a2 a3 t730 true a1_0 a1_1) else (if a1_0 ≥ (t730.length : Int) then (lines_At.j1 kj4 l0 a2 a3 t730 true a1_0 a1_1) else (lines_At.j1 kj4 l0 a2 a3 t730 (decide (a1_1 < 0)) a1_0 a1_1))) = some (r1, r2) := H
    have A11 := Aside0.mk A110
    clear A110
    have HC12 := Aside0.mk H
    clear H
    go_upto_region 4 with (first | ((with_reducible refine gate_callee (f := 102) rfl ?_); refine goesL_ (some 30) rfl rfl Tryd.func102 (by kernel_rfl) rfl #[.slice A0 l0.length c0] rfl (by (try simp only [List.map_toArray, List.map_cons, List.map_nil]); first | done | rfl | (simp only [List.length_drop, List.length_take]; rfl)) ?_; (with_reducible refine (lines_all.calls _ _ l0 t730 _ ?side1 ?side2 A11.out).mono ?_); (case side1 => repeat (first | exact (Kd.C_below HR0.out HB.out) | (with_reducible refine Kd.C_alloc ?_ _) | (with_reducible refine Kd.C_drewN ?_ _) | (with_reducible refine Kd.C_drew ?_))); (case side2 => exact HC0.out); rintro e w13 ⟨v731, rfl, ho0, hb⟩; refine ⟨_, rfl, ?_⟩; have n0_ := Aside0.mk (Kd.R_lower ho0 (below_size (by repeat (first | (with_reducible first | exact HB.out | apply below_alloc | apply pw_below_drewN | apply below_drew1 | refine below_set ?_ GE729.out) | exact HB.out)))); have n1_ := Aside0.mk (blk_below (g := gb729) (o := .cells #[.int .i64 a1_0, .int .i64 a1_1] 71 (0, 0)) (by (with_reducible repeat (first | refine blk_drewN ?_ _ | refine blk_drew ?_ | refine blk_alloc ?_ _)); exact BK729.out) hb); have n2_ := Aside0.mk (below_step (by repeat (first | (with_reducible first | exact HB.out | apply below_alloc | apply pw_below_drewN | apply below_drew1 | refine below_set ?_ GE729.out) | exact HB.out)) hb); clear BK729; clear HB; have HO732 := n0_; have BK729 := n1_; have HB := n2_; clear n0_ n1_ n2_; (try clear hb); (try clear hb2); (try clear hk); (try clear hi); (try clear ho0)))
    (try simp only [Act.put, List.setIfInBounds_toArray, List.set_cons_zero, List.set_cons_succ])
    go_cut [45] (fun v45 wc => ∃ (kq : Nat) (x45_11 : Bool), v45 = .bool x45_11 ∧ Aside0 (lines_At.j1 kq l0 a2 a3 t730 x45_11 a1_0 a1_1 = some (r1, r2)) ∧ Aside0 (kq ≤ kj4) ∧ Aside0 (Kd.R k144 144 wc w.heap.size (fun _ => True) v731 t730) ∧ Aside0 (wc.heap[gb729]? = some (.cells #[.int .i64 a1_0, .int .i64 a1_1] 71 (0, 0))) ∧ Aside0 (Below w.heap.size w wc))
    case first =>
     have H := HC12.out
     clear HC12
     by_cases c14 : a1_0 < 0
     ·
      rw [if_pos c14] at H
      have c14b0 : decide (a1_0 < 0) = true := decide_eq_true c14
      clear c14
      (first | rw [c14b0] | (simp only [i64_w, i32_w]; rw [c14b0]) | skip)
      have H' := Aside0.mk H
      clear H
      have hcz15_0 : w13.cell? ⟨gb729, 0, none⟩ = some (.int .i64 a1_0) := (blk_cell BK729.out 0).trans rfl
      have hcz15_1 : w13.cell? ⟨gb729, 1, none⟩ = some (.int .i64 a1_1) := (blk_cell BK729.out 1).trans rfl
      have hfz15_0 := blk_frozen BK729.out 0
      have hfz15_1 := blk_frozen BK729.out 1
      go_wp2
      go_meet
      case rel => exact ⟨_, (true), (by first | rfl | (simp; done) | (simp [*]; done)), H', ⟨by have := HJ4.out; first | omega | exact Nat.le_refl _⟩, ⟨by (with_reducible repeat (first | apply Kd.R_alloc | apply Kd.R_drewN | apply Kd.R_drew)); exact HO732.out⟩, ⟨by (with_reducible repeat (first | refine blk_drewN ?_ _ | refine blk_drew ?_ | refine blk_alloc ?_ _)); exact BK729.out⟩, ⟨by repeat (first | (with_reducible first | exact HB.out | apply below_alloc | apply pw_below_drewN | apply below_drew1 | refine below_set ?_ GE729.out) | exact HB.out)⟩⟩
     ·
      rw [if_neg c14] at H
      have c14b0 : decide (a1_0 < 0) = false := decide_eq_false c14
      clear c14
      (first | rw [c14b0] | (simp only [i64_w, i32_w]; rw [c14b0]) | skip)
      by_cases c16 : a1_0 ≥ (t730.length : Int)
      ·
       rw [if_pos c16] at H
       have c16b0 : decide ((t730.length : Int) ≤ a1_0) = true := decide_eq_true c16
       clear c16
       have H' := Aside0.mk H
       clear H
       have hcz17_0 : w13.cell? ⟨gb729, 0, none⟩ = some (.int .i64 a1_0) := (blk_cell BK729.out 0).trans rfl
       have hcz17_1 : w13.cell? ⟨gb729, 1, none⟩ = some (.int .i64 a1_1) := (blk_cell BK729.out 1).trans rfl
       have hfz17_0 := blk_frozen BK729.out 0
       have hfz17_1 := blk_frozen BK729.out 1
       obtain ⟨Ao18, co18, eo18⟩ := Kd.R_slice HO732.out
       subst eo18
       go_wp2
       go_meet
       case rel => exact ⟨_, (true), (by first | rfl | (simp; done) | (simp [*]; done)), H', ⟨by have := HJ4.out; first | omega | exact Nat.le_refl _⟩, ⟨by (with_reducible repeat (first | apply Kd.R_alloc | apply Kd.R_drewN | apply Kd.R_drew)); exact HO732.out⟩, ⟨by (with_reducible repeat (first | refine blk_drewN ?_ _ | refine blk_drew ?_ | refine blk_alloc ?_ _)); exact BK729.out⟩, ⟨by repeat (first | (with_reducible first | exact HB.out | apply below_alloc | apply pw_below_drewN | apply below_drew1 | refine below_set ?_ GE729.out) | exact HB.out)⟩⟩
      ·
       rw [if_neg c16] at H
       have c16b0 : decide ((t730.length : Int) ≤ a1_0) = false := decide_eq_false c16
       clear c16
       have H' := Aside0.mk H
       clear H
       have hcz19_0 : w13.cell? ⟨gb729, 0, none⟩ = some (.int .i64 a1_0) := (blk_cell BK729.out 0).trans rfl
       have hcz19_1 : w13.cell? ⟨gb729, 1, none⟩ = some (.int .i64 a1_1) := (blk_cell BK729.out 1).trans rfl
       have hfz19_0 := blk_frozen BK729.out 0
       have hfz19_1 := blk_frozen BK729.out 1
       obtain ⟨Ao20, co20, eo20⟩ := Kd.R_slice HO732.out
       subst eo20
       go_wp2
       go_meet
       case rel => exact ⟨_, (decide (a1_1 < 0)), (by first | rfl | (simp; done) | (simp [*]; done)), H', ⟨by have := HJ4.out; first | omega | exact Nat.le_refl _⟩, ⟨by (with_reducible repeat (first | apply Kd.R_alloc | apply Kd.R_drewN | apply Kd.R_drew)); exact HO732.out⟩, ⟨by (with_reducible repeat (first | refine blk_drewN ?_ _ | refine blk_drew ?_ | refine blk_alloc ?_ _)); exact BK729.out⟩, ⟨by repeat (first | (with_reducible first | exact HB.out | apply below_alloc | apply pw_below_drewN | apply below_drew1 | refine below_set ?_ GE729.out) | exact HB.out)⟩⟩
    case rest =>
     clear HC12
     (try clear c1); (try clear p2); (try clear c5); (try clear c7); (try clear c7b0); (try clear c8); (try clear c8b0); (try clear c9); (try clear c9b0); (try clear c10); (try clear c14); (try clear c14b0); (try clear c16); (try clear c16b0); (try clear hcz15_0); (try clear hcz15_1); (try clear hcz17_0); (try clear hcz17_1); (try clear hcz19_0); (try clear hcz19_1); (try clear hfz15_0); (try clear hfz15_1); (try clear hfz17_0); (try clear hfz17_1); (try clear hfz19_0); (try clear hfz19_1)
     obtain ⟨kq, x45_11, rfl, HA, HJ11, HO_10, BK729, HB⟩ := hcut
     cases kq with
     | zero => exact absurd HA.out (by simp [lines_At.j1])
     | succ kj11 =>
      have H := HA.out
      clear HA
      simp only [lines_At.j1] at H
      by_cases c21 : x45_11 = true
      ·
       subst c21
       have H1 : (some (0, 2)) = some (r1, r2) := by rw [if_pos rfl] at H; exact H
       clear H
       have H := H1
       clear H1
       simp only [Option.some.injEq, Prod.mk.injEq] at H
       obtain ⟨rfl, rfl⟩ := H
       go_wp2
       go_ret2
       exact ⟨by first | rfl | (simp [errW_none, errW_some] <;> rfl) | (simp [*, errW_none, errW_some] <;> rfl), by repeat (first | (with_reducible first | exact HB.out | apply below_alloc | apply pw_below_drewN | apply below_drew1 | refine below_set ?_ GE729.out) | exact HB.out)⟩
      ·
       replace c21 := Bool.eq_false_iff.mpr c21
       subst c21
       have H1 : (if 0 ≤ a1_0 then (if a1_0 < (t730.length : Int) then (if 0 ≤ ((rd_T144 t730 a1_0).f0) then (if ((rd_T144 t730 a1_0).f0) ≤ ((rd_T144 t730 a1_0).f2) then (if ((rd_T144 t730 a1_0).f2) ≤ (l0.length : Int) then ((lines_size.f ((l0.take (((rd_T144 t730 a1_0).f2) : Int).toNat).drop (((rd_T144 t730 a1_0).f0) : Int).toNat) a2).bind fun t736 => (if a1_1 ≤ t736 then ((rule_To.f ((l0.take (((rd_T144 t730 a1_0).f2) : Int).toNat).drop (((rd_T144 t730 a1_0).f0) : Int).toNat) a2 a1_1 1 a3).bind fun bt737 => (if bt737.2 = 0 then (some (wrap64 (((rd_T144 t730 a1_0).f0) + bt737.1), 0)) else (some (0, bt737.2)))) else (if a3 = 3 then (some (0, 2)) else (some ((rd_T144 t730 a1_0).f1, 0))))) else (none)) else (none)) else (none)) else (none)) else (none)) = some (r1, r2) := by rw [if_neg (show ¬ (false = true) by decide)] at H; exact H
       clear H
       have H := H1
       clear H1
       by_cases c22 : 0 ≤ a1_0
       ·
        rw [if_pos c22] at H
        have c22b0 : decide (0 ≤ a1_0) = true := decide_eq_true c22
        clear c22
        by_cases c23 : a1_0 < (t730.length : Int)
        ·
         rw [if_pos c23] at H
         have c23b0 : decide (a1_0 < (t730.length : Int)) = true := decide_eq_true c23
         clear c23
         by_cases c24 : 0 ≤ ((rd_T144 t730 a1_0).f0)
         ·
          rw [if_pos c24] at H
          have c24b0 := eq_true c24
          have c24b1 : decide (0 ≤ ((rd_T144 t730 a1_0).f0)) = true := decide_eq_true c24
          clear c24
          by_cases c25 : ((rd_T144 t730 a1_0).f0) ≤ ((rd_T144 t730 a1_0).f2)
          ·
           rw [if_pos c25] at H
           have c25b0 := eq_true c25
           have c25b1 : decide (((rd_T144 t730 a1_0).f0) ≤ ((rd_T144 t730 a1_0).f2)) = true := decide_eq_true c25
           clear c25
           by_cases c26 : ((rd_T144 t730 a1_0).f2) ≤ (l0.length : Int)
           ·
            rw [if_pos c26] at H
            have c26b0 := eq_true c26
            have c26b1 : decide (((rd_T144 t730 a1_0).f2) ≤ (l0.length : Int)) = true := decide_eq_true c26
            clear c26
            replace H := Option.bind_eq_some_iff.mp H
            obtain ⟨t736, A270, H⟩ := H
            replace H : (if a1_1 ≤ t736 then ((rule_To.f ((l0.take (((rd_T144 t730 a1_0).f2) : Int).toNat).drop (((rd_T144 t730 a1_0).f0) : Int).toNat) a2 a1_1 1 a3).bind fun bt737 => (if bt737.2 = 0 then (some (wrap64 (((rd_T144 t730 a1_0).f0) + bt737.1), 0)) else (some (0, bt737.2)))) else (if a3 = 3 then (some (0, 2)) else (some ((rd_T144 t730 a1_0).f1, 0)))) = some (r1, r2) := H
            have A27 := Aside0.mk A270
            clear A270
            by_cases c28 : a1_1 ≤ t736
            ·
             rw [if_pos c28] at H
             have c28b0 : decide (a1_1 ≤ t736) = true := decide_eq_true c28
             clear c28
             replace H := Option.bind_eq_some_iff.mp H
             obtain ⟨⟨t737, t738⟩, A290, H⟩ := H
             replace H : (if t738 = 0 then (some (wrap64 (((rd_T144 t730 a1_0).f0) + t737), 0)) else (some (0, t738))) = some (r1, r2) := H
             have A29 := Aside0.mk A290
             clear A290
             by_cases c30 : t738 = 0
             ·
              rw [if_pos c30] at H
              have c30b0 : (t738 == 0) = true := beq_iff_eq.mpr c30
              have c30b1 : (t738 != 0) = false := bne_eq_false_iff_eq.mpr c30
              clear c30
              simp only [Option.some.injEq, Prod.mk.injEq] at H
              obtain ⟨rfl, rfl⟩ := H
              have hcz31_0 : wc.cell? ⟨gb729, 0, none⟩ = some (.int .i64 a1_0) := (blk_cell BK729.out 0).trans rfl
              have hcz31_1 : wc.cell? ⟨gb729, 1, none⟩ = some (.int .i64 a1_1) := (blk_cell BK729.out 1).trans rfl
              have hfz31_0 := blk_frozen BK729.out 0
              have hfz31_1 := blk_frozen BK729.out 1
              obtain ⟨Ao32, co32, eo32⟩ := Kd.R_slice HO_10.out
              subst eo32
              have p733 : 0 ≤ (a1_0 : Int) := of_decide_eq_true (by first | (with_reducible assumption) | assumption)
              have q733 : a1_0 < (t730.length : Int) := of_decide_eq_true (by first | (with_reducible assumption) | assumption)
              obtain ⟨ad733, e733, hx733_0, hx733_1, hx733_2, hx733_3⟩ := at_T144 (Kd.R_reads' HO_10.out).2.2 a1_0 p733 q733
              cases e733
              replace p733 := eq_true p733
              replace q733 := eq_true q733
              try go_wp2_with (first | ((with_reducible refine gate_dst (N := 11) rfl ?_); (try (refine gate_guard (by rfl) ?_; dsimp only)); refine box_event ?hg (N := 11) ?hd (cs := #[.int .i64 0, .int .i64 0, .int .i64 0, .int .i64 0]) (t := 144) ?hr ?_; (case hd => rfl); (case hg => rfl); (case hr => first | (go_simp; done) | (go_simp; rfl)); intro gb734 hg w33 hbox hb; have n0_ := Aside0.mk (Kd.R_below (Kd.R_elderB (by (with_reducible repeat (first | apply Kd.R_alloc | apply Kd.R_drewN | apply Kd.R_drew)); exact HO_10.out) gb734 (Nat.le_of_eq hg.symm)) hb); have n1_ := Aside0.mk (blk_below (g := gb729) (o := .cells #[.int .i64 a1_0, .int .i64 a1_1] 71 (0, 0)) (by (with_reducible repeat (first | refine blk_drewN ?_ _ | refine blk_drew ?_ | refine blk_alloc ?_ _)); exact BK729.out) hb); have n2_ := Aside0.mk (below_step (by repeat (first | (with_reducible first | exact HB.out | apply below_alloc | apply pw_below_drewN | apply below_drew1 | refine below_set ?_ GE729.out) | exact HB.out)) hb); have n3_ := Aside0.mk (hbox); have n4_ := Aside0.mk ((by rw [hg]; exact (below_size (by repeat (first | (with_reducible first | exact HB.out | apply below_alloc | apply pw_below_drewN | apply below_drew1 | refine below_set ?_ GE729.out) | exact HB.out))) : w.heap.size ≤ gb734)); have n5_ := Aside0.mk ((by rw [hg]; exact (below_size (by repeat (first | (with_reducible first | exact HB.out | apply below_alloc | apply pw_below_drewN | apply below_drew1 | refine below_set ?_ GE729.out) | exact HB.out))) : w.heap.size ≤ gb734)); have n6_ := Aside0.mk ((by rw [hg]; exact Nat.ne_of_lt (blk_lt (g := gb729) (o := .cells #[.int .i64 a1_0, .int .i64 a1_1] 71 (0, 0)) (by (with_reducible repeat (first | refine blk_drewN ?_ _ | refine blk_drew ?_ | refine blk_alloc ?_ _)); exact BK729.out)) : gb729 ≠ gb734)); have n7_ := Aside0.mk ((by rw [hg]; exact Nat.ne_of_gt (blk_lt (g := gb729) (o := .cells #[.int .i64 a1_0, .int .i64 a1_1] 71 (0, 0)) (by (with_reducible repeat (first | refine blk_drewN ?_ _ | refine blk_drew ?_ | refine blk_alloc ?_ _)); exact BK729.out)) : gb734 ≠ gb729)); clear HO_10; clear BK729; clear HB; have HO_10 := n0_; have BK729 := n1_; have HB := n2_; have BK734 := n3_; have GW734 := n4_; have GE734 := n5_; have NB729_734 := n6_; have NB734_729 := n7_; clear n0_ n1_ n2_ n3_ n4_ n5_ n6_ n7_; clear hb hbox hg; have hnb34 := NB734_729.out; have hnc34 := NB729_734.out; have hcz35_0 : w33.cell? ⟨gb734, 0, none⟩ = some (.int .i64 0) := (blk_cell BK734.out 0).trans rfl; have hcz35_1 : w33.cell? ⟨gb734, 1, none⟩ = some (.int .i64 0) := (blk_cell BK734.out 1).trans rfl; have hcz35_2 : w33.cell? ⟨gb734, 2, none⟩ = some (.int .i64 0) := (blk_cell BK734.out 2).trans rfl; have hcz35_3 : w33.cell? ⟨gb734, 3, none⟩ = some (.int .i64 0) := (blk_cell BK734.out 3).trans rfl; have hfz35_0 := blk_frozen BK734.out 0; have hfz35_1 := blk_frozen BK734.out 1; have hfz35_2 := blk_frozen BK734.out 2; have hfz35_3 := blk_frozen BK734.out 3; obtain ⟨i036, hi036, _, hsz36, _⟩ := info_parts info5; obtain ⟨A36, hcut36, hA36, hC36⟩ := print_mid_of (P := Tryd.prog) (Value.int .u8) 0 22 5 .i64 .i64 Tryd.underlying22 hi036 hsz36 A0 c0 l0 ((rd_T144 t730 a1_0).f0) ((rd_T144 t730 a1_0).f2) (of_decide_eq_true (by first | (with_reducible assumption) | assumption)) (by first | omega | exact of_decide_eq_true (by first | (with_reducible assumption) | assumption)) (of_decide_eq_true (by first | (with_reducible assumption) | assumption)) HC0.out; have HR735 := Aside0.mk (Kd.C_of_reads (h1 := fun _ => rfl) (hA36 _ (Kd.reads_of_C HR0.out))); have HC735 := Aside0.mk hC36; clear hA36 hC36 hi036 hsz36))
              have n0_ : Aside0 (Kd.R k144 144 ((((w33.setCell ⟨gb734, 0, none⟩ (.int .i64 ((rd_T144 t730 a1_0).f0))).setCell ⟨gb734, 1, none⟩ (.int .i64 ((rd_T144 t730 a1_0).f1))).setCell ⟨gb734, 2, none⟩ (.int .i64 ((rd_T144 t730 a1_0).f2))).setCell ⟨gb734, 3, none⟩ (.int .i64 ((rd_T144 t730 a1_0).f3))) w.heap.size (fun k_ => k_ ≠ gb734) (.slice (some ad733) t730.length co32) t730) := ⟨by (with_reducible repeat (first | apply Kd.R_alloc | apply Kd.R_drewN | apply Kd.R_drew)); exact Kd.R_mono (Kd.R_far (p := ⟨gb734, 3, none⟩) (Kd.R_far (p := ⟨gb734, 2, none⟩) (Kd.R_far (p := ⟨gb734, 1, none⟩) (Kd.R_far (p := ⟨gb734, 0, none⟩) (Kd.R_mono HO_10.out (fun k_ hk => (⟨hk, hk.2⟩ : _ ∧ k_ ≠ gb734))) (fun _ hk => hk.2) (.int .i64 ((rd_T144 t730 a1_0).f0))) (fun _ hk => hk.2) (.int .i64 ((rd_T144 t730 a1_0).f1))) (fun _ hk => hk.2) (.int .i64 ((rd_T144 t730 a1_0).f2))) (fun _ hk => hk.2) (.int .i64 ((rd_T144 t730 a1_0).f3))) (fun _ hk => hk.1.2)⟩
              have n1_ : Aside0 (((((w33.setCell ⟨gb734, 0, none⟩ (.int .i64 ((rd_T144 t730 a1_0).f0))).setCell ⟨gb734, 1, none⟩ (.int .i64 ((rd_T144 t730 a1_0).f1))).setCell ⟨gb734, 2, none⟩ (.int .i64 ((rd_T144 t730 a1_0).f2))).setCell ⟨gb734, 3, none⟩ (.int .i64 ((rd_T144 t730 a1_0).f3))).heap[gb729]? = some (.cells #[.int .i64 a1_0, .int .i64 a1_1] 71 (0, 0))) := ⟨by (with_reducible repeat (first | refine blk_drewN ?_ _ | refine blk_drew ?_ | refine blk_alloc ?_ _)); refine blk_far ?_ NB729_734.out _; (with_reducible repeat (first | refine blk_drewN ?_ _ | refine blk_drew ?_ | refine blk_alloc ?_ _)); refine blk_far ?_ NB729_734.out _; (with_reducible repeat (first | refine blk_drewN ?_ _ | refine blk_drew ?_ | refine blk_alloc ?_ _)); refine blk_far ?_ NB729_734.out _; (with_reducible repeat (first | refine blk_drewN ?_ _ | refine blk_drew ?_ | refine blk_alloc ?_ _)); refine blk_far ?_ NB729_734.out _; (with_reducible repeat (first | refine blk_drewN ?_ _ | refine blk_drew ?_ | refine blk_alloc ?_ _)); exact BK729.out⟩
              have n2_ : Aside0 (((((w33.setCell ⟨gb734, 0, none⟩ (.int .i64 ((rd_T144 t730 a1_0).f0))).setCell ⟨gb734, 1, none⟩ (.int .i64 ((rd_T144 t730 a1_0).f1))).setCell ⟨gb734, 2, none⟩ (.int .i64 ((rd_T144 t730 a1_0).f2))).setCell ⟨gb734, 3, none⟩ (.int .i64 ((rd_T144 t730 a1_0).f3))).heap[gb734]? = some (.cells #[.int .i64 ((rd_T144 t730 a1_0).f0), .int .i64 ((rd_T144 t730 a1_0).f1), .int .i64 ((rd_T144 t730 a1_0).f2), .int .i64 ((rd_T144 t730 a1_0).f3)] 144 (0, 0))) := ⟨by (with_reducible repeat (first | refine blk_drewN ?_ _ | refine blk_drew ?_ | refine blk_alloc ?_ _)); refine blk_put (cs := #[.int .i64 ((rd_T144 t730 a1_0).f0), .int .i64 ((rd_T144 t730 a1_0).f1), .int .i64 ((rd_T144 t730 a1_0).f2), .int .i64 0]) ?_ 3 _ rfl; (with_reducible repeat (first | refine blk_drewN ?_ _ | refine blk_drew ?_ | refine blk_alloc ?_ _)); refine blk_put (cs := #[.int .i64 ((rd_T144 t730 a1_0).f0), .int .i64 ((rd_T144 t730 a1_0).f1), .int .i64 0, .int .i64 0]) ?_ 2 _ rfl; (with_reducible repeat (first | refine blk_drewN ?_ _ | refine blk_drew ?_ | refine blk_alloc ?_ _)); refine blk_put (cs := #[.int .i64 ((rd_T144 t730 a1_0).f0), .int .i64 0, .int .i64 0, .int .i64 0]) ?_ 1 _ rfl; (with_reducible repeat (first | refine blk_drewN ?_ _ | refine blk_drew ?_ | refine blk_alloc ?_ _)); refine blk_put (cs := #[.int .i64 0, .int .i64 0, .int .i64 0, .int .i64 0]) ?_ 0 _ rfl; (with_reducible repeat (first | refine blk_drewN ?_ _ | refine blk_drew ?_ | refine blk_alloc ?_ _)); exact BK734.out⟩
              have n3_ : Aside0 (Below w.heap.size w ((((w33.setCell ⟨gb734, 0, none⟩ (.int .i64 ((rd_T144 t730 a1_0).f0))).setCell ⟨gb734, 1, none⟩ (.int .i64 ((rd_T144 t730 a1_0).f1))).setCell ⟨gb734, 2, none⟩ (.int .i64 ((rd_T144 t730 a1_0).f2))).setCell ⟨gb734, 3, none⟩ (.int .i64 ((rd_T144 t730 a1_0).f3)))) := ⟨by repeat (first | (with_reducible first | exact HB.out | apply below_alloc | apply pw_below_drewN | apply below_drew1 | refine below_set ?_ GE729.out | refine below_set ?_ GE734.out) | exact HB.out)⟩
              (try clear HO_10)
              (try clear BK729)
              (try clear BK734)
              (try clear HB)
              generalize ((((w33.setCell ⟨gb734, 0, none⟩ (.int .i64 ((rd_T144 t730 a1_0).f0))).setCell ⟨gb734, 1, none⟩ (.int .i64 ((rd_T144 t730 a1_0).f1))).setCell ⟨gb734, 2, none⟩ (.int .i64 ((rd_T144 t730 a1_0).f2))).setCell ⟨gb734, 3, none⟩ (.int .i64 ((rd_T144 t730 a1_0).f3))) = w37 at n0_ n1_ n2_ n3_ ⊢
              have HO_10 := n0_
              have BK729 := n1_
              have BK734 := n2_
              have HB := n3_
              clear n0_ n1_ n2_ n3_
              have n0_ := Aside0.mk (Kd.R_drew HO_10.out)
              have n1_ := Aside0.mk (blk_drew BK729.out)
              have n2_ := Aside0.mk (blk_drew BK734.out)
              have n3_ := Aside0.mk (below_drew1 HB.out)
              clear HO_10
              clear BK729
              clear BK734
              clear HB
              have HO_10 := n0_
              have BK729 := n1_
              have BK734 := n2_
              have HB := n3_
              clear n0_ n1_ n2_ n3_
              refine start_ (n := 6) (S := fun w' => w'.cell? ⟨gb729, 0, none⟩ = some (.int .i64 a1_0) ∧ w'.cell? ⟨gb729, 1, none⟩ = some (.int .i64 a1_1)) (ds := []) #[false, false, false, false, false, false] (by kernel_rfl) rfl rfl ⟨(blk_cell BK729.out 0).trans rfl, (blk_cell BK729.out 1).trans rfl⟩ (fun hHeld => ?_)
              generalize w37.drew = w38 at HO_10 BK729 BK734 HB hHeld ⊢
              refine pure_ (i := 0) (N := some 57) (v := ?_) (a' := ?_) #[true, false, false, false, false, false] rfl rfl (by kernel_rfl) (fun _ _ _ h => h) (Or.inl ⟨by rfl, ?_⟩) ?_ ?_
              rotate_left
              ·
               intro w'
               go_simp
               with_reducible rfl
              rotate_left
              ·
               simp only [Act.put, List.setIfInBounds_toArray, List.set_cons_zero, List.set_cons_succ, i64_w, i32_w]
               rfl
              refine pure_ (i := 2) (N := some 59) (v := ?_) (a' := ?_) #[true, false, true, false, false, false] rfl rfl (by kernel_rfl) (fun _ _ _ h => h) (Or.inl ⟨by rfl, ?_⟩) ?_ ?_
              rotate_left
              ·
               intro w'
               go_simp
               with_reducible rfl
              rotate_left
              ·
               simp only [Act.put, List.setIfInBounds_toArray, List.set_cons_zero, List.set_cons_succ, i64_w, i32_w]
               rfl
              refine pure_ (i := 3) (N := some 60) (v := ?_) (a' := ?_) #[true, false, true, true, false, false] rfl rfl (by kernel_rfl) (fun _ _ _ h => h) (Or.inl ⟨by rfl, ?_⟩) ?_ ?_
              rotate_left
              ·
               intro w'
               go_simp
               with_reducible rfl
              rotate_left
              ·
               simp only [Act.put, List.setIfInBounds_toArray, List.set_cons_zero, List.set_cons_succ, i64_w, i32_w]
               rfl
              refine take_ (i := 1) (N := some 58) (v := ?_) (a' := ?_) #[true, true, true, true, false, false] rfl rfl (by kernel_rfl) (fun _ _ _ h => h) (Or.inl ⟨by rfl, ?_⟩) hHeld ?_ ?_
              rotate_left
              ·
               rintro w' ⟨s0, s1⟩
               go_simp
               with_reducible rfl
              rotate_left
              ·
               simp only [Act.put, List.setIfInBounds_toArray, List.set_cons_zero, List.set_cons_succ, i64_w, i32_w]
               rfl
              refine one_ (i := 4) (N := some 61) #[true, true, true, true, true, false] rfl rfl (by kernel_rfl) (by decide) (fun K hK => ?_)
              refine goes_ Tryd.func103 (by kernel_rfl) rfl #[.slice A36 ((l0.take (((rd_T144 t730 a1_0).f2) : Int).toNat).drop (((rd_T144 t730 a1_0).f0) : Int).toNat).length (c0 - ((rd_T144 t730 a1_0).f0).toNat), .int .i64 a2] (by rfl) rfl rfl (by (try simp only [List.map_toArray, List.map_cons, List.map_nil]); first | done | (rw [show ((l0.take (((rd_T144 t730 a1_0).f2) : Int).toNat).drop (((rd_T144 t730 a1_0).f0) : Int).toNat).length = (((rd_T144 t730 a1_0).f2).toNat - ((rd_T144 t730 a1_0).f0).toNat) from (by rw [List.length_drop, List.length_take]; have h_ : (((rd_T144 t730 a1_0).f2) : Int) ≤ (l0.length : Int) := of_decide_eq_true (by first | (with_reducible assumption) | assumption); omega)] <;> rfl) | rfl | (simp only [List.length_drop, List.length_take]; rfl)) ?_
              with_reducible refine (lines_size.calls _ _ ((l0.take (((rd_T144 t730 a1_0).f2) : Int).toNat).drop (((rd_T144 t730 a1_0).f0) : Int).toNat) a2 t736 _ ?side1 ?side2 ?side3 A27.out).mono ?_
              (case side1 => repeat (first | exact (Kd.C_below HR735.out HB.out) | (with_reducible refine Kd.C_alloc ?_ _) | (with_reducible refine Kd.C_drewN ?_ _) | (with_reducible refine Kd.C_drew ?_)))
              (case side2 => exact HC735.out)
              (case side3 => repeat (first | exact HG.out | exact Laid.below HG.out HB.out | (with_reducible refine Laid.alloc ?_ _) | (with_reducible refine Laid.drewN ?_ _) | (with_reducible refine Laid.drew ?_)))
              rintro e w39 ⟨rfl, hb⟩
              refine ⟨_, rfl, ?_⟩
              have n0_ := Aside0.mk (Kd.R_below (by (with_reducible repeat (first | apply Kd.R_alloc | apply Kd.R_drewN | apply Kd.R_drew)); exact HO_10.out) hb)
              have n1_ := Aside0.mk (blk_below (g := gb729) (o := .cells #[.int .i64 a1_0, .int .i64 a1_1] 71 (0, 0)) (by (with_reducible repeat (first | refine blk_drewN ?_ _ | refine blk_drew ?_ | refine blk_alloc ?_ _)); exact BK729.out) hb)
              have n2_ := Aside0.mk (blk_below (g := gb734) (o := .cells #[.int .i64 ((rd_T144 t730 a1_0).f0), .int .i64 ((rd_T144 t730 a1_0).f1), .int .i64 ((rd_T144 t730 a1_0).f2), .int .i64 ((rd_T144 t730 a1_0).f3)] 144 (0, 0)) (by (with_reducible repeat (first | refine blk_drewN ?_ _ | refine blk_drew ?_ | refine blk_alloc ?_ _)); exact BK734.out) hb)
              have n3_ := Aside0.mk (below_step (by repeat (first | (with_reducible first | exact HB.out | apply below_alloc | apply pw_below_drewN | apply below_drew1 | refine below_set ?_ GE729.out | refine below_set ?_ GE734.out) | exact HB.out)) hb)
              clear HO_10
              clear BK729
              clear BK734
              clear HB
              have HO_10 := n0_
              have BK729 := n1_
              have BK734 := n2_
              have HB := n3_
              clear n0_ n1_ n2_ n3_
              (try clear hb)
              (try clear hb2)
              (try clear hk)
              (try clear hi)
              refine hK.out _ _ ⟨(blk_cell BK729.out 0).trans rfl, (blk_cell BK729.out 1).trans rfl⟩ (fun hHeld => ?_)
              clear hK K
              refine norm_ (a' := ?_) ?_ ?_
              rotate_left
              ·
               show Act.put _ (some 61) _ = _
               simp only [Act.put, List.setIfInBounds_toArray, List.set_cons_zero, List.set_cons_succ, i64_w, i32_w]
               rfl
              refine pure_ (i := 5) (N := some 62) (v := ?_) (a' := ?_) #[true, true, true, true, true, true] rfl rfl (by kernel_rfl) (fun _ _ _ h => h) (Or.inl ⟨by rfl, ?_⟩) ?_ ?_
              rotate_left
              ·
               intro w'
               go_simp
               with_reducible rfl
              rotate_left
              ·
               simp only [Act.put, List.setIfInBounds_toArray, List.set_cons_zero, List.set_cons_succ, i64_w, i32_w]
               rfl
              refine done_ (by kernel_rfl) ?_
              have hcz40_0 : w39.cell? ⟨gb729, 0, none⟩ = some (.int .i64 a1_0) := (blk_cell BK729.out 0).trans rfl
              have hcz40_1 : w39.cell? ⟨gb729, 1, none⟩ = some (.int .i64 a1_1) := (blk_cell BK729.out 1).trans rfl
              have hfz40_0 := blk_frozen BK729.out 0
              have hfz40_1 := blk_frozen BK729.out 1
              try go_wp2_with (first | ((with_reducible refine gate_callee (f := 37) rfl ?_); refine goesL_ (some 69) rfl rfl Tryd.func37 (by kernel_rfl) rfl #[.slice A36 ((l0.take (((rd_T144 t730 a1_0).f2) : Int).toNat).drop (((rd_T144 t730 a1_0).f0) : Int).toNat).length (c0 - ((rd_T144 t730 a1_0).f0).toNat), .int .i64 a2, .int .i64 a1_1, .int .i64 1, .int .i64 a3] rfl (by (try simp only [List.map_toArray, List.map_cons, List.map_nil]); first | done | (rw [show ((l0.take (((rd_T144 t730 a1_0).f2) : Int).toNat).drop (((rd_T144 t730 a1_0).f0) : Int).toNat).length = (((rd_T144 t730 a1_0).f2).toNat - ((rd_T144 t730 a1_0).f0).toNat) from (by rw [List.length_drop, List.length_take]; have h_ : (((rd_T144 t730 a1_0).f2) : Int) ≤ (l0.length : Int) := of_decide_eq_true (by first | (with_reducible assumption) | assumption); omega)] <;> rfl) | rfl | (simp only [List.length_drop, List.length_take]; rfl)) ?_; (with_reducible refine (rule_To.calls _ _ ((l0.take (((rd_T144 t730 a1_0).f2) : Int).toNat).drop (((rd_T144 t730 a1_0).f0) : Int).toNat) a2 a1_1 1 a3 t737 t738 _ ?side1 ?side2 ?side3 A29.out).mono ?_); (case side1 => repeat (first | exact (Kd.C_below HR735.out HB.out) | (with_reducible refine Kd.C_alloc ?_ _) | (with_reducible refine Kd.C_drewN ?_ _) | (with_reducible refine Kd.C_drew ?_))); (case side2 => exact HC735.out); (case side3 => repeat (first | exact HG.out | exact Laid.below HG.out HB.out | (with_reducible refine Laid.alloc ?_ _) | (with_reducible refine Laid.drewN ?_ _) | (with_reducible refine Laid.drew ?_))); rintro e w41 ⟨rfl, hb⟩; refine ⟨_, rfl, ?_⟩; have n0_ := Aside0.mk (Kd.R_below (by (with_reducible repeat (first | apply Kd.R_alloc | apply Kd.R_drewN | apply Kd.R_drew)); exact HO_10.out) hb); have n1_ := Aside0.mk (blk_below (g := gb729) (o := .cells #[.int .i64 a1_0, .int .i64 a1_1] 71 (0, 0)) (by (with_reducible repeat (first | refine blk_drewN ?_ _ | refine blk_drew ?_ | refine blk_alloc ?_ _)); exact BK729.out) hb); have n2_ := Aside0.mk (blk_below (g := gb734) (o := .cells #[.int .i64 ((rd_T144 t730 a1_0).f0), .int .i64 ((rd_T144 t730 a1_0).f1), .int .i64 ((rd_T144 t730 a1_0).f2), .int .i64 ((rd_T144 t730 a1_0).f3)] 144 (0, 0)) (by (with_reducible repeat (first | refine blk_drewN ?_ _ | refine blk_drew ?_ | refine blk_alloc ?_ _)); exact BK734.out) hb); have n3_ := Aside0.mk (below_step (by repeat (first | (with_reducible first | exact HB.out | apply below_alloc | apply pw_below_drewN | apply below_drew1 | refine below_set ?_ GE729.out | refine below_set ?_ GE734.out) | exact HB.out)) hb); clear HO_10; clear BK729; clear BK734; clear HB; have HO_10 := n0_; have BK729 := n1_; have BK734 := n2_; have HB := n3_; clear n0_ n1_ n2_ n3_; (try clear hb); (try clear hb2); (try clear hk); (try clear hi); have hcz42_0 : w41.cell? ⟨gb734, 0, none⟩ = some (.int .i64 ((rd_T144 t730 a1_0).f0)) := (blk_cell BK734.out 0).trans rfl; have hcz42_1 : w41.cell? ⟨gb734, 1, none⟩ = some (.int .i64 ((rd_T144 t730 a1_0).f1)) := (blk_cell BK734.out 1).trans rfl; have hcz42_2 : w41.cell? ⟨gb734, 2, none⟩ = some (.int .i64 ((rd_T144 t730 a1_0).f2)) := (blk_cell BK734.out 2).trans rfl; have hcz42_3 : w41.cell? ⟨gb734, 3, none⟩ = some (.int .i64 ((rd_T144 t730 a1_0).f3)) := (blk_cell BK734.out 3).trans rfl; have hfz42_0 := blk_frozen BK734.out 0; have hfz42_1 := blk_frozen BK734.out 1; have hfz42_2 := blk_frozen BK734.out 2; have hfz42_3 := blk_frozen BK734.out 3))
              go_ret2
              exact ⟨by first | rfl | (simp [errW_none, errW_some] <;> rfl) | (simp [*, errW_none, errW_some] <;> rfl), by repeat (first | (with_reducible first | exact HB.out | apply below_alloc | apply pw_below_drewN | apply below_drew1 | refine below_set ?_ GE729.out | refine below_set ?_ GE734.out) | exact HB.out)⟩
             ·
              rw [if_neg c30] at H
              have c30b0 : (t738 == 0) = false := beq_eq_false_iff_ne.mpr c30
              have c30b1 : (t738 != 0) = true := bne_iff_ne.mpr c30
              simp only [Option.some.injEq, Prod.mk.injEq] at H
              obtain ⟨rfl, rfl⟩ := H
              have hcz43_0 : wc.cell? ⟨gb729, 0, none⟩ = some (.int .i64 a1_0) := (blk_cell BK729.out 0).trans rfl
              have hcz43_1 : wc.cell? ⟨gb729, 1, none⟩ = some (.int .i64 a1_1) := (blk_cell BK729.out 1).trans rfl
              have hfz43_0 := blk_frozen BK729.out 0
              have hfz43_1 := blk_frozen BK729.out 1
              obtain ⟨Ao44, co44, eo44⟩ := Kd.R_slice HO_10.out
              subst eo44
              have p733 : 0 ≤ (a1_0 : Int) := of_decide_eq_true (by first | (with_reducible assumption) | assumption)
              have q733 : a1_0 < (t730.length : Int) := of_decide_eq_true (by first | (with_reducible assumption) | assumption)
              obtain ⟨ad733, e733, hx733_0, hx733_1, hx733_2, hx733_3⟩ := at_T144 (Kd.R_reads' HO_10.out).2.2 a1_0 p733 q733
              cases e733
              replace p733 := eq_true p733
              replace q733 := eq_true q733
              try go_wp2_with (first | ((with_reducible refine gate_dst (N := 11) rfl ?_); (try (refine gate_guard (by rfl) ?_; dsimp only)); refine box_event ?hg (N := 11) ?hd (cs := #[.int .i64 0, .int .i64 0, .int .i64 0, .int .i64 0]) (t := 144) ?hr ?_; (case hd => rfl); (case hg => rfl); (case hr => first | (go_simp; done) | (go_simp; rfl)); intro gb734 hg w45 hbox hb; have n0_ := Aside0.mk (Kd.R_below (Kd.R_elderB (by (with_reducible repeat (first | apply Kd.R_alloc | apply Kd.R_drewN | apply Kd.R_drew)); exact HO_10.out) gb734 (Nat.le_of_eq hg.symm)) hb); have n1_ := Aside0.mk (blk_below (g := gb729) (o := .cells #[.int .i64 a1_0, .int .i64 a1_1] 71 (0, 0)) (by (with_reducible repeat (first | refine blk_drewN ?_ _ | refine blk_drew ?_ | refine blk_alloc ?_ _)); exact BK729.out) hb); have n2_ := Aside0.mk (below_step (by repeat (first | (with_reducible first | exact HB.out | apply below_alloc | apply pw_below_drewN | apply below_drew1 | refine below_set ?_ GE729.out) | exact HB.out)) hb); have n3_ := Aside0.mk (hbox); have n4_ := Aside0.mk ((by rw [hg]; exact (below_size (by repeat (first | (with_reducible first | exact HB.out | apply below_alloc | apply pw_below_drewN | apply below_drew1 | refine below_set ?_ GE729.out) | exact HB.out))) : w.heap.size ≤ gb734)); have n5_ := Aside0.mk ((by rw [hg]; exact (below_size (by repeat (first | (with_reducible first | exact HB.out | apply below_alloc | apply pw_below_drewN | apply below_drew1 | refine below_set ?_ GE729.out) | exact HB.out))) : w.heap.size ≤ gb734)); have n6_ := Aside0.mk ((by rw [hg]; exact Nat.ne_of_lt (blk_lt (g := gb729) (o := .cells #[.int .i64 a1_0, .int .i64 a1_1] 71 (0, 0)) (by (with_reducible repeat (first | refine blk_drewN ?_ _ | refine blk_drew ?_ | refine blk_alloc ?_ _)); exact BK729.out)) : gb729 ≠ gb734)); have n7_ := Aside0.mk ((by rw [hg]; exact Nat.ne_of_gt (blk_lt (g := gb729) (o := .cells #[.int .i64 a1_0, .int .i64 a1_1] 71 (0, 0)) (by (with_reducible repeat (first | refine blk_drewN ?_ _ | refine blk_drew ?_ | refine blk_alloc ?_ _)); exact BK729.out)) : gb734 ≠ gb729)); clear HO_10; clear BK729; clear HB; have HO_10 := n0_; have BK729 := n1_; have HB := n2_; have BK734 := n3_; have GW734 := n4_; have GE734 := n5_; have NB729_734 := n6_; have NB734_729 := n7_; clear n0_ n1_ n2_ n3_ n4_ n5_ n6_ n7_; clear hb hbox hg; have hnb46 := NB734_729.out; have hnc46 := NB729_734.out; have hcz47_0 : w45.cell? ⟨gb734, 0, none⟩ = some (.int .i64 0) := (blk_cell BK734.out 0).trans rfl; have hcz47_1 : w45.cell? ⟨gb734, 1, none⟩ = some (.int .i64 0) := (blk_cell BK734.out 1).trans rfl; have hcz47_2 : w45.cell? ⟨gb734, 2, none⟩ = some (.int .i64 0) := (blk_cell BK734.out 2).trans rfl; have hcz47_3 : w45.cell? ⟨gb734, 3, none⟩ = some (.int .i64 0) := (blk_cell BK734.out 3).trans rfl; have hfz47_0 := blk_frozen BK734.out 0; have hfz47_1 := blk_frozen BK734.out 1; have hfz47_2 := blk_frozen BK734.out 2; have hfz47_3 := blk_frozen BK734.out 3; obtain ⟨i048, hi048, _, hsz48, _⟩ := info_parts info5; obtain ⟨A48, hcut48, hA48, hC48⟩ := print_mid_of (P := Tryd.prog) (Value.int .u8) 0 22 5 .i64 .i64 Tryd.underlying22 hi048 hsz48 A0 c0 l0 ((rd_T144 t730 a1_0).f0) ((rd_T144 t730 a1_0).f2) (of_decide_eq_true (by first | (with_reducible assumption) | assumption)) (by first | omega | exact of_decide_eq_true (by first | (with_reducible assumption) | assumption)) (of_decide_eq_true (by first | (with_reducible assumption) | assumption)) HC0.out; have HR735 := Aside0.mk (Kd.C_of_reads (h1 := fun _ => rfl) (hA48 _ (Kd.reads_of_C HR0.out))); have HC735 := Aside0.mk hC48; clear hA48 hC48 hi048 hsz48))
              have n0_ : Aside0 (Kd.R k144 144 ((((w45.setCell ⟨gb734, 0, none⟩ (.int .i64 ((rd_T144 t730 a1_0).f0))).setCell ⟨gb734, 1, none⟩ (.int .i64 ((rd_T144 t730 a1_0).f1))).setCell ⟨gb734, 2, none⟩ (.int .i64 ((rd_T144 t730 a1_0).f2))).setCell ⟨gb734, 3, none⟩ (.int .i64 ((rd_T144 t730 a1_0).f3))) w.heap.size (fun k_ => k_ ≠ gb734) (.slice (some ad733) t730.length co44) t730) := ⟨by (with_reducible repeat (first | apply Kd.R_alloc | apply Kd.R_drewN | apply Kd.R_drew)); exact Kd.R_mono (Kd.R_far (p := ⟨gb734, 3, none⟩) (Kd.R_far (p := ⟨gb734, 2, none⟩) (Kd.R_far (p := ⟨gb734, 1, none⟩) (Kd.R_far (p := ⟨gb734, 0, none⟩) (Kd.R_mono HO_10.out (fun k_ hk => (⟨hk, hk.2⟩ : _ ∧ k_ ≠ gb734))) (fun _ hk => hk.2) (.int .i64 ((rd_T144 t730 a1_0).f0))) (fun _ hk => hk.2) (.int .i64 ((rd_T144 t730 a1_0).f1))) (fun _ hk => hk.2) (.int .i64 ((rd_T144 t730 a1_0).f2))) (fun _ hk => hk.2) (.int .i64 ((rd_T144 t730 a1_0).f3))) (fun _ hk => hk.1.2)⟩
              have n1_ : Aside0 (((((w45.setCell ⟨gb734, 0, none⟩ (.int .i64 ((rd_T144 t730 a1_0).f0))).setCell ⟨gb734, 1, none⟩ (.int .i64 ((rd_T144 t730 a1_0).f1))).setCell ⟨gb734, 2, none⟩ (.int .i64 ((rd_T144 t730 a1_0).f2))).setCell ⟨gb734, 3, none⟩ (.int .i64 ((rd_T144 t730 a1_0).f3))).heap[gb729]? = some (.cells #[.int .i64 a1_0, .int .i64 a1_1] 71 (0, 0))) := ⟨by (with_reducible repeat (first | refine blk_drewN ?_ _ | refine blk_drew ?_ | refine blk_alloc ?_ _)); refine blk_far ?_ NB729_734.out _; (with_reducible repeat (first | refine blk_drewN ?_ _ | refine blk_drew ?_ | refine blk_alloc ?_ _)); refine blk_far ?_ NB729_734.out _; (with_reducible repeat (first | refine blk_drewN ?_ _ | refine blk_drew ?_ | refine blk_alloc ?_ _)); refine blk_far ?_ NB729_734.out _; (with_reducible repeat (first | refine blk_drewN ?_ _ | refine blk_drew ?_ | refine blk_alloc ?_ _)); refine blk_far ?_ NB729_734.out _; (with_reducible repeat (first | refine blk_drewN ?_ _ | refine blk_drew ?_ | refine blk_alloc ?_ _)); exact BK729.out⟩
              have n2_ : Aside0 (((((w45.setCell ⟨gb734, 0, none⟩ (.int .i64 ((rd_T144 t730 a1_0).f0))).setCell ⟨gb734, 1, none⟩ (.int .i64 ((rd_T144 t730 a1_0).f1))).setCell ⟨gb734, 2, none⟩ (.int .i64 ((rd_T144 t730 a1_0).f2))).setCell ⟨gb734, 3, none⟩ (.int .i64 ((rd_T144 t730 a1_0).f3))).heap[gb734]? = some (.cells #[.int .i64 ((rd_T144 t730 a1_0).f0), .int .i64 ((rd_T144 t730 a1_0).f1), .int .i64 ((rd_T144 t730 a1_0).f2), .int .i64 ((rd_T144 t730 a1_0).f3)] 144 (0, 0))) := ⟨by (with_reducible repeat (first | refine blk_drewN ?_ _ | refine blk_drew ?_ | refine blk_alloc ?_ _)); refine blk_put (cs := #[.int .i64 ((rd_T144 t730 a1_0).f0), .int .i64 ((rd_T144 t730 a1_0).f1), .int .i64 ((rd_T144 t730 a1_0).f2), .int .i64 0]) ?_ 3 _ rfl; (with_reducible repeat (first | refine blk_drewN ?_ _ | refine blk_drew ?_ | refine blk_alloc ?_ _)); refine blk_put (cs := #[.int .i64 ((rd_T144 t730 a1_0).f0), .int .i64 ((rd_T144 t730 a1_0).f1), .int .i64 0, .int .i64 0]) ?_ 2 _ rfl; (with_reducible repeat (first | refine blk_drewN ?_ _ | refine blk_drew ?_ | refine blk_alloc ?_ _)); refine blk_put (cs := #[.int .i64 ((rd_T144 t730 a1_0).f0), .int .i64 0, .int .i64 0, .int .i64 0]) ?_ 1 _ rfl; (with_reducible repeat (first | refine blk_drewN ?_ _ | refine blk_drew ?_ | refine blk_alloc ?_ _)); refine blk_put (cs := #[.int .i64 0, .int .i64 0, .int .i64 0, .int .i64 0]) ?_ 0 _ rfl; (with_reducible repeat (first | refine blk_drewN ?_ _ | refine blk_drew ?_ | refine blk_alloc ?_ _)); exact BK734.out⟩
              have n3_ : Aside0 (Below w.heap.size w ((((w45.setCell ⟨gb734, 0, none⟩ (.int .i64 ((rd_T144 t730 a1_0).f0))).setCell ⟨gb734, 1, none⟩ (.int .i64 ((rd_T144 t730 a1_0).f1))).setCell ⟨gb734, 2, none⟩ (.int .i64 ((rd_T144 t730 a1_0).f2))).setCell ⟨gb734, 3, none⟩ (.int .i64 ((rd_T144 t730 a1_0).f3)))) := ⟨by repeat (first | (with_reducible first | exact HB.out | apply below_alloc | apply pw_below_drewN | apply below_drew1 | refine below_set ?_ GE729.out | refine below_set ?_ GE734.out) | exact HB.out)⟩
              (try clear HO_10)
              (try clear BK729)
              (try clear BK734)
              (try clear HB)
              generalize ((((w45.setCell ⟨gb734, 0, none⟩ (.int .i64 ((rd_T144 t730 a1_0).f0))).setCell ⟨gb734, 1, none⟩ (.int .i64 ((rd_T144 t730 a1_0).f1))).setCell ⟨gb734, 2, none⟩ (.int .i64 ((rd_T144 t730 a1_0).f2))).setCell ⟨gb734, 3, none⟩ (.int .i64 ((rd_T144 t730 a1_0).f3))) = w49 at n0_ n1_ n2_ n3_ ⊢
              have HO_10 := n0_
              have BK729 := n1_
              have BK734 := n2_
              have HB := n3_
              clear n0_ n1_ n2_ n3_
              have n0_ := Aside0.mk (Kd.R_drew HO_10.out)
              have n1_ := Aside0.mk (blk_drew BK729.out)
              have n2_ := Aside0.mk (blk_drew BK734.out)
              have n3_ := Aside0.mk (below_drew1 HB.out)
              clear HO_10
              clear BK729
              clear BK734
              clear HB
              have HO_10 := n0_
              have BK729 := n1_
              have BK734 := n2_
              have HB := n3_
              clear n0_ n1_ n2_ n3_
              refine start_ (n := 6) (S := fun w' => w'.cell? ⟨gb729, 0, none⟩ = some (.int .i64 a1_0) ∧ w'.cell? ⟨gb729, 1, none⟩ = some (.int .i64 a1_1)) (ds := []) #[false, false, false, false, false, false] (by kernel_rfl) rfl rfl ⟨(blk_cell BK729.out 0).trans rfl, (blk_cell BK729.out 1).trans rfl⟩ (fun hHeld => ?_)
              generalize w49.drew = w50 at HO_10 BK729 BK734 HB hHeld ⊢
              refine pure_ (i := 0) (N := some 57) (v := ?_) (a' := ?_) #[true, false, false, false, false, false] rfl rfl (by kernel_rfl) (fun _ _ _ h => h) (Or.inl ⟨by rfl, ?_⟩) ?_ ?_
              rotate_left
              ·
               intro w'
               go_simp
               with_reducible rfl
              rotate_left
              ·
               simp only [Act.put, List.setIfInBounds_toArray, List.set_cons_zero, List.set_cons_succ, i64_w, i32_w]
               rfl
              refine pure_ (i := 2) (N := some 59) (v := ?_) (a' := ?_) #[true, false, true, false, false, false] rfl rfl (by kernel_rfl) (fun _ _ _ h => h) (Or.inl ⟨by rfl, ?_⟩) ?_ ?_
              rotate_left
              ·
               intro w'
               go_simp
               with_reducible rfl
              rotate_left
              ·
               simp only [Act.put, List.setIfInBounds_toArray, List.set_cons_zero, List.set_cons_succ, i64_w, i32_w]
               rfl
              refine pure_ (i := 3) (N := some 60) (v := ?_) (a' := ?_) #[true, false, true, true, false, false] rfl rfl (by kernel_rfl) (fun _ _ _ h => h) (Or.inl ⟨by rfl, ?_⟩) ?_ ?_
              rotate_left
              ·
               intro w'
               go_simp
               with_reducible rfl
              rotate_left
              ·
               simp only [Act.put, List.setIfInBounds_toArray, List.set_cons_zero, List.set_cons_succ, i64_w, i32_w]
               rfl
              refine take_ (i := 1) (N := some 58) (v := ?_) (a' := ?_) #[true, true, true, true, false, false] rfl rfl (by kernel_rfl) (fun _ _ _ h => h) (Or.inl ⟨by rfl, ?_⟩) hHeld ?_ ?_
              rotate_left
              ·
               rintro w' ⟨s0, s1⟩
               go_simp
               with_reducible rfl
              rotate_left
              ·
               simp only [Act.put, List.setIfInBounds_toArray, List.set_cons_zero, List.set_cons_succ, i64_w, i32_w]
               rfl
              refine one_ (i := 4) (N := some 61) #[true, true, true, true, true, false] rfl rfl (by kernel_rfl) (by decide) (fun K hK => ?_)
              refine goes_ Tryd.func103 (by kernel_rfl) rfl #[.slice A48 ((l0.take (((rd_T144 t730 a1_0).f2) : Int).toNat).drop (((rd_T144 t730 a1_0).f0) : Int).toNat).length (c0 - ((rd_T144 t730 a1_0).f0).toNat), .int .i64 a2] (by rfl) rfl rfl (by (try simp only [List.map_toArray, List.map_cons, List.map_nil]); first | done | (rw [show ((l0.take (((rd_T144 t730 a1_0).f2) : Int).toNat).drop (((rd_T144 t730 a1_0).f0) : Int).toNat).length = (((rd_T144 t730 a1_0).f2).toNat - ((rd_T144 t730 a1_0).f0).toNat) from (by rw [List.length_drop, List.length_take]; have h_ : (((rd_T144 t730 a1_0).f2) : Int) ≤ (l0.length : Int) := of_decide_eq_true (by first | (with_reducible assumption) | assumption); omega)] <;> rfl) | rfl | (simp only [List.length_drop, List.length_take]; rfl)) ?_
              with_reducible refine (lines_size.calls _ _ ((l0.take (((rd_T144 t730 a1_0).f2) : Int).toNat).drop (((rd_T144 t730 a1_0).f0) : Int).toNat) a2 t736 _ ?side1 ?side2 ?side3 A27.out).mono ?_
              (case side1 => repeat (first | exact (Kd.C_below HR735.out HB.out) | (with_reducible refine Kd.C_alloc ?_ _) | (with_reducible refine Kd.C_drewN ?_ _) | (with_reducible refine Kd.C_drew ?_)))
              (case side2 => exact HC735.out)
              (case side3 => repeat (first | exact HG.out | exact Laid.below HG.out HB.out | (with_reducible refine Laid.alloc ?_ _) | (with_reducible refine Laid.drewN ?_ _) | (with_reducible refine Laid.drew ?_)))
              rintro e w51 ⟨rfl, hb⟩
              refine ⟨_, rfl, ?_⟩
              have n0_ := Aside0.mk (Kd.R_below (by (with_reducible repeat (first | apply Kd.R_alloc | apply Kd.R_drewN | apply Kd.R_drew)); exact HO_10.out) hb)
              have n1_ := Aside0.mk (blk_below (g := gb729) (o := .cells #[.int .i64 a1_0, .int .i64 a1_1] 71 (0, 0)) (by (with_reducible repeat (first | refine blk_drewN ?_ _ | refine blk_drew ?_ | refine blk_alloc ?_ _)); exact BK729.out) hb)
              have n2_ := Aside0.mk (blk_below (g := gb734) (o := .cells #[.int .i64 ((rd_T144 t730 a1_0).f0), .int .i64 ((rd_T144 t730 a1_0).f1), .int .i64 ((rd_T144 t730 a1_0).f2), .int .i64 ((rd_T144 t730 a1_0).f3)] 144 (0, 0)) (by (with_reducible repeat (first | refine blk_drewN ?_ _ | refine blk_drew ?_ | refine blk_alloc ?_ _)); exact BK734.out) hb)
              have n3_ := Aside0.mk (below_step (by repeat (first | (with_reducible first | exact HB.out | apply below_alloc | apply pw_below_drewN | apply below_drew1 | refine below_set ?_ GE729.out | refine below_set ?_ GE734.out) | exact HB.out)) hb)
              clear HO_10
              clear BK729
              clear BK734
              clear HB
              have HO_10 := n0_
              have BK729 := n1_
              have BK734 := n2_
              have HB := n3_
              clear n0_ n1_ n2_ n3_
              (try clear hb)
              (try clear hb2)
              (try clear hk)
              (try clear hi)
              refine hK.out _ _ ⟨(blk_cell BK729.out 0).trans rfl, (blk_cell BK729.out 1).trans rfl⟩ (fun hHeld => ?_)
              clear hK K
              refine norm_ (a' := ?_) ?_ ?_
              rotate_left
              ·
               show Act.put _ (some 61) _ = _
               simp only [Act.put, List.setIfInBounds_toArray, List.set_cons_zero, List.set_cons_succ, i64_w, i32_w]
               rfl
              refine pure_ (i := 5) (N := some 62) (v := ?_) (a' := ?_) #[true, true, true, true, true, true] rfl rfl (by kernel_rfl) (fun _ _ _ h => h) (Or.inl ⟨by rfl, ?_⟩) ?_ ?_
              rotate_left
              ·
               intro w'
               go_simp
               with_reducible rfl
              rotate_left
              ·
               simp only [Act.put, List.setIfInBounds_toArray, List.set_cons_zero, List.set_cons_succ, i64_w, i32_w]
               rfl
              refine done_ (by kernel_rfl) ?_
              have hcz52_0 : w51.cell? ⟨gb729, 0, none⟩ = some (.int .i64 a1_0) := (blk_cell BK729.out 0).trans rfl
              have hcz52_1 : w51.cell? ⟨gb729, 1, none⟩ = some (.int .i64 a1_1) := (blk_cell BK729.out 1).trans rfl
              have hfz52_0 := blk_frozen BK729.out 0
              have hfz52_1 := blk_frozen BK729.out 1
              try go_wp2_with (first | ((with_reducible refine gate_callee (f := 37) rfl ?_); refine goesL_ (some 69) rfl rfl Tryd.func37 (by kernel_rfl) rfl #[.slice A48 ((l0.take (((rd_T144 t730 a1_0).f2) : Int).toNat).drop (((rd_T144 t730 a1_0).f0) : Int).toNat).length (c0 - ((rd_T144 t730 a1_0).f0).toNat), .int .i64 a2, .int .i64 a1_1, .int .i64 1, .int .i64 a3] rfl (by (try simp only [List.map_toArray, List.map_cons, List.map_nil]); first | done | (rw [show ((l0.take (((rd_T144 t730 a1_0).f2) : Int).toNat).drop (((rd_T144 t730 a1_0).f0) : Int).toNat).length = (((rd_T144 t730 a1_0).f2).toNat - ((rd_T144 t730 a1_0).f0).toNat) from (by rw [List.length_drop, List.length_take]; have h_ : (((rd_T144 t730 a1_0).f2) : Int) ≤ (l0.length : Int) := of_decide_eq_true (by first | (with_reducible assumption) | assumption); omega)] <;> rfl) | rfl | (simp only [List.length_drop, List.length_take]; rfl)) ?_; (with_reducible refine (rule_To.calls _ _ ((l0.take (((rd_T144 t730 a1_0).f2) : Int).toNat).drop (((rd_T144 t730 a1_0).f0) : Int).toNat) a2 a1_1 1 a3 t737 t738 _ ?side1 ?side2 ?side3 A29.out).mono ?_); (case side1 => repeat (first | exact (Kd.C_below HR735.out HB.out) | (with_reducible refine Kd.C_alloc ?_ _) | (with_reducible refine Kd.C_drewN ?_ _) | (with_reducible refine Kd.C_drew ?_))); (case side2 => exact HC735.out); (case side3 => repeat (first | exact HG.out | exact Laid.below HG.out HB.out | (with_reducible refine Laid.alloc ?_ _) | (with_reducible refine Laid.drewN ?_ _) | (with_reducible refine Laid.drew ?_))); rintro e w53 ⟨rfl, hb⟩; refine ⟨_, rfl, ?_⟩; have n0_ := Aside0.mk (Kd.R_below (by (with_reducible repeat (first | apply Kd.R_alloc | apply Kd.R_drewN | apply Kd.R_drew)); exact HO_10.out) hb); have n1_ := Aside0.mk (blk_below (g := gb729) (o := .cells #[.int .i64 a1_0, .int .i64 a1_1] 71 (0, 0)) (by (with_reducible repeat (first | refine blk_drewN ?_ _ | refine blk_drew ?_ | refine blk_alloc ?_ _)); exact BK729.out) hb); have n2_ := Aside0.mk (blk_below (g := gb734) (o := .cells #[.int .i64 ((rd_T144 t730 a1_0).f0), .int .i64 ((rd_T144 t730 a1_0).f1), .int .i64 ((rd_T144 t730 a1_0).f2), .int .i64 ((rd_T144 t730 a1_0).f3)] 144 (0, 0)) (by (with_reducible repeat (first | refine blk_drewN ?_ _ | refine blk_drew ?_ | refine blk_alloc ?_ _)); exact BK734.out) hb); have n3_ := Aside0.mk (below_step (by repeat (first | (with_reducible first | exact HB.out | apply below_alloc | apply pw_below_drewN | apply below_drew1 | refine below_set ?_ GE729.out | refine below_set ?_ GE734.out) | exact HB.out)) hb); clear HO_10; clear BK729; clear BK734; clear HB; have HO_10 := n0_; have BK729 := n1_; have BK734 := n2_; have HB := n3_; clear n0_ n1_ n2_ n3_; (try clear hb); (try clear hb2); (try clear hk); (try clear hi)))
              go_ret2
              exact ⟨by first | rfl | (simp [errW_none, errW_some] <;> rfl) | (simp [*, errW_none, errW_some] <;> rfl), by repeat (first | (with_reducible first | exact HB.out | apply below_alloc | apply pw_below_drewN | apply below_drew1 | refine below_set ?_ GE729.out | refine below_set ?_ GE734.out) | exact HB.out)⟩
            ·
             rw [if_neg c28] at H
             have c28b0 : decide (a1_1 ≤ t736) = false := decide_eq_false c28
             clear c28
             by_cases c54 : a3 = 3
             ·
              rw [if_pos c54] at H
              have c54b0 : (a3 == 3) = true := beq_iff_eq.mpr c54
              have c54b1 : (a3 != 3) = false := bne_eq_false_iff_eq.mpr c54
              clear c54
              simp only [Option.some.injEq, Prod.mk.injEq] at H
              obtain ⟨rfl, rfl⟩ := H
              have hcz55_0 : wc.cell? ⟨gb729, 0, none⟩ = some (.int .i64 a1_0) := (blk_cell BK729.out 0).trans rfl
              have hcz55_1 : wc.cell? ⟨gb729, 1, none⟩ = some (.int .i64 a1_1) := (blk_cell BK729.out 1).trans rfl
              have hfz55_0 := blk_frozen BK729.out 0
              have hfz55_1 := blk_frozen BK729.out 1
              obtain ⟨Ao56, co56, eo56⟩ := Kd.R_slice HO_10.out
              subst eo56
              have p733 : 0 ≤ (a1_0 : Int) := of_decide_eq_true (by first | (with_reducible assumption) | assumption)
              have q733 : a1_0 < (t730.length : Int) := of_decide_eq_true (by first | (with_reducible assumption) | assumption)
              obtain ⟨ad733, e733, hx733_0, hx733_1, hx733_2, hx733_3⟩ := at_T144 (Kd.R_reads' HO_10.out).2.2 a1_0 p733 q733
              cases e733
              replace p733 := eq_true p733
              replace q733 := eq_true q733
              try go_wp2_with (first | ((with_reducible refine gate_dst (N := 11) rfl ?_); (try (refine gate_guard (by rfl) ?_; dsimp only)); refine box_event ?hg (N := 11) ?hd (cs := #[.int .i64 0, .int .i64 0, .int .i64 0, .int .i64 0]) (t := 144) ?hr ?_; (case hd => rfl); (case hg => rfl); (case hr => first | (go_simp; done) | (go_simp; rfl)); intro gb734 hg w57 hbox hb; have n0_ := Aside0.mk (Kd.R_below (Kd.R_elderB (by (with_reducible repeat (first | apply Kd.R_alloc | apply Kd.R_drewN | apply Kd.R_drew)); exact HO_10.out) gb734 (Nat.le_of_eq hg.symm)) hb); have n1_ := Aside0.mk (blk_below (g := gb729) (o := .cells #[.int .i64 a1_0, .int .i64 a1_1] 71 (0, 0)) (by (with_reducible repeat (first | refine blk_drewN ?_ _ | refine blk_drew ?_ | refine blk_alloc ?_ _)); exact BK729.out) hb); have n2_ := Aside0.mk (below_step (by repeat (first | (with_reducible first | exact HB.out | apply below_alloc | apply pw_below_drewN | apply below_drew1 | refine below_set ?_ GE729.out) | exact HB.out)) hb); have n3_ := Aside0.mk (hbox); have n4_ := Aside0.mk ((by rw [hg]; exact (below_size (by repeat (first | (with_reducible first | exact HB.out | apply below_alloc | apply pw_below_drewN | apply below_drew1 | refine below_set ?_ GE729.out) | exact HB.out))) : w.heap.size ≤ gb734)); have n5_ := Aside0.mk ((by rw [hg]; exact (below_size (by repeat (first | (with_reducible first | exact HB.out | apply below_alloc | apply pw_below_drewN | apply below_drew1 | refine below_set ?_ GE729.out) | exact HB.out))) : w.heap.size ≤ gb734)); have n6_ := Aside0.mk ((by rw [hg]; exact Nat.ne_of_lt (blk_lt (g := gb729) (o := .cells #[.int .i64 a1_0, .int .i64 a1_1] 71 (0, 0)) (by (with_reducible repeat (first | refine blk_drewN ?_ _ | refine blk_drew ?_ | refine blk_alloc ?_ _)); exact BK729.out)) : gb729 ≠ gb734)); have n7_ := Aside0.mk ((by rw [hg]; exact Nat.ne_of_gt (blk_lt (g := gb729) (o := .cells #[.int .i64 a1_0, .int .i64 a1_1] 71 (0, 0)) (by (with_reducible repeat (first | refine blk_drewN ?_ _ | refine blk_drew ?_ | refine blk_alloc ?_ _)); exact BK729.out)) : gb734 ≠ gb729)); clear HO_10; clear BK729; clear HB; have HO_10 := n0_; have BK729 := n1_; have HB := n2_; have BK734 := n3_; have GW734 := n4_; have GE734 := n5_; have NB729_734 := n6_; have NB734_729 := n7_; clear n0_ n1_ n2_ n3_ n4_ n5_ n6_ n7_; clear hb hbox hg; have hnb58 := NB734_729.out; have hnc58 := NB729_734.out; have hcz59_0 : w57.cell? ⟨gb734, 0, none⟩ = some (.int .i64 0) := (blk_cell BK734.out 0).trans rfl; have hcz59_1 : w57.cell? ⟨gb734, 1, none⟩ = some (.int .i64 0) := (blk_cell BK734.out 1).trans rfl; have hcz59_2 : w57.cell? ⟨gb734, 2, none⟩ = some (.int .i64 0) := (blk_cell BK734.out 2).trans rfl; have hcz59_3 : w57.cell? ⟨gb734, 3, none⟩ = some (.int .i64 0) := (blk_cell BK734.out 3).trans rfl; have hfz59_0 := blk_frozen BK734.out 0; have hfz59_1 := blk_frozen BK734.out 1; have hfz59_2 := blk_frozen BK734.out 2; have hfz59_3 := blk_frozen BK734.out 3; obtain ⟨i060, hi060, _, hsz60, _⟩ := info_parts info5; obtain ⟨A60, hcut60, hA60, hC60⟩ := print_mid_of (P := Tryd.prog) (Value.int .u8) 0 22 5 .i64 .i64 Tryd.underlying22 hi060 hsz60 A0 c0 l0 ((rd_T144 t730 a1_0).f0) ((rd_T144 t730 a1_0).f2) (of_decide_eq_true (by first | (with_reducible assumption) | assumption)) (by first | omega | exact of_decide_eq_true (by first | (with_reducible assumption) | assumption)) (of_decide_eq_true (by first | (with_reducible assumption) | assumption)) HC0.out; have HR735 := Aside0.mk (Kd.C_of_reads (h1 := fun _ => rfl) (hA60 _ (Kd.reads_of_C HR0.out))); have HC735 := Aside0.mk hC60; clear hA60 hC60 hi060 hsz60))
              have n0_ : Aside0 (Kd.R k144 144 ((((w57.setCell ⟨gb734, 0, none⟩ (.int .i64 ((rd_T144 t730 a1_0).f0))).setCell ⟨gb734, 1, none⟩ (.int .i64 ((rd_T144 t730 a1_0).f1))).setCell ⟨gb734, 2, none⟩ (.int .i64 ((rd_T144 t730 a1_0).f2))).setCell ⟨gb734, 3, none⟩ (.int .i64 ((rd_T144 t730 a1_0).f3))) w.heap.size (fun k_ => k_ ≠ gb734) (.slice (some ad733) t730.length co56) t730) := ⟨by (with_reducible repeat (first | apply Kd.R_alloc | apply Kd.R_drewN | apply Kd.R_drew)); exact Kd.R_mono (Kd.R_far (p := ⟨gb734, 3, none⟩) (Kd.R_far (p := ⟨gb734, 2, none⟩) (Kd.R_far (p := ⟨gb734, 1, none⟩) (Kd.R_far (p := ⟨gb734, 0, none⟩) (Kd.R_mono HO_10.out (fun k_ hk => (⟨hk, hk.2⟩ : _ ∧ k_ ≠ gb734))) (fun _ hk => hk.2) (.int .i64 ((rd_T144 t730 a1_0).f0))) (fun _ hk => hk.2) (.int .i64 ((rd_T144 t730 a1_0).f1))) (fun _ hk => hk.2) (.int .i64 ((rd_T144 t730 a1_0).f2))) (fun _ hk => hk.2) (.int .i64 ((rd_T144 t730 a1_0).f3))) (fun _ hk => hk.1.2)⟩
              have n1_ : Aside0 (((((w57.setCell ⟨gb734, 0, none⟩ (.int .i64 ((rd_T144 t730 a1_0).f0))).setCell ⟨gb734, 1, none⟩ (.int .i64 ((rd_T144 t730 a1_0).f1))).setCell ⟨gb734, 2, none⟩ (.int .i64 ((rd_T144 t730 a1_0).f2))).setCell ⟨gb734, 3, none⟩ (.int .i64 ((rd_T144 t730 a1_0).f3))).heap[gb729]? = some (.cells #[.int .i64 a1_0, .int .i64 a1_1] 71 (0, 0))) := ⟨by (with_reducible repeat (first | refine blk_drewN ?_ _ | refine blk_drew ?_ | refine blk_alloc ?_ _)); refine blk_far ?_ NB729_734.out _; (with_reducible repeat (first | refine blk_drewN ?_ _ | refine blk_drew ?_ | refine blk_alloc ?_ _)); refine blk_far ?_ NB729_734.out _; (with_reducible repeat (first | refine blk_drewN ?_ _ | refine blk_drew ?_ | refine blk_alloc ?_ _)); refine blk_far ?_ NB729_734.out _; (with_reducible repeat (first | refine blk_drewN ?_ _ | refine blk_drew ?_ | refine blk_alloc ?_ _)); refine blk_far ?_ NB729_734.out _; (with_reducible repeat (first | refine blk_drewN ?_ _ | refine blk_drew ?_ | refine blk_alloc ?_ _)); exact BK729.out⟩
              have n2_ : Aside0 (((((w57.setCell ⟨gb734, 0, none⟩ (.int .i64 ((rd_T144 t730 a1_0).f0))).setCell ⟨gb734, 1, none⟩ (.int .i64 ((rd_T144 t730 a1_0).f1))).setCell ⟨gb734, 2, none⟩ (.int .i64 ((rd_T144 t730 a1_0).f2))).setCell ⟨gb734, 3, none⟩ (.int .i64 ((rd_T144 t730 a1_0).f3))).heap[gb734]? = some (.cells #[.int .i64 ((rd_T144 t730 a1_0).f0), .int .i64 ((rd_T144 t730 a1_0).f1), .int .i64 ((rd_T144 t730 a1_0).f2), .int .i64 ((rd_T144 t730 a1_0).f3)] 144 (0, 0))) := ⟨by (with_reducible repeat (first | refine blk_drewN ?_ _ | refine blk_drew ?_ | refine blk_alloc ?_ _)); refine blk_put (cs := #[.int .i64 ((rd_T144 t730 a1_0).f0), .int .i64 ((rd_T144 t730 a1_0).f1), .int .i64 ((rd_T144 t730 a1_0).f2), .int .i64 0]) ?_ 3 _ rfl; (with_reducible repeat (first | refine blk_drewN ?_ _ | refine blk_drew ?_ | refine blk_alloc ?_ _)); refine blk_put (cs := #[.int .i64 ((rd_T144 t730 a1_0).f0), .int .i64 ((rd_T144 t730 a1_0).f1), .int .i64 0, .int .i64 0]) ?_ 2 _ rfl; (with_reducible repeat (first | refine blk_drewN ?_ _ | refine blk_drew ?_ | refine blk_alloc ?_ _)); refine blk_put (cs := #[.int .i64 ((rd_T144 t730 a1_0).f0), .int .i64 0, .int .i64 0, .int .i64 0]) ?_ 1 _ rfl; (with_reducible repeat (first | refine blk_drewN ?_ _ | refine blk_drew ?_ | refine blk_alloc ?_ _)); refine blk_put (cs := #[.int .i64 0, .int .i64 0, .int .i64 0, .int .i64 0]) ?_ 0 _ rfl; (with_reducible repeat (first | refine blk_drewN ?_ _ | refine blk_drew ?_ | refine blk_alloc ?_ _)); exact BK734.out⟩
              have n3_ : Aside0 (Below w.heap.size w ((((w57.setCell ⟨gb734, 0, none⟩ (.int .i64 ((rd_T144 t730 a1_0).f0))).setCell ⟨gb734, 1, none⟩ (.int .i64 ((rd_T144 t730 a1_0).f1))).setCell ⟨gb734, 2, none⟩ (.int .i64 ((rd_T144 t730 a1_0).f2))).setCell ⟨gb734, 3, none⟩ (.int .i64 ((rd_T144 t730 a1_0).f3)))) := ⟨by repeat (first | (with_reducible first | exact HB.out | apply below_alloc | apply pw_below_drewN | apply below_drew1 | refine below_set ?_ GE729.out | refine below_set ?_ GE734.out) | exact HB.out)⟩
              (try clear HO_10)
              (try clear BK729)
              (try clear BK734)
              (try clear HB)
              generalize ((((w57.setCell ⟨gb734, 0, none⟩ (.int .i64 ((rd_T144 t730 a1_0).f0))).setCell ⟨gb734, 1, none⟩ (.int .i64 ((rd_T144 t730 a1_0).f1))).setCell ⟨gb734, 2, none⟩ (.int .i64 ((rd_T144 t730 a1_0).f2))).setCell ⟨gb734, 3, none⟩ (.int .i64 ((rd_T144 t730 a1_0).f3))) = w61 at n0_ n1_ n2_ n3_ ⊢
              have HO_10 := n0_
              have BK729 := n1_
              have BK734 := n2_
              have HB := n3_
              clear n0_ n1_ n2_ n3_
              have n0_ := Aside0.mk (Kd.R_drew HO_10.out)
              have n1_ := Aside0.mk (blk_drew BK729.out)
              have n2_ := Aside0.mk (blk_drew BK734.out)
              have n3_ := Aside0.mk (below_drew1 HB.out)
              clear HO_10
              clear BK729
              clear BK734
              clear HB
              have HO_10 := n0_
              have BK729 := n1_
              have BK734 := n2_
              have HB := n3_
              clear n0_ n1_ n2_ n3_
              refine start_ (n := 6) (S := fun w' => w'.cell? ⟨gb729, 0, none⟩ = some (.int .i64 a1_0) ∧ w'.cell? ⟨gb729, 1, none⟩ = some (.int .i64 a1_1)) (ds := []) #[false, false, false, false, false, false] (by kernel_rfl) rfl rfl ⟨(blk_cell BK729.out 0).trans rfl, (blk_cell BK729.out 1).trans rfl⟩ (fun hHeld => ?_)
              generalize w61.drew = w62 at HO_10 BK729 BK734 HB hHeld ⊢
              refine pure_ (i := 0) (N := some 57) (v := ?_) (a' := ?_) #[true, false, false, false, false, false] rfl rfl (by kernel_rfl) (fun _ _ _ h => h) (Or.inl ⟨by rfl, ?_⟩) ?_ ?_
              rotate_left
              ·
               intro w'
               go_simp
               with_reducible rfl
              rotate_left
              ·
               simp only [Act.put, List.setIfInBounds_toArray, List.set_cons_zero, List.set_cons_succ, i64_w, i32_w]
               rfl
              refine pure_ (i := 2) (N := some 59) (v := ?_) (a' := ?_) #[true, false, true, false, false, false] rfl rfl (by kernel_rfl) (fun _ _ _ h => h) (Or.inl ⟨by rfl, ?_⟩) ?_ ?_
              rotate_left
              ·
               intro w'
               go_simp
               with_reducible rfl
              rotate_left
              ·
               simp only [Act.put, List.setIfInBounds_toArray, List.set_cons_zero, List.set_cons_succ, i64_w, i32_w]
               rfl
              refine pure_ (i := 3) (N := some 60) (v := ?_) (a' := ?_) #[true, false, true, true, false, false] rfl rfl (by kernel_rfl) (fun _ _ _ h => h) (Or.inl ⟨by rfl, ?_⟩) ?_ ?_
              rotate_left
              ·
               intro w'
               go_simp
               with_reducible rfl
              rotate_left
              ·
               simp only [Act.put, List.setIfInBounds_toArray, List.set_cons_zero, List.set_cons_succ, i64_w, i32_w]
               rfl
              refine take_ (i := 1) (N := some 58) (v := ?_) (a' := ?_) #[true, true, true, true, false, false] rfl rfl (by kernel_rfl) (fun _ _ _ h => h) (Or.inl ⟨by rfl, ?_⟩) hHeld ?_ ?_
              rotate_left
              ·
               rintro w' ⟨s0, s1⟩
               go_simp
               with_reducible rfl
              rotate_left
              ·
               simp only [Act.put, List.setIfInBounds_toArray, List.set_cons_zero, List.set_cons_succ, i64_w, i32_w]
               rfl
              refine one_ (i := 4) (N := some 61) #[true, true, true, true, true, false] rfl rfl (by kernel_rfl) (by decide) (fun K hK => ?_)
              refine goes_ Tryd.func103 (by kernel_rfl) rfl #[.slice A60 ((l0.take (((rd_T144 t730 a1_0).f2) : Int).toNat).drop (((rd_T144 t730 a1_0).f0) : Int).toNat).length (c0 - ((rd_T144 t730 a1_0).f0).toNat), .int .i64 a2] (by rfl) rfl rfl (by (try simp only [List.map_toArray, List.map_cons, List.map_nil]); first | done | (rw [show ((l0.take (((rd_T144 t730 a1_0).f2) : Int).toNat).drop (((rd_T144 t730 a1_0).f0) : Int).toNat).length = (((rd_T144 t730 a1_0).f2).toNat - ((rd_T144 t730 a1_0).f0).toNat) from (by rw [List.length_drop, List.length_take]; have h_ : (((rd_T144 t730 a1_0).f2) : Int) ≤ (l0.length : Int) := of_decide_eq_true (by first | (with_reducible assumption) | assumption); omega)] <;> rfl) | rfl | (simp only [List.length_drop, List.length_take]; rfl)) ?_
              with_reducible refine (lines_size.calls _ _ ((l0.take (((rd_T144 t730 a1_0).f2) : Int).toNat).drop (((rd_T144 t730 a1_0).f0) : Int).toNat) a2 t736 _ ?side1 ?side2 ?side3 A27.out).mono ?_
              (case side1 => repeat (first | exact (Kd.C_below HR735.out HB.out) | (with_reducible refine Kd.C_alloc ?_ _) | (with_reducible refine Kd.C_drewN ?_ _) | (with_reducible refine Kd.C_drew ?_)))
              (case side2 => exact HC735.out)
              (case side3 => repeat (first | exact HG.out | exact Laid.below HG.out HB.out | (with_reducible refine Laid.alloc ?_ _) | (with_reducible refine Laid.drewN ?_ _) | (with_reducible refine Laid.drew ?_)))
              rintro e w63 ⟨rfl, hb⟩
              refine ⟨_, rfl, ?_⟩
              have n0_ := Aside0.mk (Kd.R_below (by (with_reducible repeat (first | apply Kd.R_alloc | apply Kd.R_drewN | apply Kd.R_drew)); exact HO_10.out) hb)
              have n1_ := Aside0.mk (blk_below (g := gb729) (o := .cells #[.int .i64 a1_0, .int .i64 a1_1] 71 (0, 0)) (by (with_reducible repeat (first | refine blk_drewN ?_ _ | refine blk_drew ?_ | refine blk_alloc ?_ _)); exact BK729.out) hb)
              have n2_ := Aside0.mk (blk_below (g := gb734) (o := .cells #[.int .i64 ((rd_T144 t730 a1_0).f0), .int .i64 ((rd_T144 t730 a1_0).f1), .int .i64 ((rd_T144 t730 a1_0).f2), .int .i64 ((rd_T144 t730 a1_0).f3)] 144 (0, 0)) (by (with_reducible repeat (first | refine blk_drewN ?_ _ | refine blk_drew ?_ | refine blk_alloc ?_ _)); exact BK734.out) hb)
              have n3_ := Aside0.mk (below_step (by repeat (first | (with_reducible first | exact HB.out | apply below_alloc | apply pw_below_drewN | apply below_drew1 | refine below_set ?_ GE729.out | refine below_set ?_ GE734.out) | exact HB.out)) hb)
              clear HO_10
              clear BK729
              clear BK734
              clear HB
              have HO_10 := n0_
              have BK729 := n1_
              have BK734 := n2_
              have HB := n3_
              clear n0_ n1_ n2_ n3_
              (try clear hb)
              (try clear hb2)
              (try clear hk)
              (try clear hi)
              refine hK.out _ _ ⟨(blk_cell BK729.out 0).trans rfl, (blk_cell BK729.out 1).trans rfl⟩ (fun hHeld => ?_)
              clear hK K
              refine norm_ (a' := ?_) ?_ ?_
              rotate_left
              ·
               show Act.put _ (some 61) _ = _
               simp only [Act.put, List.setIfInBounds_toArray, List.set_cons_zero, List.set_cons_succ, i64_w, i32_w]
               rfl
              refine pure_ (i := 5) (N := some 62) (v := ?_) (a' := ?_) #[true, true, true, true, true, true] rfl rfl (by kernel_rfl) (fun _ _ _ h => h) (Or.inl ⟨by rfl, ?_⟩) ?_ ?_
              rotate_left
              ·
               intro w'
               go_simp
               with_reducible rfl
              rotate_left
              ·
               simp only [Act.put, List.setIfInBounds_toArray, List.set_cons_zero, List.set_cons_succ, i64_w, i32_w]
               rfl
              refine done_ (by kernel_rfl) ?_
              try go_wp2
              go_ret2
              exact ⟨by first | rfl | (simp [errW_none, errW_some] <;> rfl) | (simp [*, errW_none, errW_some] <;> rfl), by repeat (first | (with_reducible first | exact HB.out | apply below_alloc | apply pw_below_drewN | apply below_drew1 | refine below_set ?_ GE729.out | refine below_set ?_ GE734.out) | exact HB.out)⟩
             ·
              rw [if_neg c54] at H
              have c54b0 : (a3 == 3) = false := beq_eq_false_iff_ne.mpr c54
              have c54b1 : (a3 != 3) = true := bne_iff_ne.mpr c54
              simp only [Option.some.injEq, Prod.mk.injEq] at H
              obtain ⟨rfl, rfl⟩ := H
              have hcz64_0 : wc.cell? ⟨gb729, 0, none⟩ = some (.int .i64 a1_0) := (blk_cell BK729.out 0).trans rfl
              have hcz64_1 : wc.cell? ⟨gb729, 1, none⟩ = some (.int .i64 a1_1) := (blk_cell BK729.out 1).trans rfl
              have hfz64_0 := blk_frozen BK729.out 0
              have hfz64_1 := blk_frozen BK729.out 1
              obtain ⟨Ao65, co65, eo65⟩ := Kd.R_slice HO_10.out
              subst eo65
              have p733 : 0 ≤ (a1_0 : Int) := of_decide_eq_true (by first | (with_reducible assumption) | assumption)
              have q733 : a1_0 < (t730.length : Int) := of_decide_eq_true (by first | (with_reducible assumption) | assumption)
              obtain ⟨ad733, e733, hx733_0, hx733_1, hx733_2, hx733_3⟩ := at_T144 (Kd.R_reads' HO_10.out).2.2 a1_0 p733 q733
              cases e733
              replace p733 := eq_true p733
              replace q733 := eq_true q733
              try go_wp2_with (first | ((with_reducible refine gate_dst (N := 11) rfl ?_); (try (refine gate_guard (by rfl) ?_; dsimp only)); refine box_event ?hg (N := 11) ?hd (cs := #[.int .i64 0, .int .i64 0, .int .i64 0, .int .i64 0]) (t := 144) ?hr ?_; (case hd => rfl); (case hg => rfl); (case hr => first | (go_simp; done) | (go_simp; rfl)); intro gb734 hg w66 hbox hb; have n0_ := Aside0.mk (Kd.R_below (Kd.R_elderB (by (with_reducible repeat (first | apply Kd.R_alloc | apply Kd.R_drewN | apply Kd.R_drew)); exact HO_10.out) gb734 (Nat.le_of_eq hg.symm)) hb); have n1_ := Aside0.mk (blk_below (g := gb729) (o := .cells #[.int .i64 a1_0, .int .i64 a1_1] 71 (0, 0)) (by (with_reducible repeat (first | refine blk_drewN ?_ _ | refine blk_drew ?_ | refine blk_alloc ?_ _)); exact BK729.out) hb); have n2_ := Aside0.mk (below_step (by repeat (first | (with_reducible first | exact HB.out | apply below_alloc | apply pw_below_drewN | apply below_drew1 | refine below_set ?_ GE729.out) | exact HB.out)) hb); have n3_ := Aside0.mk (hbox); have n4_ := Aside0.mk ((by rw [hg]; exact (below_size (by repeat (first | (with_reducible first | exact HB.out | apply below_alloc | apply pw_below_drewN | apply below_drew1 | refine below_set ?_ GE729.out) | exact HB.out))) : w.heap.size ≤ gb734)); have n5_ := Aside0.mk ((by rw [hg]; exact (below_size (by repeat (first | (with_reducible first | exact HB.out | apply below_alloc | apply pw_below_drewN | apply below_drew1 | refine below_set ?_ GE729.out) | exact HB.out))) : w.heap.size ≤ gb734)); have n6_ := Aside0.mk ((by rw [hg]; exact Nat.ne_of_lt (blk_lt (g := gb729) (o := .cells #[.int .i64 a1_0, .int .i64 a1_1] 71 (0, 0)) (by (with_reducible repeat (first | refine blk_drewN ?_ _ | refine blk_drew ?_ | refine blk_alloc ?_ _)); exact BK729.out)) : gb729 ≠ gb734)); have n7_ := Aside0.mk ((by rw [hg]; exact Nat.ne_of_gt (blk_lt (g := gb729) (o := .cells #[.int .i64 a1_0, .int .i64 a1_1] 71 (0, 0)) (by (with_reducible repeat (first | refine blk_drewN ?_ _ | refine blk_drew ?_ | refine blk_alloc ?_ _)); exact BK729.out)) : gb734 ≠ gb729)); clear HO_10; clear BK729; clear HB; have HO_10 := n0_; have BK729 := n1_; have HB := n2_; have BK734 := n3_; have GW734 := n4_; have GE734 := n5_; have NB729_734 := n6_; have NB734_729 := n7_; clear n0_ n1_ n2_ n3_ n4_ n5_ n6_ n7_; clear hb hbox hg; have hnb67 := NB734_729.out; have hnc67 := NB729_734.out; have hcz68_0 : w66.cell? ⟨gb734, 0, none⟩ = some (.int .i64 0) := (blk_cell BK734.out 0).trans rfl; have hcz68_1 : w66.cell? ⟨gb734, 1, none⟩ = some (.int .i64 0) := (blk_cell BK734.out 1).trans rfl; have hcz68_2 : w66.cell? ⟨gb734, 2, none⟩ = some (.int .i64 0) := (blk_cell BK734.out 2).trans rfl; have hcz68_3 : w66.cell? ⟨gb734, 3, none⟩ = some (.int .i64 0) := (blk_cell BK734.out 3).trans rfl; have hfz68_0 := blk_frozen BK734.out 0; have hfz68_1 := blk_frozen BK734.out 1; have hfz68_2 := blk_frozen BK734.out 2; have hfz68_3 := blk_frozen BK734.out 3; obtain ⟨i069, hi069, _, hsz69, _⟩ := info_parts info5; obtain ⟨A69, hcut69, hA69, hC69⟩ := print_mid_of (P := Tryd.prog) (Value.int .u8) 0 22 5 .i64 .i64 Tryd.underlying22 hi069 hsz69 A0 c0 l0 ((rd_T144 t730 a1_0).f0) ((rd_T144 t730 a1_0).f2) (of_decide_eq_true (by first | (with_reducible assumption) | assumption)) (by first | omega | exact of_decide_eq_true (by first | (with_reducible assumption) | assumption)) (of_decide_eq_true (by first | (with_reducible assumption) | assumption)) HC0.out; have HR735 := Aside0.mk (Kd.C_of_reads (h1 := fun _ => rfl) (hA69 _ (Kd.reads_of_C HR0.out))); have HC735 := Aside0.mk hC69; clear hA69 hC69 hi069 hsz69))
              have n0_ : Aside0 (Kd.R k144 144 ((((w66.setCell ⟨gb734, 0, none⟩ (.int .i64 ((rd_T144 t730 a1_0).f0))).setCell ⟨gb734, 1, none⟩ (.int .i64 ((rd_T144 t730 a1_0).f1))).setCell ⟨gb734, 2, none⟩ (.int .i64 ((rd_T144 t730 a1_0).f2))).setCell ⟨gb734, 3, none⟩ (.int .i64 ((rd_T144 t730 a1_0).f3))) w.heap.size (fun k_ => k_ ≠ gb734) (.slice (some ad733) t730.length co65) t730) := ⟨by (with_reducible repeat (first | apply Kd.R_alloc | apply Kd.R_drewN | apply Kd.R_drew)); exact Kd.R_mono (Kd.R_far (p := ⟨gb734, 3, none⟩) (Kd.R_far (p := ⟨gb734, 2, none⟩) (Kd.R_far (p := ⟨gb734, 1, none⟩) (Kd.R_far (p := ⟨gb734, 0, none⟩) (Kd.R_mono HO_10.out (fun k_ hk => (⟨hk, hk.2⟩ : _ ∧ k_ ≠ gb734))) (fun _ hk => hk.2) (.int .i64 ((rd_T144 t730 a1_0).f0))) (fun _ hk => hk.2) (.int .i64 ((rd_T144 t730 a1_0).f1))) (fun _ hk => hk.2) (.int .i64 ((rd_T144 t730 a1_0).f2))) (fun _ hk => hk.2) (.int .i64 ((rd_T144 t730 a1_0).f3))) (fun _ hk => hk.1.2)⟩
              have n1_ : Aside0 (((((w66.setCell ⟨gb734, 0, none⟩ (.int .i64 ((rd_T144 t730 a1_0).f0))).setCell ⟨gb734, 1, none⟩ (.int .i64 ((rd_T144 t730 a1_0).f1))).setCell ⟨gb734, 2, none⟩ (.int .i64 ((rd_T144 t730 a1_0).f2))).setCell ⟨gb734, 3, none⟩ (.int .i64 ((rd_T144 t730 a1_0).f3))).heap[gb729]? = some (.cells #[.int .i64 a1_0, .int .i64 a1_1] 71 (0, 0))) := ⟨by (with_reducible repeat (first | refine blk_drewN ?_ _ | refine blk_drew ?_ | refine blk_alloc ?_ _)); refine blk_far ?_ NB729_734.out _; (with_reducible repeat (first | refine blk_drewN ?_ _ | refine blk_drew ?_ | refine blk_alloc ?_ _)); refine blk_far ?_ NB729_734.out _; (with_reducible repeat (first | refine blk_drewN ?_ _ | refine blk_drew ?_ | refine blk_alloc ?_ _)); refine blk_far ?_ NB729_734.out _; (with_reducible repeat (first | refine blk_drewN ?_ _ | refine blk_drew ?_ | refine blk_alloc ?_ _)); refine blk_far ?_ NB729_734.out _; (with_reducible repeat (first | refine blk_drewN ?_ _ | refine blk_drew ?_ | refine blk_alloc ?_ _)); exact BK729.out⟩
              have n2_ : Aside0 (((((w66.setCell ⟨gb734, 0, none⟩ (.int .i64 ((rd_T144 t730 a1_0).f0))).setCell ⟨gb734, 1, none⟩ (.int .i64 ((rd_T144 t730 a1_0).f1))).setCell ⟨gb734, 2, none⟩ (.int .i64 ((rd_T144 t730 a1_0).f2))).setCell ⟨gb734, 3, none⟩ (.int .i64 ((rd_T144 t730 a1_0).f3))).heap[gb734]? = some (.cells #[.int .i64 ((rd_T144 t730 a1_0).f0), .int .i64 ((rd_T144 t730 a1_0).f1), .int .i64 ((rd_T144 t730 a1_0).f2), .int .i64 ((rd_T144 t730 a1_0).f3)] 144 (0, 0))) := ⟨by (with_reducible repeat (first | refine blk_drewN ?_ _ | refine blk_drew ?_ | refine blk_alloc ?_ _)); refine blk_put (cs := #[.int .i64 ((rd_T144 t730 a1_0).f0), .int .i64 ((rd_T144 t730 a1_0).f1), .int .i64 ((rd_T144 t730 a1_0).f2), .int .i64 0]) ?_ 3 _ rfl; (with_reducible repeat (first | refine blk_drewN ?_ _ | refine blk_drew ?_ | refine blk_alloc ?_ _)); refine blk_put (cs := #[.int .i64 ((rd_T144 t730 a1_0).f0), .int .i64 ((rd_T144 t730 a1_0).f1), .int .i64 0, .int .i64 0]) ?_ 2 _ rfl; (with_reducible repeat (first | refine blk_drewN ?_ _ | refine blk_drew ?_ | refine blk_alloc ?_ _)); refine blk_put (cs := #[.int .i64 ((rd_T144 t730 a1_0).f0), .int .i64 0, .int .i64 0, .int .i64 0]) ?_ 1 _ rfl; (with_reducible repeat (first | refine blk_drewN ?_ _ | refine blk_drew ?_ | refine blk_alloc ?_ _)); refine blk_put (cs := #[.int .i64 0, .int .i64 0, .int .i64 0, .int .i64 0]) ?_ 0 _ rfl; (with_reducible repeat (first | refine blk_drewN ?_ _ | refine blk_drew ?_ | refine blk_alloc ?_ _)); exact BK734.out⟩
              have n3_ : Aside0 (Below w.heap.size w ((((w66.setCell ⟨gb734, 0, none⟩ (.int .i64 ((rd_T144 t730 a1_0).f0))).setCell ⟨gb734, 1, none⟩ (.int .i64 ((rd_T144 t730 a1_0).f1))).setCell ⟨gb734, 2, none⟩ (.int .i64 ((rd_T144 t730 a1_0).f2))).setCell ⟨gb734, 3, none⟩ (.int .i64 ((rd_T144 t730 a1_0).f3)))) := ⟨by repeat (first | (with_reducible first | exact HB.out | apply below_alloc | apply pw_below_drewN | apply below_drew1 | refine below_set ?_ GE729.out | refine below_set ?_ GE734.out) | exact HB.out)⟩
              (try clear HO_10)
              (try clear BK729)
              (try clear BK734)
              (try clear HB)
              generalize ((((w66.setCell ⟨gb734, 0, none⟩ (.int .i64 ((rd_T144 t730 a1_0).f0))).setCell ⟨gb734, 1, none⟩ (.int .i64 ((rd_T144 t730 a1_0).f1))).setCell ⟨gb734, 2, none⟩ (.int .i64 ((rd_T144 t730 a1_0).f2))).setCell ⟨gb734, 3, none⟩ (.int .i64 ((rd_T144 t730 a1_0).f3))) = w70 at n0_ n1_ n2_ n3_ ⊢
              have HO_10 := n0_
              have BK729 := n1_
              have BK734 := n2_
              have HB := n3_
              clear n0_ n1_ n2_ n3_
              have n0_ := Aside0.mk (Kd.R_drew HO_10.out)
              have n1_ := Aside0.mk (blk_drew BK729.out)
              have n2_ := Aside0.mk (blk_drew BK734.out)
              have n3_ := Aside0.mk (below_drew1 HB.out)
              clear HO_10
              clear BK729
              clear BK734
              clear HB
              have HO_10 := n0_
              have BK729 := n1_
              have BK734 := n2_
              have HB := n3_
              clear n0_ n1_ n2_ n3_
              refine start_ (n := 6) (S := fun w' => w'.cell? ⟨gb729, 0, none⟩ = some (.int .i64 a1_0) ∧ w'.cell? ⟨gb729, 1, none⟩ = some (.int .i64 a1_1)) (ds := []) #[false, false, false, false, false, false] (by kernel_rfl) rfl rfl ⟨(blk_cell BK729.out 0).trans rfl, (blk_cell BK729.out 1).trans rfl⟩ (fun hHeld => ?_)
              generalize w70.drew = w71 at HO_10 BK729 BK734 HB hHeld ⊢
              refine pure_ (i := 0) (N := some 57) (v := ?_) (a' := ?_) #[true, false, false, false, false, false] rfl rfl (by kernel_rfl) (fun _ _ _ h => h) (Or.inl ⟨by rfl, ?_⟩) ?_ ?_
              rotate_left
              ·
               intro w'
               go_simp
               with_reducible rfl
              rotate_left
              ·
               simp only [Act.put, List.setIfInBounds_toArray, List.set_cons_zero, List.set_cons_succ, i64_w, i32_w]
               rfl
              refine pure_ (i := 2) (N := some 59) (v := ?_) (a' := ?_) #[true, false, true, false, false, false] rfl rfl (by kernel_rfl) (fun _ _ _ h => h) (Or.inl ⟨by rfl, ?_⟩) ?_ ?_
              rotate_left
              ·
               intro w'
               go_simp
               with_reducible rfl
              rotate_left
              ·
               simp only [Act.put, List.setIfInBounds_toArray, List.set_cons_zero, List.set_cons_succ, i64_w, i32_w]
               rfl
              refine pure_ (i := 3) (N := some 60) (v := ?_) (a' := ?_) #[true, false, true, true, false, false] rfl rfl (by kernel_rfl) (fun _ _ _ h => h) (Or.inl ⟨by rfl, ?_⟩) ?_ ?_
              rotate_left
              ·
               intro w'
               go_simp
               with_reducible rfl
              rotate_left
              ·
               simp only [Act.put, List.setIfInBounds_toArray, List.set_cons_zero, List.set_cons_succ, i64_w, i32_w]
               rfl
              refine take_ (i := 1) (N := some 58) (v := ?_) (a' := ?_) #[true, true, true, true, false, false] rfl rfl (by kernel_rfl) (fun _ _ _ h => h) (Or.inl ⟨by rfl, ?_⟩) hHeld ?_ ?_
              rotate_left
              ·
               rintro w' ⟨s0, s1⟩
               go_simp
               with_reducible rfl
              rotate_left
              ·
               simp only [Act.put, List.setIfInBounds_toArray, List.set_cons_zero, List.set_cons_succ, i64_w, i32_w]
               rfl
              refine one_ (i := 4) (N := some 61) #[true, true, true, true, true, false] rfl rfl (by kernel_rfl) (by decide) (fun K hK => ?_)
              refine goes_ Tryd.func103 (by kernel_rfl) rfl #[.slice A69 ((l0.take (((rd_T144 t730 a1_0).f2) : Int).toNat).drop (((rd_T144 t730 a1_0).f0) : Int).toNat).length (c0 - ((rd_T144 t730 a1_0).f0).toNat), .int .i64 a2] (by rfl) rfl rfl (by (try simp only [List.map_toArray, List.map_cons, List.map_nil]); first | done | (rw [show ((l0.take (((rd_T144 t730 a1_0).f2) : Int).toNat).drop (((rd_T144 t730 a1_0).f0) : Int).toNat).length = (((rd_T144 t730 a1_0).f2).toNat - ((rd_T144 t730 a1_0).f0).toNat) from (by rw [List.length_drop, List.length_take]; have h_ : (((rd_T144 t730 a1_0).f2) : Int) ≤ (l0.length : Int) := of_decide_eq_true (by first | (with_reducible assumption) | assumption); omega)] <;> rfl) | rfl | (simp only [List.length_drop, List.length_take]; rfl)) ?_
              with_reducible refine (lines_size.calls _ _ ((l0.take (((rd_T144 t730 a1_0).f2) : Int).toNat).drop (((rd_T144 t730 a1_0).f0) : Int).toNat) a2 t736 _ ?side1 ?side2 ?side3 A27.out).mono ?_
              (case side1 => repeat (first | exact (Kd.C_below HR735.out HB.out) | (with_reducible refine Kd.C_alloc ?_ _) | (with_reducible refine Kd.C_drewN ?_ _) | (with_reducible refine Kd.C_drew ?_)))
              (case side2 => exact HC735.out)
              (case side3 => repeat (first | exact HG.out | exact Laid.below HG.out HB.out | (with_reducible refine Laid.alloc ?_ _) | (with_reducible refine Laid.drewN ?_ _) | (with_reducible refine Laid.drew ?_)))
              rintro e w72 ⟨rfl, hb⟩
              refine ⟨_, rfl, ?_⟩
              have n0_ := Aside0.mk (Kd.R_below (by (with_reducible repeat (first | apply Kd.R_alloc | apply Kd.R_drewN | apply Kd.R_drew)); exact HO_10.out) hb)
              have n1_ := Aside0.mk (blk_below (g := gb729) (o := .cells #[.int .i64 a1_0, .int .i64 a1_1] 71 (0, 0)) (by (with_reducible repeat (first | refine blk_drewN ?_ _ | refine blk_drew ?_ | refine blk_alloc ?_ _)); exact BK729.out) hb)
              have n2_ := Aside0.mk (blk_below (g := gb734) (o := .cells #[.int .i64 ((rd_T144 t730 a1_0).f0), .int .i64 ((rd_T144 t730 a1_0).f1), .int .i64 ((rd_T144 t730 a1_0).f2), .int .i64 ((rd_T144 t730 a1_0).f3)] 144 (0, 0)) (by (with_reducible repeat (first | refine blk_drewN ?_ _ | refine blk_drew ?_ | refine blk_alloc ?_ _)); exact BK734.out) hb)
              have n3_ := Aside0.mk (below_step (by repeat (first | (with_reducible first | exact HB.out | apply below_alloc | apply pw_below_drewN | apply below_drew1 | refine below_set ?_ GE729.out | refine below_set ?_ GE734.out) | exact HB.out)) hb)
              clear HO_10
              clear BK729
              clear BK734
              clear HB
              have HO_10 := n0_
              have BK729 := n1_
              have BK734 := n2_
              have HB := n3_
              clear n0_ n1_ n2_ n3_
              (try clear hb)
              (try clear hb2)
              (try clear hk)
              (try clear hi)
              refine hK.out _ _ ⟨(blk_cell BK729.out 0).trans rfl, (blk_cell BK729.out 1).trans rfl⟩ (fun hHeld => ?_)
              clear hK K
              refine norm_ (a' := ?_) ?_ ?_
              rotate_left
              ·
               show Act.put _ (some 61) _ = _
               simp only [Act.put, List.setIfInBounds_toArray, List.set_cons_zero, List.set_cons_succ, i64_w, i32_w]
               rfl
              refine pure_ (i := 5) (N := some 62) (v := ?_) (a' := ?_) #[true, true, true, true, true, true] rfl rfl (by kernel_rfl) (fun _ _ _ h => h) (Or.inl ⟨by rfl, ?_⟩) ?_ ?_
              rotate_left
              ·
               intro w'
               go_simp
               with_reducible rfl
              rotate_left
              ·
               simp only [Act.put, List.setIfInBounds_toArray, List.set_cons_zero, List.set_cons_succ, i64_w, i32_w]
               rfl
              refine done_ (by kernel_rfl) ?_
              have hcz73_0 : w72.cell? ⟨gb734, 0, none⟩ = some (.int .i64 ((rd_T144 t730 a1_0).f0)) := (blk_cell BK734.out 0).trans rfl
              have hcz73_1 : w72.cell? ⟨gb734, 1, none⟩ = some (.int .i64 ((rd_T144 t730 a1_0).f1)) := (blk_cell BK734.out 1).trans rfl
              have hcz73_2 : w72.cell? ⟨gb734, 2, none⟩ = some (.int .i64 ((rd_T144 t730 a1_0).f2)) := (blk_cell BK734.out 2).trans rfl
              have hcz73_3 : w72.cell? ⟨gb734, 3, none⟩ = some (.int .i64 ((rd_T144 t730 a1_0).f3)) := (blk_cell BK734.out 3).trans rfl
              have hfz73_0 := blk_frozen BK734.out 0
              have hfz73_1 := blk_frozen BK734.out 1
              have hfz73_2 := blk_frozen BK734.out 2
              have hfz73_3 := blk_frozen BK734.out 3
              try go_wp2
              go_ret2
              exact ⟨by first | rfl | (simp [errW_none, errW_some] <;> rfl) | (simp [*, errW_none, errW_some] <;> rfl), by repeat (first | (with_reducible first | exact HB.out | apply below_alloc | apply pw_below_drewN | apply below_drew1 | refine below_set ?_ GE729.out | refine below_set ?_ GE734.out) | exact HB.out)⟩
           ·
            rw [if_neg c26] at H
            exact absurd H (by simp)
          ·
           rw [if_neg c25] at H
           exact absurd H (by simp)
         ·
          rw [if_neg c24] at H
          exact absurd H (by simp)
        ·
         rw [if_neg c23] at H
         exact absurd H (by simp)
       ·
        rw [if_neg c22] at H
        exact absurd H (by simp)
end Go.Proofs.YtbomhpfckplgaaaDoor.P
namespace Go.Proofs.YtbomhpfckplgaaaDoor.P
open Go.RowKit Go.Proofs.YtbomhpfckplgaaaDoorW.PrintWords Go.Proofs.YtbomhpfckplgaaaDoorW.PrintLast Go.Proofs.YtbomhpfckplgaaaDoorW.PrintMore
attribute [local go_sem] max2_int min2_int max_two min_two max_three min_three max_four min_four   -- for this text's walks alone
set_option linter.unusedVariables false
set_option linter.unusedSimpArgs false
def galleyref04_At.f (k : Nat) (l0 : List Int) (a1 : Int) : Option (Int × Int × Bool) := (galleyref01_Width.f k l0 a1).bind fun t833 => (if 0 ≤ a1 then (if a1 ≤ (wrap64 (a1 + t833)) then (if (wrap64 (a1 + t833)) ≤ (l0.length : Int) then ((galleyref01_Whole.f k ((l0.take ((wrap64 (a1 + t833)) : Int).toNat).drop (a1 : Int).toNat)).bind fun t835 => (if t835 = true then ((galleyref01_Value.f k ((l0.take ((wrap64 (a1 + t833)) : Int).toNat).drop (a1 : Int).toNat)).bind fun t837 => (some (t837, t833, true))) else (some (65533, 1, false)))) else (none)) else (none)) else (none))
set_option maxHeartbeats 8000000 in
set_option maxRecDepth 100000 in
theorem galleyref04_At.calls (k : Nat) (A0 : Option Addr) (c0 : Nat) (l0 : List Int) (a1 : Int) (r1 : Int) (r2 : Int) (r3 : Bool) (w : World) (hr0 : Kd.C (Kd.int .u8) w A0 l0.length l0) (hc0 : l0.length ≤ c0) (h : galleyref04_At.f k l0 a1 = some (r1, r2, r3)) :
  Calls Tryd.prog 136 #[.slice A0 l0.length c0, .int .i64 a1] w fun e w' => e = .returned (.agg #[.int .i32 r1, .int .i64 r2, .bool r3]) ∧ Below w.heap.size w w' := by
 have hu121 := Tryd.underlying121
 have HR0 := Aside0.mk hr0
 have HC0 := Aside0.mk hc0
 clear hr0 hc0
 have HB := Aside0.mk (Below.refl w.heap.size w)
 have H : ((galleyref01_Width.f k l0 a1).bind fun t833 => (if 0 ≤ a1 then (if a1 ≤ (wrap64 (a1 + t833)) then (if (wrap64 (a1 + t833)) ≤ (l0.length : Int) then ((galleyref01_Whole.f k ((l0.take ((wrap64 (a1 + t833)) : Int).toNat).drop (a1 : Int).toNat)).bind fun t835 => (if t835 = true then ((galleyref01_Value.f k ((l0.take ((wrap64 (a1 + t833)) : Int).toNat).drop (a1 : Int).toNat)).bind fun t837 => (some (t837, t833, true))) else (some (65533, 1, false)))) else (none)) else (none)) else (none))) = some (r1, r2, r3) := h
 clear h
 replace H := Option.bind_eq_some_iff.mp H
 obtain ⟨t833, A30, H⟩ := H
 replace H : (if 0 ≤ a1 then (if a1 ≤ (wrap64 (a1 + t833)) then (if (wrap64 (a1 + t833)) ≤ (l0.length : Int) then ((galleyref01_Whole.f k ((l0.take ((wrap64 (a1 + t833)) : Int).toNat).drop (a1 : Int).toNat)).bind fun t835 => (if t835 = true then ((galleyref01_Value.f k ((l0.take ((wrap64 (a1 + t833)) : Int).toNat).drop (a1 : Int).toNat)).bind fun t837 => (some (t837, t833, true))) else (some (65533, 1, false)))) else (none)) else (none)) else (none)) = some (r1, r2, r3) := H
 have A3 := Aside0.mk A30
 clear A30
 by_cases c4 : 0 ≤ a1
 ·
  rw [if_pos c4] at H
  have c4b0 := eq_true c4
  have c4b1 : decide (0 ≤ a1) = true := decide_eq_true c4
  clear c4
  by_cases c5 : a1 ≤ (wrap64 (a1 + t833))
  ·
   rw [if_pos c5] at H
   have c5b0 := eq_true c5
   have c5b1 : decide (a1 ≤ (wrap64 (a1 + t833))) = true := decide_eq_true c5
   by_cases c6 : (wrap64 (a1 + t833)) ≤ (l0.length : Int)
   ·
    rw [if_pos c6] at H
    have c6b0 := eq_true c6
    have c6b1 : decide ((wrap64 (a1 + t833)) ≤ (l0.length : Int)) = true := decide_eq_true c6
    replace H := Option.bind_eq_some_iff.mp H
    obtain ⟨t835, A70, H⟩ := H
    replace H : (if t835 = true then ((galleyref01_Value.f k ((l0.take ((wrap64 (a1 + t833)) : Int).toNat).drop (a1 : Int).toNat)).bind fun t837 => (some (t837, t833, true))) else (some (65533, 1, false))) = some (r1, r2, r3) := H
    have A7 := Aside0.mk A70
    clear A70
    by_cases c8 : t835 = true
    ·
     subst c8
     have H1 : ((galleyref01_Value.f k ((l0.take ((wrap64 (a1 + t833)) : Int).toNat).drop (a1 : Int).toNat)).bind fun t837 => (some (t837, t833, true))) = some (r1, r2, r3) := by rw [if_pos rfl] at H; exact H
     clear H
     have H := H1
     clear H1
     have c9b0 := eq_true (of_decide_eq_true (by first | (with_reducible assumption) | assumption) : 0 ≤ a1)
     have c10b0 := eq_true (of_decide_eq_true (by first | (with_reducible assumption) | assumption) : a1 ≤ (wrap64 (a1 + t833)))
     have c11b0 := eq_true (of_decide_eq_true (by first | (with_reducible assumption) | assumption) : (wrap64 (a1 + t833)) ≤ (l0.length : Int))
     replace H := Option.bind_eq_some_iff.mp H
     obtain ⟨t837, A120, H⟩ := H
     replace H : (some (t837, t833, true)) = some (r1, r2, r3) := H
     have A12 := Aside0.mk A120
     clear A120
     simp only [Option.some.injEq, Prod.mk.injEq] at H
     obtain ⟨rfl, rfl, rfl⟩ := H
     go_enter Tryd.func136, Tryd.ntmps136
     go_wp2_with (first | ((with_reducible refine gate_dst (N := 4) rfl ?_); refine box_event ?hg (N := 4) ?hd (cs := #[.int .i32 0, .int .i64 0, .bool false]) (t := 121) ?hr ?_; (case hd => rfl); (case hg => rfl); (case hr => first | (go_simp; done) | (go_simp; rfl)); intro gb832 hg w13 hbox hb; have n0_ := Aside0.mk (below_step (by repeat (first | (with_reducible first | exact HB.out | apply below_alloc | apply pw_below_drewN | apply below_drew1) | exact HB.out)) hb); have n1_ := Aside0.mk (hbox); have n2_ := Aside0.mk ((by rw [hg]; exact (below_size (by repeat (first | (with_reducible first | exact HB.out | apply below_alloc | apply pw_below_drewN | apply below_drew1) | exact HB.out))) : w.heap.size ≤ gb832)); have n3_ := Aside0.mk ((by rw [hg]; exact (below_size (by repeat (first | (with_reducible first | exact HB.out | apply below_alloc | apply pw_below_drewN | apply below_drew1) | exact HB.out))) : w.heap.size ≤ gb832)); clear HB; have HB := n0_; have BK832 := n1_; have GW832 := n2_; have GE832 := n3_; clear n0_ n1_ n2_ n3_; clear hb hbox hg) | ((with_reducible refine gate_callee (f := 110) rfl ?_); refine goesL_ (some 9) rfl rfl Tryd.func110 (by kernel_rfl) rfl #[.slice A0 l0.length c0, .int .i64 a1] rfl (by (try simp only [List.map_toArray, List.map_cons, List.map_nil]); first | done | rfl | (simp only [List.length_drop, List.length_take]; rfl)) ?_; (with_reducible refine (galleyref01_Width.calls k _ _ l0 a1 t833 _ ?side1 ?side2 A3.out).mono ?_); (case side1 => repeat (first | exact (Kd.C_below HR0.out HB.out) | (with_reducible refine Kd.C_alloc ?_ _) | (with_reducible refine Kd.C_drewN ?_ _) | (with_reducible refine Kd.C_drew ?_))); (case side2 => exact HC0.out); rintro e w' ⟨rfl, ⟨nd, rfl⟩⟩; refine ⟨_, rfl, ?_⟩; (try (rw [drewN_self w13]; generalize hq_ : World.drewN w13 _ = w13; have n0_ : Aside0 (w13.heap[gb832]? = some (.cells #[.int .i32 0, .int .i64 0, .bool false] 121 (0, 0))) := ⟨by rw [← hq_]; exact (by (with_reducible repeat (first | refine blk_drewN ?_ _ | refine blk_drew ?_ | refine blk_alloc ?_ _)); exact BK832.out)⟩; have n1_ : Aside0 (Below w.heap.size w w13) := ⟨by rw [← hq_]; exact (by repeat (first | (with_reducible first | exact HB.out | apply below_alloc | apply pw_below_drewN | apply below_drew1 | refine below_set ?_ GE832.out) | exact HB.out))⟩; clear BK832 HB hq_; have BK832 := n0_; have HB := n1_; clear n0_ n1_)); obtain ⟨i014, hi014, _, hsz14, _⟩ := info_parts info5; obtain ⟨A14, hcut14, hA14, hC14⟩ := print_mid_of (P := Tryd.prog) (Value.int .u8) 0 22 5 .i64 .i64 Tryd.underlying22 hi014 hsz14 A0 c0 l0 a1 (wrap64 (a1 + t833)) (of_decide_eq_true (by first | (with_reducible assumption) | assumption)) (by first | omega | exact of_decide_eq_true (by first | (with_reducible assumption) | assumption)) (of_decide_eq_true (by first | (with_reducible assumption) | assumption)) HC0.out; have HR834 := Aside0.mk (Kd.C_of_reads (h1 := fun _ => rfl) (hA14 _ (Kd.reads_of_C HR0.out))); have HC834 := Aside0.mk hC14; clear hA14 hC14 hi014 hsz14) | ((with_reducible refine gate_callee (f := 125) rfl ?_); refine goesL_ (some 16) rfl rfl Tryd.func125 (by kernel_rfl) rfl #[.slice A14 ((l0.take ((wrap64 (a1 + t833)) : Int).toNat).drop (a1 : Int).toNat).length (c0 - a1.toNat)] rfl (by (try simp only [List.map_toArray, List.map_cons, List.map_nil]); first | done | (rw [show ((l0.take ((wrap64 (a1 + t833)) : Int).toNat).drop (a1 : Int).toNat).length = ((wrap64 (a1 + t833)).toNat - a1.toNat) from (by rw [List.length_drop, List.length_take]; have h_ : ((wrap64 (a1 + t833)) : Int) ≤ (l0.length : Int) := of_decide_eq_true (by first | (with_reducible assumption) | assumption); omega)] <;> rfl) | rfl | (simp only [List.length_drop, List.length_take]; rfl)) ?_; (with_reducible refine (galleyref01_Whole.calls k _ _ ((l0.take ((wrap64 (a1 + t833)) : Int).toNat).drop (a1 : Int).toNat) true _ ?side1 ?side2 A7.out).mono ?_); (case side1 => repeat (first | exact (Kd.C_below HR834.out HB.out) | (with_reducible refine Kd.C_alloc ?_ _) | (with_reducible refine Kd.C_drewN ?_ _) | (with_reducible refine Kd.C_drew ?_))); (case side2 => exact HC834.out); rintro e w' ⟨rfl, ⟨nd, rfl⟩⟩; refine ⟨_, rfl, ?_⟩; (try (rw [drewN_self w13]; generalize hq_ : World.drewN w13 _ = w13; have n0_ : Aside0 (w13.heap[gb832]? = some (.cells #[.int .i32 0, .int .i64 0, .bool false] 121 (0, 0))) := ⟨by rw [← hq_]; exact (by (with_reducible repeat (first | refine blk_drewN ?_ _ | refine blk_drew ?_ | refine blk_alloc ?_ _)); exact BK832.out)⟩; have n1_ : Aside0 (Below w.heap.size w w13) := ⟨by rw [← hq_]; exact (by repeat (first | (with_reducible first | exact HB.out | apply below_alloc | apply pw_below_drewN | apply below_drew1 | refine below_set ?_ GE832.out) | exact HB.out))⟩; clear BK832 HB hq_; have BK832 := n0_; have HB := n1_; clear n0_ n1_)); obtain ⟨i015, hi015, _, hsz15, _⟩ := info_parts info5; obtain ⟨A15, hcut15, hA15, hC15⟩ := print_mid_of (P := Tryd.prog) (Value.int .u8) 0 22 5 .i64 .i64 Tryd.underlying22 hi015 hsz15 A0 c0 l0 a1 (wrap64 (a1 + t833)) (of_decide_eq_true (by first | (with_reducible assumption) | assumption)) (by first | omega | exact of_decide_eq_true (by first | (with_reducible assumption) | assumption)) (of_decide_eq_true (by first | (with_reducible assumption) | assumption)) HC0.out; have HR836 := Aside0.mk (Kd.C_of_reads (h1 := fun _ => rfl) (hA15 _ (Kd.reads_of_C HR0.out))); have HC836 := Aside0.mk hC15; clear hA15 hC15 hi015 hsz15) | ((with_reducible refine gate_callee (f := 141) rfl ?_); refine goesL_ (some 24) rfl rfl Tryd.func141 (by kernel_rfl) rfl #[.slice A14 ((l0.take ((wrap64 (a1 + t833)) : Int).toNat).drop (a1 : Int).toNat).length (c0 - a1.toNat)] rfl (by (try simp only [List.map_toArray, List.map_cons, List.map_nil]); first | done | (rw [show ((l0.take ((wrap64 (a1 + t833)) : Int).toNat).drop (a1 : Int).toNat).length = ((wrap64 (a1 + t833)).toNat - a1.toNat) from (by rw [List.length_drop, List.length_take]; have h_ : ((wrap64 (a1 + t833)) : Int) ≤ (l0.length : Int) := of_decide_eq_true (by first | (with_reducible assumption) | assumption); omega)] <;> rfl) | rfl | (simp only [List.length_drop, List.length_take]; rfl)) ?_; (with_reducible refine (galleyref01_Value.calls k _ _ ((l0.take ((wrap64 (a1 + t833)) : Int).toNat).drop (a1 : Int).toNat) t837 _ ?side1 ?side2 A12.out).mono ?_); (case side1 => repeat (first | exact (Kd.C_below HR834.out HB.out) | (with_reducible refine Kd.C_alloc ?_ _) | (with_reducible refine Kd.C_drewN ?_ _) | (with_reducible refine Kd.C_drew ?_))); (case side2 => exact HC834.out); rintro e w' ⟨rfl, ⟨nd, rfl⟩⟩; refine ⟨_, rfl, ?_⟩; (try (rw [drewN_self w13]; generalize hq_ : World.drewN w13 _ = w13; have n0_ : Aside0 (w13.heap[gb832]? = some (.cells #[.int .i32 0, .int .i64 0, .bool false] 121 (0, 0))) := ⟨by rw [← hq_]; exact (by (with_reducible repeat (first | refine blk_drewN ?_ _ | refine blk_drew ?_ | refine blk_alloc ?_ _)); exact BK832.out)⟩; have n1_ : Aside0 (Below w.heap.size w w13) := ⟨by rw [← hq_]; exact (by repeat (first | (with_reducible first | exact HB.out | apply below_alloc | apply pw_below_drewN | apply below_drew1 | refine below_set ?_ GE832.out) | exact HB.out))⟩; clear BK832 HB hq_; have BK832 := n0_; have HB := n1_; clear n0_ n1_)); have hcz16_0 : w13.cell? ⟨gb832, 0, none⟩ = some (.int .i32 0) := (blk_cell BK832.out 0).trans rfl; have hcz16_1 : w13.cell? ⟨gb832, 1, none⟩ = some (.int .i64 0) := (blk_cell BK832.out 1).trans rfl; have hcz16_2 : w13.cell? ⟨gb832, 2, none⟩ = some (.bool false) := (blk_cell BK832.out 2).trans rfl; have hfz16_0 := blk_frozen BK832.out 0; have hfz16_1 := blk_frozen BK832.out 1; have hfz16_2 := blk_frozen BK832.out 2))
     refine bodyPost_ret (results_cell_row rfl _ _ gb832 121 #[.int .i32 t837, .int .i64 t833, .bool true] (0, 0) _ rfl (by (with_reducible repeat (first | refine blk_drewN ?_ _ | refine blk_drew ?_ | refine blk_alloc ?_ _)); refine blk_put (cs := #[.int .i32 t837, .int .i64 t833, .bool false]) ?_ 2 _ rfl; (with_reducible repeat (first | refine blk_drewN ?_ _ | refine blk_drew ?_ | refine blk_alloc ?_ _)); refine blk_put (cs := #[.int .i32 t837, .int .i64 0, .bool false]) ?_ 1 _ rfl; (with_reducible repeat (first | refine blk_drewN ?_ _ | refine blk_drew ?_ | refine blk_alloc ?_ _)); refine blk_put (cs := #[.int .i32 0, .int .i64 0, .bool false]) ?_ 0 _ rfl; (with_reducible repeat (first | refine blk_drewN ?_ _ | refine blk_drew ?_ | refine blk_alloc ?_ _)); exact BK832.out) Tryd.underlying121 rfl (by kernel_rfl)) rfl ?_
     exact ⟨by first | rfl | (simp [errW_none, errW_some] <;> rfl) | (simp [*, errW_none, errW_some] <;> rfl), by repeat (first | (with_reducible first | exact HB.out | apply below_alloc | apply pw_below_drewN | apply below_drew1 | refine below_set ?_ GE832.out) | exact HB.out)⟩
    ·
     replace c8 := Bool.eq_false_iff.mpr c8
     subst c8
     have H1 : (some (65533, 1, false)) = some (r1, r2, r3) := by rw [if_neg (show ¬ (false = true) by decide)] at H; exact H
     clear H
     have H := H1
     clear H1
     simp only [Option.some.injEq, Prod.mk.injEq] at H
     obtain ⟨rfl, rfl, rfl⟩ := H
     go_enter Tryd.func136, Tryd.ntmps136
     go_wp2_with (first | ((with_reducible refine gate_dst (N := 4) rfl ?_); refine box_event ?hg (N := 4) ?hd (cs := #[.int .i32 0, .int .i64 0, .bool false]) (t := 121) ?hr ?_; (case hd => rfl); (case hg => rfl); (case hr => first | (go_simp; done) | (go_simp; rfl)); intro gb832 hg w17 hbox hb; have n0_ := Aside0.mk (below_step (by repeat (first | (with_reducible first | exact HB.out | apply below_alloc | apply pw_below_drewN | apply below_drew1) | exact HB.out)) hb); have n1_ := Aside0.mk (hbox); have n2_ := Aside0.mk ((by rw [hg]; exact (below_size (by repeat (first | (with_reducible first | exact HB.out | apply below_alloc | apply pw_below_drewN | apply below_drew1) | exact HB.out))) : w.heap.size ≤ gb832)); have n3_ := Aside0.mk ((by rw [hg]; exact (below_size (by repeat (first | (with_reducible first | exact HB.out | apply below_alloc | apply pw_below_drewN | apply below_drew1) | exact HB.out))) : w.heap.size ≤ gb832)); clear HB; have HB := n0_; have BK832 := n1_; have GW832 := n2_; have GE832 := n3_; clear n0_ n1_ n2_ n3_; clear hb hbox hg) | ((with_reducible refine gate_callee (f := 110) rfl ?_); refine goesL_ (some 9) rfl rfl Tryd.func110 (by kernel_rfl) rfl #[.slice A0 l0.length c0, .int .i64 a1] rfl (by (try simp only [List.map_toArray, List.map_cons, List.map_nil]); first | done | rfl | (simp only [List.length_drop, List.length_take]; rfl)) ?_; (with_reducible refine (galleyref01_Width.calls k _ _ l0 a1 t833 _ ?side1 ?side2 A3.out).mono ?_); (case side1 => repeat (first | exact (Kd.C_below HR0.out HB.out) | (with_reducible refine Kd.C_alloc ?_ _) | (with_reducible refine Kd.C_drewN ?_ _) | (with_reducible refine Kd.C_drew ?_))); (case side2 => exact HC0.out); rintro e w' ⟨rfl, ⟨nd, rfl⟩⟩; refine ⟨_, rfl, ?_⟩; (try (rw [drewN_self w17]; generalize hq_ : World.drewN w17 _ = w17; have n0_ : Aside0 (w17.heap[gb832]? = some (.cells #[.int .i32 0, .int .i64 0, .bool false] 121 (0, 0))) := ⟨by rw [← hq_]; exact (by (with_reducible repeat (first | refine blk_drewN ?_ _ | refine blk_drew ?_ | refine blk_alloc ?_ _)); exact BK832.out)⟩; have n1_ : Aside0 (Below w.heap.size w w17) := ⟨by rw [← hq_]; exact (by repeat (first | (with_reducible first | exact HB.out | apply below_alloc | apply pw_below_drewN | apply below_drew1 | refine below_set ?_ GE832.out) | exact HB.out))⟩; clear BK832 HB hq_; have BK832 := n0_; have HB := n1_; clear n0_ n1_)); obtain ⟨i018, hi018, _, hsz18, _⟩ := info_parts info5; obtain ⟨A18, hcut18, hA18, hC18⟩ := print_mid_of (P := Tryd.prog) (Value.int .u8) 0 22 5 .i64 .i64 Tryd.underlying22 hi018 hsz18 A0 c0 l0 a1 (wrap64 (a1 + t833)) (of_decide_eq_true (by first | (with_reducible assumption) | assumption)) (by first | omega | exact of_decide_eq_true (by first | (with_reducible assumption) | assumption)) (of_decide_eq_true (by first | (with_reducible assumption) | assumption)) HC0.out; have HR834 := Aside0.mk (Kd.C_of_reads (h1 := fun _ => rfl) (hA18 _ (Kd.reads_of_C HR0.out))); have HC834 := Aside0.mk hC18; clear hA18 hC18 hi018 hsz18) | ((with_reducible refine gate_callee (f := 125) rfl ?_); refine goesL_ (some 16) rfl rfl Tryd.func125 (by kernel_rfl) rfl #[.slice A18 ((l0.take ((wrap64 (a1 + t833)) : Int).toNat).drop (a1 : Int).toNat).length (c0 - a1.toNat)] rfl (by (try simp only [List.map_toArray, List.map_cons, List.map_nil]); first | done | (rw [show ((l0.take ((wrap64 (a1 + t833)) : Int).toNat).drop (a1 : Int).toNat).length = ((wrap64 (a1 + t833)).toNat - a1.toNat) from (by rw [List.length_drop, List.length_take]; have h_ : ((wrap64 (a1 + t833)) : Int) ≤ (l0.length : Int) := of_decide_eq_true (by first | (with_reducible assumption) | assumption); omega)] <;> rfl) | rfl | (simp only [List.length_drop, List.length_take]; rfl)) ?_; (with_reducible refine (galleyref01_Whole.calls k _ _ ((l0.take ((wrap64 (a1 + t833)) : Int).toNat).drop (a1 : Int).toNat) false _ ?side1 ?side2 A7.out).mono ?_); (case side1 => repeat (first | exact (Kd.C_below HR834.out HB.out) | (with_reducible refine Kd.C_alloc ?_ _) | (with_reducible refine Kd.C_drewN ?_ _) | (with_reducible refine Kd.C_drew ?_))); (case side2 => exact HC834.out); rintro e w' ⟨rfl, ⟨nd, rfl⟩⟩; refine ⟨_, rfl, ?_⟩; (try (rw [drewN_self w17]; generalize hq_ : World.drewN w17 _ = w17; have n0_ : Aside0 (w17.heap[gb832]? = some (.cells #[.int .i32 0, .int .i64 0, .bool false] 121 (0, 0))) := ⟨by rw [← hq_]; exact (by (with_reducible repeat (first | refine blk_drewN ?_ _ | refine blk_drew ?_ | refine blk_alloc ?_ _)); exact BK832.out)⟩; have n1_ : Aside0 (Below w.heap.size w w17) := ⟨by rw [← hq_]; exact (by repeat (first | (with_reducible first | exact HB.out | apply below_alloc | apply pw_below_drewN | apply below_drew1 | refine below_set ?_ GE832.out) | exact HB.out))⟩; clear BK832 HB hq_; have BK832 := n0_; have HB := n1_; clear n0_ n1_)); have hcz19_0 : w17.cell? ⟨gb832, 0, none⟩ = some (.int .i32 0) := (blk_cell BK832.out 0).trans rfl; have hcz19_1 : w17.cell? ⟨gb832, 1, none⟩ = some (.int .i64 0) := (blk_cell BK832.out 1).trans rfl; have hcz19_2 : w17.cell? ⟨gb832, 2, none⟩ = some (.bool false) := (blk_cell BK832.out 2).trans rfl; have hfz19_0 := blk_frozen BK832.out 0; have hfz19_1 := blk_frozen BK832.out 1; have hfz19_2 := blk_frozen BK832.out 2))
     refine bodyPost_ret (results_cell_row rfl _ _ gb832 121 #[.int .i32 65533, .int .i64 1, .bool false] (0, 0) _ rfl (by (with_reducible repeat (first | refine blk_drewN ?_ _ | refine blk_drew ?_ | refine blk_alloc ?_ _)); refine blk_put (cs := #[.int .i32 65533, .int .i64 1, .bool false]) ?_ 2 _ rfl; (with_reducible repeat (first | refine blk_drewN ?_ _ | refine blk_drew ?_ | refine blk_alloc ?_ _)); refine blk_put (cs := #[.int .i32 65533, .int .i64 0, .bool false]) ?_ 1 _ rfl; (with_reducible repeat (first | refine blk_drewN ?_ _ | refine blk_drew ?_ | refine blk_alloc ?_ _)); refine blk_put (cs := #[.int .i32 0, .int .i64 0, .bool false]) ?_ 0 _ rfl; (with_reducible repeat (first | refine blk_drewN ?_ _ | refine blk_drew ?_ | refine blk_alloc ?_ _)); exact BK832.out) Tryd.underlying121 rfl (by kernel_rfl)) rfl ?_
     exact ⟨by first | rfl | (simp [errW_none, errW_some] <;> rfl) | (simp [*, errW_none, errW_some] <;> rfl), by repeat (first | (with_reducible first | exact HB.out | apply below_alloc | apply pw_below_drewN | apply below_drew1 | refine below_set ?_ GE832.out) | exact HB.out)⟩
   ·
    rw [if_neg c6] at H
    exact absurd H (by simp)
  ·
   rw [if_neg c5] at H
   exact absurd H (by simp)
 ·
  rw [if_neg c4] at H
  exact absurd H (by simp)
def galleyref04_Steps.l0 : Nat → List Int → List (S121) → Int → Option ((List (S121)))
 | 0, _, _, _ => none
 | k + 1, x0, x3, x4 => if x4 < (x0.length : Int) then ((galleyref04_At.f k x0 x4).bind fun bt838 => (if x3.length < 5864062014805 then (galleyref04_Steps.l0 k x0 (x3 ++ [(⟨bt838.1, bt838.2.1, bt838.2.2⟩ : S121)]) (wrap64 (x4 + bt838.2.1))) else (none))) else (some x3)
def galleyref04_Steps.f (k : Nat) (l0 : List Int) : Option ((List (S121))) := galleyref04_Steps.l0 k l0 ([] : List (S121)) 0
set_option maxHeartbeats 8000000 in
set_option maxRecDepth 100000 in
theorem galleyref04_Steps.calls (k : Nat) (A0 : Option Addr) (c0 : Nat) (l0 : List Int) (r : List (S121)) (w : World) (hr0 : Kd.C (Kd.int .u8) w A0 l0.length l0) (hc0 : l0.length ≤ c0) (h : galleyref04_Steps.f k l0 = some r) :
  Calls Tryd.prog 123 #[.slice A0 l0.length c0] w fun e w' => ∃ v0_ : Value, e = .returned (v0_) ∧ Kd.R k121 121 w' w.heap.size (fun _ => True) v0_ r ∧ Below w.heap.size w w' := by
 have hu121 := Tryd.underlying121
 have HR0 := Aside0.mk hr0
 have HC0 := Aside0.mk hc0
 clear hr0 hc0
 have HB := Aside0.mk (Below.refl w.heap.size w)
 have H : (galleyref04_Steps.l0 k l0 ([] : List (S121)) 0) = some r := h
 clear h
 have H' := Aside0.mk H
 clear H
 go_enter Tryd.func123, Tryd.ntmps123
 go_wp2
 go_loopg [3, 4] k (fun kq v3 v4 w' => ∃ (x3_1 : List (S121)) (x4_1 : Int), v4 = .int .i64 x4_1 ∧ Aside0 (galleyref04_Steps.l0 kq l0 x3_1 x4_1 = some r) ∧ Aside0 (kq ≤ k) ∧ Aside0 (Kd.R k121 121 w' w.heap.size (fun _ => True) v3 x3_1) ∧ Aside0 (Below w.heap.size w w'))
 case atStart => exact ⟨(([] : List (S121))), (0), (by first | rfl | (simp; done) | (simp [*]; done)), H', ⟨Nat.le_refl _⟩, ⟨by first | exact Kd.R_nil _ _ _ _ _ | exact Kd.N_nil _ _ _ _ _ | exact Kd.V_nil _ _ _ _ _ | exact Kd.Q_nil _ _ _ _ _ | exact Kd.S_nil _ _ _ _ _⟩, ⟨by repeat (first | (with_reducible first | exact HB.out | apply below_alloc | apply pw_below_drewN | apply below_drew1) | exact HB.out)⟩⟩
 case round =>
  clear H'
  (try clear c1)
  obtain ⟨x3_1, x4_1, rfl, HA, HK1, HO_3, HB⟩ := hrel
  cases gk with
  | zero => exact absurd HA.out (by simp [galleyref04_Steps.l0])
  | succ k1 =>
   have H := HA.out
   clear HA
   simp only [galleyref04_Steps.l0] at H
   by_cases c2 : x4_1 < (l0.length : Int)
   ·
    rw [if_pos c2] at H
    have c2b0 : decide (x4_1 < (l0.length : Int)) = true := decide_eq_true c2
    clear c2
    replace H := Option.bind_eq_some_iff.mp H
    obtain ⟨⟨t838, t839, t840⟩, A30, H⟩ := H
    replace H : (if x3_1.length < 5864062014805 then (galleyref04_Steps.l0 k1 l0 (x3_1 ++ [(⟨t838, t839, t840⟩ : S121)]) (wrap64 (x4_1 + t839))) else (none)) = some r := H
    have A3 := Aside0.mk A30
    clear A30
    by_cases c4 : x3_1.length < 5864062014805
    ·
     rw [if_pos c4] at H
     have LMc4 := Aside0.mk c4
     clear c4
     obtain ⟨y842, hy842⟩ : ∃ y_ : List (S121), y_ = (x3_1 ++ [(⟨t838, t839, t840⟩ : S121)]) := ⟨_, rfl⟩
     replace H : (galleyref04_Steps.l0 k1 l0 y842 (wrap64 (x4_1 + t839))) = some r := by first | (rw [hy842]; with_reducible exact H) | (have H2_ := (Option.bind_some _ _).symm.trans H; rw [hy842]; with_reducible exact H2_) | (have H2_ := (Option.bind_some _ _).symm.trans H; with_reducible exact H2_) | with_reducible exact H | (rw [hy842]; exact H) | exact H
     have Ny842 := Aside0.mk hy842
     clear hy842
     have H' := Aside0.mk H
     clear H
     go_wp2_with (first | ((with_reducible refine gate_callee (f := 136) rfl ?_); refine goesL_ (some 12) rfl rfl Tryd.func136 (by kernel_rfl) rfl #[.slice A0 l0.length c0, .int .i64 x4_1] rfl (by (try simp only [List.map_toArray, List.map_cons, List.map_nil]); first | done | rfl | (simp only [List.length_drop, List.length_take]; rfl)) ?_; (with_reducible refine (galleyref04_At.calls k1 _ _ l0 x4_1 t838 t839 t840 _ ?side1 ?side2 A3.out).mono ?_); (case side1 => repeat (first | exact (Kd.C_below HR0.out HB.out) | (with_reducible refine Kd.C_alloc ?_ _) | (with_reducible refine Kd.C_drewN ?_ _) | (with_reducible refine Kd.C_drew ?_))); (case side2 => exact HC0.out); rintro e w5 ⟨rfl, hb⟩; refine ⟨_, rfl, ?_⟩; have n0_ := Aside0.mk (Kd.R_below (by (with_reducible repeat (first | apply Kd.R_alloc | apply Kd.R_drewN | apply Kd.R_drew)); exact HO_3.out) hb); have n1_ := Aside0.mk (below_step (by repeat (first | (with_reducible first | exact HB.out | apply below_alloc | apply pw_below_drewN | apply below_drew1) | exact HB.out)) hb); clear HO_3; clear HB; have HO_3 := n0_; have HB := n1_; clear n0_ n1_; (try clear hb); (try clear hb2); (try clear hk); (try clear hi)) | ((with_reducible refine gate_dst (N := 5) rfl ?_); refine box_event ?hg (N := 5) ?hd (cs := #[.int .i32 0, .int .i64 0, .bool false]) (t := 121) ?hr ?_; (case hd => rfl); (case hg => rfl); (case hr => first | (go_simp; done) | (go_simp; rfl)); intro gb841 hg w6 hbox hb; have n0_ := Aside0.mk (Kd.R_below (Kd.R_elderB (by (with_reducible repeat (first | apply Kd.R_alloc | apply Kd.R_drewN | apply Kd.R_drew)); exact HO_3.out) gb841 (Nat.le_of_eq hg.symm)) hb); have n1_ := Aside0.mk (below_step (by repeat (first | (with_reducible first | exact HB.out | apply below_alloc | apply pw_below_drewN | apply below_drew1) | exact HB.out)) hb); have n2_ := Aside0.mk (hbox); have n3_ := Aside0.mk ((by rw [hg]; exact (below_size (by repeat (first | (with_reducible first | exact HB.out | apply below_alloc | apply pw_below_drewN | apply below_drew1) | exact HB.out))) : w.heap.size ≤ gb841)); have n4_ := Aside0.mk ((by rw [hg]; exact (below_size (by repeat (first | (with_reducible first | exact HB.out | apply below_alloc | apply pw_below_drewN | apply below_drew1) | exact HB.out))) : w.heap.size ≤ gb841)); clear HO_3; clear HB; have HO_3 := n0_; have HB := n1_; have BK841 := n2_; have GW841 := n3_; have GE841 := n4_; clear n0_ n1_ n2_ n3_ n4_; clear hb hbox hg; have hcz7_0 : w6.cell? ⟨gb841, 0, none⟩ = some (.int .i32 0) := (blk_cell BK841.out 0).trans rfl; have hcz7_1 : w6.cell? ⟨gb841, 1, none⟩ = some (.int .i64 0) := (blk_cell BK841.out 1).trans rfl; have hcz7_2 : w6.cell? ⟨gb841, 2, none⟩ = some (.bool false) := (blk_cell BK841.out 2).trans rfl; have hfz7_0 := blk_frozen BK841.out 0; have hfz7_1 := blk_frozen BK841.out 1; have hfz7_2 := blk_frozen BK841.out 2) | ((with_reducible refine gate_builtin (b := .append) (xs := #[.tmp 13, .tmp 15]) rfl ?_); at_builtin; refine Kd.R_append k121 (w0 := w) w.heap.size rfl (.tmp 13) (.tmp 15) 60 121 (.agg #[(.int .i32 0), (.int .i64 0), (.bool false)]) 24 rfl Tryd.underlying60 info121 rfl (by decide) (by omega) u3 x3_1 (⟨t838, t839, t840⟩ : S121) [.int .i32 t838, .int .i64 t839, .bool t840] (fun k_ => k_ ≠ gb841) (fun _ => False) rfl (by first | (go_simp; done) | (go_simp; rfl)) ?aP (fun _ hk => hk.elim) ?aF ?aO ?aB ?aS ?aL ?_; (case aP => exact k121_mkM _ _ _ (⟨t838, t839, t840⟩ : S121)); (case aB => exact (by repeat (first | (with_reducible first | exact HB.out | apply below_alloc | apply pw_below_drewN | apply below_drew1 | refine below_set ?_ GE841.out) | exact HB.out))); (case aF => exact (fun k_ hk => Kd.freshB (g := gb841) (o := .cells #[.int .i32 t838, .int .i64 t839, .bool t840] 121 (0, 0)) (by (with_reducible repeat (first | refine blk_drewN ?_ _ | refine blk_drew ?_ | refine blk_alloc ?_ _)); refine blk_put (cs := #[.int .i32 t838, .int .i64 t839, .bool false]) ?_ 2 _ rfl; (with_reducible repeat (first | refine blk_drewN ?_ _ | refine blk_drew ?_ | refine blk_alloc ?_ _)); refine blk_put (cs := #[.int .i32 t838, .int .i64 0, .bool false]) ?_ 1 _ rfl; (with_reducible repeat (first | refine blk_drewN ?_ _ | refine blk_drew ?_ | refine blk_alloc ?_ _)); refine blk_put (cs := #[.int .i32 0, .int .i64 0, .bool false]) ?_ 0 _ rfl; (with_reducible repeat (first | refine blk_drewN ?_ _ | refine blk_drew ?_ | refine blk_alloc ?_ _)); exact BK841.out) k_ hk)); (case aO => exact (by (with_reducible repeat (first | apply Kd.R_alloc | apply Kd.R_drewN | apply Kd.R_drew)); exact Kd.R_mono (Kd.R_far (p := ⟨gb841, 2, none⟩) (Kd.R_far (p := ⟨gb841, 1, none⟩) (Kd.R_far (p := ⟨gb841, 0, none⟩) (Kd.R_mono HO_3.out (fun k_ hk => (⟨hk, hk.2⟩ : _ ∧ k_ ≠ gb841))) (fun _ hk => hk.2) (.int .i32 t838)) (fun _ hk => hk.2) (.int .i64 t839)) (fun _ hk => hk.2) (.bool t840)) (fun _ hk => hk.1.2))); (case aS => exact (below_size (by repeat (first | (with_reducible first | exact HB.out | apply below_alloc | apply pw_below_drewN | apply below_drew1 | refine below_set ?_ GE841.out) | exact HB.out)))); (case aL => have := LMc4.out; omega); intro v843 w8 ho hb hg hat; rw [← Ny842.out] at ho; have n0_ := Aside0.mk (blk_grown (g := gb841) (o := .cells #[.int .i32 t838, .int .i64 t839, .bool t840] 121 (0, 0)) (by (with_reducible repeat (first | refine blk_drewN ?_ _ | refine blk_drew ?_ | refine blk_alloc ?_ _)); refine blk_put (cs := #[.int .i32 t838, .int .i64 t839, .bool false]) ?_ 2 _ rfl; (with_reducible repeat (first | refine blk_drewN ?_ _ | refine blk_drew ?_ | refine blk_alloc ?_ _)); refine blk_put (cs := #[.int .i32 t838, .int .i64 0, .bool false]) ?_ 1 _ rfl; (with_reducible repeat (first | refine blk_drewN ?_ _ | refine blk_drew ?_ | refine blk_alloc ?_ _)); refine blk_put (cs := #[.int .i32 0, .int .i64 0, .bool false]) ?_ 0 _ rfl; (with_reducible repeat (first | refine blk_drewN ?_ _ | refine blk_drew ?_ | refine blk_alloc ?_ _)); exact BK841.out) hg (Kd.R_away HO_3.out (fun _ hk => hk.2))); have n1_ := Aside0.mk (hb); have n2_ := Aside0.mk (ho); clear BK841; clear HB; clear HO_3; have BK841 := n0_; have HB := n1_; have HO844 := n2_; clear n0_ n1_ n2_; clear ho hb hg hat; have hcz9_0 : w8.cell? ⟨gb841, 0, none⟩ = some (.int .i32 t838) := (blk_cell BK841.out 0).trans rfl; have hcz9_1 : w8.cell? ⟨gb841, 1, none⟩ = some (.int .i64 t839) := (blk_cell BK841.out 1).trans rfl; have hcz9_2 : w8.cell? ⟨gb841, 2, none⟩ = some (.bool t840) := (blk_cell BK841.out 2).trans rfl; have hfz9_0 := blk_frozen BK841.out 0; have hfz9_1 := blk_frozen BK841.out 1; have hfz9_2 := blk_frozen BK841.out 2))
     go_roundg k1
     case measure => have := HK1.out; omega
     case rel => exact ⟨(y842), (wrap64 (x4_1 + t839)), (by first | rfl | (simp; done) | (simp [*]; done)), H', ⟨by have := HK1.out; omega⟩, ⟨by (with_reducible repeat (first | apply Kd.R_alloc | apply Kd.R_drewN | apply Kd.R_drew)); exact Kd.R_mono HO844.out (fun _ hk => trivial)⟩, ⟨by repeat (first | (with_reducible first | exact HB.out | apply below_alloc | apply pw_below_drewN | apply below_drew1 | refine below_set ?_ GE841.out) | exact HB.out)⟩⟩
    ·
     rw [if_neg c4] at H
     exact absurd H (by simp)
   ·
    rw [if_neg c2] at H
    have c2b0 : decide (x4_1 < (l0.length : Int)) = false := decide_eq_false c2
    clear c2
    obtain rfl := Option.some.inj H
    go_wp2
    go_ret
    exact ⟨_, by first | rfl | (simp [errW_none, errW_some] <;> rfl) | (simp [*, errW_none, errW_some] <;> rfl), by (with_reducible repeat (first | apply Kd.R_alloc | apply Kd.R_drewN | apply Kd.R_drew)); exact HO_3.out, by repeat (first | (with_reducible first | exact HB.out | apply below_alloc | apply pw_below_drewN | apply below_drew1) | exact HB.out)⟩
end Go.Proofs.YtbomhpfckplgaaaDoor.P
namespace Go.Proofs.YtbomhpfckplgaaaDoor.P
open Go.RowKit Go.Proofs.YtbomhpfckplgaaaDoorW.PrintWords Go.Proofs.YtbomhpfckplgaaaDoorW.PrintLast Go.Proofs.YtbomhpfckplgaaaDoorW.PrintMore
attribute [local go_sem] max2_int min2_int max_two min_two max_three min_three max_four min_four   -- for this text's walks alone
set_option linter.unusedVariables false
set_option linter.unusedSimpArgs false
def galleyref07_Size.l0 : Nat → Int → Int → List (S121) → Int → Option (Int)
 | 0, _, _, _, _ => none
 | k + 1, x1, x5, x6, x7 => if x7 < (x6.length : Int) then (if x1 = 3 then (if 0 ≤ x7 then (if ((rd_T121 x6 x7).f0) > 65535 then (galleyref07_Size.l0 k x1 (wrap64 ((wrap64 (x5 + 1)) + 1)) x6 (wrap64 (x7 + 1))) else (galleyref07_Size.l0 k x1 (wrap64 (x5 + 1)) x6 (wrap64 (x7 + 1)))) else (none)) else (galleyref07_Size.l0 k x1 (wrap64 (x5 + 1)) x6 (wrap64 (x7 + 1)))) else (some x5)
def galleyref07_Size.f (k : Nat) (l0 : List Int) (a1 : Int) : Option (Int) := if a1 = 1 then (some (l0.length : Int)) else ((galleyref04_Steps.f k l0).bind fun t845 => (galleyref07_Size.l0 k a1 0 t845 0))
set_option maxHeartbeats 8000000 in
set_option maxRecDepth 100000 in
theorem galleyref07_Size.calls (k : Nat) (A0 : Option Addr) (c0 : Nat) (l0 : List Int) (a1 : Int) (r : Int) (w : World) (hr0 : Kd.C (Kd.int .u8) w A0 l0.length l0) (hc0 : l0.length ≤ c0) (h : galleyref07_Size.f k l0 a1 = some r) :
  Calls Tryd.prog 105 #[.slice A0 l0.length c0, .int .i64 a1] w fun e w' => e = .returned (.int .i64 r) ∧ Below w.heap.size w w' := by
 have HR0 := Aside0.mk hr0
 have HC0 := Aside0.mk hc0
 clear hr0 hc0
 have HB := Aside0.mk (Below.refl w.heap.size w)
 have H : (if a1 = 1 then (some (l0.length : Int)) else ((galleyref04_Steps.f k l0).bind fun t845 => (galleyref07_Size.l0 k a1 0 t845 0))) = some r := h
 clear h
 by_cases c3 : a1 = 1
 ·
  rw [if_pos c3] at H
  have c3b0 : (a1 == 1) = true := beq_iff_eq.mpr c3
  have c3b1 : (a1 != 1) = false := bne_eq_false_iff_eq.mpr c3
  clear c3
  obtain rfl := Option.some.inj H
  go_enter Tryd.func105, Tryd.ntmps105
  go_wp2
  go_ret
  exact ⟨by first | rfl | (simp [errW_none, errW_some] <;> rfl) | (simp [*, errW_none, errW_some] <;> rfl), by repeat (first | (with_reducible first | exact HB.out | apply below_alloc | apply pw_below_drewN | apply below_drew1) | exact HB.out)⟩
 ·
  rw [if_neg c3] at H
  have c3b0 : (a1 == 1) = false := beq_eq_false_iff_ne.mpr c3
  have c3b1 : (a1 != 1) = true := bne_iff_ne.mpr c3
  replace H := Option.bind_eq_some_iff.mp H
  obtain ⟨t845, A40, H⟩ := H
  replace H : (galleyref07_Size.l0 k a1 0 t845 0) = some r := H
  have A4 := Aside0.mk A40
  clear A40
  have H' := Aside0.mk H
  clear H
  go_enter Tryd.func105, Tryd.ntmps105
  go_wp2_with (first | ((with_reducible refine gate_callee (f := 123) rfl ?_); refine goesL_ (some 13) rfl rfl Tryd.func123 (by kernel_rfl) rfl #[.slice A0 l0.length c0] rfl (by (try simp only [List.map_toArray, List.map_cons, List.map_nil]); first | done | rfl | (simp only [List.length_drop, List.length_take]; rfl)) ?_; (with_reducible refine (galleyref04_Steps.calls k _ _ l0 t845 _ ?side1 ?side2 A4.out).mono ?_); (case side1 => repeat (first | exact HR0.out | (with_reducible refine Kd.C_alloc ?_ _) | (with_reducible refine Kd.C_drewN ?_ _) | (with_reducible refine Kd.C_drew ?_))); (case side2 => exact HC0.out); rintro e w5 ⟨v846, rfl, ho0, hb⟩; refine ⟨_, rfl, ?_⟩; have n0_ := Aside0.mk (Kd.R_lower ho0 (below_size (by repeat (first | (with_reducible first | exact HB.out | apply below_alloc | apply pw_below_drewN | apply below_drew1) | exact HB.out)))); have n1_ := Aside0.mk (below_step (by repeat (first | (with_reducible first | exact HB.out | apply below_alloc | apply pw_below_drewN | apply below_drew1) | exact HB.out)) hb); clear HB; have HO847 := n0_; have HB := n1_; clear n0_ n1_; (try clear hb); (try clear hb2); (try clear hk); (try clear hi); (try clear ho0)))
  go_loopg [5, 7] k (fun kq v5 v7 w' => ∃ (x5_1 : Int) (x7_1 : Int), v5 = .int .i64 x5_1 ∧ v7 = .int .i64 x7_1 ∧ Aside0 (galleyref07_Size.l0 kq a1 x5_1 t845 x7_1 = some r) ∧ Aside0 (kq ≤ k) ∧ Aside0 (Kd.R k121 121 w' w.heap.size (fun _ => True) v846 t845) ∧ Aside0 (Below w.heap.size w w'))
  case atStart => exact ⟨(0), (0), (by first | rfl | (simp; done) | (simp [*]; done)), (by first | rfl | (simp; done) | (simp [*]; done)), H', ⟨Nat.le_refl _⟩, ⟨by (with_reducible repeat (first | apply Kd.R_alloc | apply Kd.R_drewN | apply Kd.R_drew)); exact HO847.out⟩, ⟨by repeat (first | (with_reducible first | exact HB.out | apply below_alloc | apply pw_below_drewN | apply below_drew1) | exact HB.out)⟩⟩
  case round =>
   clear H'
   (try clear c1); (try clear p2); (try clear c3); (try clear c3b0); (try clear c3b1)
   obtain ⟨x5_1, x7_1, rfl, rfl, HA, HK1, HO_6, HB⟩ := hrel
   cases gk with
   | zero => exact absurd HA.out (by simp [galleyref07_Size.l0])
   | succ k1 =>
    have H := HA.out
    clear HA
    simp only [galleyref07_Size.l0] at H
    by_cases c6 : x7_1 < (t845.length : Int)
    ·
     rw [if_pos c6] at H
     have c6b0 : decide (x7_1 < (t845.length : Int)) = true := decide_eq_true c6
     clear c6
     by_cases c7 : a1 = 3
     ·
      rw [if_pos c7] at H
      have c7b0 : (a1 == 3) = true := beq_iff_eq.mpr c7
      have c7b1 : (a1 != 3) = false := bne_eq_false_iff_eq.mpr c7
      clear c7
      by_cases c8 : 0 ≤ x7_1
      ·
       rw [if_pos c8] at H
       have c8b0 : decide (0 ≤ x7_1) = true := decide_eq_true c8
       clear c8
       by_cases c9 : ((rd_T121 t845 x7_1).f0) > 65535
       ·
        rw [if_pos c9] at H
        have c9b0 : decide (65535 < ((rd_T121 t845 x7_1).f0)) = true := decide_eq_true c9
        clear c9
        have H' := Aside0.mk H
        clear H
        obtain ⟨Ao10, co10, eo10⟩ := Kd.R_slice HO_6.out
        subst eo10
        have p848 : 0 ≤ (x7_1 : Int) := of_decide_eq_true (by first | (with_reducible assumption) | assumption)
        have q848 : x7_1 < (t845.length : Int) := of_decide_eq_true (by first | (with_reducible assumption) | assumption)
        obtain ⟨ad848, e848, hx848_0, hx848_1, hx848_2⟩ := at_T121 (Kd.R_reads' HO_6.out).2.2 x7_1 p848 q848
        cases e848
        replace p848 := eq_true p848
        replace q848 := eq_true q848
        go_wp2
        go_roundg k1
        case measure => have := HK1.out; omega
        case rel => exact ⟨(wrap64 ((wrap64 (x5_1 + 1)) + 1)), (wrap64 (x7_1 + 1)), (by first | rfl | (simp; done) | (simp [*]; done)), (by first | rfl | (simp; done) | (simp [*]; done)), H', ⟨by have := HK1.out; omega⟩, ⟨by (with_reducible repeat (first | apply Kd.R_alloc | apply Kd.R_drewN | apply Kd.R_drew)); exact HO_6.out⟩, ⟨by repeat (first | (with_reducible first | exact HB.out | apply below_alloc | apply pw_below_drewN | apply below_drew1) | exact HB.out)⟩⟩
       ·
        rw [if_neg c9] at H
        have c9b0 : decide (65535 < ((rd_T121 t845 x7_1).f0)) = false := decide_eq_false c9
        clear c9
        have H' := Aside0.mk H
        clear H
        obtain ⟨Ao11, co11, eo11⟩ := Kd.R_slice HO_6.out
        subst eo11
        have p848 : 0 ≤ (x7_1 : Int) := of_decide_eq_true (by first | (with_reducible assumption) | assumption)
        have q848 : x7_1 < (t845.length : Int) := of_decide_eq_true (by first | (with_reducible assumption) | assumption)
        obtain ⟨ad848, e848, hx848_0, hx848_1, hx848_2⟩ := at_T121 (Kd.R_reads' HO_6.out).2.2 x7_1 p848 q848
        cases e848
        replace p848 := eq_true p848
        replace q848 := eq_true q848
        go_wp2
        go_roundg k1
        case measure => have := HK1.out; omega
        case rel => exact ⟨(wrap64 (x5_1 + 1)), (wrap64 (x7_1 + 1)), (by first | rfl | (simp; done) | (simp [*]; done)), (by first | rfl | (simp; done) | (simp [*]; done)), H', ⟨by have := HK1.out; omega⟩, ⟨by (with_reducible repeat (first | apply Kd.R_alloc | apply Kd.R_drewN | apply Kd.R_drew)); exact HO_6.out⟩, ⟨by repeat (first | (with_reducible first | exact HB.out | apply below_alloc | apply pw_below_drewN | apply below_drew1) | exact HB.out)⟩⟩
      ·
       rw [if_neg c8] at H
       exact absurd H (by simp)
     ·
      rw [if_neg c7] at H
      have c7b0 : (a1 == 3) = false := beq_eq_false_iff_ne.mpr c7
      have c7b1 : (a1 != 3) = true := bne_iff_ne.mpr c7
      have H' := Aside0.mk H
      clear H
      obtain ⟨Ao12, co12, eo12⟩ := Kd.R_slice HO_6.out
      subst eo12
      go_wp2
      go_roundg k1
      case measure => have := HK1.out; omega
      case rel => exact ⟨(wrap64 (x5_1 + 1)), (wrap64 (x7_1 + 1)), (by first | rfl | (simp; done) | (simp [*]; done)), (by first | rfl | (simp; done) | (simp [*]; done)), H', ⟨by have := HK1.out; omega⟩, ⟨by (with_reducible repeat (first | apply Kd.R_alloc | apply Kd.R_drewN | apply Kd.R_drew)); exact HO_6.out⟩, ⟨by repeat (first | (with_reducible first | exact HB.out | apply below_alloc | apply pw_below_drewN | apply below_drew1) | exact HB.out)⟩⟩
    ·
     rw [if_neg c6] at H
     have c6b0 : decide (x7_1 < (t845.length : Int)) = false := decide_eq_false c6
     clear c6
     obtain rfl := Option.some.inj H
     obtain ⟨Ao13, co13, eo13⟩ := Kd.R_slice HO_6.out
     subst eo13
     go_wp2
     go_ret
     exact ⟨by first | rfl | (simp [errW_none, errW_some] <;> rfl) | (simp [*, errW_none, errW_some] <;> rfl), by repeat (first | (with_reducible first | exact HB.out | apply below_alloc | apply pw_below_drewN | apply below_drew1) | exact HB.out)⟩
end Go.Proofs.YtbomhpfckplgaaaDoor.P
