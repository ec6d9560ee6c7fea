/- Texts of this claim, put together: Px27. -/
import Derived.Test.YtbomhpfckplgaaaDoorT0
import Derived.Test.YtbomhpfckplgaaaDoorT3
import Derived.Test.YtbomhpfckplgaaaDoorT4
import Derived.Test.YtbomhpfckplgaaaDoorT6
namespace Go.Proofs.YtbomhpfckplgaaaDoor.P
open Go.RowKit Go.Proofs.YtbomhpfckplgaaaDoorW.PrintWords Go.Proofs.YtbomhpfckplgaaaDoorW.PrintLast Go.Proofs.YtbomhpfckplgaaaDoorW.PrintMore
attribute [local go_sem] max2_int min2_int max_two min_two max_three min_three max_four min_four   -- for this text's walks alone
set_option linter.unusedVariables false
set_option linter.unusedSimpArgs false
mutual
def galleyref07_At.j0 : Nat → List Int → Int → Int → Bool → Int → Int → Option (Int × Int)
 | 0, _, _, _, _, _, _ => none
 | k + 1, x0, x2, x3, x30, x850000, x850001 => if x30 = true then (some (0, 3)) else ((galleyref07_Rows.f k x0).bind fun t850 => (if x850000 < 0 then (galleyref07_At.j1 k x0 x2 x3 t850 true x850000 x850001) else (if x850000 ≥ (t850.length : Int) then (galleyref07_At.j1 k x0 x2 x3 t850 true x850000 x850001) else (galleyref07_At.j1 k x0 x2 x3 t850 (decide (x850001 < 0)) x850000 x850001))))
def galleyref07_At.j1 : Nat → List Int → Int → Int → List (S88) → Bool → Int → Int → Option (Int × Int)
 | 0, _, _, _, _, _, _, _ => none
 | k + 1, x0, x2, x3, x10, x47, x850000, x850001 => if x47 = true then (some (0, 2)) else (if 0 ≤ x850000 then (if x850000 < (x10.length : Int) then ((galleyref04_Edges.f k x0).bind fun t855 => (galleyref07_At.l0 k x0 x2 x3 (-1) (-1) t855 0 x850000 x850001 ((rd_T88 x10 x850000).f0) ((rd_T88 x10 x850000).f1) ((rd_T88 x10 x850000).f2))) else (none)) else (none))
def galleyref07_At.l0 : Nat → List Int → Int → Int → Int → Int → List Int → Int → Int → Int → Int → Int → Int → Option (Int × Int)
 | 0, _, _, _, _, _, _, _, _, _, _, _, _ => none
 | k + 1, x0, x2, x3, x12, x13, x14, x15, x850000, x850001, x855000, x855001, x855002 => if x15 < (x14.length : Int) then (if 0 ≤ x15 then (if (rd x14 x15) < x855000 then (galleyref07_At.j3 k x0 x2 x3 x12 x13 x14 x15 true x850000 x850001 x855000 x855001 x855002) else ((galleyref07_Last.f x855000 x855001 x855002).bind fun t860 => (galleyref07_At.j3 k x0 x2 x3 x12 x13 x14 x15 (decide ((rd x14 x15) > t860)) x850000 x850001 x855000 x855001 x855002))) else (none)) else (if x13 < 0 then (galleyref07_At.j4 k x3 x12 x13 (x3 == 3) x855000 x855001 x855002) else (galleyref07_At.j4 k x3 x12 x13 false x855000 x855001 x855002))
def galleyref07_At.j3 : Nat → List Int → Int → Int → Int → Int → List Int → Int → Bool → Int → Int → Int → Int → Int → Option (Int × Int)
 | 0, _, _, _, _, _, _, _, _, _, _, _, _, _ => none
 | k + 1, x0, x2, x3, x12, x13, x14, x15, x76, x850000, x850001, x855000, x855001, x855002 => if x76 = true then (galleyref07_At.l0 k x0 x2 x3 x12 x13 x14 (wrap64 (x15 + 1)) x850000 x850001 x855000 x855001 x855002) else (if 0 ≤ x15 then (if x15 < (x14.length : Int) then (if 0 ≤ x855000 then (if x855000 ≤ (rd x14 x15) then (if (rd x14 x15) ≤ (x0.length : Int) then ((galleyref07_Size.f k ((x0.take ((rd x14 x15) : Int).toNat).drop (x855000 : Int).toNat) x2).bind fun t863 => (if t863 = x850001 then (some (rd x14 x15, 0)) else (if t863 < x850001 then (if t863 > x850001 then (if x13 < 0 then (galleyref07_At.l0 k x0 x2 x3 (rd x14 x15) (rd x14 x15) x14 (wrap64 (x15 + 1)) x850000 x850001 x855000 x855001 x855002) else (galleyref07_At.l0 k x0 x2 x3 (rd x14 x15) x13 x14 (wrap64 (x15 + 1)) x850000 x850001 x855000 x855001 x855002)) else (galleyref07_At.l0 k x0 x2 x3 (rd x14 x15) x13 x14 (wrap64 (x15 + 1)) x850000 x850001 x855000 x855001 x855002)) else (if t863 > x850001 then (if x13 < 0 then (galleyref07_At.l0 k x0 x2 x3 x12 (rd x14 x15) x14 (wrap64 (x15 + 1)) x850000 x850001 x855000 x855001 x855002) else (galleyref07_At.l0 k x0 x2 x3 x12 x13 x14 (wrap64 (x15 + 1)) x850000 x850001 x855000 x855001 x855002)) else (galleyref07_At.l0 k x0 x2 x3 x12 x13 x14 (wrap64 (x15 + 1)) x850000 x850001 x855000 x855001 x855002))))) else (none)) else (none)) else (none)) else (none)) else (none))
def galleyref07_At.j4 : Nat → Int → Int → Int → Bool → Int → Int → Int → Option (Int × Int)
 | 0, _, _, _, _, _, _, _ => none
 | k + 1, x3, x12, x13, x115, x855000, x855001, x855002 => if x115 = true then (some (0, 2)) else (if x13 < 0 then (some (x855001, 0)) else (if x3 = 1 then (some (x12, 0)) else (if x3 = 2 then (some (x13, 0)) else (some (0, 4)))))
end
def galleyref07_At.f (k : Nat) (l0 : List Int) (a1_0 : Int) (a1_1 : Int) (a2 : Int) (a3 : Int) : Option (Int × Int) := if a2 < 1 then (galleyref07_At.j0 k l0 a2 a3 true a1_0 a1_1) else (if a2 > 3 then (galleyref07_At.j0 k l0 a2 a3 true a1_0 a1_1) else (if a3 < 1 then (galleyref07_At.j0 k l0 a2 a3 true a1_0 a1_1) else (galleyref07_At.j0 k l0 a2 a3 (decide (a3 > 3)) a1_0 a1_1)))
def galleyref07_At.T12 : Bool × List (List Nat × List Nat) := (true, [([], []), ([], []), ([0, 1], [0, 1]), ([2], [2]), ([], []), ([4], [4]), ([3, 5], [3, 5]), ([6], [6]), ([7], [7]), ([7], [7]), ([8, 9, 7], [7, 8, 9]), ([10, 7], [7, 10]), ([7], [7]), ([12, 7, 7], [7, 12]), ([11, 13, 7], [7, 11, 13]), ([7, 14], [7, 14])])
def galleyref07_At.B12 : List Nat := [0, 0, 3, 7, 0, 16, 63, 127, 255, 255, 1023, 2047, 255, 4351, 16383, 32767]
theorem galleyref07_At.tab12 : rtab .any (opsOf Tryd.f60 12) = galleyref07_At.T12 := by kernel_rfl
theorem galleyref07_At.bits12 : waitsOk galleyref07_At.T12.2 galleyref07_At.B12 = true := by kernel_rfl
def galleyref07_At.T13 : Bool × List (List Nat × List Nat) := (true, [([], []), ([], []), ([1], [1]), ([], []), ([], []), ([3, 4], [3, 4]), ([5], [5]), ([0, 2, 6], [0, 2, 6]), ([], []), ([7, 8], [7, 8]), ([9, 9, 0, 1, 2, 3, 4, 5, 6, 7, 8, 9], [9])])
def galleyref07_At.B13 : List Nat := [0, 0, 2, 0, 0, 24, 56, 127, 0, 511, 1023]
theorem galleyref07_At.tab13 : rtab .any (opsOf Tryd.f60 13) = galleyref07_At.T13 := by kernel_rfl
theorem galleyref07_At.bits13 : waitsOk galleyref07_At.T13.2 galleyref07_At.B13 = true := by kernel_rfl
set_option maxHeartbeats 8000000 in
set_option maxRecDepth 100000 in
theorem galleyref07_At.calls (k : Nat) (A0 : Option Addr) (c0 : Nat) (l0 : List Int) (a1_0 : Int) (a1_1 : Int) (a2 : Int) (a3 : Int) (r1 : Int) (r2 : Int) (w : World) (hr0 : Kd.C (Kd.int .u8) w A0 l0.length l0) (hc0 : l0.length ≤ c0) (h : galleyref07_At.f k l0 a1_0 a1_1 a2 a3 = some (r1, r2)) :
  Calls Tryd.prog 60 #[.slice A0 l0.length c0, .agg #[.int .i64 a1_0, .int .i64 a1_1], .int .i64 a2, .int .i64 a3] w fun e w' => e = .returned (.tuple #[.int .i64 r1, .int .i64 r2]) ∧ Below w.heap.size w w' := by
 have hu71 := Tryd.underlying71
 have hu88 := Tryd.underlying88
 have HR0 := Aside0.mk hr0
 have HC0 := Aside0.mk hc0
 clear hr0 hc0
 have HB := Aside0.mk (Below.refl w.heap.size w)
 have H : (if a2 < 1 then (galleyref07_At.j0 k l0 a2 a3 true a1_0 a1_1) else (if a2 > 3 then (galleyref07_At.j0 k l0 a2 a3 true a1_0 a1_1) else (if a3 < 1 then (galleyref07_At.j0 k l0 a2 a3 true a1_0 a1_1) else (galleyref07_At.j0 k l0 a2 a3 (decide (a3 > 3)) a1_0 a1_1)))) = some (r1, r2) := h
 clear h
 have HC5 := Aside0.mk H
 clear H
 go_enter Tryd.func60, Tryd.ntmps60
 go_upto_region 1 with (first | ((with_reducible refine gate_dst (N := 5) rfl ?_); (try (refine gate_guard (by rfl) ?_; dsimp only)); refine box_event ?hg (N := 5) ?hd (cs := #[.int .i64 a1_0, .int .i64 a1_1]) (t := 71) ?hr ?_; (case hd => rfl); (case hg => rfl); (case hr => first | (go_simp; done) | (go_simp; rfl)); intro gb849 hg w6 hbox hb; have n0_ := Aside0.mk (below_step (by repeat (first | (with_reducible first | exact HB.out | apply below_alloc | apply pw_below_drewN | apply below_drew1) | exact HB.out)) hb); have n1_ := Aside0.mk (hbox); have n2_ := Aside0.mk ((by rw [hg]; exact (below_size (by repeat (first | (with_reducible first | exact HB.out | apply below_alloc | apply pw_below_drewN | apply below_drew1) | exact HB.out))) : w.heap.size ≤ gb849)); have n3_ := Aside0.mk ((by rw [hg]; exact (below_size (by repeat (first | (with_reducible first | exact HB.out | apply below_alloc | apply pw_below_drewN | apply below_drew1) | exact HB.out))) : w.heap.size ≤ gb849)); clear HB; have HB := n0_; have BK849 := n1_; have GW849 := n2_; have GE849 := n3_; clear n0_ n1_ n2_ n3_; clear hb hbox hg))
 (try simp only [Act.put, List.setIfInBounds_toArray, List.set_cons_zero, List.set_cons_succ])
 go_cut [30] (fun v30 wc => ∃ (kq : Nat) (x30_4 : Bool), v30 = .bool x30_4 ∧ Aside0 (galleyref07_At.j0 kq l0 a2 a3 x30_4 a1_0 a1_1 = some (r1, r2)) ∧ Aside0 (kq ≤ k) ∧ Aside0 (wc.heap[gb849]? = some (.cells #[.int .i64 a1_0, .int .i64 a1_1] 71 (0, 0))) ∧ Aside0 (Below w.heap.size w wc))
 case first =>
  have H := HC5.out
  clear HC5
  by_cases c7 : a2 < 1
  ·
   rw [if_pos c7] at H
   have c7b0 : decide (a2 < 1) = true := decide_eq_true c7
   clear c7
   (first | rw [c7b0] | (simp only [i64_w, i32_w]; rw [c7b0]) | skip)
   have H' := Aside0.mk H
   clear H
   go_wp2
   go_meet
   case rel => exact ⟨_, (true), (by first | rfl | (simp; done) | (simp [*]; done)), H', ⟨by first | omega | exact Nat.le_refl _⟩, ⟨by (with_reducible repeat (first | refine blk_drewN ?_ _ | refine blk_drew ?_ | refine blk_alloc ?_ _)); exact BK849.out⟩, ⟨by repeat (first | (with_reducible first | exact HB.out | apply below_alloc | apply pw_below_drewN | apply below_drew1 | refine below_set ?_ GE849.out) | exact HB.out)⟩⟩
  ·
   rw [if_neg c7] at H
   have c7b0 : decide (a2 < 1) = false := decide_eq_false c7
   clear c7
   (first | rw [c7b0] | (simp only [i64_w, i32_w]; rw [c7b0]) | skip)
   by_cases c8 : a2 > 3
   ·
    rw [if_pos c8] at H
    have c8b0 : decide (3 < a2) = true := decide_eq_true c8
    clear c8
    have H' := Aside0.mk H
    clear H
    go_wp2
    go_meet
    case rel => exact ⟨_, (true), (by first | rfl | (simp; done) | (simp [*]; done)), H', ⟨by first | omega | exact Nat.le_refl _⟩, ⟨by (with_reducible repeat (first | refine blk_drewN ?_ _ | refine blk_drew ?_ | refine blk_alloc ?_ _)); exact BK849.out⟩, ⟨by repeat (first | (with_reducible first | exact HB.out | apply below_alloc | apply pw_below_drewN | apply below_drew1 | refine below_set ?_ GE849.out) | exact HB.out)⟩⟩
   ·
    rw [if_neg c8] at H
    have c8b0 : decide (3 < a2) = false := decide_eq_false c8
    clear c8
    by_cases c9 : a3 < 1
    ·
     rw [if_pos c9] at H
     have c9b0 : decide (a3 < 1) = true := decide_eq_true c9
     clear c9
     have H' := Aside0.mk H
     clear H
     go_wp2
     go_meet
     case rel => exact ⟨_, (true), (by first | rfl | (simp; done) | (simp [*]; done)), H', ⟨by first | omega | exact Nat.le_refl _⟩, ⟨by (with_reducible repeat (first | refine blk_drewN ?_ _ | refine blk_drew ?_ | refine blk_alloc ?_ _)); exact BK849.out⟩, ⟨by repeat (first | (with_reducible first | exact HB.out | apply below_alloc | apply pw_below_drewN | apply below_drew1 | refine below_set ?_ GE849.out) | exact HB.out)⟩⟩
    ·
     rw [if_neg c9] at H
     have c9b0 : decide (a3 < 1) = false := decide_eq_false c9
     clear c9
     have H' := Aside0.mk H
     clear H
     go_wp2
     go_meet
     case rel => exact ⟨_, (decide (a3 > 3)), (by first | rfl | (simp; done) | (simp [*]; done)), H', ⟨by first | omega | exact Nat.le_refl _⟩, ⟨by (with_reducible repeat (first | refine blk_drewN ?_ _ | refine blk_drew ?_ | refine blk_alloc ?_ _)); exact BK849.out⟩, ⟨by repeat (first | (with_reducible first | exact HB.out | apply below_alloc | apply pw_below_drewN | apply below_drew1 | refine below_set ?_ GE849.out) | exact HB.out)⟩⟩
 case rest =>
  clear HC5
  (try clear p2); (try clear c6); (try clear c7); (try clear c7b0); (try clear c8); (try clear c8b0); (try clear c9); (try clear c9b0)
  obtain ⟨kq, x30_4, rfl, HA, HJ4, BK849, HB⟩ := hcut
  cases kq with
  | zero => exact absurd HA.out (by simp [galleyref07_At.j0])
  | succ kj4 =>
   have H := HA.out
   clear HA
   simp only [galleyref07_At.j0] at H
   by_cases c10 : x30_4 = true
   ·
    subst c10
    have H1 : (some (0, 3)) = some (r1, r2) := by rw [if_pos rfl] at H; exact H
    clear H
    have H := H1
    clear H1
    simp only [Option.some.injEq, Prod.mk.injEq] at H
    obtain ⟨rfl, rfl⟩ := H
    go_wp2
    go_ret2
    exact ⟨by first | rfl | (simp [errW_none, errW_some] <;> rfl) | (simp [*, errW_none, errW_some] <;> rfl), by repeat (first | (with_reducible first | exact HB.out | apply below_alloc | apply pw_below_drewN | apply below_drew1 | refine below_set ?_ GE849.out) | exact HB.out)⟩
   ·
    replace c10 := Bool.eq_false_iff.mpr c10
    subst c10
    have H1 : ((galleyref07_Rows.f kj4 l0).bind fun t850 => (if a1_0 < 0 then (galleyref07_At.j1 kj4 l0 a2 a3 t850 true a1_0 a1_1) else (if a1_0 ≥ (t850.length : Int) then (galleyref07_At.j1 kj4 l0 a2 a3 t850 true a1_0 a1_1) else (galleyref07_At.j1 kj4 l0 a2 a3 t850 (decide (a1_1 < 0)) a1_0 a1_1)))) = some (r1, r2) := by rw [if_neg (show ¬ (false = true) by decide)] at H; exact H
    clear H
    have H := H1
    clear H1
    replace H := Option.bind_eq_some_iff.mp H
    obtain ⟨t850, A110, H⟩ := H
    replace H : (if a1_0 < 0 then (galleyref07_At.j1 kj4 l0 a2 a3 t850 true a1_0 a1_1) else (if a1_0 ≥ (t850.length : Int) then (galleyref07_At.j1 kj4 l0 a2 a3 t850 true a1_0 a1_1) else (galleyref07_At.j1 kj4 l0 a2 a3 t850 (decide (a1_1 < 0)) a1_0 a1_1))) = some (r1, r2) := H
    have A11 := Aside0.mk A110
    clear A110
    have HC12 := Aside0.mk H
    clear H
    go_upto_region 4 with (first | ((with_reducible refine gate_callee (f := 63) rfl ?_); refine goesL_ (some 32) rfl rfl Tryd.func63 (by kernel_rfl) rfl #[.slice A0 l0.length c0] rfl (by (try simp only [List.map_toArray, List.map_cons, List.map_nil]); first | done | rfl | (simp only [List.length_drop, List.length_take]; rfl)) ?_; (with_reducible refine (galleyref07_Rows.calls kj4 _ _ l0 t850 _ ?side1 ?side2 A11.out).mono ?_); (case side1 => repeat (first | exact (Kd.C_below HR0.out HB.out) | (with_reducible refine Kd.C_alloc ?_ _) | (with_reducible refine Kd.C_drewN ?_ _) | (with_reducible refine Kd.C_drew ?_))); (case side2 => exact HC0.out); rintro e w13 ⟨v851, rfl, ho0, hb⟩; refine ⟨_, rfl, ?_⟩; have n0_ := Aside0.mk (Kd.R_lower ho0 (below_size (by repeat (first | (with_reducible first | exact HB.out | apply below_alloc | apply pw_below_drewN | apply below_drew1 | refine below_set ?_ GE849.out) | exact HB.out)))); have n1_ := Aside0.mk (blk_below (g := gb849) (o := .cells #[.int .i64 a1_0, .int .i64 a1_1] 71 (0, 0)) (by (with_reducible repeat (first | refine blk_drewN ?_ _ | refine blk_drew ?_ | refine blk_alloc ?_ _)); exact BK849.out) hb); have n2_ := Aside0.mk (below_step (by repeat (first | (with_reducible first | exact HB.out | apply below_alloc | apply pw_below_drewN | apply below_drew1 | refine below_set ?_ GE849.out) | exact HB.out)) hb); clear BK849; clear HB; have HO852 := n0_; have BK849 := n1_; have HB := n2_; clear n0_ n1_ n2_; (try clear hb); (try clear hb2); (try clear hk); (try clear hi); (try clear ho0)))
    (try simp only [Act.put, List.setIfInBounds_toArray, List.set_cons_zero, List.set_cons_succ])
    go_cut [47] (fun v47 wc => ∃ (kq : Nat) (x47_11 : Bool), v47 = .bool x47_11 ∧ Aside0 (galleyref07_At.j1 kq l0 a2 a3 t850 x47_11 a1_0 a1_1 = some (r1, r2)) ∧ Aside0 (kq ≤ kj4) ∧ Aside0 (Kd.R k88 88 wc w.heap.size (fun _ => True) v851 t850) ∧ Aside0 (wc.heap[gb849]? = some (.cells #[.int .i64 a1_0, .int .i64 a1_1] 71 (0, 0))) ∧ Aside0 (Below w.heap.size w wc))
    case first =>
     have H := HC12.out
     clear HC12
     by_cases c14 : a1_0 < 0
     ·
      rw [if_pos c14] at H
      have c14b0 : decide (a1_0 < 0) = true := decide_eq_true c14
      clear c14
      (first | rw [c14b0] | (simp only [i64_w, i32_w]; rw [c14b0]) | skip)
      have H' := Aside0.mk H
      clear H
      have hcz15_0 : w13.cell? ⟨gb849, 0, none⟩ = some (.int .i64 a1_0) := (blk_cell BK849.out 0).trans rfl
      have hcz15_1 : w13.cell? ⟨gb849, 1, none⟩ = some (.int .i64 a1_1) := (blk_cell BK849.out 1).trans rfl
      have hfz15_0 := blk_frozen BK849.out 0
      have hfz15_1 := blk_frozen BK849.out 1
      go_wp2
      go_meet
      case rel => exact ⟨_, (true), (by first | rfl | (simp; done) | (simp [*]; done)), H', ⟨by have := HJ4.out; first | omega | exact Nat.le_refl _⟩, ⟨by (with_reducible repeat (first | apply Kd.R_alloc | apply Kd.R_drewN | apply Kd.R_drew)); exact HO852.out⟩, ⟨by (with_reducible repeat (first | refine blk_drewN ?_ _ | refine blk_drew ?_ | refine blk_alloc ?_ _)); exact BK849.out⟩, ⟨by repeat (first | (with_reducible first | exact HB.out | apply below_alloc | apply pw_below_drewN | apply below_drew1 | refine below_set ?_ GE849.out) | exact HB.out)⟩⟩
     ·
      rw [if_neg c14] at H
      have c14b0 : decide (a1_0 < 0) = false := decide_eq_false c14
      clear c14
      (first | rw [c14b0] | (simp only [i64_w, i32_w]; rw [c14b0]) | skip)
      by_cases c16 : a1_0 ≥ (t850.length : Int)
      ·
       rw [if_pos c16] at H
       have c16b0 : decide ((t850.length : Int) ≤ a1_0) = true := decide_eq_true c16
       clear c16
       have H' := Aside0.mk H
       clear H
       have hcz17_0 : w13.cell? ⟨gb849, 0, none⟩ = some (.int .i64 a1_0) := (blk_cell BK849.out 0).trans rfl
       have hcz17_1 : w13.cell? ⟨gb849, 1, none⟩ = some (.int .i64 a1_1) := (blk_cell BK849.out 1).trans rfl
       have hfz17_0 := blk_frozen BK849.out 0
       have hfz17_1 := blk_frozen BK849.out 1
       obtain ⟨Ao18, co18, eo18⟩ := Kd.R_slice HO852.out
       subst eo18
       go_wp2
       go_meet
       case rel => exact ⟨_, (true), (by first | rfl | (simp; done) | (simp [*]; done)), H', ⟨by have := HJ4.out; first | omega | exact Nat.le_refl _⟩, ⟨by (with_reducible repeat (first | apply Kd.R_alloc | apply Kd.R_drewN | apply Kd.R_drew)); exact HO852.out⟩, ⟨by (with_reducible repeat (first | refine blk_drewN ?_ _ | refine blk_drew ?_ | refine blk_alloc ?_ _)); exact BK849.out⟩, ⟨by repeat (first | (with_reducible first | exact HB.out | apply below_alloc | apply pw_below_drewN | apply below_drew1 | refine below_set ?_ GE849.out) | exact HB.out)⟩⟩
      ·
       rw [if_neg c16] at H
       have c16b0 : decide ((t850.length : Int) ≤ a1_0) = false := decide_eq_false c16
       clear c16
       have H' := Aside0.mk H
       clear H
       have hcz19_0 : w13.cell? ⟨gb849, 0, none⟩ = some (.int .i64 a1_0) := (blk_cell BK849.out 0).trans rfl
       have hcz19_1 : w13.cell? ⟨gb849, 1, none⟩ = some (.int .i64 a1_1) := (blk_cell BK849.out 1).trans rfl
       have hfz19_0 := blk_frozen BK849.out 0
       have hfz19_1 := blk_frozen BK849.out 1
       obtain ⟨Ao20, co20, eo20⟩ := Kd.R_slice HO852.out
       subst eo20
       go_wp2
       go_meet
       case rel => exact ⟨_, (decide (a1_1 < 0)), (by first | rfl | (simp; done) | (simp [*]; done)), H', ⟨by have := HJ4.out; first | omega | exact Nat.le_refl _⟩, ⟨by (with_reducible repeat (first | apply Kd.R_alloc | apply Kd.R_drewN | apply Kd.R_drew)); exact HO852.out⟩, ⟨by (with_reducible repeat (first | refine blk_drewN ?_ _ | refine blk_drew ?_ | refine blk_alloc ?_ _)); exact BK849.out⟩, ⟨by repeat (first | (with_reducible first | exact HB.out | apply below_alloc | apply pw_below_drewN | apply below_drew1 | refine below_set ?_ GE849.out) | exact HB.out)⟩⟩
    case rest =>
     clear HC12
     (try clear c1); (try clear p2); (try clear c6); (try clear c7); (try clear c7b0); (try clear c8); (try clear c8b0); (try clear c9); (try clear c9b0); (try clear c10); (try clear c14); (try clear c14b0); (try clear c16); (try clear c16b0); (try clear hcz15_0); (try clear hcz15_1); (try clear hcz17_0); (try clear hcz17_1); (try clear hcz19_0); (try clear hcz19_1); (try clear hfz15_0); (try clear hfz15_1); (try clear hfz17_0); (try clear hfz17_1); (try clear hfz19_0); (try clear hfz19_1)
     obtain ⟨kq, x47_11, rfl, HA, HJ11, HO_10, BK849, HB⟩ := hcut
     cases kq with
     | zero => exact absurd HA.out (by simp [galleyref07_At.j1])
     | succ kj11 =>
      have H := HA.out
      clear HA
      simp only [galleyref07_At.j1] at H
      by_cases c21 : x47_11 = true
      ·
       subst c21
       have H1 : (some (0, 2)) = some (r1, r2) := by rw [if_pos rfl] at H; exact H
       clear H
       have H := H1
       clear H1
       simp only [Option.some.injEq, Prod.mk.injEq] at H
       obtain ⟨rfl, rfl⟩ := H
       go_wp2
       go_ret2
       exact ⟨by first | rfl | (simp [errW_none, errW_some] <;> rfl) | (simp [*, errW_none, errW_some] <;> rfl), by repeat (first | (with_reducible first | exact HB.out | apply below_alloc | apply pw_below_drewN | apply below_drew1 | refine below_set ?_ GE849.out) | exact HB.out)⟩
      ·
       replace c21 := Bool.eq_false_iff.mpr c21
       subst c21
       have H1 : (if 0 ≤ a1_0 then (if a1_0 < (t850.length : Int) then ((galleyref04_Edges.f kj11 l0).bind fun t855 => (galleyref07_At.l0 kj11 l0 a2 a3 (-1) (-1) t855 0 a1_0 a1_1 ((rd_T88 t850 a1_0).f0) ((rd_T88 t850 a1_0).f1) ((rd_T88 t850 a1_0).f2))) else (none)) else (none)) = some (r1, r2) := by rw [if_neg (show ¬ (false = true) by decide)] at H; exact H
       clear H
       have H := H1
       clear H1
       by_cases c22 : 0 ≤ a1_0
       ·
        rw [if_pos c22] at H
        have c22b0 : decide (0 ≤ a1_0) = true := decide_eq_true c22
        clear c22
        by_cases c23 : a1_0 < (t850.length : Int)
        ·
         rw [if_pos c23] at H
         have c23b0 : decide (a1_0 < (t850.length : Int)) = true := decide_eq_true c23
         clear c23
         replace H := Option.bind_eq_some_iff.mp H
         obtain ⟨t855, A240, H⟩ := H
         replace H : (galleyref07_At.l0 kj11 l0 a2 a3 (-1) (-1) t855 0 a1_0 a1_1 ((rd_T88 t850 a1_0).f0) ((rd_T88 t850 a1_0).f1) ((rd_T88 t850 a1_0).f2)) = some (r1, r2) := H
         have A24 := Aside0.mk A240
         clear A240
         have H' := Aside0.mk H
         clear H
         have hcz25_0 : wc.cell? ⟨gb849, 0, none⟩ = some (.int .i64 a1_0) := (blk_cell BK849.out 0).trans rfl
         have hcz25_1 : wc.cell? ⟨gb849, 1, none⟩ = some (.int .i64 a1_1) := (blk_cell BK849.out 1).trans rfl
         have hfz25_0 := blk_frozen BK849.out 0
         have hfz25_1 := blk_frozen BK849.out 1
         obtain ⟨Ao26, co26, eo26⟩ := Kd.R_slice HO_10.out
         subst eo26
         have p853 : 0 ≤ (a1_0 : Int) := of_decide_eq_true (by first | (with_reducible assumption) | assumption)
         have q853 : a1_0 < (t850.length : Int) := of_decide_eq_true (by first | (with_reducible assumption) | assumption)
         obtain ⟨ad853, e853, hx853_0, hx853_1, hx853_2⟩ := at_T88 (Kd.R_reads' HO_10.out).2.2 a1_0 p853 q853
         cases e853
         replace p853 := eq_true p853
         replace q853 := eq_true q853
         go_wp2_with (first | ((with_reducible refine gate_dst (N := 11) rfl ?_); (try (refine gate_guard (by rfl) ?_; dsimp only)); refine box_event ?hg (N := 11) ?hd (cs := #[.int .i64 0, .int .i64 0, .int .i64 0]) (t := 88) ?hr ?_; (case hd => rfl); (case hg => rfl); (case hr => first | (go_simp; done) | (go_simp; rfl)); intro gb854 hg w27 hbox hb; have n0_ := Aside0.mk (Kd.R_below (Kd.R_elderB (by (with_reducible repeat (first | apply Kd.R_alloc | apply Kd.R_drewN | apply Kd.R_drew)); exact HO_10.out) gb854 (Nat.le_of_eq hg.symm)) hb); have n1_ := Aside0.mk (blk_below (g := gb849) (o := .cells #[.int .i64 a1_0, .int .i64 a1_1] 71 (0, 0)) (by (with_reducible repeat (first | refine blk_drewN ?_ _ | refine blk_drew ?_ | refine blk_alloc ?_ _)); exact BK849.out) hb); have n2_ := Aside0.mk (below_step (by repeat (first | (with_reducible first | exact HB.out | apply below_alloc | apply pw_below_drewN | apply below_drew1 | refine below_set ?_ GE849.out) | exact HB.out)) hb); have n3_ := Aside0.mk (hbox); have n4_ := Aside0.mk ((by rw [hg]; exact (below_size (by repeat (first | (with_reducible first | exact HB.out | apply below_alloc | apply pw_below_drewN | apply below_drew1 | refine below_set ?_ GE849.out) | exact HB.out))) : w.heap.size ≤ gb854)); have n5_ := Aside0.mk ((by rw [hg]; exact (below_size (by repeat (first | (with_reducible first | exact HB.out | apply below_alloc | apply pw_below_drewN | apply below_drew1 | refine below_set ?_ GE849.out) | exact HB.out))) : w.heap.size ≤ gb854)); have n6_ := Aside0.mk ((by rw [hg]; exact Nat.ne_of_lt (blk_lt (g := gb849) (o := .cells #[.int .i64 a1_0, .int .i64 a1_1] 71 (0, 0)) (by (with_reducible repeat (first | refine blk_drewN ?_ _ | refine blk_drew ?_ | refine blk_alloc ?_ _)); exact BK849.out)) : gb849 ≠ gb854)); have n7_ := Aside0.mk ((by rw [hg]; exact Nat.ne_of_gt (blk_lt (g := gb849) (o := .cells #[.int .i64 a1_0, .int .i64 a1_1] 71 (0, 0)) (by (with_reducible repeat (first | refine blk_drewN ?_ _ | refine blk_drew ?_ | refine blk_alloc ?_ _)); exact BK849.out)) : gb854 ≠ gb849)); clear HO_10; clear BK849; clear HB; have HO_10 := n0_; have BK849 := n1_; have HB := n2_; have BK854 := n3_; have GW854 := n4_; have GE854 := n5_; have NB849_854 := n6_; have NB854_849 := n7_; clear n0_ n1_ n2_ n3_ n4_ n5_ n6_ n7_; clear hb hbox hg; have hnb28 := NB854_849.out; have hnc28 := NB849_854.out; have hcz29_0 : w27.cell? ⟨gb854, 0, none⟩ = some (.int .i64 0) := (blk_cell BK854.out 0).trans rfl; have hcz29_1 : w27.cell? ⟨gb854, 1, none⟩ = some (.int .i64 0) := (blk_cell BK854.out 1).trans rfl; have hcz29_2 : w27.cell? ⟨gb854, 2, none⟩ = some (.int .i64 0) := (blk_cell BK854.out 2).trans rfl; have hfz29_0 := blk_frozen BK854.out 0; have hfz29_1 := blk_frozen BK854.out 1; have hfz29_2 := blk_frozen BK854.out 2) | ((with_reducible refine gate_callee (f := 69) rfl ?_); refine goesL_ (some 54) rfl rfl Tryd.func69 (by kernel_rfl) rfl #[.slice A0 l0.length c0] rfl (by (try simp only [List.map_toArray, List.map_cons, List.map_nil]); first | done | rfl | (simp only [List.length_drop, List.length_take]; rfl)) ?_; (with_reducible refine (galleyref04_Edges.calls kj11 _ _ l0 t855 _ ?side1 ?side2 A24.out).mono ?_); (case side1 => exact Kd.C_below HR0.out (by repeat (first | (with_reducible first | exact HB.out | apply below_alloc | apply pw_below_drewN | apply below_drew1 | refine below_set ?_ GE849.out | refine below_set ?_ GE854.out) | exact HB.out))); (case side2 => exact HC0.out); rintro e w30 ⟨v856, rfl, ho0, hb⟩; refine ⟨_, rfl, ?_⟩; have n0_ := Aside0.mk (Kd.R_below (by (with_reducible repeat (first | apply Kd.R_alloc | apply Kd.R_drewN | apply Kd.R_drew)); exact (Kd.R_mono (Kd.R_far (p := ⟨gb854, 2, none⟩) (Kd.R_far (p := ⟨gb854, 1, none⟩) (Kd.R_far (p := ⟨gb854, 0, none⟩) (Kd.R_mono HO_10.out (fun k_ hk => (⟨hk, hk.2⟩ : _ ∧ k_ ≠ gb854))) (fun _ hk => hk.2) (.int .i64 ((rd_T88 t850 a1_0).f0))) (fun _ hk => hk.2) (.int .i64 ((rd_T88 t850 a1_0).f1))) (fun _ hk => hk.2) (.int .i64 ((rd_T88 t850 a1_0).f2))) (fun _ h_ => h_.1))) hb); have n1_ := Aside0.mk (Kd.R_lower ho0 (below_size (by repeat (first | (with_reducible first | exact HB.out | apply below_alloc | apply pw_below_drewN | apply below_drew1 | refine below_set ?_ GE849.out | refine below_set ?_ GE854.out) | exact HB.out)))); have n2_ := Aside0.mk (blk_below (g := gb849) (o := .cells #[.int .i64 a1_0, .int .i64 a1_1] 71 (0, 0)) (by (with_reducible repeat (first | refine blk_drewN ?_ _ | refine blk_drew ?_ | refine blk_alloc ?_ _)); refine blk_far ?_ NB849_854.out _; (with_reducible repeat (first | refine blk_drewN ?_ _ | refine blk_drew ?_ | refine blk_alloc ?_ _)); refine blk_far ?_ NB849_854.out _; (with_reducible repeat (first | refine blk_drewN ?_ _ | refine blk_drew ?_ | refine blk_alloc ?_ _)); refine blk_far ?_ NB849_854.out _; (with_reducible repeat (first | refine blk_drewN ?_ _ | refine blk_drew ?_ | refine blk_alloc ?_ _)); exact BK849.out) hb); have n3_ := Aside0.mk (blk_below (g := gb854) (o := .cells #[.int .i64 ((rd_T88 t850 a1_0).f0), .int .i64 ((rd_T88 t850 a1_0).f1), .int .i64 ((rd_T88 t850 a1_0).f2)] 88 (0, 0)) (by (with_reducible repeat (first | refine blk_drewN ?_ _ | refine blk_drew ?_ | refine blk_alloc ?_ _)); refine blk_put (cs := #[.int .i64 ((rd_T88 t850 a1_0).f0), .int .i64 ((rd_T88 t850 a1_0).f1), .int .i64 0]) ?_ 2 _ rfl; (with_reducible repeat (first | refine blk_drewN ?_ _ | refine blk_drew ?_ | refine blk_alloc ?_ _)); refine blk_put (cs := #[.int .i64 ((rd_T88 t850 a1_0).f0), .int .i64 0, .int .i64 0]) ?_ 1 _ rfl; (with_reducible repeat (first | refine blk_drewN ?_ _ | refine blk_drew ?_ | refine blk_alloc ?_ _)); refine blk_put (cs := #[.int .i64 0, .int .i64 0, .int .i64 0]) ?_ 0 _ rfl; (with_reducible repeat (first | refine blk_drewN ?_ _ | refine blk_drew ?_ | refine blk_alloc ?_ _)); exact BK854.out) hb); have n4_ := Aside0.mk (below_step (by repeat (first | (with_reducible first | exact HB.out | apply below_alloc | apply pw_below_drewN | apply below_drew1 | refine below_set ?_ GE849.out | refine below_set ?_ GE854.out) | exact HB.out)) hb); clear HO_10; clear BK849; clear BK854; clear HB; have HO_10 := n0_; have HO857 := n1_; have BK849 := n2_; have BK854 := n3_; have HB := n4_; clear n0_ n1_ n2_ n3_ n4_; (try clear hb); (try clear hb2); (try clear hk); (try clear hi); (try clear ho0)))
         go_loopg [12, 13, 15] kj11 (fun kq v12 v13 v15 w' => ∃ (x12_3 : Int) (x13_3 : Int) (x15_3 : Int), v12 = .int .i64 x12_3 ∧ v13 = .int .i64 x13_3 ∧ v15 = .int .i64 x15_3 ∧ Aside0 (galleyref07_At.l0 kq l0 a2 a3 x12_3 x13_3 t855 x15_3 a1_0 a1_1 ((rd_T88 t850 a1_0).f0) ((rd_T88 t850 a1_0).f1) ((rd_T88 t850 a1_0).f2) = some (r1, r2)) ∧ Aside0 (kq ≤ kj11) ∧ Aside0 (Kd.R (Kd.int .i64) 3 w' w.heap.size (fun _ => True) v856 t855) ∧ Aside0 (w'.heap[gb849]? = some (.cells #[.int .i64 a1_0, .int .i64 a1_1] 71 (0, 0))) ∧ Aside0 (w'.heap[gb854]? = some (.cells #[.int .i64 ((rd_T88 t850 a1_0).f0), .int .i64 ((rd_T88 t850 a1_0).f1), .int .i64 ((rd_T88 t850 a1_0).f2)] 88 (0, 0))) ∧ Aside0 (Below w.heap.size w w'))
         case atStart => exact ⟨((-1)), ((-1)), (0), (by first | rfl | (simp; done) | (simp [*]; done)), (by first | rfl | (simp; done) | (simp [*]; done)), (by first | rfl | (simp; done) | (simp [*]; done)), H', ⟨Nat.le_refl _⟩, ⟨by (with_reducible repeat (first | apply Kd.R_alloc | apply Kd.R_drewN | apply Kd.R_drew)); exact HO857.out⟩, ⟨by (with_reducible repeat (first | refine blk_drewN ?_ _ | refine blk_drew ?_ | refine blk_alloc ?_ _)); exact BK849.out⟩, ⟨by (with_reducible repeat (first | refine blk_drewN ?_ _ | refine blk_drew ?_ | refine blk_alloc ?_ _)); exact BK854.out⟩, ⟨by repeat (first | (with_reducible first | exact HB.out | apply below_alloc | apply pw_below_drewN | apply below_drew1 | refine below_set ?_ GE849.out | refine below_set ?_ GE854.out) | exact HB.out)⟩⟩
         case round =>
          clear H'
          (try clear c1); (try clear c2); (try clear p2); (try clear c6); (try clear c7); (try clear c7b0); (try clear c8); (try clear c8b0); (try clear p8); (try clear q8); (try clear hx8); (try clear c9); (try clear c9b0); (try clear c10); (try clear c14); (try clear c14b0); (try clear c16); (try clear c16b0); (try clear c21); (try clear c22); (try clear c22b0); (try clear c23); (try clear c23b0); (try clear c28); (try clear hcz15_0); (try clear hcz15_1); (try clear hcz17_0); (try clear hcz17_1); (try clear hcz19_0); (try clear hcz19_1); (try clear hcz25_0); (try clear hcz25_1); (try clear hcz29_0); (try clear hcz29_1); (try clear hcz29_2); (try clear hfz15_0); (try clear hfz15_1); (try clear hfz17_0); (try clear hfz17_1); (try clear hfz19_0); (try clear hfz19_1); (try clear hfz25_0); (try clear hfz25_1); (try clear hfz29_0); (try clear hfz29_1); (try clear hfz29_2); (try clear hx853_0); (try clear hx853_1); (try clear hx853_2); (try clear p853); (try clear q853)
          obtain ⟨x12_3, x13_3, x15_3, rfl, rfl, rfl, HA, HK3, HO_14, BK849, BK854, HB⟩ := hrel
          cases gk with
          | zero => exact absurd HA.out (by simp [galleyref07_At.l0])
          | succ k3 =>
           have H := HA.out
           clear HA
           simp only [galleyref07_At.l0] at H
           by_cases c31 : x15_3 < (t855.length : Int)
           ·
            rw [if_pos c31] at H
            have c31b0 : decide (x15_3 < (t855.length : Int)) = true := decide_eq_true c31
            clear c31
            have HC32 := Aside0.mk H
            clear H
            obtain ⟨Ao33, co33, eo33⟩ := Kd.R_slice HO_14.out
            subst eo33
            go_upto_region 12 with (fail)
            go_cut [76] (fun v76 wc => ∃ (kq : Nat) (x76_31 : Bool), v76 = .bool x76_31 ∧ Aside0 (galleyref07_At.j3 kq l0 a2 a3 x12_3 x13_3 t855 x15_3 x76_31 a1_0 a1_1 ((rd_T88 t850 a1_0).f0) ((rd_T88 t850 a1_0).f1) ((rd_T88 t850 a1_0).f2) = some (r1, r2)) ∧ Aside0 (kq ≤ k3) ∧ Aside0 (Kd.R (Kd.int .i64) 3 wc w.heap.size (fun _ => True) (.slice Ao33 t855.length co33) t855) ∧ Aside0 (wc.heap[gb849]? = some (.cells #[.int .i64 a1_0, .int .i64 a1_1] 71 (0, 0))) ∧ Aside0 (wc.heap[gb854]? = some (.cells #[.int .i64 ((rd_T88 t850 a1_0).f0), .int .i64 ((rd_T88 t850 a1_0).f1), .int .i64 ((rd_T88 t850 a1_0).f2)] 88 (0, 0))) ∧ Aside0 (Below w.heap.size w wc))
            case first =>
             have H := HC32.out
             clear HC32
             by_cases c34 : 0 ≤ x15_3
             ·
              rw [if_pos c34] at H
              have c34b0 : decide (0 ≤ x15_3) = true := decide_eq_true c34
              clear c34
              (first | rw [c34b0] | (simp only [i64_w, i32_w]; rw [c34b0]) | skip)
              by_cases c35 : (rd t855 x15_3) < ((rd_T88 t850 a1_0).f0)
              ·
               rw [if_pos c35] at H
               have c35b0 : decide ((rd t855 x15_3) < ((rd_T88 t850 a1_0).f0)) = true := decide_eq_true c35
               clear c35
               have H' := Aside0.mk H
               clear H
               try go_wp2
               have n0_ := Aside0.mk (Kd.R_drew HO_14.out)
               have n1_ := Aside0.mk (blk_drew BK849.out)
               have n2_ := Aside0.mk (blk_drew BK854.out)
               have n3_ := Aside0.mk (below_drew1 HB.out)
               clear HO_14
               clear BK849
               clear BK854
               clear HB
               have HO_14 := n0_
               have BK849 := n1_
               have BK854 := n2_
               have HB := n3_
               clear n0_ n1_ n2_ n3_
               have p858 : 0 ≤ (x15_3 : Int) := of_decide_eq_true (by first | (with_reducible assumption) | assumption)
               have q858 : x15_3 < (t855.length : Int) := of_decide_eq_true (by first | (with_reducible assumption) | assumption)
               obtain ⟨ad858, e858, hx858_0⟩ := Kd.at_int (Kd.R_reads' HO_14.out).2.2 x15_3 p858 q858
               cases e858
               replace p858 := eq_true p858
               replace q858 := eq_true q858
               refine start_ (n := 16) (S := fun w' => w'.cell? ⟨gb854, 0, none⟩ = some (.int .i64 ((rd_T88 t850 a1_0).f0)) ∧ w'.cell? ⟨gb854, 1, none⟩ = some (.int .i64 ((rd_T88 t850 a1_0).f1)) ∧ w'.cell? ⟨gb854, 2, none⟩ = some (.int .i64 ((rd_T88 t850 a1_0).f2)) ∧ w'.cell? (ad858.add (x15_3).toNat) = some (.int .i64 (rd t855 x15_3))) (ds := []) #[false, false, false, false, false, false, false, false, false, false, false, false, false, false, false, false] (by kernel_rfl) rfl rfl ⟨(blk_cell BK854.out 0).trans rfl, (blk_cell BK854.out 1).trans rfl, (blk_cell BK854.out 2).trans rfl, hx858_0⟩ (fun hHeld => ?_); refine with_tabW galleyref07_At.tab12 galleyref07_At.bits12 (fun HT_ HW_ => ?_)
               generalize wr.drew = w36 at HO_14 BK849 BK854 HB hx858_0 hHeld ⊢
               refine pure_ (i := 0) (N := some 61) (v := ?_) (a' := ?_) #[true, false, false, false, false, false, false, false, false, false, false, false, false, false, false, false] rfl rfl (any_of HT_.out (by kernel_rfl)) (fun _ _ _ h => h) (Or.inl ⟨by rfl, ?_⟩) ?_ ?_
               rotate_left
               ·
                intro w'
                go_simp
                with_reducible rfl
               rotate_left
               ·
                simp only [Act.put, List.setIfInBounds_toArray, List.set_cons_zero, List.set_cons_succ, i64_w, i32_w]
                rfl
               refine pure_ (i := 1) (N := some 62) (v := ?_) (a' := ?_) #[true, true, false, false, false, false, false, false, false, false, false, false, false, false, false, false] rfl rfl (any_of HT_.out (by kernel_rfl)) (fun _ _ _ h => h) (Or.inl ⟨by rfl, ?_⟩) ?_ ?_
               rotate_left
               ·
                intro w'
                go_simp
                with_reducible rfl
               rotate_left
               ·
                simp only [Act.put, List.setIfInBounds_toArray, List.set_cons_zero, List.set_cons_succ, i64_w, i32_w]
                rfl
               refine pure_ (i := 2) (N := some 63) (v := ?_) (a' := ?_) #[true, true, true, false, false, false, false, false, false, false, false, false, false, false, false, false] rfl rfl (any_of HT_.out (by kernel_rfl)) (fun _ _ _ h => h) (Or.inl ⟨by rfl, ?_⟩) ?_ ?_
               rotate_left
               ·
                intro w'
                go_simp
                with_reducible rfl
               rotate_left
               ·
                simp only [Act.put, List.setIfInBounds_toArray, List.set_cons_zero, List.set_cons_succ, i64_w, i32_w]
                rfl
               refine pure_ (i := 4) (N := some 65) (v := ?_) (a' := ?_) #[true, true, true, false, true, false, false, false, false, false, false, false, false, false, false, false] rfl rfl (any_of HT_.out (by kernel_rfl)) (fun _ _ _ h => h) (Or.inl ⟨by rfl, ?_⟩) ?_ ?_
               rotate_left
               ·
                intro w'
                go_simp
                with_reducible rfl
               rotate_left
               ·
                simp only [Act.put, List.setIfInBounds_toArray, List.set_cons_zero, List.set_cons_succ, i64_w, i32_w]
                rfl
               refine take_ (i := 3) (N := some 64) (v := ?_) (a' := ?_) #[true, true, true, true, true, false, false, false, false, false, false, false, false, false, false, false] rfl rfl (take_ofW HT_.out HW_.out (by kernel_rfl)) (fun _ _ _ h => h) (Or.inl ⟨by rfl, ?_⟩) hHeld ?_ ?_
               rotate_left
               ·
                rintro w' ⟨s0, s1, s2, s3⟩
                go_simp
                with_reducible rfl
               rotate_left
               ·
                simp only [Act.put, List.setIfInBounds_toArray, List.set_cons_zero, List.set_cons_succ, i64_w, i32_w]
                rfl
               refine take_ (i := 5) (N := some 66) (v := ?_) (a' := ?_) #[true, true, true, true, true, true, false, false, false, false, false, false, false, false, false, false] rfl rfl (take_ofW HT_.out HW_.out (by kernel_rfl)) (fun _ _ _ h => h) (Or.inl ⟨by rfl, ?_⟩) hHeld ?_ ?_
               rotate_left
               ·
                rintro w' ⟨s0, s1, s2, s3⟩
                go_simp
                with_reducible rfl
               rotate_left
               ·
                simp only [Act.put, List.setIfInBounds_toArray, List.set_cons_zero, List.set_cons_succ, i64_w, i32_w]
                rfl
               refine pure_ (i := 6) (N := some 67) (v := ?_) (a' := ?_) #[true, true, true, true, true, true, true, false, false, false, false, false, false, false, false, false] rfl rfl (any_of HT_.out (by kernel_rfl)) (fun _ _ _ h => h) (Or.inl ⟨by rfl, ?_⟩) ?_ ?_
               rotate_left
               ·
                intro w'
                go_simp
                with_reducible rfl
               rotate_left
               ·
                simp only [Act.put, List.setIfInBounds_toArray, List.set_cons_zero, List.set_cons_succ, i64_w, i32_w]
                rfl
               refine pure_ (i := 7) (N := some 68) (v := ?_) (a' := ?_) #[true, true, true, true, true, true, true, true, false, false, false, false, false, false, false, false] rfl rfl (any_of HT_.out (by kernel_rfl)) (fun _ _ _ h => h) (Or.inl ⟨by rfl, ?_⟩) ?_ ?_
               rotate_left
               ·
                intro w'
                go_simp
                with_reducible rfl
               rotate_left
               ·
                simp only [Act.put, List.setIfInBounds_toArray, List.set_cons_zero, List.set_cons_succ, i64_w, i32_w]
                rfl
               refine pure_ (i := 8) (N := some 69) (v := undef) (a' := ?_) #[true, true, true, true, true, true, true, true, true, false, false, false, false, false, false, false] rfl rfl (any_of HT_.out (by kernel_rfl)) (fun _ _ _ h => h) (Or.inr ⟨by rfl, rfl⟩) ?_ ?_
               rotate_left
               ·
                simp only [Act.put, List.setIfInBounds_toArray, List.set_cons_zero, List.set_cons_succ, i64_w, i32_w]
                rfl
               refine pure_ (i := 9) (N := some 70) (v := undef) (a' := ?_) #[true, true, true, true, true, true, true, true, true, true, false, false, false, false, false, false] rfl rfl (any_of HT_.out (by kernel_rfl)) (fun _ _ _ h => h) (Or.inr ⟨by rfl, rfl⟩) ?_ ?_
               rotate_left
               ·
                simp only [Act.put, List.setIfInBounds_toArray, List.set_cons_zero, List.set_cons_succ, i64_w, i32_w]
                rfl
               refine pure_ (i := 10) (N := some 71) (v := undef) (a' := ?_) #[true, true, true, true, true, true, true, true, true, true, true, false, false, false, false, false] rfl rfl (any_of HT_.out (by kernel_rfl)) (fun _ _ _ h => h) (Or.inr ⟨by rfl, rfl⟩) ?_ ?_
               rotate_left
               ·
                simp only [Act.put, List.setIfInBounds_toArray, List.set_cons_zero, List.set_cons_succ, i64_w, i32_w]
                rfl
               refine pure_ (i := 11) (N := some 72) (v := undef) (a' := ?_) #[true, true, true, true, true, true, true, true, true, true, true, true, false, false, false, false] rfl rfl (any_of HT_.out (by kernel_rfl)) (fun _ _ _ h => h) (Or.inr ⟨by rfl, rfl⟩) ?_ ?_
               rotate_left
               ·
                simp only [Act.put, List.setIfInBounds_toArray, List.set_cons_zero, List.set_cons_succ, i64_w, i32_w]
                rfl
               refine pure_ (i := 12) (N := some 73) (v := undef) (a' := ?_) #[true, true, true, true, true, true, true, true, true, true, true, true, true, false, false, false] rfl rfl (any_of HT_.out (by kernel_rfl)) (fun _ _ _ h => h) (Or.inr ⟨by rfl, rfl⟩) ?_ ?_
               rotate_left
               ·
                simp only [Act.put, List.setIfInBounds_toArray, List.set_cons_zero, List.set_cons_succ, i64_w, i32_w]
                rfl
               refine pure_ (i := 13) (N := some 74) (v := undef) (a' := ?_) #[true, true, true, true, true, true, true, true, true, true, true, true, true, true, false, false] rfl rfl (any_of HT_.out (by kernel_rfl)) (fun _ _ _ h => h) (Or.inr ⟨by rfl, rfl⟩) ?_ ?_
               rotate_left
               ·
                simp only [Act.put, List.setIfInBounds_toArray, List.set_cons_zero, List.set_cons_succ, i64_w, i32_w]
                rfl
               refine pure_ (i := 14) (N := some 75) (v := undef) (a' := ?_) #[true, true, true, true, true, true, true, true, true, true, true, true, true, true, true, false] rfl rfl (any_of HT_.out (by kernel_rfl)) (fun _ _ _ h => h) (Or.inr ⟨by rfl, rfl⟩) ?_ ?_
               rotate_left
               ·
                simp only [Act.put, List.setIfInBounds_toArray, List.set_cons_zero, List.set_cons_succ, i64_w, i32_w]
                rfl
               refine pure_ (i := 15) (N := some 76) (v := ?_) (a' := ?_) #[true, true, true, true, true, true, true, true, true, true, true, true, true, true, true, true] rfl rfl (any_of HT_.out (by kernel_rfl)) (fun _ _ _ h => h) (Or.inl ⟨by rfl, ?_⟩) ?_ ?_
               rotate_left
               ·
                intro w'
                go_simp
                with_reducible rfl
               rotate_left
               ·
                simp only [Act.put, List.setIfInBounds_toArray, List.set_cons_zero, List.set_cons_succ, i64_w, i32_w]
                rfl
               refine done_ (done_of HT_.out (by kernel_rfl)) ?_
               try go_wp2
               go_meet
               case rel => exact ⟨_, (true), (by first | rfl | (simp; done) | (simp [*]; done)), H', ⟨by have := HJ4.out; have := HJ11.out; have := HK3.out; first | omega | exact Nat.le_refl _⟩, ⟨by (with_reducible repeat (first | apply Kd.R_alloc | apply Kd.R_drewN | apply Kd.R_drew)); exact HO_14.out⟩, ⟨by (with_reducible repeat (first | refine blk_drewN ?_ _ | refine blk_drew ?_ | refine blk_alloc ?_ _)); exact BK849.out⟩, ⟨by (with_reducible repeat (first | refine blk_drewN ?_ _ | refine blk_drew ?_ | refine blk_alloc ?_ _)); exact BK854.out⟩, ⟨by repeat (first | (with_reducible first | exact HB.out | apply below_alloc | apply pw_below_drewN | apply below_drew1 | refine below_set ?_ GE849.out | refine below_set ?_ GE854.out) | exact HB.out)⟩⟩
              ·
               rw [if_neg c35] at H
               have c35b0 : decide ((rd t855 x15_3) < ((rd_T88 t850 a1_0).f0)) = false := decide_eq_false c35
               clear c35
               replace H := Option.bind_eq_some_iff.mp H
               obtain ⟨t860, A370, H⟩ := H
               replace H : (galleyref07_At.j3 k3 l0 a2 a3 x12_3 x13_3 t855 x15_3 (decide ((rd t855 x15_3) > t860)) a1_0 a1_1 ((rd_T88 t850 a1_0).f0) ((rd_T88 t850 a1_0).f1) ((rd_T88 t850 a1_0).f2)) = some (r1, r2) := H
               have A37 := Aside0.mk A370
               clear A370
               have H' := Aside0.mk H
               clear H
               try go_wp2
               have n0_ := Aside0.mk (Kd.R_drew HO_14.out)
               have n1_ := Aside0.mk (blk_drew BK849.out)
               have n2_ := Aside0.mk (blk_drew BK854.out)
               have n3_ := Aside0.mk (below_drew1 HB.out)
               clear HO_14
               clear BK849
               clear BK854
               clear HB
               have HO_14 := n0_
               have BK849 := n1_
               have BK854 := n2_
               have HB := n3_
               clear n0_ n1_ n2_ n3_
               have p858 : 0 ≤ (x15_3 : Int) := of_decide_eq_true (by first | (with_reducible assumption) | assumption)
               have q858 : x15_3 < (t855.length : Int) := of_decide_eq_true (by first | (with_reducible assumption) | assumption)
               obtain ⟨ad858, e858, hx858_0⟩ := Kd.at_int (Kd.R_reads' HO_14.out).2.2 x15_3 p858 q858
               cases e858
               replace p858 := eq_true p858
               replace q858 := eq_true q858
               have p859 : 0 ≤ (x15_3 : Int) := of_decide_eq_true (by first | (with_reducible assumption) | assumption)
               have q859 : x15_3 < (t855.length : Int) := of_decide_eq_true (by first | (with_reducible assumption) | assumption)
               obtain ⟨ad859, e859, hx859_0⟩ := Kd.at_int (Kd.R_reads' HO_14.out).2.2 x15_3 p859 q859
               obtain rfl : ad858 = ad859 := (by injection e859)
               replace p859 := eq_true p859
               replace q859 := eq_true q859
               refine start_ (n := 16) (S := fun w' => w'.cell? ⟨gb854, 0, none⟩ = some (.int .i64 ((rd_T88 t850 a1_0).f0)) ∧ w'.cell? ⟨gb854, 1, none⟩ = some (.int .i64 ((rd_T88 t850 a1_0).f1)) ∧ w'.cell? ⟨gb854, 2, none⟩ = some (.int .i64 ((rd_T88 t850 a1_0).f2)) ∧ w'.cell? (ad858.add (x15_3).toNat) = some (.int .i64 (rd t855 x15_3)) ∧ w'.cell? (ad858.add (x15_3).toNat) = some (.int .i64 (rd t855 x15_3))) (ds := []) #[false, false, false, false, false, false, false, false, false, false, false, false, false, false, false, false] (by kernel_rfl) rfl rfl ⟨(blk_cell BK854.out 0).trans rfl, (blk_cell BK854.out 1).trans rfl, (blk_cell BK854.out 2).trans rfl, hx858_0, hx859_0⟩ (fun hHeld => ?_); refine with_tabW galleyref07_At.tab12 galleyref07_At.bits12 (fun HT_ HW_ => ?_)
               generalize wr.drew = w38 at HO_14 BK849 BK854 HB hx858_0 hx859_0 hHeld ⊢
               refine pure_ (i := 0) (N := some 61) (v := ?_) (a' := ?_) #[true, false, false, false, false, false, false, false, false, false, false, false, false, false, false, false] rfl rfl (any_of HT_.out (by kernel_rfl)) (fun _ _ _ h => h) (Or.inl ⟨by rfl, ?_⟩) ?_ ?_
               rotate_left
               ·
                intro w'
                go_simp
                with_reducible rfl
               rotate_left
               ·
                simp only [Act.put, List.setIfInBounds_toArray, List.set_cons_zero, List.set_cons_succ, i64_w, i32_w]
                rfl
               refine pure_ (i := 1) (N := some 62) (v := ?_) (a' := ?_) #[true, true, false, false, false, false, false, false, false, false, false, false, false, false, false, false] rfl rfl (any_of HT_.out (by kernel_rfl)) (fun _ _ _ h => h) (Or.inl ⟨by rfl, ?_⟩) ?_ ?_
               rotate_left
               ·
                intro w'
                go_simp
                with_reducible rfl
               rotate_left
               ·
                simp only [Act.put, List.setIfInBounds_toArray, List.set_cons_zero, List.set_cons_succ, i64_w, i32_w]
                rfl
               refine pure_ (i := 2) (N := some 63) (v := ?_) (a' := ?_) #[true, true, true, false, false, false, false, false, false, false, false, false, false, false, false, false] rfl rfl (any_of HT_.out (by kernel_rfl)) (fun _ _ _ h => h) (Or.inl ⟨by rfl, ?_⟩) ?_ ?_
               rotate_left
               ·
                intro w'
                go_simp
                with_reducible rfl
               rotate_left
               ·
                simp only [Act.put, List.setIfInBounds_toArray, List.set_cons_zero, List.set_cons_succ, i64_w, i32_w]
                rfl
               refine pure_ (i := 4) (N := some 65) (v := ?_) (a' := ?_) #[true, true, true, false, true, false, false, false, false, false, false, false, false, false, false, false] rfl rfl (any_of HT_.out (by kernel_rfl)) (fun _ _ _ h => h) (Or.inl ⟨by rfl, ?_⟩) ?_ ?_
               rotate_left
               ·
                intro w'
                go_simp
                with_reducible rfl
               rotate_left
               ·
                simp only [Act.put, List.setIfInBounds_toArray, List.set_cons_zero, List.set_cons_succ, i64_w, i32_w]
                rfl
               refine take_ (i := 3) (N := some 64) (v := ?_) (a' := ?_) #[true, true, true, true, true, false, false, false, false, false, false, false, false, false, false, false] rfl rfl (take_ofW HT_.out HW_.out (by kernel_rfl)) (fun _ _ _ h => h) (Or.inl ⟨by rfl, ?_⟩) hHeld ?_ ?_
               rotate_left
               ·
                rintro w' ⟨s0, s1, s2, s3, s4⟩
                go_simp
                with_reducible rfl
               rotate_left
               ·
                simp only [Act.put, List.setIfInBounds_toArray, List.set_cons_zero, List.set_cons_succ, i64_w, i32_w]
                rfl
               refine take_ (i := 5) (N := some 66) (v := ?_) (a' := ?_) #[true, true, true, true, true, true, false, false, false, false, false, false, false, false, false, false] rfl rfl (take_ofW HT_.out HW_.out (by kernel_rfl)) (fun _ _ _ h => h) (Or.inl ⟨by rfl, ?_⟩) hHeld ?_ ?_
               rotate_left
               ·
                rintro w' ⟨s0, s1, s2, s3, s4⟩
                go_simp
                with_reducible rfl
               rotate_left
               ·
                simp only [Act.put, List.setIfInBounds_toArray, List.set_cons_zero, List.set_cons_succ, i64_w, i32_w]
                rfl
               refine pure_ (i := 6) (N := some 67) (v := ?_) (a' := ?_) #[true, true, true, true, true, true, true, false, false, false, false, false, false, false, false, false] rfl rfl (any_of HT_.out (by kernel_rfl)) (fun _ _ _ h => h) (Or.inl ⟨by rfl, ?_⟩) ?_ ?_
               rotate_left
               ·
                intro w'
                go_simp
                with_reducible rfl
               rotate_left
               ·
                simp only [Act.put, List.setIfInBounds_toArray, List.set_cons_zero, List.set_cons_succ, i64_w, i32_w]
                rfl
               refine pure_ (i := 7) (N := some 68) (v := ?_) (a' := ?_) #[true, true, true, true, true, true, true, true, false, false, false, false, false, false, false, false] rfl rfl (any_of HT_.out (by kernel_rfl)) (fun _ _ _ h => h) (Or.inl ⟨by rfl, ?_⟩) ?_ ?_
               rotate_left
               ·
                intro w'
                go_simp
                with_reducible rfl
               rotate_left
               ·
                simp only [Act.put, List.setIfInBounds_toArray, List.set_cons_zero, List.set_cons_succ, i64_w, i32_w]
                rfl
               refine pure_ (i := 8) (N := some 69) (v := ?_) (a' := ?_) #[true, true, true, true, true, true, true, true, true, false, false, false, false, false, false, false] rfl rfl (any_of HT_.out (by kernel_rfl)) (fun _ _ _ h => h) (Or.inl ⟨by rfl, ?_⟩) ?_ ?_
               rotate_left
               ·
                intro w'
                go_simp
                with_reducible rfl
               rotate_left
               ·
                simp only [Act.put, List.setIfInBounds_toArray, List.set_cons_zero, List.set_cons_succ, i64_w, i32_w]
                rfl
               refine pure_ (i := 9) (N := some 70) (v := ?_) (a' := ?_) #[true, true, true, true, true, true, true, true, true, true, false, false, false, false, false, false] rfl rfl (any_of HT_.out (by kernel_rfl)) (fun _ _ _ h => h) (Or.inl ⟨by rfl, ?_⟩) ?_ ?_
               rotate_left
               ·
                intro w'
                go_simp
                with_reducible rfl
               rotate_left
               ·
                simp only [Act.put, List.setIfInBounds_toArray, List.set_cons_zero, List.set_cons_succ, i64_w, i32_w]
                rfl
               refine pure_ (i := 10) (N := some 71) (v := ?_) (a' := ?_) #[true, true, true, true, true, true, true, true, true, true, true, false, false, false, false, false] rfl rfl (any_of HT_.out (by kernel_rfl)) (fun _ _ _ h => h) (Or.inl ⟨by rfl, ?_⟩) ?_ ?_
               rotate_left
               ·
                intro w'
                go_simp
                with_reducible rfl
               rotate_left
               ·
                simp only [Act.put, List.setIfInBounds_toArray, List.set_cons_zero, List.set_cons_succ, i64_w, i32_w]
                rfl
               refine take_ (i := 11) (N := some 72) (v := ?_) (a' := ?_) #[true, true, true, true, true, true, true, true, true, true, true, true, false, false, false, false] rfl rfl (take_ofW HT_.out HW_.out (by kernel_rfl)) (fun _ _ _ h => h) (Or.inl ⟨by rfl, ?_⟩) hHeld ?_ ?_
               rotate_left
               ·
                rintro w' ⟨s0, s1, s2, s3, s4⟩
                go_simp
                with_reducible rfl
               rotate_left
               ·
                simp only [Act.put, List.setIfInBounds_toArray, List.set_cons_zero, List.set_cons_succ, i64_w, i32_w]
                rfl
               refine take_ (i := 12) (N := some 73) (v := ?_) (a' := ?_) #[true, true, true, true, true, true, true, true, true, true, true, true, true, false, false, false] rfl rfl (take_ofW HT_.out HW_.out (by kernel_rfl)) (fun _ _ _ h => h) (Or.inl ⟨by rfl, ?_⟩) hHeld ?_ ?_
               rotate_left
               ·
                rintro w' ⟨s0, s1, s2, s3, s4⟩
                go_simp
                with_reducible rfl
               rotate_left
               ·
                simp only [Act.put, List.setIfInBounds_toArray, List.set_cons_zero, List.set_cons_succ, i64_w, i32_w]
                rfl
               refine one_ (i := 13) (N := some 74) #[true, true, true, true, true, true, true, true, true, true, true, true, true, true, false, false] rfl rfl (one_of HT_.out (by kernel_rfl)) (by decide) (fun K hK => ?_)
               refine goes_ Tryd.func104 (by kernel_rfl) rfl #[.agg #[.int .i64 ((rd_T88 t850 a1_0).f0), .int .i64 ((rd_T88 t850 a1_0).f1), .int .i64 ((rd_T88 t850 a1_0).f2)]] (by rfl) rfl rfl (by (try simp only [List.map_toArray, List.map_cons, List.map_nil]); first | done | rfl | (simp only [List.length_drop, List.length_take]; rfl)) ?_
               with_reducible refine (galleyref07_Last.calls ((rd_T88 t850 a1_0).f0) ((rd_T88 t850 a1_0).f1) ((rd_T88 t850 a1_0).f2) t860 _ A37.out).mono ?_
               rintro e w39 ⟨rfl, hb⟩
               have HS3_ := (hb.cell (World.block_lt_of_cell? _ _ (hHeld.2.2.2.1))).trans (hHeld.2.2.2.1)
               have HS4_ := (hb.cell (World.block_lt_of_cell? _ _ (hHeld.2.2.2.2))).trans (hHeld.2.2.2.2)
               refine ⟨_, rfl, ?_⟩
               have n0_ := Aside0.mk (Kd.R_below (by (with_reducible repeat (first | apply Kd.R_alloc | apply Kd.R_drewN | apply Kd.R_drew)); exact HO_14.out) hb)
               have n1_ := Aside0.mk (blk_below (g := gb849) (o := .cells #[.int .i64 a1_0, .int .i64 a1_1] 71 (0, 0)) (by (with_reducible repeat (first | refine blk_drewN ?_ _ | refine blk_drew ?_ | refine blk_alloc ?_ _)); exact BK849.out) hb)
               have n2_ := Aside0.mk (blk_below (g := gb854) (o := .cells #[.int .i64 ((rd_T88 t850 a1_0).f0), .int .i64 ((rd_T88 t850 a1_0).f1), .int .i64 ((rd_T88 t850 a1_0).f2)] 88 (0, 0)) (by (with_reducible repeat (first | refine blk_drewN ?_ _ | refine blk_drew ?_ | refine blk_alloc ?_ _)); exact BK854.out) hb)
               have n3_ := Aside0.mk (below_step (by repeat (first | (with_reducible first | exact HB.out | apply below_alloc | apply pw_below_drewN | apply below_drew1 | refine below_set ?_ GE849.out | refine below_set ?_ GE854.out) | exact HB.out)) hb)
               clear HO_14
               clear BK849
               clear BK854
               clear HB
               have HO_14 := n0_
               have BK849 := n1_
               have BK854 := n2_
               have HB := n3_
               clear n0_ n1_ n2_ n3_
               (try clear hb)
               (try clear hb2)
               (try clear hk)
               (try clear hi)
               refine hK.out _ _ ⟨(blk_cell BK854.out 0).trans rfl, (blk_cell BK854.out 1).trans rfl, (blk_cell BK854.out 2).trans rfl, HS3_, HS4_⟩ (fun hHeld => ?_)
               clear hK K
               refine norm_ (a' := ?_) ?_ ?_
               rotate_left
               ·
                show Act.put _ (some 74) _ = _
                simp only [Act.put, List.setIfInBounds_toArray, List.set_cons_zero, List.set_cons_succ, i64_w, i32_w]
                rfl
               refine pure_ (i := 14) (N := some 75) (v := ?_) (a' := ?_) #[true, true, true, true, true, true, true, true, true, true, true, true, true, true, true, false] rfl rfl (any_of HT_.out (by kernel_rfl)) (fun _ _ _ h => h) (Or.inl ⟨by rfl, ?_⟩) ?_ ?_
               rotate_left
               ·
                intro w'
                go_simp
                with_reducible rfl
               rotate_left
               ·
                simp only [Act.put, List.setIfInBounds_toArray, List.set_cons_zero, List.set_cons_succ, i64_w, i32_w]
                rfl
               refine pure_ (i := 15) (N := some 76) (v := ?_) (a' := ?_) #[true, true, true, true, true, true, true, true, true, true, true, true, true, true, true, true] rfl rfl (any_of HT_.out (by kernel_rfl)) (fun _ _ _ h => h) (Or.inl ⟨by rfl, ?_⟩) ?_ ?_
               rotate_left
               ·
                intro w'
                go_simp
                with_reducible rfl
               rotate_left
               ·
                simp only [Act.put, List.setIfInBounds_toArray, List.set_cons_zero, List.set_cons_succ, i64_w, i32_w]
                rfl
               refine done_ (done_of HT_.out (by kernel_rfl)) ?_
               try go_wp2
               go_meet
               case rel => exact ⟨_, (decide ((rd t855 x15_3) > t860)), (by first | rfl | (simp; done) | (simp [*]; done)), H', ⟨by have := HJ4.out; have := HJ11.out; have := HK3.out; first | omega | exact Nat.le_refl _⟩, ⟨by (with_reducible repeat (first | apply Kd.R_alloc | apply Kd.R_drewN | apply Kd.R_drew)); exact HO_14.out⟩, ⟨by (with_reducible repeat (first | refine blk_drewN ?_ _ | refine blk_drew ?_ | refine blk_alloc ?_ _)); exact BK849.out⟩, ⟨by (with_reducible repeat (first | refine blk_drewN ?_ _ | refine blk_drew ?_ | refine blk_alloc ?_ _)); exact BK854.out⟩, ⟨by repeat (first | (with_reducible first | exact HB.out | apply below_alloc | apply pw_below_drewN | apply below_drew1 | refine below_set ?_ GE849.out | refine below_set ?_ GE854.out) | exact HB.out)⟩⟩
             ·
              rw [if_neg c34] at H
              exact absurd H (by simp)
            case rest =>
             clear HC32
             (try clear c1); (try clear c2); (try clear p2); (try clear c3); (try clear c6); (try clear c7); (try clear c7b0); (try clear c8); (try clear c8b0); (try clear p8); (try clear q8); (try clear hx8); (try clear c9); (try clear c9b0); (try clear c10); (try clear c14); (try clear c14b0); (try clear c16); (try clear c16b0); (try clear c21); (try clear c22); (try clear c22b0); (try clear c23); (try clear c23b0); (try clear c28); (try clear c31); (try clear c31b0); (try clear c34); (try clear c34b0); (try clear c35); (try clear c35b0); (try clear hcz15_0); (try clear hcz15_1); (try clear hcz17_0); (try clear hcz17_1); (try clear hcz19_0); (try clear hcz19_1); (try clear hcz25_0); (try clear hcz25_1); (try clear hcz29_0); (try clear hcz29_1); (try clear hcz29_2); (try clear hfz15_0); (try clear hfz15_1); (try clear hfz17_0); (try clear hfz17_1); (try clear hfz19_0); (try clear hfz19_1); (try clear hfz25_0); (try clear hfz25_1); (try clear hfz29_0); (try clear hfz29_1); (try clear hfz29_2); (try clear hx853_0); (try clear hx853_1); (try clear hx853_2); (try clear hx858_0); (try clear hx859_0); (try clear p853); (try clear p858); (try clear p859); (try clear q853); (try clear q858); (try clear q859)
             obtain ⟨kq, x76_31, rfl, HA, HJ31, HO_14, BK849, BK854, HB⟩ := hcut
             cases kq with
             | zero => exact absurd HA.out (by simp [galleyref07_At.j3])
             | succ kj31 =>
              have H := HA.out
              clear HA
              simp only [galleyref07_At.j3] at H
              by_cases c40 : x76_31 = true
              ·
               subst c40
               have H1 : (galleyref07_At.l0 kj31 l0 a2 a3 x12_3 x13_3 t855 (wrap64 (x15_3 + 1)) a1_0 a1_1 ((rd_T88 t850 a1_0).f0) ((rd_T88 t850 a1_0).f1) ((rd_T88 t850 a1_0).f2)) = some (r1, r2) := by rw [if_pos rfl] at H; exact H
               clear H
               have H := H1
               clear H1
               have H' := Aside0.mk H
               clear H
               go_wp2
               go_roundg kj31
               case measure => have := HJ4.out; have := HJ11.out; have := HK3.out; have := HJ31.out; omega
               case rel => exact ⟨(x12_3), (x13_3), (wrap64 (x15_3 + 1)), (by first | rfl | (simp; done) | (simp [*]; done)), (by first | rfl | (simp; done) | (simp [*]; done)), (by first | rfl | (simp; done) | (simp [*]; done)), H', ⟨by have := HJ4.out; have := HJ11.out; have := HK3.out; have := HJ31.out; omega⟩, ⟨by (with_reducible repeat (first | apply Kd.R_alloc | apply Kd.R_drewN | apply Kd.R_drew)); exact HO_14.out⟩, ⟨by (with_reducible repeat (first | refine blk_drewN ?_ _ | refine blk_drew ?_ | refine blk_alloc ?_ _)); exact BK849.out⟩, ⟨by (with_reducible repeat (first | refine blk_drewN ?_ _ | refine blk_drew ?_ | refine blk_alloc ?_ _)); exact BK854.out⟩, ⟨by repeat (first | (with_reducible first | exact HB.out | apply below_alloc | apply pw_below_drewN | apply below_drew1 | refine below_set ?_ GE849.out | refine below_set ?_ GE854.out) | exact HB.out)⟩⟩
              ·
               replace c40 := Bool.eq_false_iff.mpr c40
               subst c40
               have H1 : (if 0 ≤ x15_3 then (if x15_3 < (t855.length : Int) then (if 0 ≤ ((rd_T88 t850 a1_0).f0) then (if ((rd_T88 t850 a1_0).f0) ≤ (rd t855 x15_3) then (if (rd t855 x15_3) ≤ (l0.length : Int) then ((galleyref07_Size.f kj31 ((l0.take ((rd t855 x15_3) : Int).toNat).drop (((rd_T88 t850 a1_0).f0) : Int).toNat) a2).bind fun t863 => (if t863 = a1_1 then (some (rd t855 x15_3, 0)) else (if t863 < a1_1 then (if t863 > a1_1 then (if x13_3 < 0 then (galleyref07_At.l0 kj31 l0 a2 a3 (rd t855 x15_3) (rd t855 x15_3) t855 (wrap64 (x15_3 + 1)) a1_0 a1_1 ((rd_T88 t850 a1_0).f0) ((rd_T88 t850 a1_0).f1) ((rd_T88 t850 a1_0).f2)) else (galleyref07_At.l0 kj31 l0 a2 a3 (rd t855 x15_3) x13_3 t855 (wrap64 (x15_3 + 1)) a1_0 a1_1 ((rd_T88 t850 a1_0).f0) ((rd_T88 t850 a1_0).f1) ((rd_T88 t850 a1_0).f2))) else (galleyref07_At.l0 kj31 l0 a2 a3 (rd t855 x15_3) x13_3 t855 (wrap64 (x15_3 + 1)) a1_0 a1_1 ((rd_T88 t850 a1_0).f0) ((rd_T88 t850 a1_0).f1) ((rd_T88 t850 a1_0).f2))) else (if t863 > a1_1 then (if x13_3 < 0 then (galleyref07_At.l0 kj31 l0 a2 a3 x12_3 (rd t855 x15_3) t855 (wrap64 (x15_3 + 1)) a1_0 a1_1 ((rd_T88 t850 a1_0).f0) ((rd_T88 t850 a1_0).f1) ((rd_T88 t850 a1_0).f2)) else (galleyref07_At.l0 kj31 l0 a2 a3 x12_3 x13_3 t855 (wrap64 (x15_3 + 1)) a1_0 a1_1 ((rd_T88 t850 a1_0).f0) ((rd_T88 t850 a1_0).f1) ((rd_T88 t850 a1_0).f2))) else (galleyref07_At.l0 kj31 l0 a2 a3 x12_3 x13_3 t855 (wrap64 (x15_3 + 1)) a1_0 a1_1 ((rd_T88 t850 a1_0).f0) ((rd_T88 t850 a1_0).f1) ((rd_T88 t850 a1_0).f2)))))) else (none)) else (none)) else (none)) else (none)) else (none)) = some (r1, r2) := by rw [if_neg (show ¬ (false = true) by decide)] at H; exact H
               clear H
               have H := H1
               clear H1
               by_cases c41 : 0 ≤ x15_3
               ·
                rw [if_pos c41] at H
                have c41b0 : decide (0 ≤ x15_3) = true := decide_eq_true c41
                clear c41
                by_cases c42 : x15_3 < (t855.length : Int)
                ·
                 rw [if_pos c42] at H
                 have c42b0 : decide (x15_3 < (t855.length : Int)) = true := decide_eq_true c42
                 clear c42
                 by_cases c43 : 0 ≤ ((rd_T88 t850 a1_0).f0)
                 ·
                  rw [if_pos c43] at H
                  have c43b0 := eq_true c43
                  have c43b1 : decide (0 ≤ ((rd_T88 t850 a1_0).f0)) = true := decide_eq_true c43
                  clear c43
                  by_cases c44 : ((rd_T88 t850 a1_0).f0) ≤ (rd t855 x15_3)
                  ·
                   rw [if_pos c44] at H
                   have c44b0 := eq_true c44
                   have c44b1 : decide (((rd_T88 t850 a1_0).f0) ≤ (rd t855 x15_3)) = true := decide_eq_true c44
                   clear c44
                   by_cases c45 : (rd t855 x15_3) ≤ (l0.length : Int)
                   ·
                    rw [if_pos c45] at H
                    have c45b0 := eq_true c45
                    have c45b1 : decide ((rd t855 x15_3) ≤ (l0.length : Int)) = true := decide_eq_true c45
                    clear c45
                    replace H := Option.bind_eq_some_iff.mp H
                    obtain ⟨t863, A460, H⟩ := H
                    replace H : (if t863 = a1_1 then (some (rd t855 x15_3, 0)) else (if t863 < a1_1 then (if t863 > a1_1 then (if x13_3 < 0 then (galleyref07_At.l0 kj31 l0 a2 a3 (rd t855 x15_3) (rd t855 x15_3) t855 (wrap64 (x15_3 + 1)) a1_0 a1_1 ((rd_T88 t850 a1_0).f0) ((rd_T88 t850 a1_0).f1) ((rd_T88 t850 a1_0).f2)) else (galleyref07_At.l0 kj31 l0 a2 a3 (rd t855 x15_3) x13_3 t855 (wrap64 (x15_3 + 1)) a1_0 a1_1 ((rd_T88 t850 a1_0).f0) ((rd_T88 t850 a1_0).f1) ((rd_T88 t850 a1_0).f2))) else (galleyref07_At.l0 kj31 l0 a2 a3 (rd t855 x15_3) x13_3 t855 (wrap64 (x15_3 + 1)) a1_0 a1_1 ((rd_T88 t850 a1_0).f0) ((rd_T88 t850 a1_0).f1) ((rd_T88 t850 a1_0).f2))) else (if t863 > a1_1 then (if x13_3 < 0 then (galleyref07_At.l0 kj31 l0 a2 a3 x12_3 (rd t855 x15_3) t855 (wrap64 (x15_3 + 1)) a1_0 a1_1 ((rd_T88 t850 a1_0).f0) ((rd_T88 t850 a1_0).f1) ((rd_T88 t850 a1_0).f2)) else (galleyref07_At.l0 kj31 l0 a2 a3 x12_3 x13_3 t855 (wrap64 (x15_3 + 1)) a1_0 a1_1 ((rd_T88 t850 a1_0).f0) ((rd_T88 t850 a1_0).f1) ((rd_T88 t850 a1_0).f2))) else (galleyref07_At.l0 kj31 l0 a2 a3 x12_3 x13_3 t855 (wrap64 (x15_3 + 1)) a1_0 a1_1 ((rd_T88 t850 a1_0).f0) ((rd_T88 t850 a1_0).f1) ((rd_T88 t850 a1_0).f2))))) = some (r1, r2) := H
                    have A46 := Aside0.mk A460
                    clear A460
                    by_cases c47 : t863 = a1_1
                    ·
                     rw [if_pos c47] at H
                     have c47b0 : (t863 == a1_1) = true := beq_iff_eq.mpr c47
                     have c47b1 : (t863 != a1_1) = false := bne_eq_false_iff_eq.mpr c47
                     clear c47
                     simp only [Option.some.injEq, Prod.mk.injEq] at H
                     obtain ⟨rfl, rfl⟩ := H
                     try go_wp2
                     have n0_ := Aside0.mk (Kd.R_drew HO_14.out)
                     have n1_ := Aside0.mk (blk_drew BK849.out)
                     have n2_ := Aside0.mk (blk_drew BK854.out)
                     have n3_ := Aside0.mk (below_drew1 HB.out)
                     clear HO_14
                     clear BK849
                     clear BK854
                     clear HB
                     have HO_14 := n0_
                     have BK849 := n1_
                     have BK854 := n2_
                     have HB := n3_
                     clear n0_ n1_ n2_ n3_
                     have p861 : 0 ≤ (x15_3 : Int) := of_decide_eq_true (by first | (with_reducible assumption) | assumption)
                     have q861 : x15_3 < (t855.length : Int) := of_decide_eq_true (by first | (with_reducible assumption) | assumption)
                     obtain ⟨ad861, e861, hx861_0⟩ := Kd.at_int (Kd.R_reads' HO_14.out).2.2 x15_3 p861 q861
                     cases e861
                     replace p861 := eq_true p861
                     replace q861 := eq_true q861
                     obtain ⟨i049, hi049, _, hsz49, _⟩ := info_parts info5
                     obtain ⟨A49, hcut49, hA49, hC49⟩ := print_mid_of (P := Tryd.prog) (Value.int .u8) 0 22 5 .i64 .i64 Tryd.underlying22 hi049 hsz49 A0 c0 l0 ((rd_T88 t850 a1_0).f0) (rd t855 x15_3) (of_decide_eq_true (by first | (with_reducible assumption) | assumption)) (by first | omega | exact of_decide_eq_true (by first | (with_reducible assumption) | assumption)) (of_decide_eq_true (by first | (with_reducible assumption) | assumption)) HC0.out
                     have HR862 := Aside0.mk (Kd.C_of_reads (h1 := fun _ => rfl) (hA49 _ (Kd.reads_of_C HR0.out)))
                     have HC862 := Aside0.mk hC49
                     clear hA49 hC49 hi049 hsz49
                     refine start_ (n := 11) (S := fun w' => w'.cell? ⟨gb854, 0, none⟩ = some (.int .i64 ((rd_T88 t850 a1_0).f0)) ∧ w'.cell? ⟨gb854, 1, none⟩ = some (.int .i64 ((rd_T88 t850 a1_0).f1)) ∧ w'.cell? ⟨gb854, 2, none⟩ = some (.int .i64 ((rd_T88 t850 a1_0).f2)) ∧ w'.cell? (ad861.add (x15_3).toNat) = some (.int .i64 (rd t855 x15_3))) (ds := []) #[false, false, false, false, false, false, false, false, false, false, false] (by kernel_rfl) rfl rfl ⟨(blk_cell BK854.out 0).trans rfl, (blk_cell BK854.out 1).trans rfl, (blk_cell BK854.out 2).trans rfl, hx861_0⟩ (fun hHeld => ?_); refine with_tabW galleyref07_At.tab13 galleyref07_At.bits13 (fun HT_ HW_ => ?_)
                     generalize wc.drew = w48 at HO_14 BK849 BK854 HB HR862 hx861_0 hHeld ⊢
                     refine pure_ (i := 0) (N := some 77) (v := ?_) (a' := ?_) #[true, false, false, false, false, false, false, false, false, false, false] rfl rfl (any_of HT_.out (by kernel_rfl)) (fun _ _ _ h => h) (Or.inl ⟨by rfl, ?_⟩) ?_ ?_
                     rotate_left
                     ·
                      intro w'
                      go_simp
                      with_reducible rfl
                     rotate_left
                     ·
                      simp only [Act.put, List.setIfInBounds_toArray, List.set_cons_zero, List.set_cons_succ, i64_w, i32_w]
                      rfl
                     refine pure_ (i := 1) (N := some 78) (v := ?_) (a' := ?_) #[true, true, false, false, false, false, false, false, false, false, false] rfl rfl (any_of HT_.out (by kernel_rfl)) (fun _ _ _ h => h) (Or.inl ⟨by rfl, ?_⟩) ?_ ?_
                     rotate_left
                     ·
                      intro w'
                      go_simp
                      with_reducible rfl
                     rotate_left
                     ·
                      simp only [Act.put, List.setIfInBounds_toArray, List.set_cons_zero, List.set_cons_succ, i64_w, i32_w]
                      rfl
                     refine pure_ (i := 3) (N := some 80) (v := ?_) (a' := ?_) #[true, true, false, true, false, false, false, false, false, false, false] rfl rfl (any_of HT_.out (by kernel_rfl)) (fun _ _ _ h => h) (Or.inl ⟨by rfl, ?_⟩) ?_ ?_
                     rotate_left
                     ·
                      intro w'
                      go_simp
                      with_reducible rfl
                     rotate_left
                     ·
                      simp only [Act.put, List.setIfInBounds_toArray, List.set_cons_zero, List.set_cons_succ, i64_w, i32_w]
                      rfl
                     refine pure_ (i := 4) (N := some 81) (v := ?_) (a' := ?_) #[true, true, false, true, true, false, false, false, false, false, false] rfl rfl (any_of HT_.out (by kernel_rfl)) (fun _ _ _ h => h) (Or.inl ⟨by rfl, ?_⟩) ?_ ?_
                     rotate_left
                     ·
                      intro w'
                      go_simp
                      with_reducible rfl
                     rotate_left
                     ·
                      simp only [Act.put, List.setIfInBounds_toArray, List.set_cons_zero, List.set_cons_succ, i64_w, i32_w]
                      rfl
                     refine pure_ (i := 5) (N := some 82) (v := ?_) (a' := ?_) #[true, true, false, true, true, true, false, false, false, false, false] rfl rfl (any_of HT_.out (by kernel_rfl)) (fun _ _ _ h => h) (Or.inl ⟨by rfl, ?_⟩) ?_ ?_
                     rotate_left
                     ·
                      intro w'
                      go_simp
                      with_reducible rfl
                     rotate_left
                     ·
                      simp only [Act.put, List.setIfInBounds_toArray, List.set_cons_zero, List.set_cons_succ, i64_w, i32_w]
                      rfl
                     refine pure_ (i := 8) (N := some 85) (v := ?_) (a' := ?_) #[true, true, false, true, true, true, false, false, true, false, false] rfl rfl (any_of HT_.out (by kernel_rfl)) (fun _ _ _ h => h) (Or.inl ⟨by rfl, ?_⟩) ?_ ?_
                     rotate_left
                     ·
                      intro w'
                      go_simp
                      with_reducible rfl
                     rotate_left
                     ·
                      simp only [Act.put, List.setIfInBounds_toArray, List.set_cons_zero, List.set_cons_succ, i64_w, i32_w]
                      rfl
                     refine take_ (i := 2) (N := some 79) (v := ?_) (a' := ?_) #[true, true, true, true, true, true, false, false, true, false, false] rfl rfl (take_ofW HT_.out HW_.out (by kernel_rfl)) (fun _ _ _ h => h) (Or.inl ⟨by rfl, ?_⟩) hHeld ?_ ?_
                     rotate_left
                     ·
                      rintro w' ⟨s0, s1, s2, s3⟩
                      go_simp
                      with_reducible rfl
                     rotate_left
                     ·
                      simp only [Act.put, List.setIfInBounds_toArray, List.set_cons_zero, List.set_cons_succ, i64_w, i32_w]
                      rfl
                     refine take_ (i := 6) (N := some 83) (v := ?_) (a' := ?_) #[true, true, true, true, true, true, true, false, true, false, false] rfl rfl (take_ofW HT_.out HW_.out (by kernel_rfl)) (fun _ _ _ h => h) (Or.inl ⟨by rfl, ?_⟩) hHeld ?_ ?_
                     rotate_left
                     ·
                      rintro w' ⟨s0, s1, s2, s3⟩
                      go_simp
                      with_reducible rfl
                     rotate_left
                     ·
                      simp only [Act.put, List.setIfInBounds_toArray, List.set_cons_zero, List.set_cons_succ, i64_w, i32_w]
                      rfl
                     refine pure_ (i := 7) (N := some 84) (v := ?_) (a' := ?_) #[true, true, true, true, true, true, true, true, true, false, false] rfl rfl (any_of HT_.out (by kernel_rfl)) (fun _ _ _ h => h) (Or.inl ⟨by rfl, ?_⟩) ?_ ?_
                     rotate_left
                     ·
                      intro w'
                      go_simp
                      with_reducible rfl
                     rotate_left
                     ·
                      simp only [Act.put, List.setIfInBounds_toArray, List.set_cons_zero, List.set_cons_succ, i64_w, i32_w]
                      rfl
                     refine one_ (i := 9) (N := some 86) #[true, true, true, true, true, true, true, true, true, true, false] rfl rfl (one_of HT_.out (by kernel_rfl)) (by decide) (fun K hK => ?_)
                     refine goes_ Tryd.func105 (by kernel_rfl) rfl #[.slice A49 ((l0.take ((rd t855 x15_3) : Int).toNat).drop (((rd_T88 t850 a1_0).f0) : Int).toNat).length (c0 - ((rd_T88 t850 a1_0).f0).toNat), .int .i64 a2] (by rfl) rfl rfl (by (try simp only [List.map_toArray, List.map_cons, List.map_nil]); first | done | (rw [show ((l0.take ((rd t855 x15_3) : Int).toNat).drop (((rd_T88 t850 a1_0).f0) : Int).toNat).length = ((rd t855 x15_3).toNat - ((rd_T88 t850 a1_0).f0).toNat) from (by rw [List.length_drop, List.length_take]; have h_ : ((rd t855 x15_3) : Int) ≤ (l0.length : Int) := of_decide_eq_true (by first | (with_reducible assumption) | assumption); omega)] <;> rfl) | rfl | (simp only [List.length_drop, List.length_take]; rfl)) ?_
                     with_reducible refine (galleyref07_Size.calls kj31 _ _ ((l0.take ((rd t855 x15_3) : Int).toNat).drop (((rd_T88 t850 a1_0).f0) : Int).toNat) a2 t863 _ ?side1 ?side2 A46.out).mono ?_
                     (case side1 => repeat (first | exact (Kd.C_below HR862.out HB.out) | (with_reducible refine Kd.C_alloc ?_ _) | (with_reducible refine Kd.C_drewN ?_ _) | (with_reducible refine Kd.C_drew ?_)))
                     (case side2 => exact HC862.out)
                     rintro e w50 ⟨rfl, hb⟩
                     have HS3_ := (hb.cell (World.block_lt_of_cell? _ _ (hHeld.2.2.2))).trans (hHeld.2.2.2)
                     refine ⟨_, rfl, ?_⟩
                     have n0_ := Aside0.mk (Kd.R_below (by (with_reducible repeat (first | apply Kd.R_alloc | apply Kd.R_drewN | apply Kd.R_drew)); exact HO_14.out) hb)
                     have n1_ := Aside0.mk (blk_below (g := gb849) (o := .cells #[.int .i64 a1_0, .int .i64 a1_1] 71 (0, 0)) (by (with_reducible repeat (first | refine blk_drewN ?_ _ | refine blk_drew ?_ | refine blk_alloc ?_ _)); exact BK849.out) hb)
                     have n2_ := Aside0.mk (blk_below (g := gb854) (o := .cells #[.int .i64 ((rd_T88 t850 a1_0).f0), .int .i64 ((rd_T88 t850 a1_0).f1), .int .i64 ((rd_T88 t850 a1_0).f2)] 88 (0, 0)) (by (with_reducible repeat (first | refine blk_drewN ?_ _ | refine blk_drew ?_ | refine blk_alloc ?_ _)); exact BK854.out) hb)
                     have n3_ := Aside0.mk (below_step (by repeat (first | (with_reducible first | exact HB.out | apply below_alloc | apply pw_below_drewN | apply below_drew1 | refine below_set ?_ GE849.out | refine below_set ?_ GE854.out) | exact HB.out)) hb)
                     clear HO_14
                     clear BK849
                     clear BK854
                     clear HB
                     have HO_14 := n0_
                     have BK849 := n1_
                     have BK854 := n2_
                     have HB := n3_
                     clear n0_ n1_ n2_ n3_
                     (try clear hb)
                     (try clear hb2)
                     (try clear hk)
                     (try clear hi)
                     refine hK.out _ _ ⟨(blk_cell BK854.out 0).trans rfl, (blk_cell BK854.out 1).trans rfl, (blk_cell BK854.out 2).trans rfl, HS3_⟩ (fun hHeld => ?_)
                     clear hK K
                     refine norm_ (a' := ?_) ?_ ?_
                     rotate_left
                     ·
                      show Act.put _ (some 86) _ = _
                      simp only [Act.put, List.setIfInBounds_toArray, List.set_cons_zero, List.set_cons_succ, i64_w, i32_w]
                      rfl
                     refine pure_ (i := 10) (N := some 16) (v := ?_) (a' := ?_) #[true, true, true, true, true, true, true, true, true, true, true] rfl rfl (any_of HT_.out (by kernel_rfl)) (fun _ _ _ h => h) (Or.inl ⟨by rfl, ?_⟩) ?_ ?_
                     rotate_left
                     ·
                      intro w'
                      go_simp
                      with_reducible rfl
                     rotate_left
                     ·
                      simp only [Act.put, List.setIfInBounds_toArray, List.set_cons_zero, List.set_cons_succ, i64_w, i32_w]
                      rfl
                     refine done_ (done_of HT_.out (by kernel_rfl)) ?_
                     have hnb51 := NB849_854.out
                     have hnc51 := NB854_849.out
                     have hcz52_0 : w50.cell? ⟨gb849, 0, none⟩ = some (.int .i64 a1_0) := (blk_cell BK849.out 0).trans rfl
                     have hcz52_1 : w50.cell? ⟨gb849, 1, none⟩ = some (.int .i64 a1_1) := (blk_cell BK849.out 1).trans rfl
                     have hfz52_0 := blk_frozen BK849.out 0
                     have hfz52_1 := blk_frozen BK849.out 1
                     have p864 : 0 ≤ (x15_3 : Int) := of_decide_eq_true (by first | (with_reducible assumption) | assumption)
                     have q864 : x15_3 < (t855.length : Int) := of_decide_eq_true (by first | (with_reducible assumption) | assumption)
                     obtain ⟨ad864, e864, hx864_0⟩ := Kd.at_int (Kd.R_reads' HO_14.out).2.2 x15_3 p864 q864
                     obtain rfl : ad861 = ad864 := (by injection e864)
                     replace p864 := eq_true p864
                     replace q864 := eq_true q864
                     try go_wp2
                     go_ret2
                     exact ⟨by first | rfl | (simp [errW_none, errW_some] <;> rfl) | (simp [*, errW_none, errW_some] <;> rfl), by repeat (first | (with_reducible first | exact HB.out | apply below_alloc | apply pw_below_drewN | apply below_drew1 | refine below_set ?_ GE849.out | refine below_set ?_ GE854.out) | exact HB.out)⟩
                    ·
                     rw [if_neg c47] at H
                     have c47b0 : (t863 == a1_1) = false := beq_eq_false_iff_ne.mpr c47
                     have c47b1 : (t863 != a1_1) = true := bne_iff_ne.mpr c47
                     by_cases c53 : t863 < a1_1
                     ·
                      rw [if_pos c53] at H
                      have c53b0 : decide (t863 < a1_1) = true := decide_eq_true c53
                      clear c53
                      by_cases c54 : t863 > a1_1
                      ·
                       rw [if_pos c54] at H
                       have c54b0 : decide (a1_1 < t863) = true := decide_eq_true c54
                       clear c54
                       by_cases c55 : x13_3 < 0
                       ·
                        rw [if_pos c55] at H
                        have c55b0 : decide (x13_3 < 0) = true := decide_eq_true c55
                        clear c55
                        have H' := Aside0.mk H
                        clear H
                        try go_wp2
                        have n0_ := Aside0.mk (Kd.R_drew HO_14.out)
                        have n1_ := Aside0.mk (blk_drew BK849.out)
                        have n2_ := Aside0.mk (blk_drew BK854.out)
                        have n3_ := Aside0.mk (below_drew1 HB.out)
                        clear HO_14
                        clear BK849
                        clear BK854
                        clear HB
                        have HO_14 := n0_
                        have BK849 := n1_
                        have BK854 := n2_
                        have HB := n3_
                        clear n0_ n1_ n2_ n3_
                        have p861 : 0 ≤ (x15_3 : Int) := of_decide_eq_true (by first | (with_reducible assumption) | assumption)
                        have q861 : x15_3 < (t855.length : Int) := of_decide_eq_true (by first | (with_reducible assumption) | assumption)
                        obtain ⟨ad861, e861, hx861_0⟩ := Kd.at_int (Kd.R_reads' HO_14.out).2.2 x15_3 p861 q861
                        cases e861
                        replace p861 := eq_true p861
                        replace q861 := eq_true q861
                        obtain ⟨i057, hi057, _, hsz57, _⟩ := info_parts info5
                        obtain ⟨A57, hcut57, hA57, hC57⟩ := print_mid_of (P := Tryd.prog) (Value.int .u8) 0 22 5 .i64 .i64 Tryd.underlying22 hi057 hsz57 A0 c0 l0 ((rd_T88 t850 a1_0).f0) (rd t855 x15_3) (of_decide_eq_true (by first | (with_reducible assumption) | assumption)) (by first | omega | exact of_decide_eq_true (by first | (with_reducible assumption) | assumption)) (of_decide_eq_true (by first | (with_reducible assumption) | assumption)) HC0.out
                        have HR862 := Aside0.mk (Kd.C_of_reads (h1 := fun _ => rfl) (hA57 _ (Kd.reads_of_C HR0.out)))
                        have HC862 := Aside0.mk hC57
                        clear hA57 hC57 hi057 hsz57
                        refine start_ (n := 11) (S := fun w' => w'.cell? ⟨gb854, 0, none⟩ = some (.int .i64 ((rd_T88 t850 a1_0).f0)) ∧ w'.cell? ⟨gb854, 1, none⟩ = some (.int .i64 ((rd_T88 t850 a1_0).f1)) ∧ w'.cell? ⟨gb854, 2, none⟩ = some (.int .i64 ((rd_T88 t850 a1_0).f2)) ∧ w'.cell? (ad861.add (x15_3).toNat) = some (.int .i64 (rd t855 x15_3))) (ds := []) #[false, false, false, false, false, false, false, false, false, false, false] (by kernel_rfl) rfl rfl ⟨(blk_cell BK854.out 0).trans rfl, (blk_cell BK854.out 1).trans rfl, (blk_cell BK854.out 2).trans rfl, hx861_0⟩ (fun hHeld => ?_); refine with_tabW galleyref07_At.tab13 galleyref07_At.bits13 (fun HT_ HW_ => ?_)
                        generalize wc.drew = w56 at HO_14 BK849 BK854 HB HR862 hx861_0 hHeld ⊢
                        refine pure_ (i := 0) (N := some 77) (v := ?_) (a' := ?_) #[true, false, false, false, false, false, false, false, false, false, false] rfl rfl (any_of HT_.out (by kernel_rfl)) (fun _ _ _ h => h) (Or.inl ⟨by rfl, ?_⟩) ?_ ?_
                        rotate_left
                        ·
                         intro w'
                         go_simp
                         with_reducible rfl
                        rotate_left
                        ·
                         simp only [Act.put, List.setIfInBounds_toArray, List.set_cons_zero, List.set_cons_succ, i64_w, i32_w]
                         rfl
                        refine pure_ (i := 1) (N := some 78) (v := ?_) (a' := ?_) #[true, true, false, false, false, false, false, false, false, false, false] rfl rfl (any_of HT_.out (by kernel_rfl)) (fun _ _ _ h => h) (Or.inl ⟨by rfl, ?_⟩) ?_ ?_
                        rotate_left
                        ·
                         intro w'
                         go_simp
                         with_reducible rfl
                        rotate_left
                        ·
                         simp only [Act.put, List.setIfInBounds_toArray, List.set_cons_zero, List.set_cons_succ, i64_w, i32_w]
                         rfl
                        refine pure_ (i := 3) (N := some 80) (v := ?_) (a' := ?_) #[true, true, false, true, false, false, false, false, false, false, false] rfl rfl (any_of HT_.out (by kernel_rfl)) (fun _ _ _ h => h) (Or.inl ⟨by rfl, ?_⟩) ?_ ?_
                        rotate_left
                        ·
                         intro w'
                         go_simp
                         with_reducible rfl
                        rotate_left
                        ·
                         simp only [Act.put, List.setIfInBounds_toArray, List.set_cons_zero, List.set_cons_succ, i64_w, i32_w]
                         rfl
                        refine pure_ (i := 4) (N := some 81) (v := ?_) (a' := ?_) #[true, true, false, true, true, false, false, false, false, false, false] rfl rfl (any_of HT_.out (by kernel_rfl)) (fun _ _ _ h => h) (Or.inl ⟨by rfl, ?_⟩) ?_ ?_
                        rotate_left
                        ·
                         intro w'
                         go_simp
                         with_reducible rfl
                        rotate_left
                        ·
                         simp only [Act.put, List.setIfInBounds_toArray, List.set_cons_zero, List.set_cons_succ, i64_w, i32_w]
                         rfl
                        refine pure_ (i := 5) (N := some 82) (v := ?_) (a' := ?_) #[true, true, false, true, true, true, false, false, false, false, false] rfl rfl (any_of HT_.out (by kernel_rfl)) (fun _ _ _ h => h) (Or.inl ⟨by rfl, ?_⟩) ?_ ?_
                        rotate_left
                        ·
                         intro w'
                         go_simp
                         with_reducible rfl
                        rotate_left
                        ·
                         simp only [Act.put, List.setIfInBounds_toArray, List.set_cons_zero, List.set_cons_succ, i64_w, i32_w]
                         rfl
                        refine pure_ (i := 8) (N := some 85) (v := ?_) (a' := ?_) #[true, true, false, true, true, true, false, false, true, false, false] rfl rfl (any_of HT_.out (by kernel_rfl)) (fun _ _ _ h => h) (Or.inl ⟨by rfl, ?_⟩) ?_ ?_
                        rotate_left
                        ·
                         intro w'
                         go_simp
                         with_reducible rfl
                        rotate_left
                        ·
                         simp only [Act.put, List.setIfInBounds_toArray, List.set_cons_zero, List.set_cons_succ, i64_w, i32_w]
                         rfl
                        refine take_ (i := 2) (N := some 79) (v := ?_) (a' := ?_) #[true, true, true, true, true, true, false, false, true, false, false] rfl rfl (take_ofW HT_.out HW_.out (by kernel_rfl)) (fun _ _ _ h => h) (Or.inl ⟨by rfl, ?_⟩) hHeld ?_ ?_
                        rotate_left
                        ·
                         rintro w' ⟨s0, s1, s2, s3⟩
                         go_simp
                         with_reducible rfl
                        rotate_left
                        ·
                         simp only [Act.put, List.setIfInBounds_toArray, List.set_cons_zero, List.set_cons_succ, i64_w, i32_w]
                         rfl
                        refine take_ (i := 6) (N := some 83) (v := ?_) (a' := ?_) #[true, true, true, true, true, true, true, false, true, false, false] rfl rfl (take_ofW HT_.out HW_.out (by kernel_rfl)) (fun _ _ _ h => h) (Or.inl ⟨by rfl, ?_⟩) hHeld ?_ ?_
                        rotate_left
                        ·
                         rintro w' ⟨s0, s1, s2, s3⟩
                         go_simp
                         with_reducible rfl
                        rotate_left
                        ·
                         simp only [Act.put, List.setIfInBounds_toArray, List.set_cons_zero, List.set_cons_succ, i64_w, i32_w]
                         rfl
                        refine pure_ (i := 7) (N := some 84) (v := ?_) (a' := ?_) #[true, true, true, true, true, true, true, true, true, false, false] rfl rfl (any_of HT_.out (by kernel_rfl)) (fun _ _ _ h => h) (Or.inl ⟨by rfl, ?_⟩) ?_ ?_
                        rotate_left
                        ·
                         intro w'
                         go_simp
                         with_reducible rfl
                        rotate_left
                        ·
                         simp only [Act.put, List.setIfInBounds_toArray, List.set_cons_zero, List.set_cons_succ, i64_w, i32_w]
                         rfl
                        refine one_ (i := 9) (N := some 86) #[true, true, true, true, true, true, true, true, true, true, false] rfl rfl (one_of HT_.out (by kernel_rfl)) (by decide) (fun K hK => ?_)
                        refine goes_ Tryd.func105 (by kernel_rfl) rfl #[.slice A57 ((l0.take ((rd t855 x15_3) : Int).toNat).drop (((rd_T88 t850 a1_0).f0) : Int).toNat).length (c0 - ((rd_T88 t850 a1_0).f0).toNat), .int .i64 a2] (by rfl) rfl rfl (by (try simp only [List.map_toArray, List.map_cons, List.map_nil]); first | done | (rw [show ((l0.take ((rd t855 x15_3) : Int).toNat).drop (((rd_T88 t850 a1_0).f0) : Int).toNat).length = ((rd t855 x15_3).toNat - ((rd_T88 t850 a1_0).f0).toNat) from (by rw [List.length_drop, List.length_take]; have h_ : ((rd t855 x15_3) : Int) ≤ (l0.length : Int) := of_decide_eq_true (by first | (with_reducible assumption) | assumption); omega)] <;> rfl) | rfl | (simp only [List.length_drop, List.length_take]; rfl)) ?_
                        with_reducible refine (galleyref07_Size.calls kj31 _ _ ((l0.take ((rd t855 x15_3) : Int).toNat).drop (((rd_T88 t850 a1_0).f0) : Int).toNat) a2 t863 _ ?side1 ?side2 A46.out).mono ?_
                        (case side1 => repeat (first | exact (Kd.C_below HR862.out HB.out) | (with_reducible refine Kd.C_alloc ?_ _) | (with_reducible refine Kd.C_drewN ?_ _) | (with_reducible refine Kd.C_drew ?_)))
                        (case side2 => exact HC862.out)
                        rintro e w58 ⟨rfl, hb⟩
                        have HS3_ := (hb.cell (World.block_lt_of_cell? _ _ (hHeld.2.2.2))).trans (hHeld.2.2.2)
                        refine ⟨_, rfl, ?_⟩
                        have n0_ := Aside0.mk (Kd.R_below (by (with_reducible repeat (first | apply Kd.R_alloc | apply Kd.R_drewN | apply Kd.R_drew)); exact HO_14.out) hb)
                        have n1_ := Aside0.mk (blk_below (g := gb849) (o := .cells #[.int .i64 a1_0, .int .i64 a1_1] 71 (0, 0)) (by (with_reducible repeat (first | refine blk_drewN ?_ _ | refine blk_drew ?_ | refine blk_alloc ?_ _)); exact BK849.out) hb)
                        have n2_ := Aside0.mk (blk_below (g := gb854) (o := .cells #[.int .i64 ((rd_T88 t850 a1_0).f0), .int .i64 ((rd_T88 t850 a1_0).f1), .int .i64 ((rd_T88 t850 a1_0).f2)] 88 (0, 0)) (by (with_reducible repeat (first | refine blk_drewN ?_ _ | refine blk_drew ?_ | refine blk_alloc ?_ _)); exact BK854.out) hb)
                        have n3_ := Aside0.mk (below_step (by repeat (first | (with_reducible first | exact HB.out | apply below_alloc | apply pw_below_drewN | apply below_drew1 | refine below_set ?_ GE849.out | refine below_set ?_ GE854.out) | exact HB.out)) hb)
                        clear HO_14
                        clear BK849
                        clear BK854
                        clear HB
                        have HO_14 := n0_
                        have BK849 := n1_
                        have BK854 := n2_
                        have HB := n3_
                        clear n0_ n1_ n2_ n3_
                        (try clear hb)
                        (try clear hb2)
                        (try clear hk)
                        (try clear hi)
                        refine hK.out _ _ ⟨(blk_cell BK854.out 0).trans rfl, (blk_cell BK854.out 1).trans rfl, (blk_cell BK854.out 2).trans rfl, HS3_⟩ (fun hHeld => ?_)
                        clear hK K
                        refine norm_ (a' := ?_) ?_ ?_
                        rotate_left
                        ·
                         show Act.put _ (some 86) _ = _
                         simp only [Act.put, List.setIfInBounds_toArray, List.set_cons_zero, List.set_cons_succ, i64_w, i32_w]
                         rfl
                        refine pure_ (i := 10) (N := some 16) (v := ?_) (a' := ?_) #[true, true, true, true, true, true, true, true, true, true, true] rfl rfl (any_of HT_.out (by kernel_rfl)) (fun _ _ _ h => h) (Or.inl ⟨by rfl, ?_⟩) ?_ ?_
                        rotate_left
                        ·
                         intro w'
                         go_simp
                         with_reducible rfl
                        rotate_left
                        ·
                         simp only [Act.put, List.setIfInBounds_toArray, List.set_cons_zero, List.set_cons_succ, i64_w, i32_w]
                         rfl
                        refine done_ (done_of HT_.out (by kernel_rfl)) ?_
                        have hnb59 := NB849_854.out
                        have hnc59 := NB854_849.out
                        have hcz60_0 : w58.cell? ⟨gb849, 0, none⟩ = some (.int .i64 a1_0) := (blk_cell BK849.out 0).trans rfl
                        have hcz60_1 : w58.cell? ⟨gb849, 1, none⟩ = some (.int .i64 a1_1) := (blk_cell BK849.out 1).trans rfl
                        have hfz60_0 := blk_frozen BK849.out 0
                        have hfz60_1 := blk_frozen BK849.out 1
                        have p865 : 0 ≤ (x15_3 : Int) := of_decide_eq_true (by first | (with_reducible assumption) | assumption)
                        have q865 : x15_3 < (t855.length : Int) := of_decide_eq_true (by first | (with_reducible assumption) | assumption)
                        obtain ⟨ad865, e865, hx865_0⟩ := Kd.at_int (Kd.R_reads' HO_14.out).2.2 x15_3 p865 q865
                        obtain rfl : ad861 = ad865 := (by injection e865)
                        replace p865 := eq_true p865
                        replace q865 := eq_true q865
                        have p866 : 0 ≤ (x15_3 : Int) := of_decide_eq_true (by first | (with_reducible assumption) | assumption)
                        have q866 : x15_3 < (t855.length : Int) := of_decide_eq_true (by first | (with_reducible assumption) | assumption)
                        obtain ⟨ad866, e866, hx866_0⟩ := Kd.at_int (Kd.R_reads' HO_14.out).2.2 x15_3 p866 q866
                        obtain rfl : ad861 = ad866 := (by injection e866)
                        replace p866 := eq_true p866
                        replace q866 := eq_true q866
                        try go_wp2
                        go_roundg kj31
                        case measure => have := HJ4.out; have := HJ11.out; have := HK3.out; have := HJ31.out; omega
                        case rel => exact ⟨(rd t855 x15_3), (rd t855 x15_3), (wrap64 (x15_3 + 1)), (by first | rfl | (simp; done) | (simp [*]; done)), (by first | rfl | (simp; done) | (simp [*]; done)), (by first | rfl | (simp; done) | (simp [*]; done)), H', ⟨by have := HJ4.out; have := HJ11.out; have := HK3.out; have := HJ31.out; omega⟩, ⟨by (with_reducible repeat (first | apply Kd.R_alloc | apply Kd.R_drewN | apply Kd.R_drew)); exact HO_14.out⟩, ⟨by (with_reducible repeat (first | refine blk_drewN ?_ _ | refine blk_drew ?_ | refine blk_alloc ?_ _)); exact BK849.out⟩, ⟨by (with_reducible repeat (first | refine blk_drewN ?_ _ | refine blk_drew ?_ | refine blk_alloc ?_ _)); exact BK854.out⟩, ⟨by repeat (first | (with_reducible first | exact HB.out | apply below_alloc | apply pw_below_drewN | apply below_drew1 | refine below_set ?_ GE849.out | refine below_set ?_ GE854.out) | exact HB.out)⟩⟩
                       ·
                        rw [if_neg c55] at H
                        have c55b0 : decide (x13_3 < 0) = false := decide_eq_false c55
                        clear c55
                        have H' := Aside0.mk H
                        clear H
                        try go_wp2
                        have n0_ := Aside0.mk (Kd.R_drew HO_14.out)
                        have n1_ := Aside0.mk (blk_drew BK849.out)
                        have n2_ := Aside0.mk (blk_drew BK854.out)
                        have n3_ := Aside0.mk (below_drew1 HB.out)
                        clear HO_14
                        clear BK849
                        clear BK854
                        clear HB
                        have HO_14 := n0_
                        have BK849 := n1_
                        have BK854 := n2_
                        have HB := n3_
                        clear n0_ n1_ n2_ n3_
                        have p861 : 0 ≤ (x15_3 : Int) := of_decide_eq_true (by first | (with_reducible assumption) | assumption)
                        have q861 : x15_3 < (t855.length : Int) := of_decide_eq_true (by first | (with_reducible assumption) | assumption)
                        obtain ⟨ad861, e861, hx861_0⟩ := Kd.at_int (Kd.R_reads' HO_14.out).2.2 x15_3 p861 q861
                        cases e861
                        replace p861 := eq_true p861
                        replace q861 := eq_true q861
                        obtain ⟨i062, hi062, _, hsz62, _⟩ := info_parts info5
                        obtain ⟨A62, hcut62, hA62, hC62⟩ := print_mid_of (P := Tryd.prog) (Value.int .u8) 0 22 5 .i64 .i64 Tryd.underlying22 hi062 hsz62 A0 c0 l0 ((rd_T88 t850 a1_0).f0) (rd t855 x15_3) (of_decide_eq_true (by first | (with_reducible assumption) | assumption)) (by first | omega | exact of_decide_eq_true (by first | (with_reducible assumption) | assumption)) (of_decide_eq_true (by first | (with_reducible assumption) | assumption)) HC0.out
                        have HR862 := Aside0.mk (Kd.C_of_reads (h1 := fun _ => rfl) (hA62 _ (Kd.reads_of_C HR0.out)))
                        have HC862 := Aside0.mk hC62
                        clear hA62 hC62 hi062 hsz62
                        refine start_ (n := 11) (S := fun w' => w'.cell? ⟨gb854, 0, none⟩ = some (.int .i64 ((rd_T88 t850 a1_0).f0)) ∧ w'.cell? ⟨gb854, 1, none⟩ = some (.int .i64 ((rd_T88 t850 a1_0).f1)) ∧ w'.cell? ⟨gb854, 2, none⟩ = some (.int .i64 ((rd_T88 t850 a1_0).f2)) ∧ w'.cell? (ad861.add (x15_3).toNat) = some (.int .i64 (rd t855 x15_3))) (ds := []) #[false, false, false, false, false, false, false, false, false, false, false] (by kernel_rfl) rfl rfl ⟨(blk_cell BK854.out 0).trans rfl, (blk_cell BK854.out 1).trans rfl, (blk_cell BK854.out 2).trans rfl, hx861_0⟩ (fun hHeld => ?_); refine with_tabW galleyref07_At.tab13 galleyref07_At.bits13 (fun HT_ HW_ => ?_)
                        generalize wc.drew = w61 at HO_14 BK849 BK854 HB HR862 hx861_0 hHeld ⊢
                        refine pure_ (i := 0) (N := some 77) (v := ?_) (a' := ?_) #[true, false, false, false, false, false, false, false, false, false, false] rfl rfl (any_of HT_.out (by kernel_rfl)) (fun _ _ _ h => h) (Or.inl ⟨by rfl, ?_⟩) ?_ ?_
                        rotate_left
                        ·
                         intro w'
                         go_simp
                         with_reducible rfl
                        rotate_left
                        ·
                         simp only [Act.put, List.setIfInBounds_toArray, List.set_cons_zero, List.set_cons_succ, i64_w, i32_w]
                         rfl
                        refine pure_ (i := 1) (N := some 78) (v := ?_) (a' := ?_) #[true, true, false, false, false, false, false, false, false, false, false] rfl rfl (any_of HT_.out (by kernel_rfl)) (fun _ _ _ h => h) (Or.inl ⟨by rfl, ?_⟩) ?_ ?_
                        rotate_left
                        ·
                         intro w'
                         go_simp
                         with_reducible rfl
                        rotate_left
                        ·
                         simp only [Act.put, List.setIfInBounds_toArray, List.set_cons_zero, List.set_cons_succ, i64_w, i32_w]
                         rfl
                        refine pure_ (i := 3) (N := some 80) (v := ?_) (a' := ?_) #[true, true, false, true, false, false, false, false, false, false, false] rfl rfl (any_of HT_.out (by kernel_rfl)) (fun _ _ _ h => h) (Or.inl ⟨by rfl, ?_⟩) ?_ ?_
                        rotate_left
                        ·
                         intro w'
                         go_simp
                         with_reducible rfl
                        rotate_left
                        ·
                         simp only [Act.put, List.setIfInBounds_toArray, List.set_cons_zero, List.set_cons_succ, i64_w, i32_w]
                         rfl
                        refine pure_ (i := 4) (N := some 81) (v := ?_) (a' := ?_) #[true, true, false, true, true, false, false, false, false, false, false] rfl rfl (any_of HT_.out (by kernel_rfl)) (fun _ _ _ h => h) (Or.inl ⟨by rfl, ?_⟩) ?_ ?_
                        rotate_left
                        ·
                         intro w'
                         go_simp
                         with_reducible rfl
                        rotate_left
                        ·
                         simp only [Act.put, List.setIfInBounds_toArray, List.set_cons_zero, List.set_cons_succ, i64_w, i32_w]
                         rfl
                        refine pure_ (i := 5) (N := some 82) (v := ?_) (a' := ?_) #[true, true, false, true, true, true, false, false, false, false, false] rfl rfl (any_of HT_.out (by kernel_rfl)) (fun _ _ _ h => h) (Or.inl ⟨by rfl, ?_⟩) ?_ ?_
                        rotate_left
                        ·
                         intro w'
                         go_simp
                         with_reducible rfl
                        rotate_left
                        ·
                         simp only [Act.put, List.setIfInBounds_toArray, List.set_cons_zero, List.set_cons_succ, i64_w, i32_w]
                         rfl
                        refine pure_ (i := 8) (N := some 85) (v := ?_) (a' := ?_) #[true, true, false, true, true, true, false, false, true, false, false] rfl rfl (any_of HT_.out (by kernel_rfl)) (fun _ _ _ h => h) (Or.inl ⟨by rfl, ?_⟩) ?_ ?_
                        rotate_left
                        ·
                         intro w'
                         go_simp
                         with_reducible rfl
                        rotate_left
                        ·
                         simp only [Act.put, List.setIfInBounds_toArray, List.set_cons_zero, List.set_cons_succ, i64_w, i32_w]
                         rfl
                        refine take_ (i := 2) (N := some 79) (v := ?_) (a' := ?_) #[true, true, true, true, true, true, false, false, true, false, false] rfl rfl (take_ofW HT_.out HW_.out (by kernel_rfl)) (fun _ _ _ h => h) (Or.inl ⟨by rfl, ?_⟩) hHeld ?_ ?_
                        rotate_left
                        ·
                         rintro w' ⟨s0, s1, s2, s3⟩
                         go_simp
                         with_reducible rfl
                        rotate_left
                        ·
                         simp only [Act.put, List.setIfInBounds_toArray, List.set_cons_zero, List.set_cons_succ, i64_w, i32_w]
                         rfl
                        refine take_ (i := 6) (N := some 83) (v := ?_) (a' := ?_) #[true, true, true, true, true, true, true, false, true, false, false] rfl rfl (take_ofW HT_.out HW_.out (by kernel_rfl)) (fun _ _ _ h => h) (Or.inl ⟨by rfl, ?_⟩) hHeld ?_ ?_
                        rotate_left
                        ·
                         rintro w' ⟨s0, s1, s2, s3⟩
                         go_simp
                         with_reducible rfl
                        rotate_left
                        ·
                         simp only [Act.put, List.setIfInBounds_toArray, List.set_cons_zero, List.set_cons_succ, i64_w, i32_w]
                         rfl
                        refine pure_ (i := 7) (N := some 84) (v := ?_) (a' := ?_) #[true, true, true, true, true, true, true, true, true, false, false] rfl rfl (any_of HT_.out (by kernel_rfl)) (fun _ _ _ h => h) (Or.inl ⟨by rfl, ?_⟩) ?_ ?_
                        rotate_left
                        ·
                         intro w'
                         go_simp
                         with_reducible rfl
                        rotate_left
                        ·
                         simp only [Act.put, List.setIfInBounds_toArray, List.set_cons_zero, List.set_cons_succ, i64_w, i32_w]
                         rfl
                        refine one_ (i := 9) (N := some 86) #[true, true, true, true, true, true, true, true, true, true, false] rfl rfl (one_of HT_.out (by kernel_rfl)) (by decide) (fun K hK => ?_)
                        refine goes_ Tryd.func105 (by kernel_rfl) rfl #[.slice A62 ((l0.take ((rd t855 x15_3) : Int).toNat).drop (((rd_T88 t850 a1_0).f0) : Int).toNat).length (c0 - ((rd_T88 t850 a1_0).f0).toNat), .int .i64 a2] (by rfl) rfl rfl (by (try simp only [List.map_toArray, List.map_cons, List.map_nil]); first | done | (rw [show ((l0.take ((rd t855 x15_3) : Int).toNat).drop (((rd_T88 t850 a1_0).f0) : Int).toNat).length = ((rd t855 x15_3).toNat - ((rd_T88 t850 a1_0).f0).toNat) from (by rw [List.length_drop, List.length_take]; have h_ : ((rd t855 x15_3) : Int) ≤ (l0.length : Int) := of_decide_eq_true (by first | (with_reducible assumption) | assumption); omega)] <;> rfl) | rfl | (simp only [List.length_drop, List.length_take]; rfl)) ?_
                        with_reducible refine (galleyref07_Size.calls kj31 _ _ ((l0.take ((rd t855 x15_3) : Int).toNat).drop (((rd_T88 t850 a1_0).f0) : Int).toNat) a2 t863 _ ?side1 ?side2 A46.out).mono ?_
                        (case side1 => repeat (first | exact (Kd.C_below HR862.out HB.out) | (with_reducible refine Kd.C_alloc ?_ _) | (with_reducible refine Kd.C_drewN ?_ _) | (with_reducible refine Kd.C_drew ?_)))
                        (case side2 => exact HC862.out)
                        rintro e w63 ⟨rfl, hb⟩
                        have HS3_ := (hb.cell (World.block_lt_of_cell? _ _ (hHeld.2.2.2))).trans (hHeld.2.2.2)
                        refine ⟨_, rfl, ?_⟩
                        have n0_ := Aside0.mk (Kd.R_below (by (with_reducible repeat (first | apply Kd.R_alloc | apply Kd.R_drewN | apply Kd.R_drew)); exact HO_14.out) hb)
                        have n1_ := Aside0.mk (blk_below (g := gb849) (o := .cells #[.int .i64 a1_0, .int .i64 a1_1] 71 (0, 0)) (by (with_reducible repeat (first | refine blk_drewN ?_ _ | refine blk_drew ?_ | refine blk_alloc ?_ _)); exact BK849.out) hb)
                        have n2_ := Aside0.mk (blk_below (g := gb854) (o := .cells #[.int .i64 ((rd_T88 t850 a1_0).f0), .int .i64 ((rd_T88 t850 a1_0).f1), .int .i64 ((rd_T88 t850 a1_0).f2)] 88 (0, 0)) (by (with_reducible repeat (first | refine blk_drewN ?_ _ | refine blk_drew ?_ | refine blk_alloc ?_ _)); exact BK854.out) hb)
                        have n3_ := Aside0.mk (below_step (by repeat (first | (with_reducible first | exact HB.out | apply below_alloc | apply pw_below_drewN | apply below_drew1 | refine below_set ?_ GE849.out | refine below_set ?_ GE854.out) | exact HB.out)) hb)
                        clear HO_14
                        clear BK849
                        clear BK854
                        clear HB
                        have HO_14 := n0_
                        have BK849 := n1_
                        have BK854 := n2_
                        have HB := n3_
                        clear n0_ n1_ n2_ n3_
                        (try clear hb)
                        (try clear hb2)
                        (try clear hk)
                        (try clear hi)
                        refine hK.out _ _ ⟨(blk_cell BK854.out 0).trans rfl, (blk_cell BK854.out 1).trans rfl, (blk_cell BK854.out 2).trans rfl, HS3_⟩ (fun hHeld => ?_)
                        clear hK K
                        refine norm_ (a' := ?_) ?_ ?_
                        rotate_left
                        ·
                         show Act.put _ (some 86) _ = _
                         simp only [Act.put, List.setIfInBounds_toArray, List.set_cons_zero, List.set_cons_succ, i64_w, i32_w]
                         rfl
                        refine pure_ (i := 10) (N := some 16) (v := ?_) (a' := ?_) #[true, true, true, true, true, true, true, true, true, true, true] rfl rfl (any_of HT_.out (by kernel_rfl)) (fun _ _ _ h => h) (Or.inl ⟨by rfl, ?_⟩) ?_ ?_
                        rotate_left
                        ·
                         intro w'
                         go_simp
                         with_reducible rfl
                        rotate_left
                        ·
                         simp only [Act.put, List.setIfInBounds_toArray, List.set_cons_zero, List.set_cons_succ, i64_w, i32_w]
                         rfl
                        refine done_ (done_of HT_.out (by kernel_rfl)) ?_
                        have hnb64 := NB849_854.out
                        have hnc64 := NB854_849.out
                        have hcz65_0 : w63.cell? ⟨gb849, 0, none⟩ = some (.int .i64 a1_0) := (blk_cell BK849.out 0).trans rfl
                        have hcz65_1 : w63.cell? ⟨gb849, 1, none⟩ = some (.int .i64 a1_1) := (blk_cell BK849.out 1).trans rfl
                        have hfz65_0 := blk_frozen BK849.out 0
                        have hfz65_1 := blk_frozen BK849.out 1
                        have p865 : 0 ≤ (x15_3 : Int) := of_decide_eq_true (by first | (with_reducible assumption) | assumption)
                        have q865 : x15_3 < (t855.length : Int) := of_decide_eq_true (by first | (with_reducible assumption) | assumption)
                        obtain ⟨ad865, e865, hx865_0⟩ := Kd.at_int (Kd.R_reads' HO_14.out).2.2 x15_3 p865 q865
                        obtain rfl : ad861 = ad865 := (by injection e865)
                        replace p865 := eq_true p865
                        replace q865 := eq_true q865
                        try go_wp2
                        go_roundg kj31
                        case measure => have := HJ4.out; have := HJ11.out; have := HK3.out; have := HJ31.out; omega
                        case rel => exact ⟨(rd t855 x15_3), (x13_3), (wrap64 (x15_3 + 1)), (by first | rfl | (simp; done) | (simp [*]; done)), (by first | rfl | (simp; done) | (simp [*]; done)), (by first | rfl | (simp; done) | (simp [*]; done)), H', ⟨by have := HJ4.out; have := HJ11.out; have := HK3.out; have := HJ31.out; omega⟩, ⟨by (with_reducible repeat (first | apply Kd.R_alloc | apply Kd.R_drewN | apply Kd.R_drew)); exact HO_14.out⟩, ⟨by (with_reducible repeat (first | refine blk_drewN ?_ _ | refine blk_drew ?_ | refine blk_alloc ?_ _)); exact BK849.out⟩, ⟨by (with_reducible repeat (first | refine blk_drewN ?_ _ | refine blk_drew ?_ | refine blk_alloc ?_ _)); exact BK854.out⟩, ⟨by repeat (first | (with_reducible first | exact HB.out | apply below_alloc | apply pw_below_drewN | apply below_drew1 | refine below_set ?_ GE849.out | refine below_set ?_ GE854.out) | exact HB.out)⟩⟩
                      ·
                       rw [if_neg c54] at H
                       have c54b0 : decide (a1_1 < t863) = false := decide_eq_false c54
                       clear c54
                       have H' := Aside0.mk H
                       clear H
                       try go_wp2
                       have n0_ := Aside0.mk (Kd.R_drew HO_14.out)
                       have n1_ := Aside0.mk (blk_drew BK849.out)
                       have n2_ := Aside0.mk (blk_drew BK854.out)
                       have n3_ := Aside0.mk (below_drew1 HB.out)
                       clear HO_14
                       clear BK849
                       clear BK854
                       clear HB
                       have HO_14 := n0_
                       have BK849 := n1_
                       have BK854 := n2_
                       have HB := n3_
                       clear n0_ n1_ n2_ n3_
                       have p861 : 0 ≤ (x15_3 : Int) := of_decide_eq_true (by first | (with_reducible assumption) | assumption)
                       have q861 : x15_3 < (t855.length : Int) := of_decide_eq_true (by first | (with_reducible assumption) | assumption)
                       obtain ⟨ad861, e861, hx861_0⟩ := Kd.at_int (Kd.R_reads' HO_14.out).2.2 x15_3 p861 q861
                       cases e861
                       replace p861 := eq_true p861
                       replace q861 := eq_true q861
                       obtain ⟨i067, hi067, _, hsz67, _⟩ := info_parts info5
                       obtain ⟨A67, hcut67, hA67, hC67⟩ := print_mid_of (P := Tryd.prog) (Value.int .u8) 0 22 5 .i64 .i64 Tryd.underlying22 hi067 hsz67 A0 c0 l0 ((rd_T88 t850 a1_0).f0) (rd t855 x15_3) (of_decide_eq_true (by first | (with_reducible assumption) | assumption)) (by first | omega | exact of_decide_eq_true (by first | (with_reducible assumption) | assumption)) (of_decide_eq_true (by first | (with_reducible assumption) | assumption)) HC0.out
                       have HR862 := Aside0.mk (Kd.C_of_reads (h1 := fun _ => rfl) (hA67 _ (Kd.reads_of_C HR0.out)))
                       have HC862 := Aside0.mk hC67
                       clear hA67 hC67 hi067 hsz67
                       refine start_ (n := 11) (S := fun w' => w'.cell? ⟨gb854, 0, none⟩ = some (.int .i64 ((rd_T88 t850 a1_0).f0)) ∧ w'.cell? ⟨gb854, 1, none⟩ = some (.int .i64 ((rd_T88 t850 a1_0).f1)) ∧ w'.cell? ⟨gb854, 2, none⟩ = some (.int .i64 ((rd_T88 t850 a1_0).f2)) ∧ w'.cell? (ad861.add (x15_3).toNat) = some (.int .i64 (rd t855 x15_3))) (ds := []) #[false, false, false, false, false, false, false, false, false, false, false] (by kernel_rfl) rfl rfl ⟨(blk_cell BK854.out 0).trans rfl, (blk_cell BK854.out 1).trans rfl, (blk_cell BK854.out 2).trans rfl, hx861_0⟩ (fun hHeld => ?_); refine with_tabW galleyref07_At.tab13 galleyref07_At.bits13 (fun HT_ HW_ => ?_)
                       generalize wc.drew = w66 at HO_14 BK849 BK854 HB HR862 hx861_0 hHeld ⊢
                       refine pure_ (i := 0) (N := some 77) (v := ?_) (a' := ?_) #[true, false, false, false, false, false, false, false, false, false, false] rfl rfl (any_of HT_.out (by kernel_rfl)) (fun _ _ _ h => h) (Or.inl ⟨by rfl, ?_⟩) ?_ ?_
                       rotate_left
                       ·
                        intro w'
                        go_simp
                        with_reducible rfl
                       rotate_left
                       ·
                        simp only [Act.put, List.setIfInBounds_toArray, List.set_cons_zero, List.set_cons_succ, i64_w, i32_w]
                        rfl
                       refine pure_ (i := 1) (N := some 78) (v := ?_) (a' := ?_) #[true, true, false, false, false, false, false, false, false, false, false] rfl rfl (any_of HT_.out (by kernel_rfl)) (fun _ _ _ h => h) (Or.inl ⟨by rfl, ?_⟩) ?_ ?_
                       rotate_left
                       ·
                        intro w'
                        go_simp
                        with_reducible rfl
                       rotate_left
                       ·
                        simp only [Act.put, List.setIfInBounds_toArray, List.set_cons_zero, List.set_cons_succ, i64_w, i32_w]
                        rfl
                       refine pure_ (i := 3) (N := some 80) (v := ?_) (a' := ?_) #[true, true, false, true, false, false, false, false, false, false, false] rfl rfl (any_of HT_.out (by kernel_rfl)) (fun _ _ _ h => h) (Or.inl ⟨by rfl, ?_⟩) ?_ ?_
                       rotate_left
                       ·
                        intro w'
                        go_simp
                        with_reducible rfl
                       rotate_left
                       ·
                        simp only [Act.put, List.setIfInBounds_toArray, List.set_cons_zero, List.set_cons_succ, i64_w, i32_w]
                        rfl
                       refine pure_ (i := 4) (N := some 81) (v := ?_) (a' := ?_) #[true, true, false, true, true, false, false, false, false, false, false] rfl rfl (any_of HT_.out (by kernel_rfl)) (fun _ _ _ h => h) (Or.inl ⟨by rfl, ?_⟩) ?_ ?_
                       rotate_left
                       ·
                        intro w'
                        go_simp
                        with_reducible rfl
                       rotate_left
                       ·
                        simp only [Act.put, List.setIfInBounds_toArray, List.set_cons_zero, List.set_cons_succ, i64_w, i32_w]
                        rfl
                       refine pure_ (i := 5) (N := some 82) (v := ?_) (a' := ?_) #[true, true, false, true, true, true, false, false, false, false, false] rfl rfl (any_of HT_.out (by kernel_rfl)) (fun _ _ _ h => h) (Or.inl ⟨by rfl, ?_⟩) ?_ ?_
                       rotate_left
                       ·
                        intro w'
                        go_simp
                        with_reducible rfl
                       rotate_left
                       ·
                        simp only [Act.put, List.setIfInBounds_toArray, List.set_cons_zero, List.set_cons_succ, i64_w, i32_w]
                        rfl
                       refine pure_ (i := 8) (N := some 85) (v := ?_) (a' := ?_) #[true, true, false, true, true, true, false, false, true, false, false] rfl rfl (any_of HT_.out (by kernel_rfl)) (fun _ _ _ h => h) (Or.inl ⟨by rfl, ?_⟩) ?_ ?_
                       rotate_left
                       ·
                        intro w'
                        go_simp
                        with_reducible rfl
                       rotate_left
                       ·
                        simp only [Act.put, List.setIfInBounds_toArray, List.set_cons_zero, List.set_cons_succ, i64_w, i32_w]
                        rfl
                       refine take_ (i := 2) (N := some 79) (v := ?_) (a' := ?_) #[true, true, true, true, true, true, false, false, true, false, false] rfl rfl (take_ofW HT_.out HW_.out (by kernel_rfl)) (fun _ _ _ h => h) (Or.inl ⟨by rfl, ?_⟩) hHeld ?_ ?_
                       rotate_left
                       ·
                        rintro w' ⟨s0, s1, s2, s3⟩
                        go_simp
                        with_reducible rfl
                       rotate_left
                       ·
                        simp only [Act.put, List.setIfInBounds_toArray, List.set_cons_zero, List.set_cons_succ, i64_w, i32_w]
                        rfl
                       refine take_ (i := 6) (N := some 83) (v := ?_) (a' := ?_) #[true, true, true, true, true, true, true, false, true, false, false] rfl rfl (take_ofW HT_.out HW_.out (by kernel_rfl)) (fun _ _ _ h => h) (Or.inl ⟨by rfl, ?_⟩) hHeld ?_ ?_
                       rotate_left
                       ·
                        rintro w' ⟨s0, s1, s2, s3⟩
                        go_simp
                        with_reducible rfl
                       rotate_left
                       ·
                        simp only [Act.put, List.setIfInBounds_toArray, List.set_cons_zero, List.set_cons_succ, i64_w, i32_w]
                        rfl
                       refine pure_ (i := 7) (N := some 84) (v := ?_) (a' := ?_) #[true, true, true, true, true, true, true, true, true, false, false] rfl rfl (any_of HT_.out (by kernel_rfl)) (fun _ _ _ h => h) (Or.inl ⟨by rfl, ?_⟩) ?_ ?_
                       rotate_left
                       ·
                        intro w'
                        go_simp
                        with_reducible rfl
                       rotate_left
                       ·
                        simp only [Act.put, List.setIfInBounds_toArray, List.set_cons_zero, List.set_cons_succ, i64_w, i32_w]
                        rfl
                       refine one_ (i := 9) (N := some 86) #[true, true, true, true, true, true, true, true, true, true, false] rfl rfl (one_of HT_.out (by kernel_rfl)) (by decide) (fun K hK => ?_)
                       refine goes_ Tryd.func105 (by kernel_rfl) rfl #[.slice A67 ((l0.take ((rd t855 x15_3) : Int).toNat).drop (((rd_T88 t850 a1_0).f0) : Int).toNat).length (c0 - ((rd_T88 t850 a1_0).f0).toNat), .int .i64 a2] (by rfl) rfl rfl (by (try simp only [List.map_toArray, List.map_cons, List.map_nil]); first | done | (rw [show ((l0.take ((rd t855 x15_3) : Int).toNat).drop (((rd_T88 t850 a1_0).f0) : Int).toNat).length = ((rd t855 x15_3).toNat - ((rd_T88 t850 a1_0).f0).toNat) from (by rw [List.length_drop, List.length_take]; have h_ : ((rd t855 x15_3) : Int) ≤ (l0.length : Int) := of_decide_eq_true (by first | (with_reducible assumption) | assumption); omega)] <;> rfl) | rfl | (simp only [List.length_drop, List.length_take]; rfl)) ?_
                       with_reducible refine (galleyref07_Size.calls kj31 _ _ ((l0.take ((rd t855 x15_3) : Int).toNat).drop (((rd_T88 t850 a1_0).f0) : Int).toNat) a2 t863 _ ?side1 ?side2 A46.out).mono ?_
                       (case side1 => repeat (first | exact (Kd.C_below HR862.out HB.out) | (with_reducible refine Kd.C_alloc ?_ _) | (with_reducible refine Kd.C_drewN ?_ _) | (with_reducible refine Kd.C_drew ?_)))
                       (case side2 => exact HC862.out)
                       rintro e w68 ⟨rfl, hb⟩
                       have HS3_ := (hb.cell (World.block_lt_of_cell? _ _ (hHeld.2.2.2))).trans (hHeld.2.2.2)
                       refine ⟨_, rfl, ?_⟩
                       have n0_ := Aside0.mk (Kd.R_below (by (with_reducible repeat (first | apply Kd.R_alloc | apply Kd.R_drewN | apply Kd.R_drew)); exact HO_14.out) hb)
                       have n1_ := Aside0.mk (blk_below (g := gb849) (o := .cells #[.int .i64 a1_0, .int .i64 a1_1] 71 (0, 0)) (by (with_reducible repeat (first | refine blk_drewN ?_ _ | refine blk_drew ?_ | refine blk_alloc ?_ _)); exact BK849.out) hb)
                       have n2_ := Aside0.mk (blk_below (g := gb854) (o := .cells #[.int .i64 ((rd_T88 t850 a1_0).f0), .int .i64 ((rd_T88 t850 a1_0).f1), .int .i64 ((rd_T88 t850 a1_0).f2)] 88 (0, 0)) (by (with_reducible repeat (first | refine blk_drewN ?_ _ | refine blk_drew ?_ | refine blk_alloc ?_ _)); exact BK854.out) hb)
                       have n3_ := Aside0.mk (below_step (by repeat (first | (with_reducible first | exact HB.out | apply below_alloc | apply pw_below_drewN | apply below_drew1 | refine below_set ?_ GE849.out | refine below_set ?_ GE854.out) | exact HB.out)) hb)
                       clear HO_14
                       clear BK849
                       clear BK854
                       clear HB
                       have HO_14 := n0_
                       have BK849 := n1_
                       have BK854 := n2_
                       have HB := n3_
                       clear n0_ n1_ n2_ n3_
                       (try clear hb)
                       (try clear hb2)
                       (try clear hk)
                       (try clear hi)
                       refine hK.out _ _ ⟨(blk_cell BK854.out 0).trans rfl, (blk_cell BK854.out 1).trans rfl, (blk_cell BK854.out 2).trans rfl, HS3_⟩ (fun hHeld => ?_)
                       clear hK K
                       refine norm_ (a' := ?_) ?_ ?_
                       rotate_left
                       ·
                        show Act.put _ (some 86) _ = _
                        simp only [Act.put, List.setIfInBounds_toArray, List.set_cons_zero, List.set_cons_succ, i64_w, i32_w]
                        rfl
                       refine pure_ (i := 10) (N := some 16) (v := ?_) (a' := ?_) #[true, true, true, true, true, true, true, true, true, true, true] rfl rfl (any_of HT_.out (by kernel_rfl)) (fun _ _ _ h => h) (Or.inl ⟨by rfl, ?_⟩) ?_ ?_
                       rotate_left
                       ·
                        intro w'
                        go_simp
                        with_reducible rfl
                       rotate_left
                       ·
                        simp only [Act.put, List.setIfInBounds_toArray, List.set_cons_zero, List.set_cons_succ, i64_w, i32_w]
                        rfl
                       refine done_ (done_of HT_.out (by kernel_rfl)) ?_
                       have hnb69 := NB849_854.out
                       have hnc69 := NB854_849.out
                       have hcz70_0 : w68.cell? ⟨gb849, 0, none⟩ = some (.int .i64 a1_0) := (blk_cell BK849.out 0).trans rfl
                       have hcz70_1 : w68.cell? ⟨gb849, 1, none⟩ = some (.int .i64 a1_1) := (blk_cell BK849.out 1).trans rfl
                       have hfz70_0 := blk_frozen BK849.out 0
                       have hfz70_1 := blk_frozen BK849.out 1
                       have p865 : 0 ≤ (x15_3 : Int) := of_decide_eq_true (by first | (with_reducible assumption) | assumption)
                       have q865 : x15_3 < (t855.length : Int) := of_decide_eq_true (by first | (with_reducible assumption) | assumption)
                       obtain ⟨ad865, e865, hx865_0⟩ := Kd.at_int (Kd.R_reads' HO_14.out).2.2 x15_3 p865 q865
                       obtain rfl : ad861 = ad865 := (by injection e865)
                       replace p865 := eq_true p865
                       replace q865 := eq_true q865
                       try go_wp2
                       go_roundg kj31
                       case measure => have := HJ4.out; have := HJ11.out; have := HK3.out; have := HJ31.out; omega
                       case rel => exact ⟨(rd t855 x15_3), (x13_3), (wrap64 (x15_3 + 1)), (by first | rfl | (simp; done) | (simp [*]; done)), (by first | rfl | (simp; done) | (simp [*]; done)), (by first | rfl | (simp; done) | (simp [*]; done)), H', ⟨by have := HJ4.out; have := HJ11.out; have := HK3.out; have := HJ31.out; omega⟩, ⟨by (with_reducible repeat (first | apply Kd.R_alloc | apply Kd.R_drewN | apply Kd.R_drew)); exact HO_14.out⟩, ⟨by (with_reducible repeat (first | refine blk_drewN ?_ _ | refine blk_drew ?_ | refine blk_alloc ?_ _)); exact BK849.out⟩, ⟨by (with_reducible repeat (first | refine blk_drewN ?_ _ | refine blk_drew ?_ | refine blk_alloc ?_ _)); exact BK854.out⟩, ⟨by repeat (first | (with_reducible first | exact HB.out | apply below_alloc | apply pw_below_drewN | apply below_drew1 | refine below_set ?_ GE849.out | refine below_set ?_ GE854.out) | exact HB.out)⟩⟩
                     ·
                      rw [if_neg c53] at H
                      have c53b0 : decide (t863 < a1_1) = false := decide_eq_false c53
                      clear c53
                      by_cases c71 : t863 > a1_1
                      ·
                       rw [if_pos c71] at H
                       have c71b0 : decide (a1_1 < t863) = true := decide_eq_true c71
                       clear c71
                       by_cases c72 : x13_3 < 0
                       ·
                        rw [if_pos c72] at H
                        have c72b0 : decide (x13_3 < 0) = true := decide_eq_true c72
                        clear c72
                        have H' := Aside0.mk H
                        clear H
                        try go_wp2
                        have n0_ := Aside0.mk (Kd.R_drew HO_14.out)
                        have n1_ := Aside0.mk (blk_drew BK849.out)
                        have n2_ := Aside0.mk (blk_drew BK854.out)
                        have n3_ := Aside0.mk (below_drew1 HB.out)
                        clear HO_14
                        clear BK849
                        clear BK854
                        clear HB
                        have HO_14 := n0_
                        have BK849 := n1_
                        have BK854 := n2_
                        have HB := n3_
                        clear n0_ n1_ n2_ n3_
                        have p861 : 0 ≤ (x15_3 : Int) := of_decide_eq_true (by first | (with_reducible assumption) | assumption)
                        have q861 : x15_3 < (t855.length : Int) := of_decide_eq_true (by first | (with_reducible assumption) | assumption)
                        obtain ⟨ad861, e861, hx861_0⟩ := Kd.at_int (Kd.R_reads' HO_14.out).2.2 x15_3 p861 q861
                        cases e861
                        replace p861 := eq_true p861
                        replace q861 := eq_true q861
                        obtain ⟨i074, hi074, _, hsz74, _⟩ := info_parts info5
                        obtain ⟨A74, hcut74, hA74, hC74⟩ := print_mid_of (P := Tryd.prog) (Value.int .u8) 0 22 5 .i64 .i64 Tryd.underlying22 hi074 hsz74 A0 c0 l0 ((rd_T88 t850 a1_0).f0) (rd t855 x15_3) (of_decide_eq_true (by first | (with_reducible assumption) | assumption)) (by first | omega | exact of_decide_eq_true (by first | (with_reducible assumption) | assumption)) (of_decide_eq_true (by first | (with_reducible assumption) | assumption)) HC0.out
                        have HR862 := Aside0.mk (Kd.C_of_reads (h1 := fun _ => rfl) (hA74 _ (Kd.reads_of_C HR0.out)))
                        have HC862 := Aside0.mk hC74
                        clear hA74 hC74 hi074 hsz74
                        refine start_ (n := 11) (S := fun w' => w'.cell? ⟨gb854, 0, none⟩ = some (.int .i64 ((rd_T88 t850 a1_0).f0)) ∧ w'.cell? ⟨gb854, 1, none⟩ = some (.int .i64 ((rd_T88 t850 a1_0).f1)) ∧ w'.cell? ⟨gb854, 2, none⟩ = some (.int .i64 ((rd_T88 t850 a1_0).f2)) ∧ w'.cell? (ad861.add (x15_3).toNat) = some (.int .i64 (rd t855 x15_3))) (ds := []) #[false, false, false, false, false, false, false, false, false, false, false] (by kernel_rfl) rfl rfl ⟨(blk_cell BK854.out 0).trans rfl, (blk_cell BK854.out 1).trans rfl, (blk_cell BK854.out 2).trans rfl, hx861_0⟩ (fun hHeld => ?_); refine with_tabW galleyref07_At.tab13 galleyref07_At.bits13 (fun HT_ HW_ => ?_)
                        generalize wc.drew = w73 at HO_14 BK849 BK854 HB HR862 hx861_0 hHeld ⊢
                        refine pure_ (i := 0) (N := some 77) (v := ?_) (a' := ?_) #[true, false, false, false, false, false, false, false, false, false, false] rfl rfl (any_of HT_.out (by kernel_rfl)) (fun _ _ _ h => h) (Or.inl ⟨by rfl, ?_⟩) ?_ ?_
                        rotate_left
                        ·
                         intro w'
                         go_simp
                         with_reducible rfl
                        rotate_left
                        ·
                         simp only [Act.put, List.setIfInBounds_toArray, List.set_cons_zero, List.set_cons_succ, i64_w, i32_w]
                         rfl
                        refine pure_ (i := 1) (N := some 78) (v := ?_) (a' := ?_) #[true, true, false, false, false, false, false, false, false, false, false] rfl rfl (any_of HT_.out (by kernel_rfl)) (fun _ _ _ h => h) (Or.inl ⟨by rfl, ?_⟩) ?_ ?_
                        rotate_left
                        ·
                         intro w'
                         go_simp
                         with_reducible rfl
                        rotate_left
                        ·
                         simp only [Act.put, List.setIfInBounds_toArray, List.set_cons_zero, List.set_cons_succ, i64_w, i32_w]
                         rfl
                        refine pure_ (i := 3) (N := some 80) (v := ?_) (a' := ?_) #[true, true, false, true, false, false, false, false, false, false, false] rfl rfl (any_of HT_.out (by kernel_rfl)) (fun _ _ _ h => h) (Or.inl ⟨by rfl, ?_⟩) ?_ ?_
                        rotate_left
                        ·
                         intro w'
                         go_simp
                         with_reducible rfl
                        rotate_left
                        ·
                         simp only [Act.put, List.setIfInBounds_toArray, List.set_cons_zero, List.set_cons_succ, i64_w, i32_w]
                         rfl
                        refine pure_ (i := 4) (N := some 81) (v := ?_) (a' := ?_) #[true, true, false, true, true, false, false, false, false, false, false] rfl rfl (any_of HT_.out (by kernel_rfl)) (fun _ _ _ h => h) (Or.inl ⟨by rfl, ?_⟩) ?_ ?_
                        rotate_left
                        ·
                         intro w'
                         go_simp
                         with_reducible rfl
                        rotate_left
                        ·
                         simp only [Act.put, List.setIfInBounds_toArray, List.set_cons_zero, List.set_cons_succ, i64_w, i32_w]
                         rfl
                        refine pure_ (i := 5) (N := some 82) (v := ?_) (a' := ?_) #[true, true, false, true, true, true, false, false, false, false, false] rfl rfl (any_of HT_.out (by kernel_rfl)) (fun _ _ _ h => h) (Or.inl ⟨by rfl, ?_⟩) ?_ ?_
                        rotate_left
                        ·
                         intro w'
                         go_simp
                         with_reducible rfl
                        rotate_left
                        ·
                         simp only [Act.put, List.setIfInBounds_toArray, List.set_cons_zero, List.set_cons_succ, i64_w, i32_w]
                         rfl
                        refine pure_ (i := 8) (N := some 85) (v := ?_) (a' := ?_) #[true, true, false, true, true, true, false, false, true, false, false] rfl rfl (any_of HT_.out (by kernel_rfl)) (fun _ _ _ h => h) (Or.inl ⟨by rfl, ?_⟩) ?_ ?_
                        rotate_left
                        ·
                         intro w'
                         go_simp
                         with_reducible rfl
                        rotate_left
                        ·
                         simp only [Act.put, List.setIfInBounds_toArray, List.set_cons_zero, List.set_cons_succ, i64_w, i32_w]
                         rfl
                        refine take_ (i := 2) (N := some 79) (v := ?_) (a' := ?_) #[true, true, true, true, true, true, false, false, true, false, false] rfl rfl (take_ofW HT_.out HW_.out (by kernel_rfl)) (fun _ _ _ h => h) (Or.inl ⟨by rfl, ?_⟩) hHeld ?_ ?_
                        rotate_left
                        ·
                         rintro w' ⟨s0, s1, s2, s3⟩
                         go_simp
                         with_reducible rfl
                        rotate_left
                        ·
                         simp only [Act.put, List.setIfInBounds_toArray, List.set_cons_zero, List.set_cons_succ, i64_w, i32_w]
                         rfl
                        refine take_ (i := 6) (N := some 83) (v := ?_) (a' := ?_) #[true, true, true, true, true, true, true, false, true, false, false] rfl rfl (take_ofW HT_.out HW_.out (by kernel_rfl)) (fun _ _ _ h => h) (Or.inl ⟨by rfl, ?_⟩) hHeld ?_ ?_
                        rotate_left
                        ·
                         rintro w' ⟨s0, s1, s2, s3⟩
                         go_simp
                         with_reducible rfl
                        rotate_left
                        ·
                         simp only [Act.put, List.setIfInBounds_toArray, List.set_cons_zero, List.set_cons_succ, i64_w, i32_w]
                         rfl
                        refine pure_ (i := 7) (N := some 84) (v := ?_) (a' := ?_) #[true, true, true, true, true, true, true, true, true, false, false] rfl rfl (any_of HT_.out (by kernel_rfl)) (fun _ _ _ h => h) (Or.inl ⟨by rfl, ?_⟩) ?_ ?_
                        rotate_left
                        ·
                         intro w'
                         go_simp
                         with_reducible rfl
                        rotate_left
                        ·
                         simp only [Act.put, List.setIfInBounds_toArray, List.set_cons_zero, List.set_cons_succ, i64_w, i32_w]
                         rfl
                        refine one_ (i := 9) (N := some 86) #[true, true, true, true, true, true, true, true, true, true, false] rfl rfl (one_of HT_.out (by kernel_rfl)) (by decide) (fun K hK => ?_)
                        refine goes_ Tryd.func105 (by kernel_rfl) rfl #[.slice A74 ((l0.take ((rd t855 x15_3) : Int).toNat).drop (((rd_T88 t850 a1_0).f0) : Int).toNat).length (c0 - ((rd_T88 t850 a1_0).f0).toNat), .int .i64 a2] (by rfl) rfl rfl (by (try simp only [List.map_toArray, List.map_cons, List.map_nil]); first | done | (rw [show ((l0.take ((rd t855 x15_3) : Int).toNat).drop (((rd_T88 t850 a1_0).f0) : Int).toNat).length = ((rd t855 x15_3).toNat - ((rd_T88 t850 a1_0).f0).toNat) from (by rw [List.length_drop, List.length_take]; have h_ : ((rd t855 x15_3) : Int) ≤ (l0.length : Int) := of_decide_eq_true (by first | (with_reducible assumption) | assumption); omega)] <;> rfl) | rfl | (simp only [List.length_drop, List.length_take]; rfl)) ?_
                        with_reducible refine (galleyref07_Size.calls kj31 _ _ ((l0.take ((rd t855 x15_3) : Int).toNat).drop (((rd_T88 t850 a1_0).f0) : Int).toNat) a2 t863 _ ?side1 ?side2 A46.out).mono ?_
                        (case side1 => repeat (first | exact (Kd.C_below HR862.out HB.out) | (with_reducible refine Kd.C_alloc ?_ _) | (with_reducible refine Kd.C_drewN ?_ _) | (with_reducible refine Kd.C_drew ?_)))
                        (case side2 => exact HC862.out)
                        rintro e w75 ⟨rfl, hb⟩
                        have HS3_ := (hb.cell (World.block_lt_of_cell? _ _ (hHeld.2.2.2))).trans (hHeld.2.2.2)
                        refine ⟨_, rfl, ?_⟩
                        have n0_ := Aside0.mk (Kd.R_below (by (with_reducible repeat (first | apply Kd.R_alloc | apply Kd.R_drewN | apply Kd.R_drew)); exact HO_14.out) hb)
                        have n1_ := Aside0.mk (blk_below (g := gb849) (o := .cells #[.int .i64 a1_0, .int .i64 a1_1] 71 (0, 0)) (by (with_reducible repeat (first | refine blk_drewN ?_ _ | refine blk_drew ?_ | refine blk_alloc ?_ _)); exact BK849.out) hb)
                        have n2_ := Aside0.mk (blk_below (g := gb854) (o := .cells #[.int .i64 ((rd_T88 t850 a1_0).f0), .int .i64 ((rd_T88 t850 a1_0).f1), .int .i64 ((rd_T88 t850 a1_0).f2)] 88 (0, 0)) (by (with_reducible repeat (first | refine blk_drewN ?_ _ | refine blk_drew ?_ | refine blk_alloc ?_ _)); exact BK854.out) hb)
                        have n3_ := Aside0.mk (below_step (by repeat (first | (with_reducible first | exact HB.out | apply below_alloc | apply pw_below_drewN | apply below_drew1 | refine below_set ?_ GE849.out | refine below_set ?_ GE854.out) | exact HB.out)) hb)
                        clear HO_14
                        clear BK849
                        clear BK854
                        clear HB
                        have HO_14 := n0_
                        have BK849 := n1_
                        have BK854 := n2_
                        have HB := n3_
                        clear n0_ n1_ n2_ n3_
                        (try clear hb)
                        (try clear hb2)
                        (try clear hk)
                        (try clear hi)
                        refine hK.out _ _ ⟨(blk_cell BK854.out 0).trans rfl, (blk_cell BK854.out 1).trans rfl, (blk_cell BK854.out 2).trans rfl, HS3_⟩ (fun hHeld => ?_)
                        clear hK K
                        refine norm_ (a' := ?_) ?_ ?_
                        rotate_left
                        ·
                         show Act.put _ (some 86) _ = _
                         simp only [Act.put, List.setIfInBounds_toArray, List.set_cons_zero, List.set_cons_succ, i64_w, i32_w]
                         rfl
                        refine pure_ (i := 10) (N := some 16) (v := ?_) (a' := ?_) #[true, true, true, true, true, true, true, true, true, true, true] rfl rfl (any_of HT_.out (by kernel_rfl)) (fun _ _ _ h => h) (Or.inl ⟨by rfl, ?_⟩) ?_ ?_
                        rotate_left
                        ·
                         intro w'
                         go_simp
                         with_reducible rfl
                        rotate_left
                        ·
                         simp only [Act.put, List.setIfInBounds_toArray, List.set_cons_zero, List.set_cons_succ, i64_w, i32_w]
                         rfl
                        refine done_ (done_of HT_.out (by kernel_rfl)) ?_
                        have hnb76 := NB849_854.out
                        have hnc76 := NB854_849.out
                        have hcz77_0 : w75.cell? ⟨gb849, 0, none⟩ = some (.int .i64 a1_0) := (blk_cell BK849.out 0).trans rfl
                        have hcz77_1 : w75.cell? ⟨gb849, 1, none⟩ = some (.int .i64 a1_1) := (blk_cell BK849.out 1).trans rfl
                        have hfz77_0 := blk_frozen BK849.out 0
                        have hfz77_1 := blk_frozen BK849.out 1
                        have p867 : 0 ≤ (x15_3 : Int) := of_decide_eq_true (by first | (with_reducible assumption) | assumption)
                        have q867 : x15_3 < (t855.length : Int) := of_decide_eq_true (by first | (with_reducible assumption) | assumption)
                        obtain ⟨ad867, e867, hx867_0⟩ := Kd.at_int (Kd.R_reads' HO_14.out).2.2 x15_3 p867 q867
                        obtain rfl : ad861 = ad867 := (by injection e867)
                        replace p867 := eq_true p867
                        replace q867 := eq_true q867
                        try go_wp2
                        go_roundg kj31
                        case measure => have := HJ4.out; have := HJ11.out; have := HK3.out; have := HJ31.out; omega
                        case rel => exact ⟨(x12_3), (rd t855 x15_3), (wrap64 (x15_3 + 1)), (by first | rfl | (simp; done) | (simp [*]; done)), (by first | rfl | (simp; done) | (simp [*]; done)), (by first | rfl | (simp; done) | (simp [*]; done)), H', ⟨by have := HJ4.out; have := HJ11.out; have := HK3.out; have := HJ31.out; omega⟩, ⟨by (with_reducible repeat (first | apply Kd.R_alloc | apply Kd.R_drewN | apply Kd.R_drew)); exact HO_14.out⟩, ⟨by (with_reducible repeat (first | refine blk_drewN ?_ _ | refine blk_drew ?_ | refine blk_alloc ?_ _)); exact BK849.out⟩, ⟨by (with_reducible repeat (first | refine blk_drewN ?_ _ | refine blk_drew ?_ | refine blk_alloc ?_ _)); exact BK854.out⟩, ⟨by repeat (first | (with_reducible first | exact HB.out | apply below_alloc | apply pw_below_drewN | apply below_drew1 | refine below_set ?_ GE849.out | refine below_set ?_ GE854.out) | exact HB.out)⟩⟩
                       ·
                        rw [if_neg c72] at H
                        have c72b0 : decide (x13_3 < 0) = false := decide_eq_false c72
                        clear c72
                        have H' := Aside0.mk H
                        clear H
                        try go_wp2
                        have n0_ := Aside0.mk (Kd.R_drew HO_14.out)
                        have n1_ := Aside0.mk (blk_drew BK849.out)
                        have n2_ := Aside0.mk (blk_drew BK854.out)
                        have n3_ := Aside0.mk (below_drew1 HB.out)
                        clear HO_14
                        clear BK849
                        clear BK854
                        clear HB
                        have HO_14 := n0_
                        have BK849 := n1_
                        have BK854 := n2_
                        have HB := n3_
                        clear n0_ n1_ n2_ n3_
                        have p861 : 0 ≤ (x15_3 : Int) := of_decide_eq_true (by first | (with_reducible assumption) | assumption)
                        have q861 : x15_3 < (t855.length : Int) := of_decide_eq_true (by first | (with_reducible assumption) | assumption)
                        obtain ⟨ad861, e861, hx861_0⟩ := Kd.at_int (Kd.R_reads' HO_14.out).2.2 x15_3 p861 q861
                        cases e861
                        replace p861 := eq_true p861
                        replace q861 := eq_true q861
                        obtain ⟨i079, hi079, _, hsz79, _⟩ := info_parts info5
                        obtain ⟨A79, hcut79, hA79, hC79⟩ := print_mid_of (P := Tryd.prog) (Value.int .u8) 0 22 5 .i64 .i64 Tryd.underlying22 hi079 hsz79 A0 c0 l0 ((rd_T88 t850 a1_0).f0) (rd t855 x15_3) (of_decide_eq_true (by first | (with_reducible assumption) | assumption)) (by first | omega | exact of_decide_eq_true (by first | (with_reducible assumption) | assumption)) (of_decide_eq_true (by first | (with_reducible assumption) | assumption)) HC0.out
                        have HR862 := Aside0.mk (Kd.C_of_reads (h1 := fun _ => rfl) (hA79 _ (Kd.reads_of_C HR0.out)))
                        have HC862 := Aside0.mk hC79
                        clear hA79 hC79 hi079 hsz79
                        refine start_ (n := 11) (S := fun w' => w'.cell? ⟨gb854, 0, none⟩ = some (.int .i64 ((rd_T88 t850 a1_0).f0)) ∧ w'.cell? ⟨gb854, 1, none⟩ = some (.int .i64 ((rd_T88 t850 a1_0).f1)) ∧ w'.cell? ⟨gb854, 2, none⟩ = some (.int .i64 ((rd_T88 t850 a1_0).f2)) ∧ w'.cell? (ad861.add (x15_3).toNat) = some (.int .i64 (rd t855 x15_3))) (ds := []) #[false, false, false, false, false, false, false, false, false, false, false] (by kernel_rfl) rfl rfl ⟨(blk_cell BK854.out 0).trans rfl, (blk_cell BK854.out 1).trans rfl, (blk_cell BK854.out 2).trans rfl, hx861_0⟩ (fun hHeld => ?_); refine with_tabW galleyref07_At.tab13 galleyref07_At.bits13 (fun HT_ HW_ => ?_)
                        generalize wc.drew = w78 at HO_14 BK849 BK854 HB HR862 hx861_0 hHeld ⊢
                        refine pure_ (i := 0) (N := some 77) (v := ?_) (a' := ?_) #[true, false, false, false, false, false, false, false, false, false, false] rfl rfl (any_of HT_.out (by kernel_rfl)) (fun _ _ _ h => h) (Or.inl ⟨by rfl, ?_⟩) ?_ ?_
                        rotate_left
                        ·
                         intro w'
                         go_simp
                         with_reducible rfl
                        rotate_left
                        ·
                         simp only [Act.put, List.setIfInBounds_toArray, List.set_cons_zero, List.set_cons_succ, i64_w, i32_w]
                         rfl
                        refine pure_ (i := 1) (N := some 78) (v := ?_) (a' := ?_) #[true, true, false, false, false, false, false, false, false, false, false] rfl rfl (any_of HT_.out (by kernel_rfl)) (fun _ _ _ h => h) (Or.inl ⟨by rfl, ?_⟩) ?_ ?_
                        rotate_left
                        ·
                         intro w'
                         go_simp
                         with_reducible rfl
                        rotate_left
                        ·
                         simp only [Act.put, List.setIfInBounds_toArray, List.set_cons_zero, List.set_cons_succ, i64_w, i32_w]
                         rfl
                        refine pure_ (i := 3) (N := some 80) (v := ?_) (a' := ?_) #[true, true, false, true, false, false, false, false, false, false, false] rfl rfl (any_of HT_.out (by kernel_rfl)) (fun _ _ _ h => h) (Or.inl ⟨by rfl, ?_⟩) ?_ ?_
                        rotate_left
                        ·
                         intro w'
                         go_simp
                         with_reducible rfl
                        rotate_left
                        ·
                         simp only [Act.put, List.setIfInBounds_toArray, List.set_cons_zero, List.set_cons_succ, i64_w, i32_w]
                         rfl
                        refine pure_ (i := 4) (N := some 81) (v := ?_) (a' := ?_) #[true, true, false, true, true, false, false, false, false, false, false] rfl rfl (any_of HT_.out (by kernel_rfl)) (fun _ _ _ h => h) (Or.inl ⟨by rfl, ?_⟩) ?_ ?_
                        rotate_left
                        ·
                         intro w'
                         go_simp
                         with_reducible rfl
                        rotate_left
                        ·
                         simp only [Act.put, List.setIfInBounds_toArray, List.set_cons_zero, List.set_cons_succ, i64_w, i32_w]
                         rfl
                        refine pure_ (i := 5) (N := some 82) (v := ?_) (a' := ?_) #[true, true, false, true, true, true, false, false, false, false, false] rfl rfl (any_of HT_.out (by kernel_rfl)) (fun _ _ _ h => h) (Or.inl ⟨by rfl, ?_⟩) ?_ ?_
                        rotate_left
                        ·
                         intro w'
                         go_simp
                         with_reducible rfl
                        rotate_left
                        ·
                         simp only [Act.put, List.setIfInBounds_toArray, List.set_cons_zero, List.set_cons_succ, i64_w, i32_w]
                         rfl
                        refine pure_ (i := 8) (N := some 85) (v := ?_) (a' := ?_) #[true, true, false, true, true, true, false, false, true, false, false] rfl rfl (any_of HT_.out (by kernel_rfl)) (fun _ _ _ h => h) (Or.inl ⟨by rfl, ?_⟩) ?_ ?_
                        rotate_left
                        ·
                         intro w'
                         go_simp
                         with_reducible rfl
                        rotate_left
                        ·
                         simp only [Act.put, List.setIfInBounds_toArray, List.set_cons_zero, List.set_cons_succ, i64_w, i32_w]
                         rfl
                        refine take_ (i := 2) (N := some 79) (v := ?_) (a' := ?_) #[true, true, true, true, true, true, false, false, true, false, false] rfl rfl (take_ofW HT_.out HW_.out (by kernel_rfl)) (fun _ _ _ h => h) (Or.inl ⟨by rfl, ?_⟩) hHeld ?_ ?_
                        rotate_left
                        ·
                         rintro w' ⟨s0, s1, s2, s3⟩
                         go_simp
                         with_reducible rfl
                        rotate_left
                        ·
                         simp only [Act.put, List.setIfInBounds_toArray, List.set_cons_zero, List.set_cons_succ, i64_w, i32_w]
                         rfl
                        refine take_ (i := 6) (N := some 83) (v := ?_) (a' := ?_) #[true, true, true, true, true, true, true, false, true, false, false] rfl rfl (take_ofW HT_.out HW_.out (by kernel_rfl)) (fun _ _ _ h => h) (Or.inl ⟨by rfl, ?_⟩) hHeld ?_ ?_
                        rotate_left
                        ·
                         rintro w' ⟨s0, s1, s2, s3⟩
                         go_simp
                         with_reducible rfl
                        rotate_left
                        ·
                         simp only [Act.put, List.setIfInBounds_toArray, List.set_cons_zero, List.set_cons_succ, i64_w, i32_w]
                         rfl
                        refine pure_ (i := 7) (N := some 84) (v := ?_) (a' := ?_) #[true, true, true, true, true, true, true, true, true, false, false] rfl rfl (any_of HT_.out (by kernel_rfl)) (fun _ _ _ h => h) (Or.inl ⟨by rfl, ?_⟩) ?_ ?_
                        rotate_left
                        ·
                         intro w'
                         go_simp
                         with_reducible rfl
                        rotate_left
                        ·
                         simp only [Act.put, List.setIfInBounds_toArray, List.set_cons_zero, List.set_cons_succ, i64_w, i32_w]
                         rfl
                        refine one_ (i := 9) (N := some 86) #[true, true, true, true, true, true, true, true, true, true, false] rfl rfl (one_of HT_.out (by kernel_rfl)) (by decide) (fun K hK => ?_)
                        refine goes_ Tryd.func105 (by kernel_rfl) rfl #[.slice A79 ((l0.take ((rd t855 x15_3) : Int).toNat).drop (((rd_T88 t850 a1_0).f0) : Int).toNat).length (c0 - ((rd_T88 t850 a1_0).f0).toNat), .int .i64 a2] (by rfl) rfl rfl (by (try simp only [List.map_toArray, List.map_cons, List.map_nil]); first | done | (rw [show ((l0.take ((rd t855 x15_3) : Int).toNat).drop (((rd_T88 t850 a1_0).f0) : Int).toNat).length = ((rd t855 x15_3).toNat - ((rd_T88 t850 a1_0).f0).toNat) from (by rw [List.length_drop, List.length_take]; have h_ : ((rd t855 x15_3) : Int) ≤ (l0.length : Int) := of_decide_eq_true (by first | (with_reducible assumption) | assumption); omega)] <;> rfl) | rfl | (simp only [List.length_drop, List.length_take]; rfl)) ?_
                        with_reducible refine (galleyref07_Size.calls kj31 _ _ ((l0.take ((rd t855 x15_3) : Int).toNat).drop (((rd_T88 t850 a1_0).f0) : Int).toNat) a2 t863 _ ?side1 ?side2 A46.out).mono ?_
                        (case side1 => repeat (first | exact (Kd.C_below HR862.out HB.out) | (with_reducible refine Kd.C_alloc ?_ _) | (with_reducible refine Kd.C_drewN ?_ _) | (with_reducible refine Kd.C_drew ?_)))
                        (case side2 => exact HC862.out)
                        rintro e w80 ⟨rfl, hb⟩
                        have HS3_ := (hb.cell (World.block_lt_of_cell? _ _ (hHeld.2.2.2))).trans (hHeld.2.2.2)
                        refine ⟨_, rfl, ?_⟩
                        have n0_ := Aside0.mk (Kd.R_below (by (with_reducible repeat (first | apply Kd.R_alloc | apply Kd.R_drewN | apply Kd.R_drew)); exact HO_14.out) hb)
                        have n1_ := Aside0.mk (blk_below (g := gb849) (o := .cells #[.int .i64 a1_0, .int .i64 a1_1] 71 (0, 0)) (by (with_reducible repeat (first | refine blk_drewN ?_ _ | refine blk_drew ?_ | refine blk_alloc ?_ _)); exact BK849.out) hb)
                        have n2_ := Aside0.mk (blk_below (g := gb854) (o := .cells #[.int .i64 ((rd_T88 t850 a1_0).f0), .int .i64 ((rd_T88 t850 a1_0).f1), .int .i64 ((rd_T88 t850 a1_0).f2)] 88 (0, 0)) (by (with_reducible repeat (first | refine blk_drewN ?_ _ | refine blk_drew ?_ | refine blk_alloc ?_ _)); exact BK854.out) hb)
                        have n3_ := Aside0.mk (below_step (by repeat (first | (with_reducible first | exact HB.out | apply below_alloc | apply pw_below_drewN | apply below_drew1 | refine below_set ?_ GE849.out | refine below_set ?_ GE854.out) | exact HB.out)) hb)
                        clear HO_14
                        clear BK849
                        clear BK854
                        clear HB
                        have HO_14 := n0_
                        have BK849 := n1_
                        have BK854 := n2_
                        have HB := n3_
                        clear n0_ n1_ n2_ n3_
                        (try clear hb)
                        (try clear hb2)
                        (try clear hk)
                        (try clear hi)
                        refine hK.out _ _ ⟨(blk_cell BK854.out 0).trans rfl, (blk_cell BK854.out 1).trans rfl, (blk_cell BK854.out 2).trans rfl, HS3_⟩ (fun hHeld => ?_)
                        clear hK K
                        refine norm_ (a' := ?_) ?_ ?_
                        rotate_left
                        ·
                         show Act.put _ (some 86) _ = _
                         simp only [Act.put, List.setIfInBounds_toArray, List.set_cons_zero, List.set_cons_succ, i64_w, i32_w]
                         rfl
                        refine pure_ (i := 10) (N := some 16) (v := ?_) (a' := ?_) #[true, true, true, true, true, true, true, true, true, true, true] rfl rfl (any_of HT_.out (by kernel_rfl)) (fun _ _ _ h => h) (Or.inl ⟨by rfl, ?_⟩) ?_ ?_
                        rotate_left
                        ·
                         intro w'
                         go_simp
                         with_reducible rfl
                        rotate_left
                        ·
                         simp only [Act.put, List.setIfInBounds_toArray, List.set_cons_zero, List.set_cons_succ, i64_w, i32_w]
                         rfl
                        refine done_ (done_of HT_.out (by kernel_rfl)) ?_
                        have hnb81 := NB849_854.out
                        have hnc81 := NB854_849.out
                        have hcz82_0 : w80.cell? ⟨gb849, 0, none⟩ = some (.int .i64 a1_0) := (blk_cell BK849.out 0).trans rfl
                        have hcz82_1 : w80.cell? ⟨gb849, 1, none⟩ = some (.int .i64 a1_1) := (blk_cell BK849.out 1).trans rfl
                        have hfz82_0 := blk_frozen BK849.out 0
                        have hfz82_1 := blk_frozen BK849.out 1
                        try go_wp2
                        go_roundg kj31
                        case measure => have := HJ4.out; have := HJ11.out; have := HK3.out; have := HJ31.out; omega
                        case rel => exact ⟨(x12_3), (x13_3), (wrap64 (x15_3 + 1)), (by first | rfl | (simp; done) | (simp [*]; done)), (by first | rfl | (simp; done) | (simp [*]; done)), (by first | rfl | (simp; done) | (simp [*]; done)), H', ⟨by have := HJ4.out; have := HJ11.out; have := HK3.out; have := HJ31.out; omega⟩, ⟨by (with_reducible repeat (first | apply Kd.R_alloc | apply Kd.R_drewN | apply Kd.R_drew)); exact HO_14.out⟩, ⟨by (with_reducible repeat (first | refine blk_drewN ?_ _ | refine blk_drew ?_ | refine blk_alloc ?_ _)); exact BK849.out⟩, ⟨by (with_reducible repeat (first | refine blk_drewN ?_ _ | refine blk_drew ?_ | refine blk_alloc ?_ _)); exact BK854.out⟩, ⟨by repeat (first | (with_reducible first | exact HB.out | apply below_alloc | apply pw_below_drewN | apply below_drew1 | refine below_set ?_ GE849.out | refine below_set ?_ GE854.out) | exact HB.out)⟩⟩
                      ·
                       rw [if_neg c71] at H
                       have c71b0 : decide (a1_1 < t863) = false := decide_eq_false c71
                       clear c71
                       have H' := Aside0.mk H
                       clear H
                       try go_wp2
                       have n0_ := Aside0.mk (Kd.R_drew HO_14.out)
                       have n1_ := Aside0.mk (blk_drew BK849.out)
                       have n2_ := Aside0.mk (blk_drew BK854.out)
                       have n3_ := Aside0.mk (below_drew1 HB.out)
                       clear HO_14
                       clear BK849
                       clear BK854
                       clear HB
                       have HO_14 := n0_
                       have BK849 := n1_
                       have BK854 := n2_
                       have HB := n3_
                       clear n0_ n1_ n2_ n3_
                       have p861 : 0 ≤ (x15_3 : Int) := of_decide_eq_true (by first | (with_reducible assumption) | assumption)
                       have q861 : x15_3 < (t855.length : Int) := of_decide_eq_true (by first | (with_reducible assumption) | assumption)
                       obtain ⟨ad861, e861, hx861_0⟩ := Kd.at_int (Kd.R_reads' HO_14.out).2.2 x15_3 p861 q861
                       cases e861
                       replace p861 := eq_true p861
                       replace q861 := eq_true q861
                       obtain ⟨i084, hi084, _, hsz84, _⟩ := info_parts info5
                       obtain ⟨A84, hcut84, hA84, hC84⟩ := print_mid_of (P := Tryd.prog) (Value.int .u8) 0 22 5 .i64 .i64 Tryd.underlying22 hi084 hsz84 A0 c0 l0 ((rd_T88 t850 a1_0).f0) (rd t855 x15_3) (of_decide_eq_true (by first | (with_reducible assumption) | assumption)) (by first | omega | exact of_decide_eq_true (by first | (with_reducible assumption) | assumption)) (of_decide_eq_true (by first | (with_reducible assumption) | assumption)) HC0.out
                       have HR862 := Aside0.mk (Kd.C_of_reads (h1 := fun _ => rfl) (hA84 _ (Kd.reads_of_C HR0.out)))
                       have HC862 := Aside0.mk hC84
                       clear hA84 hC84 hi084 hsz84
                       refine start_ (n := 11) (S := fun w' => w'.cell? ⟨gb854, 0, none⟩ = some (.int .i64 ((rd_T88 t850 a1_0).f0)) ∧ w'.cell? ⟨gb854, 1, none⟩ = some (.int .i64 ((rd_T88 t850 a1_0).f1)) ∧ w'.cell? ⟨gb854, 2, none⟩ = some (.int .i64 ((rd_T88 t850 a1_0).f2)) ∧ w'.cell? (ad861.add (x15_3).toNat) = some (.int .i64 (rd t855 x15_3))) (ds := []) #[false, false, false, false, false, false, false, false, false, false, false] (by kernel_rfl) rfl rfl ⟨(blk_cell BK854.out 0).trans rfl, (blk_cell BK854.out 1).trans rfl, (blk_cell BK854.out 2).trans rfl, hx861_0⟩ (fun hHeld => ?_); refine with_tabW galleyref07_At.tab13 galleyref07_At.bits13 (fun HT_ HW_ => ?_)
                       generalize wc.drew = w83 at HO_14 BK849 BK854 HB HR862 hx861_0 hHeld ⊢
                       refine pure_ (i := 0) (N := some 77) (v := ?_) (a' := ?_) #[true, false, false, false, false, false, false, false, false, false, false] rfl rfl (any_of HT_.out (by kernel_rfl)) (fun _ _ _ h => h) (Or.inl ⟨by rfl, ?_⟩) ?_ ?_
                       rotate_left
                       ·
                        intro w'
                        go_simp
                        with_reducible rfl
                       rotate_left
                       ·
                        simp only [Act.put, List.setIfInBounds_toArray, List.set_cons_zero, List.set_cons_succ, i64_w, i32_w]
                        rfl
                       refine pure_ (i := 1) (N := some 78) (v := ?_) (a' := ?_) #[true, true, false, false, false, false, false, false, false, false, false] rfl rfl (any_of HT_.out (by kernel_rfl)) (fun _ _ _ h => h) (Or.inl ⟨by rfl, ?_⟩) ?_ ?_
                       rotate_left
                       ·
                        intro w'
                        go_simp
                        with_reducible rfl
                       rotate_left
                       ·
                        simp only [Act.put, List.setIfInBounds_toArray, List.set_cons_zero, List.set_cons_succ, i64_w, i32_w]
                        rfl
                       refine pure_ (i := 3) (N := some 80) (v := ?_) (a' := ?_) #[true, true, false, true, false, false, false, false, false, false, false] rfl rfl (any_of HT_.out (by kernel_rfl)) (fun _ _ _ h => h) (Or.inl ⟨by rfl, ?_⟩) ?_ ?_
                       rotate_left
                       ·
                        intro w'
                        go_simp
                        with_reducible rfl
                       rotate_left
                       ·
                        simp only [Act.put, List.setIfInBounds_toArray, List.set_cons_zero, List.set_cons_succ, i64_w, i32_w]
                        rfl
                       refine pure_ (i := 4) (N := some 81) (v := ?_) (a' := ?_) #[true, true, false, true, true, false, false, false, false, false, false] rfl rfl (any_of HT_.out (by kernel_rfl)) (fun _ _ _ h => h) (Or.inl ⟨by rfl, ?_⟩) ?_ ?_
                       rotate_left
                       ·
                        intro w'
                        go_simp
                        with_reducible rfl
                       rotate_left
                       ·
                        simp only [Act.put, List.setIfInBounds_toArray, List.set_cons_zero, List.set_cons_succ, i64_w, i32_w]
                        rfl
                       refine pure_ (i := 5) (N := some 82) (v := ?_) (a' := ?_) #[true, true, false, true, true, true, false, false, false, false, false] rfl rfl (any_of HT_.out (by kernel_rfl)) (fun _ _ _ h => h) (Or.inl ⟨by rfl, ?_⟩) ?_ ?_
                       rotate_left
                       ·
                        intro w'
                        go_simp
                        with_reducible rfl
                       rotate_left
                       ·
                        simp only [Act.put, List.setIfInBounds_toArray, List.set_cons_zero, List.set_cons_succ, i64_w, i32_w]
                        rfl
                       refine pure_ (i := 8) (N := some 85) (v := ?_) (a' := ?_) #[true, true, false, true, true, true, false, false, true, false, false] rfl rfl (any_of HT_.out (by kernel_rfl)) (fun _ _ _ h => h) (Or.inl ⟨by rfl, ?_⟩) ?_ ?_
                       rotate_left
                       ·
                        intro w'
                        go_simp
                        with_reducible rfl
                       rotate_left
                       ·
                        simp only [Act.put, List.setIfInBounds_toArray, List.set_cons_zero, List.set_cons_succ, i64_w, i32_w]
                        rfl
                       refine take_ (i := 2) (N := some 79) (v := ?_) (a' := ?_) #[true, true, true, true, true, true, false, false, true, false, false] rfl rfl (take_ofW HT_.out HW_.out (by kernel_rfl)) (fun _ _ _ h => h) (Or.inl ⟨by rfl, ?_⟩) hHeld ?_ ?_
                       rotate_left
                       ·
                        rintro w' ⟨s0, s1, s2, s3⟩
                        go_simp
                        with_reducible rfl
                       rotate_left
                       ·
                        simp only [Act.put, List.setIfInBounds_toArray, List.set_cons_zero, List.set_cons_succ, i64_w, i32_w]
                        rfl
                       refine take_ (i := 6) (N := some 83) (v := ?_) (a' := ?_) #[true, true, true, true, true, true, true, false, true, false, false] rfl rfl (take_ofW HT_.out HW_.out (by kernel_rfl)) (fun _ _ _ h => h) (Or.inl ⟨by rfl, ?_⟩) hHeld ?_ ?_
                       rotate_left
                       ·
                        rintro w' ⟨s0, s1, s2, s3⟩
                        go_simp
                        with_reducible rfl
                       rotate_left
                       ·
                        simp only [Act.put, List.setIfInBounds_toArray, List.set_cons_zero, List.set_cons_succ, i64_w, i32_w]
                        rfl
                       refine pure_ (i := 7) (N := some 84) (v := ?_) (a' := ?_) #[true, true, true, true, true, true, true, true, true, false, false] rfl rfl (any_of HT_.out (by kernel_rfl)) (fun _ _ _ h => h) (Or.inl ⟨by rfl, ?_⟩) ?_ ?_
                       rotate_left
                       ·
                        intro w'
                        go_simp
                        with_reducible rfl
                       rotate_left
                       ·
                        simp only [Act.put, List.setIfInBounds_toArray, List.set_cons_zero, List.set_cons_succ, i64_w, i32_w]
                        rfl
                       refine one_ (i := 9) (N := some 86) #[true, true, true, true, true, true, true, true, true, true, false] rfl rfl (one_of HT_.out (by kernel_rfl)) (by decide) (fun K hK => ?_)
                       refine goes_ Tryd.func105 (by kernel_rfl) rfl #[.slice A84 ((l0.take ((rd t855 x15_3) : Int).toNat).drop (((rd_T88 t850 a1_0).f0) : Int).toNat).length (c0 - ((rd_T88 t850 a1_0).f0).toNat), .int .i64 a2] (by rfl) rfl rfl (by (try simp only [List.map_toArray, List.map_cons, List.map_nil]); first | done | (rw [show ((l0.take ((rd t855 x15_3) : Int).toNat).drop (((rd_T88 t850 a1_0).f0) : Int).toNat).length = ((rd t855 x15_3).toNat - ((rd_T88 t850 a1_0).f0).toNat) from (by rw [List.length_drop, List.length_take]; have h_ : ((rd t855 x15_3) : Int) ≤ (l0.length : Int) := of_decide_eq_true (by first | (with_reducible assumption) | assumption); omega)] <;> rfl) | rfl | (simp only [List.length_drop, List.length_take]; rfl)) ?_
                       with_reducible refine (galleyref07_Size.calls kj31 _ _ ((l0.take ((rd t855 x15_3) : Int).toNat).drop (((rd_T88 t850 a1_0).f0) : Int).toNat) a2 t863 _ ?side1 ?side2 A46.out).mono ?_
                       (case side1 => repeat (first | exact (Kd.C_below HR862.out HB.out) | (with_reducible refine Kd.C_alloc ?_ _) | (with_reducible refine Kd.C_drewN ?_ _) | (with_reducible refine Kd.C_drew ?_)))
                       (case side2 => exact HC862.out)
                       rintro e w85 ⟨rfl, hb⟩
                       have HS3_ := (hb.cell (World.block_lt_of_cell? _ _ (hHeld.2.2.2))).trans (hHeld.2.2.2)
                       refine ⟨_, rfl, ?_⟩
                       have n0_ := Aside0.mk (Kd.R_below (by (with_reducible repeat (first | apply Kd.R_alloc | apply Kd.R_drewN | apply Kd.R_drew)); exact HO_14.out) hb)
                       have n1_ := Aside0.mk (blk_below (g := gb849) (o := .cells #[.int .i64 a1_0, .int .i64 a1_1] 71 (0, 0)) (by (with_reducible repeat (first | refine blk_drewN ?_ _ | refine blk_drew ?_ | refine blk_alloc ?_ _)); exact BK849.out) hb)
                       have n2_ := Aside0.mk (blk_below (g := gb854) (o := .cells #[.int .i64 ((rd_T88 t850 a1_0).f0), .int .i64 ((rd_T88 t850 a1_0).f1), .int .i64 ((rd_T88 t850 a1_0).f2)] 88 (0, 0)) (by (with_reducible repeat (first | refine blk_drewN ?_ _ | refine blk_drew ?_ | refine blk_alloc ?_ _)); exact BK854.out) hb)
                       have n3_ := Aside0.mk (below_step (by repeat (first | (with_reducible first | exact HB.out | apply below_alloc | apply pw_below_drewN | apply below_drew1 | refine below_set ?_ GE849.out | refine below_set ?_ GE854.out) | exact HB.out)) hb)
                       clear HO_14
                       clear BK849
                       clear BK854
                       clear HB
                       have HO_14 := n0_
                       have BK849 := n1_
                       have BK854 := n2_
                       have HB := n3_
                       clear n0_ n1_ n2_ n3_
                       (try clear hb)
                       (try clear hb2)
                       (try clear hk)
                       (try clear hi)
                       refine hK.out _ _ ⟨(blk_cell BK854.out 0).trans rfl, (blk_cell BK854.out 1).trans rfl, (blk_cell BK854.out 2).trans rfl, HS3_⟩ (fun hHeld => ?_)
                       clear hK K
                       refine norm_ (a' := ?_) ?_ ?_
                       rotate_left
                       ·
                        show Act.put _ (some 86) _ = _
                        simp only [Act.put, List.setIfInBounds_toArray, List.set_cons_zero, List.set_cons_succ, i64_w, i32_w]
                        rfl
                       refine pure_ (i := 10) (N := some 16) (v := ?_) (a' := ?_) #[true, true, true, true, true, true, true, true, true, true, true] rfl rfl (any_of HT_.out (by kernel_rfl)) (fun _ _ _ h => h) (Or.inl ⟨by rfl, ?_⟩) ?_ ?_
                       rotate_left
                       ·
                        intro w'
                        go_simp
                        with_reducible rfl
                       rotate_left
                       ·
                        simp only [Act.put, List.setIfInBounds_toArray, List.set_cons_zero, List.set_cons_succ, i64_w, i32_w]
                        rfl
                       refine done_ (done_of HT_.out (by kernel_rfl)) ?_
                       have hnb86 := NB849_854.out
                       have hnc86 := NB854_849.out
                       have hcz87_0 : w85.cell? ⟨gb849, 0, none⟩ = some (.int .i64 a1_0) := (blk_cell BK849.out 0).trans rfl
                       have hcz87_1 : w85.cell? ⟨gb849, 1, none⟩ = some (.int .i64 a1_1) := (blk_cell BK849.out 1).trans rfl
                       have hfz87_0 := blk_frozen BK849.out 0
                       have hfz87_1 := blk_frozen BK849.out 1
                       try go_wp2
                       go_roundg kj31
                       case measure => have := HJ4.out; have := HJ11.out; have := HK3.out; have := HJ31.out; omega
                       case rel => exact ⟨(x12_3), (x13_3), (wrap64 (x15_3 + 1)), (by first | rfl | (simp; done) | (simp [*]; done)), (by first | rfl | (simp; done) | (simp [*]; done)), (by first | rfl | (simp; done) | (simp [*]; done)), H', ⟨by have := HJ4.out; have := HJ11.out; have := HK3.out; have := HJ31.out; omega⟩, ⟨by (with_reducible repeat (first | apply Kd.R_alloc | apply Kd.R_drewN | apply Kd.R_drew)); exact HO_14.out⟩, ⟨by (with_reducible repeat (first | refine blk_drewN ?_ _ | refine blk_drew ?_ | refine blk_alloc ?_ _)); exact BK849.out⟩, ⟨by (with_reducible repeat (first | refine blk_drewN ?_ _ | refine blk_drew ?_ | refine blk_alloc ?_ _)); exact BK854.out⟩, ⟨by repeat (first | (with_reducible first | exact HB.out | apply below_alloc | apply pw_below_drewN | apply below_drew1 | refine below_set ?_ GE849.out | refine below_set ?_ GE854.out) | exact HB.out)⟩⟩
                   ·
                    rw [if_neg c45] at H
                    exact absurd H (by simp)
                  ·
                   rw [if_neg c44] at H
                   exact absurd H (by simp)
                 ·
                  rw [if_neg c43] at H
                  exact absurd H (by simp)
                ·
                 rw [if_neg c42] at H
                 exact absurd H (by simp)
               ·
                rw [if_neg c41] at H
                exact absurd H (by simp)
           ·
            rw [if_neg c31] at H
            have c31b0 : decide (x15_3 < (t855.length : Int)) = false := decide_eq_false c31
            clear c31
            have HC88 := Aside0.mk H
            clear H
            obtain ⟨Ao89, co89, eo89⟩ := Kd.R_slice HO_14.out
            subst eo89
            go_upto_region 20 with (fail)
            go_cut [115] (fun v115 wc => ∃ (kq : Nat) (x115_87 : Bool), v115 = .bool x115_87 ∧ Aside0 (galleyref07_At.j4 kq a3 x12_3 x13_3 x115_87 ((rd_T88 t850 a1_0).f0) ((rd_T88 t850 a1_0).f1) ((rd_T88 t850 a1_0).f2) = some (r1, r2)) ∧ Aside0 (kq ≤ k3) ∧ Aside0 (wc.heap[gb849]? = some (.cells #[.int .i64 a1_0, .int .i64 a1_1] 71 (0, 0))) ∧ Aside0 (wc.heap[gb854]? = some (.cells #[.int .i64 ((rd_T88 t850 a1_0).f0), .int .i64 ((rd_T88 t850 a1_0).f1), .int .i64 ((rd_T88 t850 a1_0).f2)] 88 (0, 0))) ∧ Aside0 (Below w.heap.size w wc))
            case first =>
             have H := HC88.out
             clear HC88
             by_cases c90 : x13_3 < 0
             ·
              rw [if_pos c90] at H
              have c90b0 : decide (x13_3 < 0) = true := decide_eq_true c90
              clear c90
              (first | rw [c90b0] | (simp only [i64_w, i32_w]; rw [c90b0]) | skip)
              have H' := Aside0.mk H
              clear H
              go_wp2
              go_meet
              case rel => exact ⟨_, ((a3 == 3)), (by first | rfl | (simp; done) | (simp [*]; done)), H', ⟨by have := HJ4.out; have := HJ11.out; have := HK3.out; first | omega | exact Nat.le_refl _⟩, ⟨by (with_reducible repeat (first | refine blk_drewN ?_ _ | refine blk_drew ?_ | refine blk_alloc ?_ _)); exact BK849.out⟩, ⟨by (with_reducible repeat (first | refine blk_drewN ?_ _ | refine blk_drew ?_ | refine blk_alloc ?_ _)); exact BK854.out⟩, ⟨by repeat (first | (with_reducible first | exact HB.out | apply below_alloc | apply pw_below_drewN | apply below_drew1 | refine below_set ?_ GE849.out | refine below_set ?_ GE854.out) | exact HB.out)⟩⟩
             ·
              rw [if_neg c90] at H
              have c90b0 : decide (x13_3 < 0) = false := decide_eq_false c90
              clear c90
              (first | rw [c90b0] | (simp only [i64_w, i32_w]; rw [c90b0]) | skip)
              have H' := Aside0.mk H
              clear H
              go_wp2
              go_meet
              case rel => exact ⟨_, (false), (by first | rfl | (simp; done) | (simp [*]; done)), H', ⟨by have := HJ4.out; have := HJ11.out; have := HK3.out; first | omega | exact Nat.le_refl _⟩, ⟨by (with_reducible repeat (first | refine blk_drewN ?_ _ | refine blk_drew ?_ | refine blk_alloc ?_ _)); exact BK849.out⟩, ⟨by (with_reducible repeat (first | refine blk_drewN ?_ _ | refine blk_drew ?_ | refine blk_alloc ?_ _)); exact BK854.out⟩, ⟨by repeat (first | (with_reducible first | exact HB.out | apply below_alloc | apply pw_below_drewN | apply below_drew1 | refine below_set ?_ GE849.out | refine below_set ?_ GE854.out) | exact HB.out)⟩⟩
            case rest =>
             clear HC88
             (try clear c1); (try clear p2); (try clear c3); (try clear c4); (try clear c5); (try clear c6); (try clear p6); (try clear c7); (try clear c8); (try clear p8); (try clear q8); (try clear hx8); (try clear c9); (try clear c10); (try clear c31); (try clear c31b0); (try clear c41); (try clear c42); (try clear c43); (try clear c44); (try clear c45); (try clear c53); (try clear c53b0); (try clear p64); (try clear c69); (try clear c71); (try clear c71b0); (try clear c72); (try clear c72b0); (try clear c76); (try clear c81); (try clear c86); (try clear p86); (try clear q86); (try clear hx86); (try clear c90); (try clear c90b0); (try clear hcz70_0); (try clear hcz70_1); (try clear hcz77_0); (try clear hcz77_1); (try clear hcz82_0); (try clear hcz82_1); (try clear hcz87_0); (try clear hcz87_1); (try clear hfz70_0); (try clear hfz70_1); (try clear hfz77_0); (try clear hfz77_1); (try clear hfz82_0); (try clear hfz82_1); (try clear hfz87_0); (try clear hfz87_1); (try clear hx861_0); (try clear hx865_0); (try clear hx867_0); (try clear p861); (try clear p865); (try clear p867); (try clear q861); (try clear q865); (try clear q867)
             obtain ⟨kq, x115_87, rfl, HA, HJ87, BK849, BK854, HB⟩ := hcut
             cases kq with
             | zero => exact absurd HA.out (by simp [galleyref07_At.j4])
             | succ kj87 =>
              have H := HA.out
              clear HA
              simp only [galleyref07_At.j4] at H
              by_cases c91 : x115_87 = true
              ·
               subst c91
               have H1 : (some (0, 2)) = some (r1, r2) := by rw [if_pos rfl] at H; exact H
               clear H
               have H := H1
               clear H1
               simp only [Option.some.injEq, Prod.mk.injEq] at H
               obtain ⟨rfl, rfl⟩ := H
               go_wp2
               go_ret2
               exact ⟨by first | rfl | (simp [errW_none, errW_some] <;> rfl) | (simp [*, errW_none, errW_some] <;> rfl), by repeat (first | (with_reducible first | exact HB.out | apply below_alloc | apply pw_below_drewN | apply below_drew1 | refine below_set ?_ GE849.out | refine below_set ?_ GE854.out) | exact HB.out)⟩
              ·
               replace c91 := Bool.eq_false_iff.mpr c91
               subst c91
               have H1 : (if x13_3 < 0 then (some (((rd_T88 t850 a1_0).f1), 0)) else (if a3 = 1 then (some (x12_3, 0)) else (if a3 = 2 then (some (x13_3, 0)) else (some (0, 4))))) = some (r1, r2) := by rw [if_neg (show ¬ (false = true) by decide)] at H; exact H
               clear H
               have H := H1
               clear H1
               by_cases c92 : x13_3 < 0
               ·
                rw [if_pos c92] at H
                have c92b0 : decide (x13_3 < 0) = true := decide_eq_true c92
                clear c92
                simp only [Option.some.injEq, Prod.mk.injEq] at H
                obtain ⟨rfl, rfl⟩ := H
                have hnb93 := NB854_849.out
                have hnc93 := NB849_854.out
                have hcz94_0 : wc.cell? ⟨gb854, 0, none⟩ = some (.int .i64 ((rd_T88 t850 a1_0).f0)) := (blk_cell BK854.out 0).trans rfl
                have hcz94_1 : wc.cell? ⟨gb854, 1, none⟩ = some (.int .i64 ((rd_T88 t850 a1_0).f1)) := (blk_cell BK854.out 1).trans rfl
                have hcz94_2 : wc.cell? ⟨gb854, 2, none⟩ = some (.int .i64 ((rd_T88 t850 a1_0).f2)) := (blk_cell BK854.out 2).trans rfl
                have hfz94_0 := blk_frozen BK854.out 0
                have hfz94_1 := blk_frozen BK854.out 1
                have hfz94_2 := blk_frozen BK854.out 2
                go_wp2
                go_ret2
                exact ⟨by first | rfl | (simp [errW_none, errW_some] <;> rfl) | (simp [*, errW_none, errW_some] <;> rfl), by repeat (first | (with_reducible first | exact HB.out | apply below_alloc | apply pw_below_drewN | apply below_drew1 | refine below_set ?_ GE849.out | refine below_set ?_ GE854.out) | exact HB.out)⟩
               ·
                rw [if_neg c92] at H
                have c92b0 : decide (x13_3 < 0) = false := decide_eq_false c92
                clear c92
                by_cases c95 : a3 = 1
                ·
                 rw [if_pos c95] at H
                 have c95b0 : (a3 == 1) = true := beq_iff_eq.mpr c95
                 have c95b1 : (a3 != 1) = false := bne_eq_false_iff_eq.mpr c95
                 clear c95
                 simp only [Option.some.injEq, Prod.mk.injEq] at H
                 obtain ⟨rfl, rfl⟩ := H
                 go_wp2
                 go_ret2
                 exact ⟨by first | rfl | (simp [errW_none, errW_some] <;> rfl) | (simp [*, errW_none, errW_some] <;> rfl), by repeat (first | (with_reducible first | exact HB.out | apply below_alloc | apply pw_below_drewN | apply below_drew1 | refine below_set ?_ GE849.out | refine below_set ?_ GE854.out) | exact HB.out)⟩
                ·
                 rw [if_neg c95] at H
                 have c95b0 : (a3 == 1) = false := beq_eq_false_iff_ne.mpr c95
                 have c95b1 : (a3 != 1) = true := bne_iff_ne.mpr c95
                 by_cases c96 : a3 = 2
                 ·
                  rw [if_pos c96] at H
                  have c96b0 : (a3 == 2) = true := beq_iff_eq.mpr c96
                  have c96b1 : (a3 != 2) = false := bne_eq_false_iff_eq.mpr c96
                  clear c96
                  simp only [Option.some.injEq, Prod.mk.injEq] at H
                  obtain ⟨rfl, rfl⟩ := H
                  go_wp2
                  go_ret2
                  exact ⟨by first | rfl | (simp [errW_none, errW_some] <;> rfl) | (simp [*, errW_none, errW_some] <;> rfl), by repeat (first | (with_reducible first | exact HB.out | apply below_alloc | apply pw_below_drewN | apply below_drew1 | refine below_set ?_ GE849.out | refine below_set ?_ GE854.out) | exact HB.out)⟩
                 ·
                  rw [if_neg c96] at H
                  have c96b0 : (a3 == 2) = false := beq_eq_false_iff_ne.mpr c96
                  have c96b1 : (a3 != 2) = true := bne_iff_ne.mpr c96
                  simp only [Option.some.injEq, Prod.mk.injEq] at H
                  obtain ⟨rfl, rfl⟩ := H
                  go_wp2
                  go_ret2
                  exact ⟨by first | rfl | (simp [errW_none, errW_some] <;> rfl) | (simp [*, errW_none, errW_some] <;> rfl), by repeat (first | (with_reducible first | exact HB.out | apply below_alloc | apply pw_below_drewN | apply below_drew1 | refine below_set ?_ GE849.out | refine below_set ?_ GE854.out) | exact HB.out)⟩
        ·
         rw [if_neg c23] at H
         exact absurd H (by simp)
       ·
        rw [if_neg c22] at H
        exact absurd H (by simp)
end Go.Proofs.YtbomhpfckplgaaaDoor.P
