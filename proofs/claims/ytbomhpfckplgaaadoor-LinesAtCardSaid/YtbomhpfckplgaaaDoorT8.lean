/- Texts of this claim, put together: Pb55, UAt. -/
import Derived.Test.YtbomhpfckplgaaaDoorT0
import Derived.Test.YtbomhpfckplgaaaDoorT1
import Derived.Test.YtbomhpfckplgaaaDoorT4
import Derived.Test.YtbomhpfckplgaaaDoorT5
import Derived.Test.YtbomhpfckplgaaaDoorT6
import Derived.Test.YtbomhpfckplgaaaDoorT7
namespace Go.Proofs.YtbomhpfckplgaaaDoor.P
open Go.RowKit Go.Proofs.YtbomhpfckplgaaaDoorW.PrintWords Go.Proofs.YtbomhpfckplgaaaDoorW.PrintLast Go.Proofs.YtbomhpfckplgaaaDoorW.PrintMore
attribute [local go_sem] max2_int min2_int max_two min_two max_three min_three max_four min_four   -- for this text's walks alone
set_option linter.unusedVariables false
set_option linter.unusedSimpArgs false
mutual
def la.l0 : Nat → List Int → List (S73) → Int → Option (Bool)
 | 0, _, _, _ => none
 | k + 1, x0, x1, x5 => if x5 < (x1.length : Int) then (if 0 ≤ x5 then (la.l1 k x0 x1 x5 (-1) ((rd_T73 x1 x5).f0.f0) ((rd_T73 x1 x5).f0.f1) ((rd_T73 x1 x5).f1) ((rd_T73 x1 x5).f2)) else (none)) else (some true)
def la.l1 : Nat → List Int → List (S73) → Int → Int → Int → Int → Int → Int → Option (Bool)
 | 0, _, _, _, _, _, _, _, _ => none
 | k + 1, x0, x1, x5, x7, x872000, x872001, x872002, x872003 => if x7 < 12 then ((galleylaw07_own.f x0).bind fun t872 => ((lines_At.f k t872 x872000 x7 x872002 x872003).bind fun bt875 => ((galleyref07_At.f k x0 x872000 x7 x872002 x872003).bind fun bt877 => (if bt875.1 = bt877.1 then (if bt875.2 = bt877.2 then (la.l1 k x0 x1 x5 (wrap64 (x7 + 1)) x872000 x872001 x872002 x872003) else (some false)) else (some false))))) else ((galleylaw07_own.f x0).bind fun t879 => ((lines_At.f k t879 x872000 x872001 x872002 x872003).bind fun bt882 => ((galleyref07_At.f k x0 x872000 x872001 x872002 x872003).bind fun bt884 => (if bt882.1 = bt884.1 then (if bt882.2 = bt884.2 then (la.l0 k x0 x1 (wrap64 (x5 + 1))) else (some false)) else (some false)))))
end
def la.f (k : Nat) (l0 : List Int) (l1 : List (S73)) : Option (Bool) := (galleylaw07_awake.f k).bind fun t868 => (if t868 = true then ((galleylaw07_Large.f l0).bind fun t869 => (if t869 = true then (some true) else (la.l0 k l0 l1 0))) else (some false))
def la.T12 : Bool × List (List Nat × List Nat) := (true, [([], []), ([0], [0]), ([], []), ([2], [2]), ([3], [3]), ([], []), ([4, 5], [4, 5]), ([], []), ([7], [7]), ([], []), ([9], [9]), ([1, 6, 8, 10, 1], [1, 6, 8, 10]), ([11], [11]), ([12], [12]), ([12], [12]), ([13, 11, 0, 1, 2, 3, 4, 5, 6, 7, 8, 9, 10, 11, 12, 13], [13]), ([14, 15, 0, 1, 2, 3, 4, 5, 6, 7, 8, 9, 10, 11, 12, 13, 14, 15], [14])])
def la.B12 : List Nat := [0, 1, 0, 4, 12, 0, 60, 0, 128, 0, 512, 2047, 4095, 8191, 8191, 16383, 65535]
theorem la.tab12 : rtab .any (opsOf Tryd.f13 12) = la.T12 := by kernel_rfl
theorem la.bits12 : waitsOk la.T12.2 la.B12 = true := by kernel_rfl
def la.T16 : Bool × List (List Nat × List Nat) := (true, [([], []), ([0], [0]), ([], []), ([2], [2]), ([], []), ([4], [4]), ([], []), ([6], [6]), ([1, 3, 5, 7, 1], [1, 3, 5, 7]), ([8], [8]), ([9], [9]), ([9], [9]), ([10, 8, 0, 1, 2, 3, 4, 5, 6, 7, 8, 9, 10], [10]), ([11, 12, 0, 1, 2, 3, 4, 5, 6, 7, 8, 9, 10, 11, 12], [11])])
def la.B16 : List Nat := [0, 1, 0, 4, 0, 16, 0, 64, 255, 511, 1023, 1023, 2047, 8191]
theorem la.tab16 : rtab .any (opsOf Tryd.f13 16) = la.T16 := by kernel_rfl
theorem la.bits16 : waitsOk la.T16.2 la.B16 = true := by kernel_rfl
set_option maxHeartbeats 8000000 in
set_option maxRecDepth 100000 in
theorem la.calls (k : Nat) (A0 : Option Addr) (c0 : Nat) (l0 : List Int) (A1 : Option Addr) (c1 : Nat) (l1 : List (S73)) (w : World) (hr0 : Kd.C (Kd.int .u8) w A0 l0.length l0) (hc0 : l0.length ≤ c0) (hr1 : Kd.C k73 w A1 l1.length l1) (hc1 : l1.length ≤ c1) (hG : Laid w) (h : la.f k l0 l1 = some true) :
  Calls Tryd.prog 13 #[.slice A0 l0.length c0, .slice A1 l1.length c1] w fun e w' => e = .returned (.bool true) ∧ Below w.heap.size w w' := by
 have hu73 := Tryd.underlying73
 have hu71 := Tryd.underlying71
 have HG := Aside0.mk hG
 clear hG
 have HR0 := Aside0.mk hr0
 have HC0 := Aside0.mk hc0
 clear hr0 hc0
 have HR1 := Aside0.mk hr1
 have HC1 := Aside0.mk hc1
 clear hr1 hc1
 have HB := Aside0.mk (Below.refl w.heap.size w)
 have H : ((galleylaw07_awake.f k).bind fun t868 => (if t868 = true then ((galleylaw07_Large.f l0).bind fun t869 => (if t869 = true then (some true) else (la.l0 k l0 l1 0))) else (some false))) = some true := h
 clear h
 replace H := Option.bind_eq_some_iff.mp H
 obtain ⟨t868, A30, H⟩ := H
 replace H : (if t868 = true then ((galleylaw07_Large.f l0).bind fun t869 => (if t869 = true then (some true) else (la.l0 k l0 l1 0))) else (some false)) = some true := H
 have A3 := Aside0.mk A30
 clear A30
 by_cases c4 : t868 = true
 ·
  subst c4
  have H1 : ((galleylaw07_Large.f l0).bind fun t869 => (if t869 = true then (some true) else (la.l0 k l0 l1 0))) = some true := by rw [if_pos rfl] at H; exact H
  clear H
  have H := H1
  clear H1
  replace H := Option.bind_eq_some_iff.mp H
  obtain ⟨t869, A50, H⟩ := H
  replace H : (if t869 = true then (some true) else (la.l0 k l0 l1 0)) = some true := H
  have A5 := Aside0.mk A50
  clear A50
  by_cases c6 : t869 = true
  ·
   subst c6
   have H1 : some true = some true := rfl
   clear H
   have H := H1
   clear H1
   skip
   go_enter Tryd.func13, Tryd.ntmps13
   go_wp2_with (first | ((with_reducible refine gate_callee (f := 56) rfl ?_); refine goesL_ (some 16) rfl rfl Tryd.func56 (by kernel_rfl) rfl #[] rfl (by (try simp only [List.map_toArray, List.map_cons, List.map_nil]); first | done | rfl | (simp only [List.length_drop, List.length_take]; rfl)) ?_; (with_reducible refine (galleylaw07_awake.calls k  true _ ?side1 A3.out).mono ?_); (case side1 => repeat (first | exact HG.out | exact Laid.below HG.out HB.out | (with_reducible refine Laid.alloc ?_ _) | (with_reducible refine Laid.drewN ?_ _) | (with_reducible refine Laid.drew ?_))); rintro e w7 ⟨rfl, hb⟩; refine ⟨_, rfl, ?_⟩; have n0_ := Aside0.mk (below_step (by repeat (first | (with_reducible first | exact HB.out | apply below_alloc | apply pw_below_drewN | apply below_drew1) | exact HB.out)) hb); clear HB; have HB := n0_; clear n0_; (try clear hb); (try clear hb2); (try clear hk); (try clear hi)) | ((with_reducible refine gate_callee (f := 57) rfl ?_); refine goesL_ (some 19) rfl rfl Tryd.func57 (by kernel_rfl) rfl #[.slice A0 l0.length c0] rfl (by (try simp only [List.map_toArray, List.map_cons, List.map_nil]); first | done | rfl | (simp only [List.length_drop, List.length_take]; rfl)) ?_; (with_reducible refine (galleylaw07_Large.calls _ _ l0 true _ ?side1 ?side2 A5.out).mono ?_); (case side1 => repeat (first | exact (Kd.C_below HR0.out HB.out) | (with_reducible refine Kd.C_alloc ?_ _) | (with_reducible refine Kd.C_drewN ?_ _) | (with_reducible refine Kd.C_drew ?_))); (case side2 => exact HC0.out); rintro e w' ⟨rfl, ⟨nd, rfl⟩⟩; refine ⟨_, rfl, ?_⟩))
   go_ret
   exact ⟨by first | rfl | (simp [errW_none, errW_some] <;> rfl) | (simp [*, errW_none, errW_some] <;> rfl), by repeat (first | (with_reducible first | exact HB.out | apply below_alloc | apply pw_below_drewN | apply below_drew1) | exact HB.out)⟩
  ·
   replace c6 := Bool.eq_false_iff.mpr c6
   subst c6
   have H1 : (la.l0 k l0 l1 0) = some true := by rw [if_neg (show ¬ (false = true) by decide)] at H; exact H
   clear H
   have H := H1
   clear H1
   have H' := Aside0.mk H
   clear H
   go_enter Tryd.func13, Tryd.ntmps13
   go_wp2_with (first | ((with_reducible refine gate_callee (f := 56) rfl ?_); refine goesL_ (some 16) rfl rfl Tryd.func56 (by kernel_rfl) rfl #[] rfl (by (try simp only [List.map_toArray, List.map_cons, List.map_nil]); first | done | rfl | (simp only [List.length_drop, List.length_take]; rfl)) ?_; (with_reducible refine (galleylaw07_awake.calls k  true _ ?side1 A3.out).mono ?_); (case side1 => repeat (first | exact HG.out | exact Laid.below HG.out HB.out | (with_reducible refine Laid.alloc ?_ _) | (with_reducible refine Laid.drewN ?_ _) | (with_reducible refine Laid.drew ?_))); rintro e w8 ⟨rfl, hb⟩; refine ⟨_, rfl, ?_⟩; have n0_ := Aside0.mk (below_step (by repeat (first | (with_reducible first | exact HB.out | apply below_alloc | apply pw_below_drewN | apply below_drew1) | exact HB.out)) hb); clear HB; have HB := n0_; clear n0_; (try clear hb); (try clear hb2); (try clear hk); (try clear hi)) | ((with_reducible refine gate_callee (f := 57) rfl ?_); refine goesL_ (some 19) rfl rfl Tryd.func57 (by kernel_rfl) rfl #[.slice A0 l0.length c0] rfl (by (try simp only [List.map_toArray, List.map_cons, List.map_nil]); first | done | rfl | (simp only [List.length_drop, List.length_take]; rfl)) ?_; (with_reducible refine (galleylaw07_Large.calls _ _ l0 false _ ?side1 ?side2 A5.out).mono ?_); (case side1 => repeat (first | exact (Kd.C_below HR0.out HB.out) | (with_reducible refine Kd.C_alloc ?_ _) | (with_reducible refine Kd.C_drewN ?_ _) | (with_reducible refine Kd.C_drew ?_))); (case side2 => exact HC0.out); rintro e w' ⟨rfl, ⟨nd, rfl⟩⟩; refine ⟨_, rfl, ?_⟩))
   go_loopg [5] k (fun kq v5 w' => ∃ (x5_1 : Int), v5 = .int .i64 x5_1 ∧ Aside0 (la.l0 kq l0 l1 x5_1 = some true) ∧ Aside0 (kq ≤ k) ∧ Aside0 (Below w.heap.size w w'))
   case atStart => exact ⟨(0), (by first | rfl | (simp; done) | (simp [*]; done)), H', ⟨Nat.le_refl _⟩, ⟨by repeat (first | (with_reducible first | exact HB.out | apply below_alloc | apply pw_below_drewN | apply below_drew1) | exact HB.out)⟩⟩
   case round =>
    clear H'
    (try clear c1); (try clear p2); (try clear c4); (try clear c5); (try clear c6)
    obtain ⟨x5_1, rfl, HA, HK1, HB⟩ := hrel
    cases gk with
    | zero => exact absurd HA.out (by simp [la.l0])
    | succ k1 =>
     have H := HA.out
     clear HA
     simp only [la.l0] at H
     by_cases c9 : x5_1 < (l1.length : Int)
     ·
      rw [if_pos c9] at H
      have c9b0 : decide (x5_1 < (l1.length : Int)) = true := decide_eq_true c9
      clear c9
      by_cases c10 : 0 ≤ x5_1
      ·
       rw [if_pos c10] at H
       have c10b0 : decide (0 ≤ x5_1) = true := decide_eq_true c10
       clear c10
       have H' := Aside0.mk H
       clear H
       have p870 : 0 ≤ (x5_1 : Int) := of_decide_eq_true (by first | (with_reducible assumption) | assumption)
       have q870 : x5_1 < (l1.length : Int) := of_decide_eq_true (by first | (with_reducible assumption) | assumption)
       obtain ⟨ad870, e870, hx870_0, hx870_1, hx870_2, hx870_3⟩ := at_T73 HR1.out x5_1 p870 q870
       cases e870
       replace hx870_0 := (HB.out.cell (World.block_lt_of_cell? w _ hx870_0)).trans hx870_0
       replace hx870_1 := (HB.out.cell (World.block_lt_of_cell? w _ hx870_1)).trans hx870_1
       replace hx870_2 := (HB.out.cell (World.block_lt_of_cell? w _ hx870_2)).trans hx870_2
       replace hx870_3 := (HB.out.cell (World.block_lt_of_cell? w _ hx870_3)).trans hx870_3
       replace p870 := eq_true p870
       replace q870 := eq_true q870
       go_wp2_with (first | ((with_reducible refine gate_dst (N := 6) rfl ?_); refine box_event ?hg (N := 6) ?hd (cs := #[.int .i64 0, .int .i64 0, .int .i64 0, .int .i64 0]) (t := 73) ?hr ?_; (case hd => rfl); (case hg => rfl); (case hr => first | (go_simp; done) | (go_simp; rfl)); intro gb871 hg w11 hbox hb; have n0_ := Aside0.mk (below_step (by repeat (first | (with_reducible first | exact HB.out | apply below_alloc | apply pw_below_drewN | apply below_drew1) | exact HB.out)) hb); have n1_ := Aside0.mk (hbox); have n2_ := Aside0.mk ((by rw [hg]; exact (below_size (by repeat (first | (with_reducible first | exact HB.out | apply below_alloc | apply pw_below_drewN | apply below_drew1) | exact HB.out))) : w.heap.size ≤ gb871)); have n3_ := Aside0.mk ((by rw [hg]; exact (below_size (by repeat (first | (with_reducible first | exact HB.out | apply below_alloc | apply pw_below_drewN | apply below_drew1) | exact HB.out))) : w.heap.size ≤ gb871)); clear HB; have HB := n0_; have BK871 := n1_; have GW871 := n2_; have GE871 := n3_; clear n0_ n1_ n2_ n3_; clear hb hbox hg; have hcz12_0 : w11.cell? ⟨gb871, 0, none⟩ = some (.int .i64 0) := (blk_cell BK871.out 0).trans rfl; have hcz12_1 : w11.cell? ⟨gb871, 1, none⟩ = some (.int .i64 0) := (blk_cell BK871.out 1).trans rfl; have hcz12_2 : w11.cell? ⟨gb871, 2, none⟩ = some (.int .i64 0) := (blk_cell BK871.out 2).trans rfl; have hcz12_3 : w11.cell? ⟨gb871, 3, none⟩ = some (.int .i64 0) := (blk_cell BK871.out 3).trans rfl; have hfz12_0 := blk_frozen BK871.out 0; have hfz12_1 := blk_frozen BK871.out 1; have hfz12_2 := blk_frozen BK871.out 2; have hfz12_3 := blk_frozen BK871.out 3))
       go_loopg [7] k1 (fun kq v7 w' => ∃ (x7_2 : Int), v7 = .int .i64 x7_2 ∧ Aside0 (la.l1 kq l0 l1 x5_1 x7_2 ((rd_T73 l1 x5_1).f0.f0) ((rd_T73 l1 x5_1).f0.f1) ((rd_T73 l1 x5_1).f1) ((rd_T73 l1 x5_1).f2) = some true) ∧ Aside0 (kq ≤ k1) ∧ Aside0 (w'.heap[gb871]? = some (.cells #[.int .i64 ((rd_T73 l1 x5_1).f0.f0), .int .i64 ((rd_T73 l1 x5_1).f0.f1), .int .i64 ((rd_T73 l1 x5_1).f1), .int .i64 ((rd_T73 l1 x5_1).f2)] 73 (0, 0))) ∧ Aside0 (Below w.heap.size w w'))
       case atStart => exact ⟨((-1)), (by first | rfl | (simp; done) | (simp [*]; done)), H', ⟨Nat.le_refl _⟩, ⟨by (with_reducible repeat (first | refine blk_drewN ?_ _ | refine blk_drew ?_ | refine blk_alloc ?_ _)); refine blk_put (cs := #[.int .i64 ((rd_T73 l1 x5_1).f0.f0), .int .i64 ((rd_T73 l1 x5_1).f0.f1), .int .i64 ((rd_T73 l1 x5_1).f1), .int .i64 0]) ?_ 3 _ rfl; (with_reducible repeat (first | refine blk_drewN ?_ _ | refine blk_drew ?_ | refine blk_alloc ?_ _)); refine blk_put (cs := #[.int .i64 ((rd_T73 l1 x5_1).f0.f0), .int .i64 ((rd_T73 l1 x5_1).f0.f1), .int .i64 0, .int .i64 0]) ?_ 2 _ rfl; (with_reducible repeat (first | refine blk_drewN ?_ _ | refine blk_drew ?_ | refine blk_alloc ?_ _)); refine blk_put (cs := #[.int .i64 ((rd_T73 l1 x5_1).f0.f0), .int .i64 0, .int .i64 0, .int .i64 0]) ?_ 1 _ rfl; (with_reducible repeat (first | refine blk_drewN ?_ _ | refine blk_drew ?_ | refine blk_alloc ?_ _)); refine blk_put (cs := #[.int .i64 0, .int .i64 0, .int .i64 0, .int .i64 0]) ?_ 0 _ rfl; (with_reducible repeat (first | refine blk_drewN ?_ _ | refine blk_drew ?_ | refine blk_alloc ?_ _)); exact BK871.out⟩, ⟨by repeat (first | (with_reducible first | exact HB.out | apply below_alloc | apply pw_below_drewN | apply below_drew1 | refine below_set ?_ GE871.out) | exact HB.out)⟩⟩
       case round =>
        clear H'
        (try clear c1); (try clear p2); (try clear c4); (try clear c5); (try clear c6); (try clear p8); (try clear q8); (try clear hx8); (try clear c9); (try clear c9b0); (try clear c10); (try clear c10b0); (try clear hcz12_0); (try clear hcz12_1); (try clear hcz12_2); (try clear hcz12_3); (try clear hfz12_0); (try clear hfz12_1); (try clear hfz12_2); (try clear hfz12_3); (try clear hx870_0); (try clear hx870_1); (try clear hx870_2); (try clear hx870_3); (try clear p870); (try clear q870)
        obtain ⟨x7_2, rfl, HA, HK2, BK871, HB⟩ := hrel
        cases gk with
        | zero => exact absurd HA.out (by simp [la.l1])
        | succ k2 =>
         have H := HA.out
         clear HA
         simp only [la.l1] at H
         by_cases c13 : x7_2 < 12
         ·
          rw [if_pos c13] at H
          have c13b0 : decide (x7_2 < 12) = true := decide_eq_true c13
          clear c13
          replace H := Option.bind_eq_some_iff.mp H
          obtain ⟨t872, A140, H⟩ := H
          replace H : ((lines_At.f k2 t872 ((rd_T73 l1 x5_1).f0.f0) x7_2 ((rd_T73 l1 x5_1).f1) ((rd_T73 l1 x5_1).f2)).bind fun bt875 => ((galleyref07_At.f k2 l0 ((rd_T73 l1 x5_1).f0.f0) x7_2 ((rd_T73 l1 x5_1).f1) ((rd_T73 l1 x5_1).f2)).bind fun bt877 => (if bt875.1 = bt877.1 then (if bt875.2 = bt877.2 then (la.l1 k2 l0 l1 x5_1 (wrap64 (x7_2 + 1)) ((rd_T73 l1 x5_1).f0.f0) ((rd_T73 l1 x5_1).f0.f1) ((rd_T73 l1 x5_1).f1) ((rd_T73 l1 x5_1).f2)) else (some false)) else (some false)))) = some true := H
          have A14 := Aside0.mk A140
          clear A140
          replace H := Option.bind_eq_some_iff.mp H
          obtain ⟨⟨t875, t876⟩, A150, H⟩ := H
          replace H : ((galleyref07_At.f k2 l0 ((rd_T73 l1 x5_1).f0.f0) x7_2 ((rd_T73 l1 x5_1).f1) ((rd_T73 l1 x5_1).f2)).bind fun bt877 => (if t875 = bt877.1 then (if t876 = bt877.2 then (la.l1 k2 l0 l1 x5_1 (wrap64 (x7_2 + 1)) ((rd_T73 l1 x5_1).f0.f0) ((rd_T73 l1 x5_1).f0.f1) ((rd_T73 l1 x5_1).f1) ((rd_T73 l1 x5_1).f2)) else (some false)) else (some false))) = some true := H
          have A15 := Aside0.mk A150
          clear A150
          replace H := Option.bind_eq_some_iff.mp H
          obtain ⟨⟨t877, t878⟩, A160, H⟩ := H
          replace H : (if t875 = t877 then (if t876 = t878 then (la.l1 k2 l0 l1 x5_1 (wrap64 (x7_2 + 1)) ((rd_T73 l1 x5_1).f0.f0) ((rd_T73 l1 x5_1).f0.f1) ((rd_T73 l1 x5_1).f1) ((rd_T73 l1 x5_1).f2)) else (some false)) else (some false)) = some true := H
          have A16 := Aside0.mk A160
          clear A160
          by_cases c17 : t875 = t877
          ·
           rw [if_pos c17] at H
           have c17b0 : (t875 == t877) = true := beq_iff_eq.mpr c17
           have c17b1 : (t875 != t877) = false := bne_eq_false_iff_eq.mpr c17
           clear c17
           by_cases c18 : t876 = t878
           ·
            rw [if_pos c18] at H
            have c18b0 : (t876 == t878) = true := beq_iff_eq.mpr c18
            have c18b1 : (t876 != t878) = false := bne_eq_false_iff_eq.mpr c18
            clear c18
            have H' := Aside0.mk H
            clear H
            try go_wp2
            have n0_ := Aside0.mk (blk_drew BK871.out)
            have n1_ := Aside0.mk (below_drew1 HB.out)
            clear BK871
            clear HB
            have BK871 := n0_
            have HB := n1_
            clear n0_ n1_
            refine start_ (n := 17) (S := fun w' => w'.cell? ⟨gb871, 0, none⟩ = some (.int .i64 ((rd_T73 l1 x5_1).f0.f0)) ∧ w'.cell? ⟨gb871, 1, none⟩ = some (.int .i64 ((rd_T73 l1 x5_1).f0.f1)) ∧ w'.cell? ⟨gb871, 2, none⟩ = some (.int .i64 ((rd_T73 l1 x5_1).f1)) ∧ w'.cell? ⟨gb871, 3, none⟩ = some (.int .i64 ((rd_T73 l1 x5_1).f2))) (ds := []) #[false, false, false, false, false, false, false, false, false, false, false, false, false, false, false, false, false] (by kernel_rfl) rfl rfl ⟨(blk_cell BK871.out 0).trans rfl, (blk_cell BK871.out 1).trans rfl, (blk_cell BK871.out 2).trans rfl, (blk_cell BK871.out 3).trans rfl⟩ (fun hHeld => ?_); refine with_tabW la.tab12 la.bits12 (fun HT_ HW_ => ?_)
            generalize wr.drew = w19 at BK871 HB hHeld ⊢
            refine pure_ (i := 0) (N := some 35) (v := ?_) (a' := ?_) #[true, false, false, false, false, false, false, false, false, false, false, false, false, false, false, false, false] rfl rfl (any_of HT_.out (by kernel_rfl)) (fun _ _ _ h => h) (Or.inl ⟨by rfl, ?_⟩) ?_ ?_
            rotate_left
            ·
             intro w'
             go_simp
             with_reducible rfl
            rotate_left
            ·
             simp only [Act.put, List.setIfInBounds_toArray, List.set_cons_zero, List.set_cons_succ, i64_w, i32_w]
             rfl
            refine pure_ (i := 2) (N := some 37) (v := ?_) (a' := ?_) #[true, false, true, false, false, false, false, false, false, false, false, false, false, false, false, false, false] rfl rfl (any_of HT_.out (by kernel_rfl)) (fun _ _ _ h => h) (Or.inl ⟨by rfl, ?_⟩) ?_ ?_
            rotate_left
            ·
             intro w'
             go_simp
             with_reducible rfl
            rotate_left
            ·
             simp only [Act.put, List.setIfInBounds_toArray, List.set_cons_zero, List.set_cons_succ, i64_w, i32_w]
             rfl
            refine pure_ (i := 3) (N := some 38) (v := ?_) (a' := ?_) #[true, false, true, true, false, false, false, false, false, false, false, false, false, false, false, false, false] rfl rfl (any_of HT_.out (by kernel_rfl)) (fun _ _ _ h => h) (Or.inl ⟨by rfl, ?_⟩) ?_ ?_
            rotate_left
            ·
             intro w'
             go_simp
             with_reducible rfl
            rotate_left
            ·
             simp only [Act.put, List.setIfInBounds_toArray, List.set_cons_zero, List.set_cons_succ, i64_w, i32_w]
             rfl
            refine pure_ (i := 5) (N := some 40) (v := ?_) (a' := ?_) #[true, false, true, true, false, true, false, false, false, false, false, false, false, false, false, false, false] rfl rfl (any_of HT_.out (by kernel_rfl)) (fun _ _ _ h => h) (Or.inl ⟨by rfl, ?_⟩) ?_ ?_
            rotate_left
            ·
             intro w'
             go_simp
             with_reducible rfl
            rotate_left
            ·
             simp only [Act.put, List.setIfInBounds_toArray, List.set_cons_zero, List.set_cons_succ, i64_w, i32_w]
             rfl
            refine pure_ (i := 7) (N := some 42) (v := ?_) (a' := ?_) #[true, false, true, true, false, true, false, true, false, false, false, false, false, false, false, false, false] rfl rfl (any_of HT_.out (by kernel_rfl)) (fun _ _ _ h => h) (Or.inl ⟨by rfl, ?_⟩) ?_ ?_
            rotate_left
            ·
             intro w'
             go_simp
             with_reducible rfl
            rotate_left
            ·
             simp only [Act.put, List.setIfInBounds_toArray, List.set_cons_zero, List.set_cons_succ, i64_w, i32_w]
             rfl
            refine pure_ (i := 9) (N := some 44) (v := ?_) (a' := ?_) #[true, false, true, true, false, true, false, true, false, true, false, false, false, false, false, false, false] rfl rfl (any_of HT_.out (by kernel_rfl)) (fun _ _ _ h => h) (Or.inl ⟨by rfl, ?_⟩) ?_ ?_
            rotate_left
            ·
             intro w'
             go_simp
             with_reducible rfl
            rotate_left
            ·
             simp only [Act.put, List.setIfInBounds_toArray, List.set_cons_zero, List.set_cons_succ, i64_w, i32_w]
             rfl
            refine take_ (i := 4) (N := some 39) (v := ?_) (a' := ?_) #[true, false, true, true, true, true, false, true, false, true, false, false, false, false, false, false, false] rfl rfl (take_ofW HT_.out HW_.out (by kernel_rfl)) (fun _ _ _ h => h) (Or.inl ⟨by rfl, ?_⟩) hHeld ?_ ?_
            rotate_left
            ·
             rintro w' ⟨s0, s1, s2, s3⟩
             go_simp
             with_reducible rfl
            rotate_left
            ·
             simp only [Act.put, List.setIfInBounds_toArray, List.set_cons_zero, List.set_cons_succ, i64_w, i32_w]
             rfl
            refine pure_ (i := 6) (N := some 41) (v := ?_) (a' := ?_) #[true, false, true, true, true, true, true, true, false, true, false, false, false, false, false, false, false] rfl rfl (any_of HT_.out (by kernel_rfl)) (fun _ _ _ h => h) (Or.inl ⟨by rfl, ?_⟩) ?_ ?_
            rotate_left
            ·
             intro w'
             go_simp
             with_reducible rfl
            rotate_left
            ·
             simp only [Act.put, List.setIfInBounds_toArray, List.set_cons_zero, List.set_cons_succ, i64_w, i32_w]
             rfl
            refine take_ (i := 8) (N := some 43) (v := ?_) (a' := ?_) #[true, false, true, true, true, true, true, true, true, true, false, false, false, false, false, false, false] rfl rfl (take_ofW HT_.out HW_.out (by kernel_rfl)) (fun _ _ _ h => h) (Or.inl ⟨by rfl, ?_⟩) hHeld ?_ ?_
            rotate_left
            ·
             rintro w' ⟨s0, s1, s2, s3⟩
             go_simp
             with_reducible rfl
            rotate_left
            ·
             simp only [Act.put, List.setIfInBounds_toArray, List.set_cons_zero, List.set_cons_succ, i64_w, i32_w]
             rfl
            refine take_ (i := 10) (N := some 45) (v := ?_) (a' := ?_) #[true, false, true, true, true, true, true, true, true, true, true, false, false, false, false, false, false] rfl rfl (take_ofW HT_.out HW_.out (by kernel_rfl)) (fun _ _ _ h => h) (Or.inl ⟨by rfl, ?_⟩) hHeld ?_ ?_
            rotate_left
            ·
             rintro w' ⟨s0, s1, s2, s3⟩
             go_simp
             with_reducible rfl
            rotate_left
            ·
             simp only [Act.put, List.setIfInBounds_toArray, List.set_cons_zero, List.set_cons_succ, i64_w, i32_w]
             rfl
            refine one_ (i := 1) (N := some 36) #[true, true, true, true, true, true, true, true, true, true, true, false, false, false, false, false, false] rfl rfl (one_of HT_.out (by kernel_rfl)) (by decide) (fun K hK => ?_)
            refine goes_ Tryd.func59 (by kernel_rfl) rfl #[.slice A0 l0.length c0] (by rfl) rfl rfl (by (try simp only [List.map_toArray, List.map_cons, List.map_nil]); first | done | rfl | (simp only [List.length_drop, List.length_take]; rfl)) ?_
            with_reducible refine (galleylaw07_own.calls _ _ l0 t872 _ ?side1 ?side2 A14.out).mono ?_
            (case side1 => repeat (first | exact (Kd.C_below HR0.out HB.out) | (with_reducible refine Kd.C_alloc ?_ _) | (with_reducible refine Kd.C_drewN ?_ _) | (with_reducible refine Kd.C_drew ?_)))
            (case side2 => exact HC0.out)
            rintro e w20 ⟨v873, rfl, ho0, hb⟩
            refine ⟨_, rfl, ?_⟩
            have n0_ := Aside0.mk (Kd.R_lower ho0 (below_size (by repeat (first | (with_reducible first | exact HB.out | apply below_alloc | apply pw_below_drewN | apply below_drew1 | refine below_set ?_ GE871.out) | exact HB.out))))
            have n1_ := Aside0.mk (blk_below (g := gb871) (o := .cells #[.int .i64 ((rd_T73 l1 x5_1).f0.f0), .int .i64 ((rd_T73 l1 x5_1).f0.f1), .int .i64 ((rd_T73 l1 x5_1).f1), .int .i64 ((rd_T73 l1 x5_1).f2)] 73 (0, 0)) (by (with_reducible repeat (first | refine blk_drewN ?_ _ | refine blk_drew ?_ | refine blk_alloc ?_ _)); exact BK871.out) hb)
            have n2_ := Aside0.mk (below_step (by repeat (first | (with_reducible first | exact HB.out | apply below_alloc | apply pw_below_drewN | apply below_drew1 | refine below_set ?_ GE871.out) | exact HB.out)) hb)
            clear BK871
            clear HB
            have HO874 := n0_
            have BK871 := n1_
            have HB := n2_
            clear n0_ n1_ n2_
            (try clear hb)
            (try clear hb2)
            (try clear hk)
            (try clear hi)
            (try clear ho0)
            obtain ⟨Ao21, co21, eo21⟩ := Kd.R_slice HO874.out
            (first | subst eo21 | (injection eo21 with f1_ f2_ f3_; have f4_ := f1_.symm; have f5_ := f3_.symm; clear f1_ f2_ f3_; subst f4_; subst f5_))
            refine hK.out _ _ ⟨(blk_cell BK871.out 0).trans rfl, (blk_cell BK871.out 1).trans rfl, (blk_cell BK871.out 2).trans rfl, (blk_cell BK871.out 3).trans rfl⟩ (fun hHeld => ?_)
            clear hK K
            refine norm_ (a' := ?_) ?_ ?_
            rotate_left
            ·
             show Act.put _ (some 36) _ = _
             simp only [Act.put, List.setIfInBounds_toArray, List.set_cons_zero, List.set_cons_succ, i64_w, i32_w]
             rfl
            refine one_ (i := 11) (N := some 46) #[true, true, true, true, true, true, true, true, true, true, true, true, false, false, false, false, false] rfl rfl (one_of HT_.out (by kernel_rfl)) (by decide) (fun K hK => ?_)
            refine goes_ Tryd.func58 (by kernel_rfl) rfl #[.slice Ao21 t872.length co21, .agg #[.int .i64 ((rd_T73 l1 x5_1).f0.f0), .int .i64 x7_2], .int .i64 ((rd_T73 l1 x5_1).f1), .int .i64 ((rd_T73 l1 x5_1).f2)] (by rfl) rfl rfl (by (try simp only [List.map_toArray, List.map_cons, List.map_nil]); first | done | rfl | (simp only [List.length_drop, List.length_take]; rfl)) ?_
            with_reducible refine (lines_At.calls k2 _ _ t872 ((rd_T73 l1 x5_1).f0.f0) x7_2 ((rd_T73 l1 x5_1).f1) ((rd_T73 l1 x5_1).f2) t875 t876 _ ?side1 ?side2 ?side3 A15.out).mono ?_
            (case side1 => repeat (first | exact (Kd.R_reads' HO874.out).2.2 | (with_reducible refine Kd.C_alloc ?_ _) | (with_reducible refine Kd.C_drewN ?_ _) | (with_reducible refine Kd.C_drew ?_)))
            (case side2 => exact (Kd.R_reads' HO874.out).2.1)
            (case side3 => repeat (first | exact HG.out | exact Laid.below HG.out HB.out | (with_reducible refine Laid.alloc ?_ _) | (with_reducible refine Laid.drewN ?_ _) | (with_reducible refine Laid.drew ?_)))
            rintro e w22 ⟨rfl, hb⟩
            refine ⟨_, rfl, ?_⟩
            have n0_ := Aside0.mk (Kd.R_below (by (with_reducible repeat (first | apply Kd.R_alloc | apply Kd.R_drewN | apply Kd.R_drew)); exact HO874.out) hb)
            have n1_ := Aside0.mk (blk_below (g := gb871) (o := .cells #[.int .i64 ((rd_T73 l1 x5_1).f0.f0), .int .i64 ((rd_T73 l1 x5_1).f0.f1), .int .i64 ((rd_T73 l1 x5_1).f1), .int .i64 ((rd_T73 l1 x5_1).f2)] 73 (0, 0)) (by (with_reducible repeat (first | refine blk_drewN ?_ _ | refine blk_drew ?_ | refine blk_alloc ?_ _)); exact BK871.out) hb)
            have n2_ := Aside0.mk (below_step (by repeat (first | (with_reducible first | exact HB.out | apply below_alloc | apply pw_below_drewN | apply below_drew1 | refine below_set ?_ GE871.out) | exact HB.out)) hb)
            clear HO874
            clear BK871
            clear HB
            have HO874 := n0_
            have BK871 := n1_
            have HB := n2_
            clear n0_ n1_ n2_
            (try clear hb)
            (try clear hb2)
            (try clear hk)
            (try clear hi)
            refine hK.out _ _ ⟨(blk_cell BK871.out 0).trans rfl, (blk_cell BK871.out 1).trans rfl, (blk_cell BK871.out 2).trans rfl, (blk_cell BK871.out 3).trans rfl⟩ (fun hHeld => ?_)
            clear hK K
            refine norm_ (a' := ?_) ?_ ?_
            rotate_left
            ·
             show Act.put _ (some 46) _ = _
             simp only [Act.put, List.setIfInBounds_toArray, List.set_cons_zero, List.set_cons_succ, i64_w, i32_w]
             rfl
            refine pure_ (i := 12) (N := some 34) (v := ?_) (a' := ?_) #[true, true, true, true, true, true, true, true, true, true, true, true, true, false, false, false, false] rfl rfl (any_of HT_.out (by kernel_rfl)) (fun _ _ _ h => h) (Or.inl ⟨by rfl, ?_⟩) ?_ ?_
            rotate_left
            ·
             intro w'
             go_simp
             with_reducible rfl
            rotate_left
            ·
             simp only [Act.put, List.setIfInBounds_toArray, List.set_cons_zero, List.set_cons_succ, i64_w, i32_w]
             rfl
            refine pure_ (i := 13) (N := some 47) (v := ?_) (a' := ?_) #[true, true, true, true, true, true, true, true, true, true, true, true, true, true, false, false, false] rfl rfl (any_of HT_.out (by kernel_rfl)) (fun _ _ _ h => h) (Or.inl ⟨by rfl, ?_⟩) ?_ ?_
            rotate_left
            ·
             intro w'
             go_simp
             with_reducible rfl
            rotate_left
            ·
             simp only [Act.put, List.setIfInBounds_toArray, List.set_cons_zero, List.set_cons_succ, i64_w, i32_w]
             rfl
            refine pure_ (i := 14) (N := some 48) (v := ?_) (a' := ?_) #[true, true, true, true, true, true, true, true, true, true, true, true, true, true, true, false, false] rfl rfl (any_of HT_.out (by kernel_rfl)) (fun _ _ _ h => h) (Or.inl ⟨by rfl, ?_⟩) ?_ ?_
            rotate_left
            ·
             intro w'
             go_simp
             with_reducible rfl
            rotate_left
            ·
             simp only [Act.put, List.setIfInBounds_toArray, List.set_cons_zero, List.set_cons_succ, i64_w, i32_w]
             rfl
            refine pure_ (i := 15) (N := some 8) (v := ?_) (a' := ?_) #[true, true, true, true, true, true, true, true, true, true, true, true, true, true, true, true, false] rfl rfl (any_of HT_.out (by kernel_rfl)) (fun _ _ _ h => h) (Or.inl ⟨by rfl, ?_⟩) ?_ ?_
            rotate_left
            ·
             intro w'
             go_simp
             with_reducible rfl
            rotate_left
            ·
             simp only [Act.put, List.setIfInBounds_toArray, List.set_cons_zero, List.set_cons_succ, i64_w, i32_w]
             rfl
            refine pure_ (i := 16) (N := some 9) (v := ?_) (a' := ?_) #[true, true, true, true, true, true, true, true, true, true, true, true, true, true, true, true, true] rfl rfl (any_of HT_.out (by kernel_rfl)) (fun _ _ _ h => h) (Or.inl ⟨by rfl, ?_⟩) ?_ ?_
            rotate_left
            ·
             intro w'
             go_simp
             with_reducible rfl
            rotate_left
            ·
             simp only [Act.put, List.setIfInBounds_toArray, List.set_cons_zero, List.set_cons_succ, i64_w, i32_w]
             rfl
            refine done_ (done_of HT_.out (by kernel_rfl)) ?_
            have hcz23_0 : w22.cell? ⟨gb871, 0, none⟩ = some (.int .i64 ((rd_T73 l1 x5_1).f0.f0)) := (blk_cell BK871.out 0).trans rfl
            have hcz23_1 : w22.cell? ⟨gb871, 1, none⟩ = some (.int .i64 ((rd_T73 l1 x5_1).f0.f1)) := (blk_cell BK871.out 1).trans rfl
            have hcz23_2 : w22.cell? ⟨gb871, 2, none⟩ = some (.int .i64 ((rd_T73 l1 x5_1).f1)) := (blk_cell BK871.out 2).trans rfl
            have hcz23_3 : w22.cell? ⟨gb871, 3, none⟩ = some (.int .i64 ((rd_T73 l1 x5_1).f2)) := (blk_cell BK871.out 3).trans rfl
            have hfz23_0 := blk_frozen BK871.out 0
            have hfz23_1 := blk_frozen BK871.out 1
            have hfz23_2 := blk_frozen BK871.out 2
            have hfz23_3 := blk_frozen BK871.out 3
            try go_wp2_with (first | ((with_reducible refine gate_callee (f := 60) rfl ?_); refine goesL_ (some 60) rfl rfl Tryd.func60 (by kernel_rfl) rfl #[.slice A0 l0.length c0, .agg #[.int .i64 ((rd_T73 l1 x5_1).f0.f0), .int .i64 x7_2], .int .i64 ((rd_T73 l1 x5_1).f1), .int .i64 ((rd_T73 l1 x5_1).f2)] rfl (by (try simp only [List.map_toArray, List.map_cons, List.map_nil]); first | done | rfl | (simp only [List.length_drop, List.length_take]; rfl)) ?_; (with_reducible refine (galleyref07_At.calls k2 _ _ l0 ((rd_T73 l1 x5_1).f0.f0) x7_2 ((rd_T73 l1 x5_1).f1) ((rd_T73 l1 x5_1).f2) t877 t878 _ ?side1 ?side2 A16.out).mono ?_); (case side1 => repeat (first | exact (Kd.C_below HR0.out HB.out) | (with_reducible refine Kd.C_alloc ?_ _) | (with_reducible refine Kd.C_drewN ?_ _) | (with_reducible refine Kd.C_drew ?_))); (case side2 => exact HC0.out); rintro e w24 ⟨rfl, hb⟩; refine ⟨_, rfl, ?_⟩; have n0_ := Aside0.mk (Kd.R_below (by (with_reducible repeat (first | apply Kd.R_alloc | apply Kd.R_drewN | apply Kd.R_drew)); exact HO874.out) hb); have n1_ := Aside0.mk (blk_below (g := gb871) (o := .cells #[.int .i64 ((rd_T73 l1 x5_1).f0.f0), .int .i64 ((rd_T73 l1 x5_1).f0.f1), .int .i64 ((rd_T73 l1 x5_1).f1), .int .i64 ((rd_T73 l1 x5_1).f2)] 73 (0, 0)) (by (with_reducible repeat (first | refine blk_drewN ?_ _ | refine blk_drew ?_ | refine blk_alloc ?_ _)); exact BK871.out) hb); have n2_ := Aside0.mk (below_step (by repeat (first | (with_reducible first | exact HB.out | apply below_alloc | apply pw_below_drewN | apply below_drew1 | refine below_set ?_ GE871.out) | exact HB.out)) hb); clear HO874; clear BK871; clear HB; have HO874 := n0_; have BK871 := n1_; have HB := n2_; clear n0_ n1_ n2_; (try clear hb); (try clear hb2); (try clear hk); (try clear hi)))
            go_roundg k2
            case measure => have := HK1.out; have := HK2.out; omega
            case rel => exact ⟨(wrap64 (x7_2 + 1)), (by first | rfl | (simp; done) | (simp [*]; done)), H', ⟨by have := HK1.out; have := HK2.out; omega⟩, ⟨by (with_reducible repeat (first | refine blk_drewN ?_ _ | refine blk_drew ?_ | refine blk_alloc ?_ _)); exact BK871.out⟩, ⟨by repeat (first | (with_reducible first | exact HB.out | apply below_alloc | apply pw_below_drewN | apply below_drew1 | refine below_set ?_ GE871.out) | exact HB.out)⟩⟩
           ·
            rw [if_neg c18] at H
            exact absurd H (by simp)
          ·
           rw [if_neg c17] at H
           exact absurd H (by simp)
         ·
          rw [if_neg c13] at H
          have c13b0 : decide (x7_2 < 12) = false := decide_eq_false c13
          clear c13
          replace H := Option.bind_eq_some_iff.mp H
          obtain ⟨t879, A370, H⟩ := H
          replace H : ((lines_At.f k2 t879 ((rd_T73 l1 x5_1).f0.f0) ((rd_T73 l1 x5_1).f0.f1) ((rd_T73 l1 x5_1).f1) ((rd_T73 l1 x5_1).f2)).bind fun bt882 => ((galleyref07_At.f k2 l0 ((rd_T73 l1 x5_1).f0.f0) ((rd_T73 l1 x5_1).f0.f1) ((rd_T73 l1 x5_1).f1) ((rd_T73 l1 x5_1).f2)).bind fun bt884 => (if bt882.1 = bt884.1 then (if bt882.2 = bt884.2 then (la.l0 k2 l0 l1 (wrap64 (x5_1 + 1))) else (some false)) else (some false)))) = some true := H
          have A37 := Aside0.mk A370
          clear A370
          replace H := Option.bind_eq_some_iff.mp H
          obtain ⟨⟨t882, t883⟩, A380, H⟩ := H
          replace H : ((galleyref07_At.f k2 l0 ((rd_T73 l1 x5_1).f0.f0) ((rd_T73 l1 x5_1).f0.f1) ((rd_T73 l1 x5_1).f1) ((rd_T73 l1 x5_1).f2)).bind fun bt884 => (if t882 = bt884.1 then (if t883 = bt884.2 then (la.l0 k2 l0 l1 (wrap64 (x5_1 + 1))) else (some false)) else (some false))) = some true := H
          have A38 := Aside0.mk A380
          clear A380
          replace H := Option.bind_eq_some_iff.mp H
          obtain ⟨⟨t884, t885⟩, A390, H⟩ := H
          replace H : (if t882 = t884 then (if t883 = t885 then (la.l0 k2 l0 l1 (wrap64 (x5_1 + 1))) else (some false)) else (some false)) = some true := H
          have A39 := Aside0.mk A390
          clear A390
          by_cases c40 : t882 = t884
          ·
           rw [if_pos c40] at H
           have c40b0 : (t882 == t884) = true := beq_iff_eq.mpr c40
           have c40b1 : (t882 != t884) = false := bne_eq_false_iff_eq.mpr c40
           clear c40
           by_cases c41 : t883 = t885
           ·
            rw [if_pos c41] at H
            have c41b0 : (t883 == t885) = true := beq_iff_eq.mpr c41
            have c41b1 : (t883 != t885) = false := bne_eq_false_iff_eq.mpr c41
            clear c41
            have H' := Aside0.mk H
            clear H
            try go_wp2
            have n0_ := Aside0.mk (blk_drew BK871.out)
            have n1_ := Aside0.mk (below_drew1 HB.out)
            clear BK871
            clear HB
            have BK871 := n0_
            have HB := n1_
            clear n0_ n1_
            refine start_ (n := 14) (S := fun w' => w'.cell? ⟨gb871, 0, none⟩ = some (.int .i64 ((rd_T73 l1 x5_1).f0.f0)) ∧ w'.cell? ⟨gb871, 1, none⟩ = some (.int .i64 ((rd_T73 l1 x5_1).f0.f1)) ∧ w'.cell? ⟨gb871, 2, none⟩ = some (.int .i64 ((rd_T73 l1 x5_1).f1)) ∧ w'.cell? ⟨gb871, 3, none⟩ = some (.int .i64 ((rd_T73 l1 x5_1).f2))) (ds := []) #[false, false, false, false, false, false, false, false, false, false, false, false, false, false] (by kernel_rfl) rfl rfl ⟨(blk_cell BK871.out 0).trans rfl, (blk_cell BK871.out 1).trans rfl, (blk_cell BK871.out 2).trans rfl, (blk_cell BK871.out 3).trans rfl⟩ (fun hHeld => ?_); refine with_tabW la.tab16 la.bits16 (fun HT_ HW_ => ?_)
            generalize wr.drew = w42 at BK871 HB hHeld ⊢
            refine pure_ (i := 0) (N := some 72) (v := ?_) (a' := ?_) #[true, false, false, false, false, false, false, false, false, false, false, false, false, false] rfl rfl (any_of HT_.out (by kernel_rfl)) (fun _ _ _ h => h) (Or.inl ⟨by rfl, ?_⟩) ?_ ?_
            rotate_left
            ·
             intro w'
             go_simp
             with_reducible rfl
            rotate_left
            ·
             simp only [Act.put, List.setIfInBounds_toArray, List.set_cons_zero, List.set_cons_succ, i64_w, i32_w]
             rfl
            refine pure_ (i := 2) (N := some 74) (v := ?_) (a' := ?_) #[true, false, true, false, false, false, false, false, false, false, false, false, false, false] rfl rfl (any_of HT_.out (by kernel_rfl)) (fun _ _ _ h => h) (Or.inl ⟨by rfl, ?_⟩) ?_ ?_
            rotate_left
            ·
             intro w'
             go_simp
             with_reducible rfl
            rotate_left
            ·
             simp only [Act.put, List.setIfInBounds_toArray, List.set_cons_zero, List.set_cons_succ, i64_w, i32_w]
             rfl
            refine pure_ (i := 4) (N := some 76) (v := ?_) (a' := ?_) #[true, false, true, false, true, false, false, false, false, false, false, false, false, false] rfl rfl (any_of HT_.out (by kernel_rfl)) (fun _ _ _ h => h) (Or.inl ⟨by rfl, ?_⟩) ?_ ?_
            rotate_left
            ·
             intro w'
             go_simp
             with_reducible rfl
            rotate_left
            ·
             simp only [Act.put, List.setIfInBounds_toArray, List.set_cons_zero, List.set_cons_succ, i64_w, i32_w]
             rfl
            refine pure_ (i := 6) (N := some 78) (v := ?_) (a' := ?_) #[true, false, true, false, true, false, true, false, false, false, false, false, false, false] rfl rfl (any_of HT_.out (by kernel_rfl)) (fun _ _ _ h => h) (Or.inl ⟨by rfl, ?_⟩) ?_ ?_
            rotate_left
            ·
             intro w'
             go_simp
             with_reducible rfl
            rotate_left
            ·
             simp only [Act.put, List.setIfInBounds_toArray, List.set_cons_zero, List.set_cons_succ, i64_w, i32_w]
             rfl
            refine take_ (i := 3) (N := some 75) (v := ?_) (a' := ?_) #[true, false, true, true, true, false, true, false, false, false, false, false, false, false] rfl rfl (take_ofW HT_.out HW_.out (by kernel_rfl)) (fun _ _ _ h => h) (Or.inl ⟨by rfl, ?_⟩) hHeld ?_ ?_
            rotate_left
            ·
             rintro w' ⟨s0, s1, s2, s3⟩
             go_simp
             with_reducible rfl
            rotate_left
            ·
             simp only [Act.put, List.setIfInBounds_toArray, List.set_cons_zero, List.set_cons_succ, i64_w, i32_w]
             rfl
            refine take_ (i := 5) (N := some 77) (v := ?_) (a' := ?_) #[true, false, true, true, true, true, true, false, false, false, false, false, false, false] rfl rfl (take_ofW HT_.out HW_.out (by kernel_rfl)) (fun _ _ _ h => h) (Or.inl ⟨by rfl, ?_⟩) hHeld ?_ ?_
            rotate_left
            ·
             rintro w' ⟨s0, s1, s2, s3⟩
             go_simp
             with_reducible rfl
            rotate_left
            ·
             simp only [Act.put, List.setIfInBounds_toArray, List.set_cons_zero, List.set_cons_succ, i64_w, i32_w]
             rfl
            refine take_ (i := 7) (N := some 79) (v := ?_) (a' := ?_) #[true, false, true, true, true, true, true, true, false, false, false, false, false, false] rfl rfl (take_ofW HT_.out HW_.out (by kernel_rfl)) (fun _ _ _ h => h) (Or.inl ⟨by rfl, ?_⟩) hHeld ?_ ?_
            rotate_left
            ·
             rintro w' ⟨s0, s1, s2, s3⟩
             go_simp
             with_reducible rfl
            rotate_left
            ·
             simp only [Act.put, List.setIfInBounds_toArray, List.set_cons_zero, List.set_cons_succ, i64_w, i32_w]
             rfl
            refine one_ (i := 1) (N := some 73) #[true, true, true, true, true, true, true, true, false, false, false, false, false, false] rfl rfl (one_of HT_.out (by kernel_rfl)) (by decide) (fun K hK => ?_)
            refine goes_ Tryd.func59 (by kernel_rfl) rfl #[.slice A0 l0.length c0] (by rfl) rfl rfl (by (try simp only [List.map_toArray, List.map_cons, List.map_nil]); first | done | rfl | (simp only [List.length_drop, List.length_take]; rfl)) ?_
            with_reducible refine (galleylaw07_own.calls _ _ l0 t879 _ ?side1 ?side2 A37.out).mono ?_
            (case side1 => repeat (first | exact (Kd.C_below HR0.out HB.out) | (with_reducible refine Kd.C_alloc ?_ _) | (with_reducible refine Kd.C_drewN ?_ _) | (with_reducible refine Kd.C_drew ?_)))
            (case side2 => exact HC0.out)
            rintro e w43 ⟨v880, rfl, ho0, hb⟩
            refine ⟨_, rfl, ?_⟩
            have n0_ := Aside0.mk (Kd.R_lower ho0 (below_size (by repeat (first | (with_reducible first | exact HB.out | apply below_alloc | apply pw_below_drewN | apply below_drew1 | refine below_set ?_ GE871.out) | exact HB.out))))
            have n1_ := Aside0.mk (blk_below (g := gb871) (o := .cells #[.int .i64 ((rd_T73 l1 x5_1).f0.f0), .int .i64 ((rd_T73 l1 x5_1).f0.f1), .int .i64 ((rd_T73 l1 x5_1).f1), .int .i64 ((rd_T73 l1 x5_1).f2)] 73 (0, 0)) (by (with_reducible repeat (first | refine blk_drewN ?_ _ | refine blk_drew ?_ | refine blk_alloc ?_ _)); exact BK871.out) hb)
            have n2_ := Aside0.mk (below_step (by repeat (first | (with_reducible first | exact HB.out | apply below_alloc | apply pw_below_drewN | apply below_drew1 | refine below_set ?_ GE871.out) | exact HB.out)) hb)
            clear BK871
            clear HB
            have HO881 := n0_
            have BK871 := n1_
            have HB := n2_
            clear n0_ n1_ n2_
            (try clear hb)
            (try clear hb2)
            (try clear hk)
            (try clear hi)
            (try clear ho0)
            obtain ⟨Ao44, co44, eo44⟩ := Kd.R_slice HO881.out
            (first | subst eo44 | (injection eo44 with f1_ f2_ f3_; have f4_ := f1_.symm; have f5_ := f3_.symm; clear f1_ f2_ f3_; subst f4_; subst f5_))
            refine hK.out _ _ ⟨(blk_cell BK871.out 0).trans rfl, (blk_cell BK871.out 1).trans rfl, (blk_cell BK871.out 2).trans rfl, (blk_cell BK871.out 3).trans rfl⟩ (fun hHeld => ?_)
            clear hK K
            refine norm_ (a' := ?_) ?_ ?_
            rotate_left
            ·
             show Act.put _ (some 73) _ = _
             simp only [Act.put, List.setIfInBounds_toArray, List.set_cons_zero, List.set_cons_succ, i64_w, i32_w]
             rfl
            refine one_ (i := 8) (N := some 80) #[true, true, true, true, true, true, true, true, true, false, false, false, false, false] rfl rfl (one_of HT_.out (by kernel_rfl)) (by decide) (fun K hK => ?_)
            refine goes_ Tryd.func58 (by kernel_rfl) rfl #[.slice Ao44 t879.length co44, .agg #[.int .i64 ((rd_T73 l1 x5_1).f0.f0), .int .i64 ((rd_T73 l1 x5_1).f0.f1)], .int .i64 ((rd_T73 l1 x5_1).f1), .int .i64 ((rd_T73 l1 x5_1).f2)] (by rfl) rfl rfl (by (try simp only [List.map_toArray, List.map_cons, List.map_nil]); first | done | rfl | (simp only [List.length_drop, List.length_take]; rfl)) ?_
            with_reducible refine (lines_At.calls k2 _ _ t879 ((rd_T73 l1 x5_1).f0.f0) ((rd_T73 l1 x5_1).f0.f1) ((rd_T73 l1 x5_1).f1) ((rd_T73 l1 x5_1).f2) t882 t883 _ ?side1 ?side2 ?side3 A38.out).mono ?_
            (case side1 => repeat (first | exact (Kd.R_reads' HO881.out).2.2 | (with_reducible refine Kd.C_alloc ?_ _) | (with_reducible refine Kd.C_drewN ?_ _) | (with_reducible refine Kd.C_drew ?_)))
            (case side2 => exact (Kd.R_reads' HO881.out).2.1)
            (case side3 => repeat (first | exact HG.out | exact Laid.below HG.out HB.out | (with_reducible refine Laid.alloc ?_ _) | (with_reducible refine Laid.drewN ?_ _) | (with_reducible refine Laid.drew ?_)))
            rintro e w45 ⟨rfl, hb⟩
            refine ⟨_, rfl, ?_⟩
            have n0_ := Aside0.mk (Kd.R_below (by (with_reducible repeat (first | apply Kd.R_alloc | apply Kd.R_drewN | apply Kd.R_drew)); exact HO881.out) hb)
            have n1_ := Aside0.mk (blk_below (g := gb871) (o := .cells #[.int .i64 ((rd_T73 l1 x5_1).f0.f0), .int .i64 ((rd_T73 l1 x5_1).f0.f1), .int .i64 ((rd_T73 l1 x5_1).f1), .int .i64 ((rd_T73 l1 x5_1).f2)] 73 (0, 0)) (by (with_reducible repeat (first | refine blk_drewN ?_ _ | refine blk_drew ?_ | refine blk_alloc ?_ _)); exact BK871.out) hb)
            have n2_ := Aside0.mk (below_step (by repeat (first | (with_reducible first | exact HB.out | apply below_alloc | apply pw_below_drewN | apply below_drew1 | refine below_set ?_ GE871.out) | exact HB.out)) hb)
            clear HO881
            clear BK871
            clear HB
            have HO881 := n0_
            have BK871 := n1_
            have HB := n2_
            clear n0_ n1_ n2_
            (try clear hb)
            (try clear hb2)
            (try clear hk)
            (try clear hi)
            refine hK.out _ _ ⟨(blk_cell BK871.out 0).trans rfl, (blk_cell BK871.out 1).trans rfl, (blk_cell BK871.out 2).trans rfl, (blk_cell BK871.out 3).trans rfl⟩ (fun hHeld => ?_)
            clear hK K
            refine norm_ (a' := ?_) ?_ ?_
            rotate_left
            ·
             show Act.put _ (some 80) _ = _
             simp only [Act.put, List.setIfInBounds_toArray, List.set_cons_zero, List.set_cons_succ, i64_w, i32_w]
             rfl
            refine pure_ (i := 9) (N := some 71) (v := ?_) (a' := ?_) #[true, true, true, true, true, true, true, true, true, true, false, false, false, false] rfl rfl (any_of HT_.out (by kernel_rfl)) (fun _ _ _ h => h) (Or.inl ⟨by rfl, ?_⟩) ?_ ?_
            rotate_left
            ·
             intro w'
             go_simp
             with_reducible rfl
            rotate_left
            ·
             simp only [Act.put, List.setIfInBounds_toArray, List.set_cons_zero, List.set_cons_succ, i64_w, i32_w]
             rfl
            refine pure_ (i := 10) (N := some 81) (v := ?_) (a' := ?_) #[true, true, true, true, true, true, true, true, true, true, true, false, false, false] rfl rfl (any_of HT_.out (by kernel_rfl)) (fun _ _ _ h => h) (Or.inl ⟨by rfl, ?_⟩) ?_ ?_
            rotate_left
            ·
             intro w'
             go_simp
             with_reducible rfl
            rotate_left
            ·
             simp only [Act.put, List.setIfInBounds_toArray, List.set_cons_zero, List.set_cons_succ, i64_w, i32_w]
             rfl
            refine pure_ (i := 11) (N := some 82) (v := ?_) (a' := ?_) #[true, true, true, true, true, true, true, true, true, true, true, true, false, false] rfl rfl (any_of HT_.out (by kernel_rfl)) (fun _ _ _ h => h) (Or.inl ⟨by rfl, ?_⟩) ?_ ?_
            rotate_left
            ·
             intro w'
             go_simp
             with_reducible rfl
            rotate_left
            ·
             simp only [Act.put, List.setIfInBounds_toArray, List.set_cons_zero, List.set_cons_succ, i64_w, i32_w]
             rfl
            refine pure_ (i := 12) (N := some 12) (v := ?_) (a' := ?_) #[true, true, true, true, true, true, true, true, true, true, true, true, true, false] rfl rfl (any_of HT_.out (by kernel_rfl)) (fun _ _ _ h => h) (Or.inl ⟨by rfl, ?_⟩) ?_ ?_
            rotate_left
            ·
             intro w'
             go_simp
             with_reducible rfl
            rotate_left
            ·
             simp only [Act.put, List.setIfInBounds_toArray, List.set_cons_zero, List.set_cons_succ, i64_w, i32_w]
             rfl
            refine pure_ (i := 13) (N := some 13) (v := ?_) (a' := ?_) #[true, true, true, true, true, true, true, true, true, true, true, true, true, true] rfl rfl (any_of HT_.out (by kernel_rfl)) (fun _ _ _ h => h) (Or.inl ⟨by rfl, ?_⟩) ?_ ?_
            rotate_left
            ·
             intro w'
             go_simp
             with_reducible rfl
            rotate_left
            ·
             simp only [Act.put, List.setIfInBounds_toArray, List.set_cons_zero, List.set_cons_succ, i64_w, i32_w]
             rfl
            refine done_ (done_of HT_.out (by kernel_rfl)) ?_
            have hcz46_0 : w45.cell? ⟨gb871, 0, none⟩ = some (.int .i64 ((rd_T73 l1 x5_1).f0.f0)) := (blk_cell BK871.out 0).trans rfl
            have hcz46_1 : w45.cell? ⟨gb871, 1, none⟩ = some (.int .i64 ((rd_T73 l1 x5_1).f0.f1)) := (blk_cell BK871.out 1).trans rfl
            have hcz46_2 : w45.cell? ⟨gb871, 2, none⟩ = some (.int .i64 ((rd_T73 l1 x5_1).f1)) := (blk_cell BK871.out 2).trans rfl
            have hcz46_3 : w45.cell? ⟨gb871, 3, none⟩ = some (.int .i64 ((rd_T73 l1 x5_1).f2)) := (blk_cell BK871.out 3).trans rfl
            have hfz46_0 := blk_frozen BK871.out 0
            have hfz46_1 := blk_frozen BK871.out 1
            have hfz46_2 := blk_frozen BK871.out 2
            have hfz46_3 := blk_frozen BK871.out 3
            try go_wp2_with (first | ((with_reducible refine gate_callee (f := 60) rfl ?_); refine goesL_ (some 91) rfl rfl Tryd.func60 (by kernel_rfl) rfl #[.slice A0 l0.length c0, .agg #[.int .i64 ((rd_T73 l1 x5_1).f0.f0), .int .i64 ((rd_T73 l1 x5_1).f0.f1)], .int .i64 ((rd_T73 l1 x5_1).f1), .int .i64 ((rd_T73 l1 x5_1).f2)] rfl (by (try simp only [List.map_toArray, List.map_cons, List.map_nil]); first | done | rfl | (simp only [List.length_drop, List.length_take]; rfl)) ?_; (with_reducible refine (galleyref07_At.calls k2 _ _ l0 ((rd_T73 l1 x5_1).f0.f0) ((rd_T73 l1 x5_1).f0.f1) ((rd_T73 l1 x5_1).f1) ((rd_T73 l1 x5_1).f2) t884 t885 _ ?side1 ?side2 A39.out).mono ?_); (case side1 => repeat (first | exact (Kd.C_below HR0.out HB.out) | (with_reducible refine Kd.C_alloc ?_ _) | (with_reducible refine Kd.C_drewN ?_ _) | (with_reducible refine Kd.C_drew ?_))); (case side2 => exact HC0.out); rintro e w47 ⟨rfl, hb⟩; refine ⟨_, rfl, ?_⟩; have n0_ := Aside0.mk (Kd.R_below (by (with_reducible repeat (first | apply Kd.R_alloc | apply Kd.R_drewN | apply Kd.R_drew)); exact HO881.out) hb); have n1_ := Aside0.mk (blk_below (g := gb871) (o := .cells #[.int .i64 ((rd_T73 l1 x5_1).f0.f0), .int .i64 ((rd_T73 l1 x5_1).f0.f1), .int .i64 ((rd_T73 l1 x5_1).f1), .int .i64 ((rd_T73 l1 x5_1).f2)] 73 (0, 0)) (by (with_reducible repeat (first | refine blk_drewN ?_ _ | refine blk_drew ?_ | refine blk_alloc ?_ _)); exact BK871.out) hb); have n2_ := Aside0.mk (below_step (by repeat (first | (with_reducible first | exact HB.out | apply below_alloc | apply pw_below_drewN | apply below_drew1 | refine below_set ?_ GE871.out) | exact HB.out)) hb); clear HO881; clear BK871; clear HB; have HO881 := n0_; have BK871 := n1_; have HB := n2_; clear n0_ n1_ n2_; (try clear hb); (try clear hb2); (try clear hk); (try clear hi)))
            go_roundg k2
            case measure => have := HK1.out; have := HK2.out; omega
            case rel => exact ⟨(wrap64 (x5_1 + 1)), (by first | rfl | (simp; done) | (simp [*]; done)), H', ⟨by have := HK1.out; have := HK2.out; omega⟩, ⟨by repeat (first | (with_reducible first | exact HB.out | apply below_alloc | apply pw_below_drewN | apply below_drew1 | refine below_set ?_ GE871.out) | exact HB.out)⟩⟩
           ·
            rw [if_neg c41] at H
            exact absurd H (by simp)
          ·
           rw [if_neg c40] at H
           exact absurd H (by simp)
      ·
       rw [if_neg c10] at H
       exact absurd H (by simp)
     ·
      rw [if_neg c9] at H
      have c9b0 : decide (x5_1 < (l1.length : Int)) = false := decide_eq_false c9
      clear c9
      skip
      go_wp2
      go_ret
      exact ⟨by first | rfl | (simp [errW_none, errW_some] <;> rfl) | (simp [*, errW_none, errW_some] <;> rfl), by repeat (first | (with_reducible first | exact HB.out | apply below_alloc | apply pw_below_drewN | apply below_drew1) | exact HB.out)⟩
 ·
  replace c4 := Bool.eq_false_iff.mpr c4
  subst c4
  have H1 : (some false) = some true := by rw [if_neg (show ¬ (false = true) by decide)] at H; exact H
  exact absurd H1 (by simp)
end Go.Proofs.YtbomhpfckplgaaaDoor.P
namespace Go.Proofs.YtbomhpfckplgaaaDoor.P
open Go Go.RowKit Go.Proofs.YtbomhpfckplgaaaDoorW.PrintWords Go.Proofs.YtbomhpfckplgaaaDoorW.PrintMore Utf
set_option linter.unusedVariables false
set_option linter.unusedSimpArgs false
theorem last_row (l : List Int) : ∀ x ∈ linesL l, x.f2 = if x.f3 - x.f1 = 2 then x.f1 + 1 else x.f1 := by
  have : ∀ (n : Nat) (i s : Int), ∀ x ∈ linesF l n i s, x.f2 = if x.f3 - x.f1 = 2 then x.f1 + 1 else x.f1 := by
    intro n
    induction n with
    | zero => intro i s x hx; simp [linesF] at hx
    | succ n ih =>
      intro i s x hx
      unfold linesF at hx
      split at hx
      · split at hx
        · rcases List.mem_cons.1 hx with rfl | hx
          · show i = if i + 1 - i = 2 then i + 1 else i
            rw [if_neg (by omega)]
          · exact ih _ _ x hx
        · split at hx
          · split at hx
            · rcases List.mem_cons.1 hx with rfl | hx
              · show i + 1 = if i + 2 - i = 2 then i + 1 else i
                rw [if_pos (by omega)]
              · exact ih _ _ x hx
            · rcases List.mem_cons.1 hx with rfl | hx
              · show i = if i + 1 - i = 2 then i + 1 else i
                rw [if_neg (by omega)]
              · exact ih _ _ x hx
          · exact ih _ _ x hx
      · rcases List.mem_cons.1 hx with rfl | hx
        · show (l.length : Int) = if (l.length : Int) - l.length = 2 then (l.length : Int) + 1 else l.length
          rw [if_neg (by omega)]
        · cases hx
  exact this _ _ _
def finD (m f1 lo hi : Int) : Int × Int := if hi < 0 then (if m = 3 then (0, 2) else (f1, 0)) else if m = 1 then (lo, 0) else if m = 2 then (hi, 0) else (0, 4)
def atD (a b c m f1 : Int) (col : Int → Int) : List Int → Int → Int → Int × Int
  | [], lo, hi => finD m f1 lo hi
  | e :: es, lo, hi => if e < a ∨ e > b then atD a b c m f1 col es lo hi else if col e = c then (e, 0) else if col e < c then atD a b c m f1 col es e hi else if hi < 0 then atD a b c m f1 col es lo e else atD a b c m f1 col es lo hi
def inR (a b e : Int) : Prop := a ≤ e ∧ e ≤ b
theorem atD_exact (a b c m f1 : Int) (col : Int → Int) (x : Int) (hx : inR a b x) (hc : col x = c) : ∀ (es : List Int) (lo hi : Int), x ∈ es → (∀ y ∈ es, inR a b y → col y = c → y = x) → atD a b c m f1 col es lo hi = (x, 0)
  | [], _, _, h, _ => by cases h
  | e :: es, lo, hi, h, hu => by
    have ih := fun lo hi h => atD_exact a b c m f1 col x hx hc es lo hi h (fun y hy => hu y (List.mem_cons_of_mem _ hy))
    unfold inR at *
    unfold atD
    by_cases c0 : e < a ∨ e > b
    · rw [if_pos c0]
      refine ih _ _ ?_
      rcases List.mem_cons.1 h with rfl | h
      · omega
      · exact h
    rw [if_neg c0]
    by_cases c1 : col e = c
    · rw [if_pos c1, hu e List.mem_cons_self (by omega) c1]
    rw [if_neg c1]
    have h : x ∈ es := by
      rcases List.mem_cons.1 h with rfl | h
      · exact absurd hc c1
      · exact h
    by_cases c2 : col e < c
    · rw [if_pos c2]
      exact ih _ _ h
    · rw [if_neg c2]
      by_cases c3 : hi < 0
      · rw [if_pos c3]
        exact ih _ _ h
      · rw [if_neg c3]
        exact ih _ _ h
theorem atD_above (a b c m f1 : Int) (col : Int → Int) : ∀ (es : List Int) (lo hi : Int), 0 ≤ hi → (∀ y ∈ es, inR a b y → c < col y) → atD a b c m f1 col es lo hi = finD m f1 lo hi
  | [], _, _, _, _ => rfl
  | e :: es, lo, hi, h, hu => by
    have ih := atD_above a b c m f1 col es lo hi h (fun y hy => hu y (List.mem_cons_of_mem _ hy))
    unfold inR at *
    unfold atD
    by_cases c0 : e < a ∨ e > b
    · rw [if_pos c0, ih]
    have := hu e List.mem_cons_self (by omega)
    rw [if_neg c0, if_neg (by omega), if_neg (by omega), if_neg (by omega), ih]
theorem atD_two (a b c m f1 : Int) (col : Int → Int) (y1 : Int) (h0 : 0 ≤ y1) (h1 : inR a b y1) : ∀ (es : List Int) (lo : Int), es.Pairwise (· < ·) → y1 ∈ es → (∀ y ∈ es, inR a b y → y1 ≤ y ∧ c < col y) → atD a b c m f1 col es lo (-1) = finD m f1 lo y1
  | [], _, _, h, _ => by cases h
  | e :: es, lo, hp, h, hu => by
    have ih := fun h => atD_two a b c m f1 col y1 h0 h1 es lo (List.pairwise_cons.1 hp).2 h (fun y hy => hu y (List.mem_cons_of_mem _ hy))
    unfold atD
    by_cases c0 : e < a ∨ e > b
    · rw [if_pos c0]
      refine ih ?_
      rcases List.mem_cons.1 h with rfl | h
      · unfold inR at h1
        omega
      · exact h
    have he := hu e List.mem_cons_self (by unfold inR; omega)
    rw [if_neg c0, if_neg (by omega), if_neg (by omega), if_pos (by omega)]
    have : e = y1 := by
      rcases List.mem_cons.1 h with h | h
      · exact h.symm
      · have := (List.pairwise_cons.1 hp).1 y1 h
        omega
    subst this
    exact atD_above a b c m f1 col es lo e h0 (fun y hy hr => (hu y (List.mem_cons_of_mem _ hy) hr).2)
theorem atD_both (a b c m f1 : Int) (col : Int → Int) (y0 y1 : Int) (h0 : 0 ≤ y1) (hr0 : inR a b y0) (h1 : inR a b y1) (h01 : y0 < y1) (hc0 : col y0 < c) : ∀ (es : List Int) (lo : Int), es.Pairwise (· < ·) → y0 ∈ es → y1 ∈ es → (∀ y ∈ es, inR a b y → (y ≤ y0 ∧ col y < c) ∨ (y1 ≤ y ∧ c < col y)) → atD a b c m f1 col es lo (-1) = finD m f1 y0 y1
  | [], _, _, h, _, _ => by cases h
  | e :: es, lo, hp, h, h', hu => by
    have ih := fun lo h h' => atD_both a b c m f1 col y0 y1 h0 hr0 h1 h01 hc0 es lo (List.pairwise_cons.1 hp).2 h h' (fun y hy => hu y (List.mem_cons_of_mem _ hy))
    have hlt := (List.pairwise_cons.1 hp).1
    unfold atD
    by_cases c0 : e < a ∨ e > b
    · rw [if_pos c0]
      refine ih _ ?_ ?_
      · rcases List.mem_cons.1 h with rfl | h
        · unfold inR at hr0
          omega
        · exact h
      · rcases List.mem_cons.1 h' with rfl | h
        · unfold inR at h1
          omega
        · exact h
    rw [if_neg c0]
    by_cases c1 : e = y0
    · subst c1
      rw [if_neg (by omega), if_pos hc0]
      refine atD_two a b c m f1 col y1 h0 h1 es e (List.pairwise_cons.1 hp).2 ?_ (fun y hy hr => ?_)
      · rcases List.mem_cons.1 h' with rfl | h
        · omega
        · exact h
      · have := hlt y hy
        rcases hu y (List.mem_cons_of_mem _ hy) hr with x | x
        · omega
        · exact x
    · have h : y0 ∈ es := by
        rcases List.mem_cons.1 h with rfl | h
        · exact absurd rfl c1
        · exact h
      have := hlt y0 h
      have h' : y1 ∈ es := by
        rcases List.mem_cons.1 h' with rfl | h'
        · omega
        · exact h'
      have he : col e < c := by
        rcases hu e List.mem_cons_self (by unfold inR; omega) with x | x
        · exact x.2
        · omega
      rw [if_neg (by omega), if_pos he]
      exact ih _ h h'
theorem atD_below (a b c m f1 : Int) (col : Int → Int) : ∀ (es : List Int) (lo : Int), (∀ y ∈ es, inR a b y → col y < c) → atD a b c m f1 col es lo (-1) = if m = 3 then (0, 2) else (f1, 0)
  | [], _, _ => rfl
  | e :: es, lo, hu => by
    have ih := fun lo => atD_below a b c m f1 col es lo (fun y hy => hu y (List.mem_cons_of_mem _ hy))
    unfold atD
    by_cases c0 : e < a ∨ e > b
    · rw [if_pos c0, ih]
    have := hu e List.mem_cons_self (by unfold inR; omega)
    rw [if_neg c0, if_neg (by omega), if_pos this, ih]
def colD (l : List Int) (f0 : Int) (r : Nat) (e : Int) : Int := lastT ((l.take e.toNat).drop f0.toNat) r
theorem at7_loop {l : List Int} (hl : Bytes l) (hs : Small l) (r : Nat) (r1 : 1 ≤ r) (r3 : r ≤ 3) (m c s f0 f1 f2 f3 : Int) (hlast : galleyref07_Last.f f0 f1 f3 = some f2) (h0 : 0 ≤ f0) (E : List Int) (hE : ∀ e ∈ E, e ≤ (l.length : Int)) (hL : E.length < 4611686018427387904) :
    ∀ (d i : Nat) (lo hi : Int), E.length - i ≤ d → i ≤ E.length → Ev (fun k => galleyref07_At.l0 k l (r : Int) m lo hi E (i : Int) s c f0 f1 f3) (atD f0 f2 c m f1 (colD l f0 r) (E.drop i) lo hi)
  | d, i, lo, hi, hd, hi' => by
    by_cases g : i < E.length
    rotate_left
    · have : E.drop i = [] := List.drop_eq_nil_of_le (by omega)
      rw [this]
      have fin : ∀ b : Bool, (b = true ↔ hi < 0 ∧ m = 3) → Ev (fun k => galleyref07_At.j4 k m lo hi b f0 f1 f3) (finD m f1 lo hi) := by
        intro b hb
        refine Ev.step (G := fun _ => some (finD m f1 lo hi)) (fun k => ?_) (Ev.pure _)
        simp only [galleyref07_At.j4, finD]
        cases b with
        | true =>
          have := hb.1 rfl
          rw [if_pos rfl, if_pos this.1, if_pos this.2]
        | false =>
          rw [if_neg (by simp)]
          by_cases c1 : hi < 0
          · rw [if_pos c1, if_pos c1, if_neg (fun h => by have := hb.2 ⟨c1, h⟩; cases this)]
          · rw [if_neg c1, if_neg c1]
            by_cases c2 : m = 1
            · rw [if_pos c2, if_pos c2]
            · rw [if_neg c2, if_neg c2]
              by_cases c3 : m = 2
              · rw [if_pos c3, if_pos c3]
              · rw [if_neg c3, if_neg c3]
      by_cases c1 : hi < 0
      · refine Ev.step (fun k => ?_) (fin (m == 3) ?_)
        · conv => lhs; unfold galleyref07_At.l0
          rw [if_neg (by omega), if_pos c1]
        · simp [c1]
      · refine Ev.step (fun k => ?_) (fin false ?_)
        · conv => lhs; unfold galleyref07_At.l0
          rw [if_neg (by omega), if_neg c1]
        · simp [c1]
    obtain ⟨d, rfl⟩ : ∃ d', d = d' + 1 := ⟨d - 1, by omega⟩
    have ih := fun lo hi => at7_loop hl hs r r1 r3 m c s f0 f1 f2 f3 hlast h0 E hE hL d (i + 1) lo hi (by omega) (by omega)
    have e1 : wrap64 ((i : Int) + 1) = ((i + 1 : Nat) : Int) := by rw [w64 (n := (i : Int) + 1) (by omega) (by omega)]; rfl
    have erd := rd_nat E i g
    rw [List.drop_eq_getElem_cons g]
    unfold atD
    have skip : (E[i] < f0 ∨ E[i] > f2) → Ev (fun k => galleyref07_At.j3 k l (r : Int) m lo hi E (i : Int) true s c f0 f1 f3) (atD f0 f2 c m f1 (colD l f0 r) (E.drop (i + 1)) lo hi) := fun hh => by
      refine Ev.step (fun k => ?_) (ih lo hi)
      conv => lhs; unfold galleyref07_At.j3
      rw [if_pos rfl, e1]
    by_cases c0 : E[i] < f0
    · rw [if_pos (.inl c0)]
      refine Ev.step (fun k => ?_) (skip (.inl c0))
      conv => lhs; unfold galleyref07_At.l0
      rw [if_pos (by omega), if_pos (by omega), erd, if_pos c0]
    by_cases c1 : E[i] > f2
    · rw [if_pos (.inr c1)]
      refine Ev.step (fun k => ?_) (skip (.inr c1))
      conv => lhs; unfold galleyref07_At.l0
      rw [if_pos (by omega), if_pos (by omega), erd, if_neg c0, hlast, Option.bind_some, decide_eq_true c1]
    rw [if_neg (by omega)]
    refine Ev.step (G := fun k => galleyref07_At.j3 k l (r : Int) m lo hi E (i : Int) false s c f0 f1 f3) (fun k => ?_) ?_
    · conv => lhs; unfold galleyref07_At.l0
      rw [if_pos (by omega), if_pos (by omega), erd, if_neg c0, hlast, Option.bind_some, decide_eq_false c1]
    have hel := hE E[i] (List.getElem_mem g)
    have z := ev_size7 ((hl.take E[i].toNat).drop f0.toNat) (small_drop (small_take hs _) _) r r1 r3
    refine Ev.step (fun k => ?_) (Ev.bind (G := fun k t863 => if t863 = c then some (E[i], 0) else (if t863 < c then galleyref07_At.l0 k l (r : Int) m E[i] hi E ((i + 1 : Nat) : Int) s c f0 f1 f3 else if hi < 0 then galleyref07_At.l0 k l (r : Int) m lo E[i] E ((i + 1 : Nat) : Int) s c f0 f1 f3 else galleyref07_At.l0 k l (r : Int) m lo hi E ((i + 1 : Nat) : Int) s c f0 f1 f3)) z ?_)
    · conv => lhs; unfold galleyref07_At.j3
      rw [if_neg (by simp), if_pos (by omega), if_pos (by omega), erd, if_pos h0, if_pos (by omega), if_pos hel, e1]
      refine Option.bind_congr (fun t ht => ?_)
      by_cases d1 : t = c
      · rw [if_pos d1, if_pos d1]
      · rw [if_neg d1, if_neg d1]
        by_cases d2 : t < c
        · rw [if_pos d2, if_pos d2, if_neg (by omega)]
        · rw [if_neg d2, if_neg d2, if_pos (by omega)]
    show Ev _ _
    change Ev (fun k => if colD l f0 r E[i] = c then _ else _) _
    by_cases d1 : colD l f0 r E[i] = c
    · rw [if_pos d1]
      exact Ev.ite_pos d1 (Ev.pure _)
    · rw [if_neg d1]
      refine Ev.ite_neg d1 ?_
      by_cases d2 : colD l f0 r E[i] < c
      · rw [if_pos d2]
        exact Ev.ite_pos d2 (ih _ _)
      · rw [if_neg d2]
        refine Ev.ite_neg d2 ?_
        by_cases d3 : hi < 0
        · rw [if_pos d3]
          exact Ev.ite_pos d3 (ih _ _)
        · rw [if_neg d3]
          exact Ev.ite_neg d3 (ih _ _)
theorem atD_is {l : List Int} (hl : Bytes l) (hs : Small l) (s : Nat) (h : s < (linesL l).length) (c m : Int) (hc : 0 ≤ c) (hm : 1 ≤ m ∧ m ≤ 3) (n : Nat) (n1 : 1 ≤ n) (n3 : n ≤ 3) :
    atD (rd_T144 (linesL l) s).f0 (rd_T144 (linesL l) s).f2 c m (rd_T144 (linesL l) s).f1 (colD l (rd_T144 (linesL l) s).f0 n) (placesL l) (-1) (-1) = atP l s c n m := by
  have ho := line_order l s h
  have hlen := lineT_length l s
  have hs' := hs
  unfold Small at hs'
  have bT := lineT_bytes hl s
  have wT : Wide (lineT l s) := by unfold Wide; omega
  obtain ⟨a, ha⟩ : ∃ a : Nat, (rd_T144 (linesL l) s).f0 = a := ⟨_, (Int.toNat_of_nonneg ho.1).symm⟩
  obtain ⟨z, hz⟩ : ∃ z : Nat, (rd_T144 (linesL l) s).f2 = z := ⟨_, (Int.toNat_of_nonneg (by omega)).symm⟩
  have hT : lineT l s = (l.take z).drop a := by
    unfold lineT
    rw [ha, hz, Int.toNat_natCast, Int.toNat_natCast]
  have hd : (lineT l s).length = z - a := by
    rw [hT, List.length_drop, List.length_take]
    omega
  have htab : tabL l 1 = placesL l := tab_bytes hl hs.wide
  have hris : (placesL l).Pairwise (· < ·) := htab ▸ (tab_rises hl hs.wide 1 (by omega) (by omega)).1
  -- each edge of the line, by its number
  have fwd : ∀ y ∈ placesL l, inR (a : Int) z y → ∃ j, ∃ hj : j < (edgesL (lineT l s)).length, y = a + pickE (edgesL (lineT l s))[j] 1 ∧ colD l a n y = pickE (edgesL (lineT l s))[j] n := by
    intro y hy hr
    unfold inR at hr
    obtain ⟨e, rfl, he, hi⟩ := byte_edge hl hs.wide (y := y) (by rw [htab]; exact hy)
    obtain ⟨q, rfl⟩ : ∃ q, e = a + q := ⟨e - a, by omega⟩
    have hin : inside (lineT l s) q = false := by
      rw [hT]
      exact edge_drop (edge_take hi)
    obtain ⟨j, hj, hp⟩ := tab_cut bT q (by omega) hin
    have e1 := hp 1 (by omega) (by omega)
    rw [last_bytes (bT.take q) (wT.take q), List.length_take, Nat.min_eq_left (by omega)] at e1
    refine ⟨j, hj, by omega, ?_⟩
    rw [hp n n1 n3]
    unfold colD
    rw [Int.toNat_natCast, Int.toNat_natCast, hT, List.take_drop, List.take_take, Nat.min_eq_left (by omega)]
  have bwd : ∀ j (hj : j < (edgesL (lineT l s)).length), ((a : Int) + pickE (edgesL (lineT l s))[j] 1) ∈ placesL l ∧ inR (a : Int) z (a + pickE (edgesL (lineT l s))[j] 1) ∧ colD l a n (a + pickE (edgesL (lineT l s))[j] 1) = pickE (edgesL (lineT l s))[j] n := by
    intro j hj
    obtain ⟨q, h1, h2, h3, h4⟩ := place_where hl hs s h j hj
    rw [ha] at h1 h2
    rw [hz] at h3
    have hm : ((q : Nat) : Int) ∈ placesL l := by
      obtain ⟨i, hi, hp⟩ := tab_cut hl q (by omega) h4
      have e1 := hp 1 (by omega) (by omega)
      rw [last_bytes (hl.take q) (hs.wide.take q), List.length_take, Nat.min_eq_left (by omega)] at e1
      rw [← htab, ← e1]
      exact List.mem_map.2 ⟨_, List.getElem_mem hi, rfl⟩
    rw [h1]
    refine ⟨hm, ⟨h2, h3⟩, ?_⟩
    obtain ⟨i, hi, e1, e2⟩ := fwd q hm ⟨h2, h3⟩
    have : i = j := pickV_inj bT wT 1 (by omega) (by omega) hi hj (by omega)
    subst this
    exact e2
  rw [ha, hz]
  have hg : (1 ≤ (n : Int) ∧ (n : Int) ≤ 3) ∧ (1 ≤ m ∧ m ≤ 3) := ⟨⟨by omega, by omega⟩, hm⟩
  unfold atP
  rw [if_pos hg, if_neg (by omega), Int.toNat_natCast]
  by_cases cl : c ≤ lastT (lineT l s) n
  · rw [if_pos cl]
    obtain ⟨i, hi, q1, q2, q3, q4⟩ := to_index bT wT n 1 c m n1 n3 (by omega) (by omega) hm hc cl
    have q4' : rule_To.f (lineT l s) n c 1 m = _ := q4
    rw [q4', Option.getD_some]
    by_cases c1 : pickE (edgesL (lineT l s))[i] n = c
    · simp only [if_pos c1, if_true]
      obtain ⟨b1, b2, b3⟩ := bwd i hi
      rw [ha]
      refine atD_exact _ _ _ _ _ _ _ b2 (b3.trans c1) _ _ _ b1 (fun y hy hr hyc => ?_)
      obtain ⟨j, hj, e1, e2⟩ := fwd y hy hr
      have : j = i := pickV_inj bT wT n n1 n3 hj hi (by omega)
      subst this
      exact e1
    · have i0 := q3 c1
      have hi' : i - 1 < (edgesL (lineT l s)).length := by omega
      simp only [if_neg c1]
      obtain ⟨b1, b2, b3⟩ := bwd i hi
      obtain ⟨d1, d2, d3⟩ := bwd (i - 1) hi'
      have hlt := q1 (i - 1) (by omega)
      have h01 := pickV_lt bT wT 1 (by omega) (by omega) hi' hi (by omega)
      have hb0 : (0 : Int) ≤ a + pickE (edgesL (lineT l s))[i] 1 := by unfold inR at b2; omega
      rw [atD_both _ _ c m _ _ (a + pickE (edgesL (lineT l s))[i - 1] 1) (a + pickE (edgesL (lineT l s))[i] 1) hb0 d2 b2 (by omega) (by omega) (placesL l) (-1) hris d1 b1 (fun y hy hr => by
        obtain ⟨j, hj, e1, e2⟩ := fwd y hy hr
        rcases Nat.lt_or_ge j i with g | g
        · left
          have g1 := q1 j g
          refine ⟨?_, by omega⟩
          rcases Nat.eq_or_lt_of_le (show j ≤ i - 1 by omega) with k | k
          · subst k
            omega
          · have := pickV_lt bT wT 1 (by omega) (by omega) hj hi' k
            omega
        · right
          rcases Nat.eq_or_lt_of_le g with k | k
          · subst k
            omega
          · have g1 := pickV_lt bT wT 1 (by omega) (by omega) hi hj k
            have g2 := pickV_lt bT wT n n1 n3 hi hj k
            omega)]
      unfold finD
      rw [if_neg (by omega), ha]
      by_cases m1 : m = 1
      · simp [m1]
      · by_cases m2 : m = 2
        · simp [m2]
        · simp [m1, m2]
  · rw [if_neg cl]
    exact atD_below _ _ _ _ _ _ _ _ (fun y hy hr => by
      obtain ⟨j, hj, e1, e2⟩ := fwd y hy hr
      have := tab_le_last bT wT n n1 n3 (pickE (edgesL (lineT l s))[j] n) (List.mem_map.2 ⟨_, List.getElem_mem hj, rfl⟩)
      omega)
theorem ev_at7 {l : List Int} (hl : Bytes l) (hs : Small l) (s c r m : Int) : Ev (fun k => galleyref07_At.f k l s c r m) (atP l s c r m) := by
  have hs' := hs
  unfold Small at hs'
  have hll := linesL_length l
  by_cases hg : (1 ≤ r ∧ r ≤ 3) ∧ (1 ≤ m ∧ m ≤ 3)
  rotate_left
  · unfold atP
    rw [if_neg hg]
    have tt : Ev (fun k => galleyref07_At.j0 k l r m true s c) (0, 3) := Ev.step (G := fun _ => some (0, 3)) (fun k => by simp only [galleyref07_At.j0, if_true]) (Ev.pure _)
    unfold galleyref07_At.f
    by_cases c1 : r < 1
    · exact Ev.ite_pos c1 tt
    refine Ev.ite_neg c1 ?_
    by_cases c2 : r > 3
    · exact Ev.ite_pos c2 tt
    refine Ev.ite_neg c2 ?_
    by_cases c3 : m < 1
    · exact Ev.ite_pos c3 tt
    refine Ev.ite_neg c3 ?_
    rw [decide_eq_true (by omega)]
    exact tt
  have head : ∀ v, Ev (fun k => galleyref07_At.j0 k l r m false s c) v → Ev (fun k => galleyref07_At.f k l s c r m) v := by
    intro v hv
    refine Ev.congr (fun k => ?_) hv
    unfold galleyref07_At.f
    rw [if_neg (by omega), if_neg (by omega), if_neg (by omega), decide_eq_false (by omega)]
  refine head _ ?_
  obtain ⟨n, rfl⟩ : ∃ n : Nat, r = n := ⟨r.toNat, by omega⟩
  by_cases hb : s < 0 ∨ s ≥ (linesL l).length ∨ c < 0
  · have : atP l s c n m = (0, 2) := by
      unfold atP
      rw [if_pos hg, if_pos hb]
    rw [this]
    have tt : Ev (fun k => galleyref07_At.j1 k l n m ((linesL l).map toRow) true s c) (0, 2) := Ev.step (G := fun _ => some (0, 2)) (fun k => by simp only [galleyref07_At.j1, if_true]) (Ev.pure _)
    refine Ev.step (fun k => by simp only [galleyref07_At.j0, Bool.false_eq_true, if_false]; rfl) (Ev.bind (ev_rows hs) ?_)
    by_cases c1 : s < 0
    · exact Ev.ite_pos c1 tt
    refine Ev.ite_neg c1 ?_
    rw [List.length_map]
    by_cases c2 : s ≥ (linesL l).length
    · exact Ev.ite_pos c2 tt
    refine Ev.ite_neg c2 ?_
    rw [decide_eq_true (by omega)]
    exact tt
  obtain ⟨i, rfl⟩ : ∃ i : Nat, s = i := ⟨s.toNat, by omega⟩
  have hi : i < (linesL l).length := by omega
  have ho := line_order l i hi
  have e88 := rd88_row (linesL l) (i : Int) (by omega) (by omega)
  refine Ev.step (fun k => by simp only [galleyref07_At.j0, Bool.false_eq_true, if_false]; rfl) (Ev.bind (ev_rows hs) ?_)
  rw [List.length_map]
  refine Ev.ite_neg (by omega) (Ev.ite_neg (by omega) ?_)
  rw [decide_eq_false (by omega)]
  refine Ev.step (fun k => by simp only [galleyref07_At.j1, Bool.false_eq_true, if_false]; rw [if_pos (by omega), if_pos (by rw [List.length_map]; omega), e88]) (Ev.bind (ev_edges4 hl hs) ?_)
  rw [← atD_is hl hs i hi c m (by omega) hg.2 n (by omega) (by omega)]
  have hlr := last_row l _ (rd_mem (linesL l) i (by omega) (by omega))
  have hll2 := last_line l _ (rd_mem (linesL l) i (by omega) (by omega))
  have hpl := placesL_length l
  have hsl := stepsL_length l
  exact at7_loop hl hs n (by omega) (by omega) m c i _ _ (rd_T144 (linesL l) i).f2 _ (by
    unfold galleyref07_Last.f
    show (if wrap64 ((rd_T144 (linesL l) i).f3 - (rd_T144 (linesL l) i).f1) = 2 then some (wrap64 ((rd_T144 (linesL l) i).f1 + 1)) else some (rd_T144 (linesL l) i).f1) = _
    rw [w64 (by omega) (by omega), w64 (by omega) (by omega), hlr]
    split <;> rfl) ho.1 (placesL l) (fun e he => by
      rw [← tab_bytes hl hs.wide] at he
      obtain ⟨q, rfl, h1, _⟩ := byte_edge hl hs.wide he
      omega) (by omega) _ 0 (-1) (-1) (Nat.le_refl _) (Nat.zero_le _)
theorem lat_l1 {l : List Int} (hl : Bytes l) (hs : Small l) (xs : List S73) (i : Int) (s c r m : Int) (h : Ev (fun k => la.l0 k l xs (wrap64 (i + 1))) true) : ∀ (d : Nat) (x : Int), 12 - x ≤ (d : Int) → -1 ≤ x → x ≤ 12 → Ev (fun k => la.l1 k l xs i x s c r m) true
  | d, x, hd, h0, h1 => by
    have hs' := hs
    unfold Small at hs'
    have round : ∀ (y : Int) (F : Nat → Option Bool), Ev F true → Ev (fun k => (galleylaw07_own.f l).bind fun t => (lines_At.f k t s y r m).bind fun b1 => (galleyref07_At.f k l s y r m).bind fun b2 => if b1.1 = b2.1 then (if b1.2 = b2.2 then F k else some false) else some false) true := by
      intro y F hF
      simp only [own07_eq l (show l.length < 140737488355328 by omega), Option.bind_some]
      exact Ev.bind (at_p hl hs s y r m) (Ev.bind (ev_at7 hl hs s y r m) (Ev.ite_pos rfl (Ev.ite_pos rfl hF)))
    by_cases c12 : x < 12
    · obtain ⟨d, rfl⟩ : ∃ d', d = d' + 1 := ⟨d - 1, by omega⟩
      have ih := lat_l1 hl hs xs i s c r m h d (x + 1) (by omega) (by omega) (by omega)
      have e : wrap64 (x + 1) = x + 1 := w64 (by omega) (by omega)
      rw [← e] at ih
      refine Ev.step (fun k => ?_) (round x _ ih)
      conv => lhs; unfold la.l1
      rw [if_pos c12]
    · refine Ev.step (fun k => ?_) (round c _ h)
      conv => lhs; unfold la.l1
      rw [if_neg c12]
theorem lat_l0 {l : List Int} (hl : Bytes l) (hs : Small l) (xs : List S73) (hx : xs.length < 4611686018427387904) : ∀ (d i : Nat), xs.length - i ≤ d → i ≤ xs.length → Ev (fun k => la.l0 k l xs (i : Int)) true
  | d, i, hd, hi => by
    by_cases c : i < xs.length
    · obtain ⟨d, rfl⟩ : ∃ d', d = d' + 1 := ⟨d - 1, by omega⟩
      have ih := lat_l0 hl hs xs hx d (i + 1) (by omega) (by omega)
      have e : wrap64 ((i : Int) + 1) = ((i + 1 : Nat) : Int) := by rw [w64 (n := (i : Int) + 1) (by omega) (by omega)]; rfl
      rw [← e] at ih
      refine Ev.step (fun k => ?_) (lat_l1 hl hs xs i (rd_T73 xs i).f0.f0 (rd_T73 xs i).f0.f1 (rd_T73 xs i).f1 (rd_T73 xs i).f2 ih 13 (-1) (by omega) (by omega) (by omega))
      conv => lhs; unfold la.l0
      rw [if_pos (by omega), if_pos (by omega)]
    · refine Ev.step (G := fun _ => some true) (fun k => ?_) (Ev.pure _)
      conv => lhs; unfold la.l0
      rw [if_neg (by omega)]
theorem linesAt_law {l : List Int} (hl : Bytes l) (hw : Wide l) (xs : List S73) (hx : xs.length < 4611686018427387904) : ∃ k, la.f k l xs = some true := by
  refine Ev.get ?_
  unfold la.f
  simp only [show ∀ k, galleylaw07_awake.f k = some true from fun _ => rfl, Option.bind_some, if_true]
  by_cases hbig : l.length > 600
  · have : galleylaw07_Large.f l = some true := by unfold galleylaw07_Large.f; rw [decide_eq_true (by omega)]
    simp only [this, Option.bind_some, if_true]
    exact Ev.pure _
  have hs : Small l := by unfold Small; omega
  have : galleylaw07_Large.f l = some false := by unfold galleylaw07_Large.f; rw [decide_eq_false (by omega)]
  simp only [this, Option.bind_some, Bool.false_eq_true, if_false]
  exact lat_l0 hl hs xs hx _ 0 (Nat.le_refl _) (Nat.zero_le _)
end Go.Proofs.YtbomhpfckplgaaaDoor.P
