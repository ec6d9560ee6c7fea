/- Texts of this claim, put together: Px54, Uchain, HSpot, Uq, Uz, Ux, HAwake. -/
import Derived.Lib.SlBytesConst
import Derived.Test.YtbomhpfckplgaaaDoorT0
import Derived.Test.YtbomhpfckplgaaaDoorT1
import Derived.Test.YtbomhpfckplgaaaDoorT2
import Derived.Test.YtbomhpfckplgaaaDoorT3
import Derived.Test.YtbomhpfckplgaaaDoorT4
namespace Go.Proofs.YtbomhpfckplgaaaDoor.P
open Go.RowKit Go.Proofs.YtbomhpfckplgaaaDoorW.PrintWords Go.Proofs.YtbomhpfckplgaaaDoorW.PrintLast Go.Proofs.YtbomhpfckplgaaaDoorW.PrintMore
attribute [local go_sem] max2_int min2_int max_two min_two max_three min_three max_four min_four   -- for this text's walks alone
set_option linter.unusedVariables false
set_option linter.unusedSimpArgs false
def lines_Where.f (k : Nat) (l0 : List Int) (a1 : Int) : Option (Int × Int × Int × Int × Int × Int × Int × Int) := (step_Floor.f k l0 a1).bind fun bt741 => (if bt741.2 = 0 then ((lines_all.f l0).bind fun t743 => ((lines_holds.f k t743 bt741.1).bind fun t746 => (if 0 ≤ bt741.1 then (if bt741.1 ≤ (l0.length : Int) then (if 0 ≤ t746 then (if t746 < (t743.length : Int) then (if 0 ≤ ((rd_T144 t743 t746).f0) then (if ((rd_T144 t743 t746).f0) ≤ bt741.1 then ((lines_size.f (l0.take (bt741.1 : Int).toNat) 2).bind fun t750 => ((lines_size.f (l0.take (bt741.1 : Int).toNat) 3).bind fun t751 => ((lines_size.f ((l0.take (bt741.1 : Int).toNat).drop (((rd_T144 t743 t746).f0) : Int).toNat) 2).bind fun t752 => ((lines_size.f ((l0.take (bt741.1 : Int).toNat).drop (((rd_T144 t743 t746).f0) : Int).toNat) 3).bind fun t753 => (some (bt741.1, t750, t751, t746, (((l0.take (bt741.1 : Int).toNat).drop (((rd_T144 t743 t746).f0) : Int).toNat).length : Int), t752, t753, 0)))))) else (none)) else (none)) else (none)) else (none)) else (none)) else (none)))) else (some (0, 0, 0, 0, 0, 0, 0, bt741.2)))
set_option maxHeartbeats 8000000 in
set_option maxRecDepth 100000 in
theorem lines_Where.calls (k : Nat) (A0 : Option Addr) (c0 : Nat) (l0 : List Int) (a1 : Int) (r1 : Int) (r2 : Int) (r3 : Int) (r4 : Int) (r5 : Int) (r6 : Int) (r7 : Int) (r8 : Int) (w : World) (hr0 : Kd.C (Kd.int .u8) w A0 l0.length l0) (hc0 : l0.length ≤ c0) (hG : Laid w) (h : lines_Where.f k l0 a1 = some (r1, r2, r3, r4, r5, r6, r7, r8)) :
  Calls Tryd.prog 62 #[.slice A0 l0.length c0, .int .i64 a1] w fun e w' => e = .returned (.tuple #[.agg #[.int .i64 r1, .int .i64 r2, .int .i64 r3, .int .i64 r4, .int .i64 r5, .int .i64 r6, .int .i64 r7], .int .i64 r8]) ∧ Below w.heap.size w w' := by
 have hu79 := Tryd.underlying79
 have HG := Aside0.mk hG
 clear hG
 have HR0 := Aside0.mk hr0
 have HC0 := Aside0.mk hc0
 clear hr0 hc0
 have HB := Aside0.mk (Below.refl w.heap.size w)
 have H : ((step_Floor.f k l0 a1).bind fun bt741 => (if bt741.2 = 0 then ((lines_all.f l0).bind fun t743 => ((lines_holds.f k t743 bt741.1).bind fun t746 => (if 0 ≤ bt741.1 then (if bt741.1 ≤ (l0.length : Int) then (if 0 ≤ t746 then (if t746 < (t743.length : Int) then (if 0 ≤ ((rd_T144 t743 t746).f0) then (if ((rd_T144 t743 t746).f0) ≤ bt741.1 then ((lines_size.f (l0.take (bt741.1 : Int).toNat) 2).bind fun t750 => ((lines_size.f (l0.take (bt741.1 : Int).toNat) 3).bind fun t751 => ((lines_size.f ((l0.take (bt741.1 : Int).toNat).drop (((rd_T144 t743 t746).f0) : Int).toNat) 2).bind fun t752 => ((lines_size.f ((l0.take (bt741.1 : Int).toNat).drop (((rd_T144 t743 t746).f0) : Int).toNat) 3).bind fun t753 => (some (bt741.1, t750, t751, t746, (((l0.take (bt741.1 : Int).toNat).drop (((rd_T144 t743 t746).f0) : Int).toNat).length : Int), t752, t753, 0)))))) else (none)) else (none)) else (none)) else (none)) else (none)) else (none)))) else (some (0, 0, 0, 0, 0, 0, 0, bt741.2)))) = some (r1, r2, r3, r4, r5, r6, r7, r8) := h
 clear h
 replace H := Option.bind_eq_some_iff.mp H
 obtain ⟨⟨t741, t742⟩, A30, H⟩ := H
 replace H : (if t742 = 0 then ((lines_all.f l0).bind fun t743 => ((lines_holds.f k t743 t741).bind fun t746 => (if 0 ≤ t741 then (if t741 ≤ (l0.length : Int) then (if 0 ≤ t746 then (if t746 < (t743.length : Int) then (if 0 ≤ ((rd_T144 t743 t746).f0) then (if ((rd_T144 t743 t746).f0) ≤ t741 then ((lines_size.f (l0.take (t741 : Int).toNat) 2).bind fun t750 => ((lines_size.f (l0.take (t741 : Int).toNat) 3).bind fun t751 => ((lines_size.f ((l0.take (t741 : Int).toNat).drop (((rd_T144 t743 t746).f0) : Int).toNat) 2).bind fun t752 => ((lines_size.f ((l0.take (t741 : Int).toNat).drop (((rd_T144 t743 t746).f0) : Int).toNat) 3).bind fun t753 => (some (t741, t750, t751, t746, (((l0.take (t741 : Int).toNat).drop (((rd_T144 t743 t746).f0) : Int).toNat).length : Int), t752, t753, 0)))))) else (none)) else (none)) else (none)) else (none)) else (none)) else (none)))) else (some (0, 0, 0, 0, 0, 0, 0, t742))) = some (r1, r2, r3, r4, r5, r6, r7, r8) := H
 have A3 := Aside0.mk A30
 clear A30
 by_cases c4 : t742 = 0
 ·
  rw [if_pos c4] at H
  have c4b0 : (t742 == 0) = true := beq_iff_eq.mpr c4
  have c4b1 : (t742 != 0) = false := bne_eq_false_iff_eq.mpr c4
  clear c4
  replace H := Option.bind_eq_some_iff.mp H
  obtain ⟨t743, A50, H⟩ := H
  replace H : ((lines_holds.f k t743 t741).bind fun t746 => (if 0 ≤ t741 then (if t741 ≤ (l0.length : Int) then (if 0 ≤ t746 then (if t746 < (t743.length : Int) then (if 0 ≤ ((rd_T144 t743 t746).f0) then (if ((rd_T144 t743 t746).f0) ≤ t741 then ((lines_size.f (l0.take (t741 : Int).toNat) 2).bind fun t750 => ((lines_size.f (l0.take (t741 : Int).toNat) 3).bind fun t751 => ((lines_size.f ((l0.take (t741 : Int).toNat).drop (((rd_T144 t743 t746).f0) : Int).toNat) 2).bind fun t752 => ((lines_size.f ((l0.take (t741 : Int).toNat).drop (((rd_T144 t743 t746).f0) : Int).toNat) 3).bind fun t753 => (some (t741, t750, t751, t746, (((l0.take (t741 : Int).toNat).drop (((rd_T144 t743 t746).f0) : Int).toNat).length : Int), t752, t753, 0)))))) else (none)) else (none)) else (none)) else (none)) else (none)) else (none))) = some (r1, r2, r3, r4, r5, r6, r7, r8) := H
  have A5 := Aside0.mk A50
  clear A50
  replace H := Option.bind_eq_some_iff.mp H
  obtain ⟨t746, A60, H⟩ := H
  replace H : (if 0 ≤ t741 then (if t741 ≤ (l0.length : Int) then (if 0 ≤ t746 then (if t746 < (t743.length : Int) then (if 0 ≤ ((rd_T144 t743 t746).f0) then (if ((rd_T144 t743 t746).f0) ≤ t741 then ((lines_size.f (l0.take (t741 : Int).toNat) 2).bind fun t750 => ((lines_size.f (l0.take (t741 : Int).toNat) 3).bind fun t751 => ((lines_size.f ((l0.take (t741 : Int).toNat).drop (((rd_T144 t743 t746).f0) : Int).toNat) 2).bind fun t752 => ((lines_size.f ((l0.take (t741 : Int).toNat).drop (((rd_T144 t743 t746).f0) : Int).toNat) 3).bind fun t753 => (some (t741, t750, t751, t746, (((l0.take (t741 : Int).toNat).drop (((rd_T144 t743 t746).f0) : Int).toNat).length : Int), t752, t753, 0)))))) else (none)) else (none)) else (none)) else (none)) else (none)) else (none)) = some (r1, r2, r3, r4, r5, r6, r7, r8) := H
  have A6 := Aside0.mk A60
  clear A60
  by_cases c7 : 0 ≤ t741
  ·
   rw [if_pos c7] at H
   have c7b0 := eq_true c7
   have c7b1 : decide (0 ≤ t741) = true := decide_eq_true c7
   clear c7
   by_cases c8 : t741 ≤ (l0.length : Int)
   ·
    rw [if_pos c8] at H
    have c8b0 := eq_true c8
    have c8b1 : decide (t741 ≤ (l0.length : Int)) = true := decide_eq_true c8
    clear c8
    by_cases c9 : 0 ≤ t746
    ·
     rw [if_pos c9] at H
     have c9b0 : decide (0 ≤ t746) = true := decide_eq_true c9
     clear c9
     by_cases c10 : t746 < (t743.length : Int)
     ·
      rw [if_pos c10] at H
      have c10b0 : decide (t746 < (t743.length : Int)) = true := decide_eq_true c10
      clear c10
      by_cases c11 : 0 ≤ ((rd_T144 t743 t746).f0)
      ·
       rw [if_pos c11] at H
       have c11b0 := eq_true c11
       have c11b1 : decide (0 ≤ ((rd_T144 t743 t746).f0)) = true := decide_eq_true c11
       clear c11
       by_cases c12 : ((rd_T144 t743 t746).f0) ≤ t741
       ·
        rw [if_pos c12] at H
        have c12b0 := eq_true c12
        have c12b1 : decide (((rd_T144 t743 t746).f0) ≤ t741) = true := decide_eq_true c12
        clear c12
        have c13b0 := eq_true (of_decide_eq_true (by first | (with_reducible assumption) | assumption) : t741 ≤ (l0.length : Int))
        replace H := Option.bind_eq_some_iff.mp H
        obtain ⟨t750, A140, H⟩ := H
        replace H : ((lines_size.f (l0.take (t741 : Int).toNat) 3).bind fun t751 => ((lines_size.f ((l0.take (t741 : Int).toNat).drop (((rd_T144 t743 t746).f0) : Int).toNat) 2).bind fun t752 => ((lines_size.f ((l0.take (t741 : Int).toNat).drop (((rd_T144 t743 t746).f0) : Int).toNat) 3).bind fun t753 => (some (t741, t750, t751, t746, (((l0.take (t741 : Int).toNat).drop (((rd_T144 t743 t746).f0) : Int).toNat).length : Int), t752, t753, 0))))) = some (r1, r2, r3, r4, r5, r6, r7, r8) := H
        have A14 := Aside0.mk A140
        clear A140
        replace H := Option.bind_eq_some_iff.mp H
        obtain ⟨t751, A150, H⟩ := H
        replace H : ((lines_size.f ((l0.take (t741 : Int).toNat).drop (((rd_T144 t743 t746).f0) : Int).toNat) 2).bind fun t752 => ((lines_size.f ((l0.take (t741 : Int).toNat).drop (((rd_T144 t743 t746).f0) : Int).toNat) 3).bind fun t753 => (some (t741, t750, t751, t746, (((l0.take (t741 : Int).toNat).drop (((rd_T144 t743 t746).f0) : Int).toNat).length : Int), t752, t753, 0)))) = some (r1, r2, r3, r4, r5, r6, r7, r8) := H
        have A15 := Aside0.mk A150
        clear A150
        replace H := Option.bind_eq_some_iff.mp H
        obtain ⟨t752, A160, H⟩ := H
        replace H : ((lines_size.f ((l0.take (t741 : Int).toNat).drop (((rd_T144 t743 t746).f0) : Int).toNat) 3).bind fun t753 => (some (t741, t750, t751, t746, (((l0.take (t741 : Int).toNat).drop (((rd_T144 t743 t746).f0) : Int).toNat).length : Int), t752, t753, 0))) = some (r1, r2, r3, r4, r5, r6, r7, r8) := H
        have A16 := Aside0.mk A160
        clear A160
        replace H := Option.bind_eq_some_iff.mp H
        obtain ⟨t753, A170, H⟩ := H
        replace H : (some (t741, t750, t751, t746, (((l0.take (t741 : Int).toNat).drop (((rd_T144 t743 t746).f0) : Int).toNat).length : Int), t752, t753, 0)) = some (r1, r2, r3, r4, r5, r6, r7, r8) := H
        have A17 := Aside0.mk A170
        clear A170
        simp only [Option.some.injEq, Prod.mk.injEq] at H
        obtain ⟨rfl, rfl, rfl, rfl, rfl, rfl, rfl, rfl⟩ := H
        have hlenA : (List.take (t741 : Int).toNat l0).length = (t741 : Int).toNat := by
         have := of_decide_eq_true c8b1
         have := of_decide_eq_true c7b1
         rw [List.length_take]
         omega
        have hlenB : (List.drop ((rd_T144 t743 t746).f0 : Int).toNat (List.take (t741 : Int).toNat l0)).length = (t741 : Int).toNat - ((rd_T144 t743 t746).f0 : Int).toNat := by
         rw [List.length_drop, hlenA]
        go_enter Tryd.func62, Tryd.ntmps62
        go_wp2_with (first | ((with_reducible refine gate_dst (N := 4) rfl ?_); refine box_event ?hg (N := 4) ?hd (cs := #[.int .i64 0, .int .i64 0, .int .i64 0, .int .i64 0, .int .i64 0, .int .i64 0, .int .i64 0]) (t := 79) ?hr ?_; (case hd => rfl); (case hg => rfl); (case hr => first | (go_simp; done) | (go_simp; rfl)); intro gb740 hg w18 hbox hb; have n0_ := Aside0.mk (below_step (by repeat (first | (with_reducible first | exact HB.out | apply below_alloc | apply pw_below_drewN | apply below_drew1) | exact HB.out)) hb); have n1_ := Aside0.mk (hbox); have n2_ := Aside0.mk ((by rw [hg]; exact (below_size (by repeat (first | (with_reducible first | exact HB.out | apply below_alloc | apply pw_below_drewN | apply below_drew1) | exact HB.out))) : w.heap.size ≤ gb740)); have n3_ := Aside0.mk ((by rw [hg]; exact (below_size (by repeat (first | (with_reducible first | exact HB.out | apply below_alloc | apply pw_below_drewN | apply below_drew1) | exact HB.out))) : w.heap.size ≤ gb740)); clear HB; have HB := n0_; have BK740 := n1_; have GW740 := n2_; have GE740 := n3_; clear n0_ n1_ n2_ n3_; clear hb hbox hg) | (go_at_call 101; (with_reducible refine (step_Floor.calls k _ _ l0 a1 t741 t742 _ ?side1 ?side2 ?side3 A3.out).mono ?_); (case side1 => repeat (first | exact (Kd.C_below HR0.out HB.out) | (with_reducible refine Kd.C_alloc ?_ _) | (with_reducible refine Kd.C_drewN ?_ _) | (with_reducible refine Kd.C_drew ?_))); (case side2 => exact HC0.out); (case side3 => repeat (first | exact HG.out | exact Laid.below HG.out HB.out | (with_reducible refine Laid.alloc ?_ _) | (with_reducible refine Laid.drewN ?_ _) | (with_reducible refine Laid.drew ?_))); rintro e w19 ⟨rfl, hb⟩; have n0_ := Aside0.mk (blk_below (g := gb740) (o := .cells #[.int .i64 0, .int .i64 0, .int .i64 0, .int .i64 0, .int .i64 0, .int .i64 0, .int .i64 0] 79 (0, 0)) (by (with_reducible repeat (first | refine blk_drewN ?_ _ | refine blk_drew ?_ | refine blk_alloc ?_ _)); exact BK740.out) hb); have n1_ := Aside0.mk (below_step (by repeat (first | (with_reducible first | exact HB.out | apply below_alloc | apply pw_below_drewN | apply below_drew1 | refine below_set ?_ GE740.out) | exact HB.out)) hb); clear BK740; clear HB; have BK740 := n0_; have HB := n1_; clear n0_ n1_; (try clear hb); (try clear hb2); (try clear hk); (try clear hi)) | (go_at_call 102; (with_reducible refine (lines_all.calls _ _ l0 t743 _ ?side1 ?side2 A5.out).mono ?_); (case side1 => repeat (first | exact (Kd.C_below HR0.out HB.out) | (with_reducible refine Kd.C_alloc ?_ _) | (with_reducible refine Kd.C_drewN ?_ _) | (with_reducible refine Kd.C_drew ?_))); (case side2 => exact HC0.out); rintro e w20 ⟨v744, rfl, ho0, hb⟩; have n0_ := Aside0.mk (Kd.R_lower ho0 (below_size (by repeat (first | (with_reducible first | exact HB.out | apply below_alloc | apply pw_below_drewN | apply below_drew1 | refine below_set ?_ GE740.out) | exact HB.out)))); have n1_ := Aside0.mk (blk_below (g := gb740) (o := .cells #[.int .i64 0, .int .i64 0, .int .i64 0, .int .i64 0, .int .i64 0, .int .i64 0, .int .i64 0] 79 (0, 0)) (by (with_reducible repeat (first | refine blk_drewN ?_ _ | refine blk_drew ?_ | refine blk_alloc ?_ _)); exact BK740.out) hb); have n2_ := Aside0.mk (below_step (by repeat (first | (with_reducible first | exact HB.out | apply below_alloc | apply pw_below_drewN | apply below_drew1 | refine below_set ?_ GE740.out) | exact HB.out)) hb); clear BK740; clear HB; have HO745 := n0_; have BK740 := n1_; have HB := n2_; clear n0_ n1_ n2_; (try clear hb); (try clear hb2); (try clear hk); (try clear hi); (try clear ho0); obtain ⟨Ao21, co21, eo21⟩ := Kd.R_slice HO745.out; subst eo21) | (go_at_call 106; (with_reducible refine (lines_holds.calls k _ _ t743 t741 t746 _ ?side1 ?side2 A6.out).mono ?_); (case side1 => repeat (first | exact (Kd.R_reads' HO745.out).2.2 | (with_reducible refine Kd.C_alloc ?_ _) | (with_reducible refine Kd.C_drewN ?_ _) | (with_reducible refine Kd.C_drew ?_))); (case side2 => exact (Kd.R_reads' HO745.out).2.1); rintro e w' ⟨rfl, ⟨nd, rfl⟩⟩; (try first | exact ⟨rfl, _, World.drewN_drewN _ _ _⟩ | exact ⟨rfl, _, Eq.trans (World.drewN_drewN _ _ _) (congrArg (World.drewN _) (Nat.add_assoc _ _ _))⟩); obtain ⟨i022, hi022, _, hsz22, _⟩ := info_parts info5; obtain ⟨hcut22, hA22, hC22⟩ := print_take_of (P := Tryd.prog) (Value.int .u8) 0 22 5 .i64 Tryd.underlying22 hi022 hsz22 A0 c0 l0 t741 (of_decide_eq_true (by first | (with_reducible assumption) | assumption)) (of_decide_eq_true (by first | (with_reducible assumption) | assumption)) HC0.out; have HR747 := Aside0.mk (Kd.C_of_reads (h1 := fun _ => rfl) (hA22 _ (Kd.reads_of_C HR0.out))); have HC747 := Aside0.mk hC22; clear hA22 hC22 hi022 hsz22; have p748 : 0 ≤ (t746 : Int) := of_decide_eq_true (by first | (with_reducible assumption) | assumption); have q748 : t746 < (t743.length : Int) := of_decide_eq_true (by first | (with_reducible assumption) | assumption); obtain ⟨ad748, e748, hx748_0, hx748_1, hx748_2, hx748_3⟩ := at_T144 (Kd.R_reads' HO745.out).2.2 t746 p748 q748; cases e748; replace p748 := eq_true p748; replace q748 := eq_true q748; obtain ⟨i023, hi023, _, hsz23, _⟩ := info_parts info5; obtain ⟨A23, hcut23, hA23, hC23⟩ := print_mid_of (P := Tryd.prog) (Value.int .u8) 0 22 5 .i64 .i64 Tryd.underlying22 hi023 hsz23 A0 c0 l0 ((rd_T144 t743 t746).f0) t741 (of_decide_eq_true (by first | (with_reducible assumption) | assumption)) (by first | omega | exact of_decide_eq_true (by first | (with_reducible assumption) | assumption)) (of_decide_eq_true (by first | (with_reducible assumption) | assumption)) HC0.out; have HR749 := Aside0.mk (Kd.C_of_reads (h1 := fun _ => rfl) (hA23 _ (Kd.reads_of_C HR0.out))); have HC749 := Aside0.mk hC23; clear hA23 hC23 hi023 hsz23) | (go_at_call 103; (refine calls_of_args (args' := #[.slice A0 (l0.take (t741 : Int).toNat).length c0, .int .i64 2]) ?argsEq ?_); (case argsEq => (rw [hlenA]; done)); (with_reducible refine (lines_size.calls _ _ (l0.take (t741 : Int).toNat) 2 t750 _ ?side1 ?side2 ?side3 A14.out).mono ?_); (case side1 => repeat (first | exact (Kd.C_below HR747.out (by repeat (first | (with_reducible first | exact HB.out | apply below_alloc | apply pw_below_drewN | apply below_drew1 | refine below_set ?_ GE740.out) | exact HB.out))) | (with_reducible refine Kd.C_alloc ?_ _) | (with_reducible refine Kd.C_drewN ?_ _) | (with_reducible refine Kd.C_drew ?_))); (case side2 => exact HC747.out); (case side3 => repeat (first | exact HG.out | exact Laid.below HG.out HB.out | (with_reducible refine Laid.alloc ?_ _) | (with_reducible refine Laid.drewN ?_ _) | (with_reducible refine Laid.drew ?_))); rintro e w24 ⟨rfl, hb⟩; have n0_ := Aside0.mk (Kd.R_below (by (with_reducible repeat (first | apply Kd.R_alloc | apply Kd.R_drewN | apply Kd.R_drew)); exact HO745.out) hb); have n1_ := Aside0.mk (blk_below (g := gb740) (o := .cells #[.int .i64 0, .int .i64 0, .int .i64 0, .int .i64 0, .int .i64 0, .int .i64 0, .int .i64 0] 79 (0, 0)) (by (with_reducible repeat (first | refine blk_drewN ?_ _ | refine blk_drew ?_ | refine blk_alloc ?_ _)); exact BK740.out) hb); have n2_ := Aside0.mk (below_step (by repeat (first | (with_reducible first | exact HB.out | apply below_alloc | apply pw_below_drewN | apply below_drew1 | refine below_set ?_ GE740.out) | exact HB.out)) hb); clear HO745; clear BK740; clear HB; have HO745 := n0_; have BK740 := n1_; have HB := n2_; clear n0_ n1_ n2_; (try clear hb); (try clear hb2); (try clear hk); (try clear hi)) | (go_at_call 103; (refine calls_of_args (args' := #[.slice A0 (l0.take (t741 : Int).toNat).length c0, .int .i64 3]) ?argsEq ?_); (case argsEq => (rw [hlenA]; done)); (with_reducible refine (lines_size.calls _ _ (l0.take (t741 : Int).toNat) 3 t751 _ ?side1 ?side2 ?side3 A15.out).mono ?_); (case side1 => repeat (first | exact (Kd.C_below HR747.out HB.out) | (with_reducible refine Kd.C_alloc ?_ _) | (with_reducible refine Kd.C_drewN ?_ _) | (with_reducible refine Kd.C_drew ?_))); (case side2 => exact HC747.out); (case side3 => repeat (first | exact HG.out | exact Laid.below HG.out HB.out | (with_reducible refine Laid.alloc ?_ _) | (with_reducible refine Laid.drewN ?_ _) | (with_reducible refine Laid.drew ?_))); rintro e w25 ⟨rfl, hb⟩; have n0_ := Aside0.mk (Kd.R_below (by (with_reducible repeat (first | apply Kd.R_alloc | apply Kd.R_drewN | apply Kd.R_drew)); exact HO745.out) hb); have n1_ := Aside0.mk (blk_below (g := gb740) (o := .cells #[.int .i64 0, .int .i64 0, .int .i64 0, .int .i64 0, .int .i64 0, .int .i64 0, .int .i64 0] 79 (0, 0)) (by (with_reducible repeat (first | refine blk_drewN ?_ _ | refine blk_drew ?_ | refine blk_alloc ?_ _)); exact BK740.out) hb); have n2_ := Aside0.mk (below_step (by repeat (first | (with_reducible first | exact HB.out | apply below_alloc | apply pw_below_drewN | apply below_drew1 | refine below_set ?_ GE740.out) | exact HB.out)) hb); clear HO745; clear BK740; clear HB; have HO745 := n0_; have BK740 := n1_; have HB := n2_; clear n0_ n1_ n2_; (try clear hb); (try clear hb2); (try clear hk); (try clear hi)) | (go_at_call 103; (refine calls_of_args (args' := #[.slice A23 ((l0.take (t741 : Int).toNat).drop (((rd_T144 t743 t746).f0) : Int).toNat).length (c0 - ((rd_T144 t743 t746).f0 : Int).toNat), .int .i64 2]) ?argsEq ?_); (case argsEq => (rw [hlenB]; done)); (with_reducible refine (lines_size.calls _ _ ((l0.take (t741 : Int).toNat).drop (((rd_T144 t743 t746).f0) : Int).toNat) 2 t752 _ ?side1 ?side2 ?side3 A16.out).mono ?_); (case side1 => repeat (first | exact (Kd.C_below HR749.out HB.out) | (with_reducible refine Kd.C_alloc ?_ _) | (with_reducible refine Kd.C_drewN ?_ _) | (with_reducible refine Kd.C_drew ?_))); (case side2 => exact HC749.out); (case side3 => repeat (first | exact HG.out | exact Laid.below HG.out HB.out | (with_reducible refine Laid.alloc ?_ _) | (with_reducible refine Laid.drewN ?_ _) | (with_reducible refine Laid.drew ?_))); rintro e w26 ⟨rfl, hb⟩; have n0_ := Aside0.mk (Kd.R_below (by (with_reducible repeat (first | apply Kd.R_alloc | apply Kd.R_drewN | apply Kd.R_drew)); exact HO745.out) hb); have n1_ := Aside0.mk (blk_below (g := gb740) (o := .cells #[.int .i64 0, .int .i64 0, .int .i64 0, .int .i64 0, .int .i64 0, .int .i64 0, .int .i64 0] 79 (0, 0)) (by (with_reducible repeat (first | refine blk_drewN ?_ _ | refine blk_drew ?_ | refine blk_alloc ?_ _)); exact BK740.out) hb); have n2_ := Aside0.mk (below_step (by repeat (first | (with_reducible first | exact HB.out | apply below_alloc | apply pw_below_drewN | apply below_drew1 | refine below_set ?_ GE740.out) | exact HB.out)) hb); clear HO745; clear BK740; clear HB; have HO745 := n0_; have BK740 := n1_; have HB := n2_; clear n0_ n1_ n2_; (try clear hb); (try clear hb2); (try clear hk); (try clear hi)) | (go_at_call 103; (refine calls_of_args (args' := #[.slice A23 ((l0.take (t741 : Int).toNat).drop (((rd_T144 t743 t746).f0) : Int).toNat).length (c0 - ((rd_T144 t743 t746).f0 : Int).toNat), .int .i64 3]) ?argsEq ?_); (case argsEq => (rw [hlenB]; done)); (with_reducible refine (lines_size.calls _ _ ((l0.take (t741 : Int).toNat).drop (((rd_T144 t743 t746).f0) : Int).toNat) 3 t753 _ ?side1 ?side2 ?side3 A17.out).mono ?_); (case side1 => repeat (first | exact (Kd.C_below HR749.out HB.out) | (with_reducible refine Kd.C_alloc ?_ _) | (with_reducible refine Kd.C_drewN ?_ _) | (with_reducible refine Kd.C_drew ?_))); (case side2 => exact HC749.out); (case side3 => repeat (first | exact HG.out | exact Laid.below HG.out HB.out | (with_reducible refine Laid.alloc ?_ _) | (with_reducible refine Laid.drewN ?_ _) | (with_reducible refine Laid.drew ?_))); rintro e w27 ⟨rfl, hb⟩; have n0_ := Aside0.mk (Kd.R_below (by (with_reducible repeat (first | apply Kd.R_alloc | apply Kd.R_drewN | apply Kd.R_drew)); exact HO745.out) hb); have n1_ := Aside0.mk (blk_below (g := gb740) (o := .cells #[.int .i64 0, .int .i64 0, .int .i64 0, .int .i64 0, .int .i64 0, .int .i64 0, .int .i64 0] 79 (0, 0)) (by (with_reducible repeat (first | refine blk_drewN ?_ _ | refine blk_drew ?_ | refine blk_alloc ?_ _)); exact BK740.out) hb); have n2_ := Aside0.mk (below_step (by repeat (first | (with_reducible first | exact HB.out | apply below_alloc | apply pw_below_drewN | apply below_drew1 | refine below_set ?_ GE740.out) | exact HB.out)) hb); clear HO745; clear BK740; clear HB; have HO745 := n0_; have BK740 := n1_; have HB := n2_; clear n0_ n1_ n2_; (try clear hb); (try clear hb2); (try clear hk); (try clear hi); have hcz28_0 : w27.cell? ⟨gb740, 0, none⟩ = some (.int .i64 0) := (blk_cell BK740.out 0).trans rfl; have hcz28_1 : w27.cell? ⟨gb740, 1, none⟩ = some (.int .i64 0) := (blk_cell BK740.out 1).trans rfl; have hcz28_2 : w27.cell? ⟨gb740, 2, none⟩ = some (.int .i64 0) := (blk_cell BK740.out 2).trans rfl; have hcz28_3 : w27.cell? ⟨gb740, 3, none⟩ = some (.int .i64 0) := (blk_cell BK740.out 3).trans rfl; have hcz28_4 : w27.cell? ⟨gb740, 4, none⟩ = some (.int .i64 0) := (blk_cell BK740.out 4).trans rfl; have hcz28_5 : w27.cell? ⟨gb740, 5, none⟩ = some (.int .i64 0) := (blk_cell BK740.out 5).trans rfl; have hcz28_6 : w27.cell? ⟨gb740, 6, none⟩ = some (.int .i64 0) := (blk_cell BK740.out 6).trans rfl; have hfz28_0 := blk_frozen BK740.out 0; have hfz28_1 := blk_frozen BK740.out 1; have hfz28_2 := blk_frozen BK740.out 2; have hfz28_3 := blk_frozen BK740.out 3; have hfz28_4 := blk_frozen BK740.out 4; have hfz28_5 := blk_frozen BK740.out 5; have hfz28_6 := blk_frozen BK740.out 6))
        repeat (go_quiet (first | ((with_reducible refine gate_dst (N := 4) rfl ?_); refine box_event ?hg (N := 4) ?hd (cs := #[.int .i64 0, .int .i64 0, .int .i64 0, .int .i64 0, .int .i64 0, .int .i64 0, .int .i64 0]) (t := 79) ?hr ?_; (case hd => rfl); (case hg => rfl); (case hr => first | (go_simp; done) | (go_simp; rfl)); intro gb740 hg w18 hbox hb; have n0_ := Aside0.mk (below_step (by repeat (first | (with_reducible first | exact HB.out | apply below_alloc | apply pw_below_drewN | apply below_drew1) | exact HB.out)) hb); have n1_ := Aside0.mk (hbox); have n2_ := Aside0.mk ((by rw [hg]; exact (below_size (by repeat (first | (with_reducible first | exact HB.out | apply below_alloc | apply pw_below_drewN | apply below_drew1) | exact HB.out))) : w.heap.size ≤ gb740)); have n3_ := Aside0.mk ((by rw [hg]; exact (below_size (by repeat (first | (with_reducible first | exact HB.out | apply below_alloc | apply pw_below_drewN | apply below_drew1) | exact HB.out))) : w.heap.size ≤ gb740)); clear HB; have HB := n0_; have BK740 := n1_; have GW740 := n2_; have GE740 := n3_; clear n0_ n1_ n2_ n3_; clear hb hbox hg) | (go_at_call 101; (with_reducible refine (step_Floor.calls k _ _ l0 a1 t741 t742 _ ?side1 ?side2 ?side3 A3.out).mono ?_); (case side1 => repeat (first | exact (Kd.C_below HR0.out HB.out) | (with_reducible refine Kd.C_alloc ?_ _) | (with_reducible refine Kd.C_drewN ?_ _) | (with_reducible refine Kd.C_drew ?_))); (case side2 => exact HC0.out); (case side3 => repeat (first | exact HG.out | exact Laid.below HG.out HB.out | (with_reducible refine Laid.alloc ?_ _) | (with_reducible refine Laid.drewN ?_ _) | (with_reducible refine Laid.drew ?_))); rintro e w19 ⟨rfl, hb⟩; have n0_ := Aside0.mk (blk_below (g := gb740) (o := .cells #[.int .i64 0, .int .i64 0, .int .i64 0, .int .i64 0, .int .i64 0, .int .i64 0, .int .i64 0] 79 (0, 0)) (by (with_reducible repeat (first | refine blk_drewN ?_ _ | refine blk_drew ?_ | refine blk_alloc ?_ _)); exact BK740.out) hb); have n1_ := Aside0.mk (below_step (by repeat (first | (with_reducible first | exact HB.out | apply below_alloc | apply pw_below_drewN | apply below_drew1 | refine below_set ?_ GE740.out) | exact HB.out)) hb); clear BK740; clear HB; have BK740 := n0_; have HB := n1_; clear n0_ n1_; (try clear hb); (try clear hb2); (try clear hk); (try clear hi)) | (go_at_call 102; (with_reducible refine (lines_all.calls _ _ l0 t743 _ ?side1 ?side2 A5.out).mono ?_); (case side1 => repeat (first | exact (Kd.C_below HR0.out HB.out) | (with_reducible refine Kd.C_alloc ?_ _) | (with_reducible refine Kd.C_drewN ?_ _) | (with_reducible refine Kd.C_drew ?_))); (case side2 => exact HC0.out); rintro e w20 ⟨v744, rfl, ho0, hb⟩; have n0_ := Aside0.mk (Kd.R_lower ho0 (below_size (by repeat (first | (with_reducible first | exact HB.out | apply below_alloc | apply pw_below_drewN | apply below_drew1 | refine below_set ?_ GE740.out) | exact HB.out)))); have n1_ := Aside0.mk (blk_below (g := gb740) (o := .cells #[.int .i64 0, .int .i64 0, .int .i64 0, .int .i64 0, .int .i64 0, .int .i64 0, .int .i64 0] 79 (0, 0)) (by (with_reducible repeat (first | refine blk_drewN ?_ _ | refine blk_drew ?_ | refine blk_alloc ?_ _)); exact BK740.out) hb); have n2_ := Aside0.mk (below_step (by repeat (first | (with_reducible first | exact HB.out | apply below_alloc | apply pw_below_drewN | apply below_drew1 | refine below_set ?_ GE740.out) | exact HB.out)) hb); clear BK740; clear HB; have HO745 := n0_; have BK740 := n1_; have HB := n2_; clear n0_ n1_ n2_; (try clear hb); (try clear hb2); (try clear hk); (try clear hi); (try clear ho0); obtain ⟨Ao21, co21, eo21⟩ := Kd.R_slice HO745.out; subst eo21) | (go_at_call 106; (with_reducible refine (lines_holds.calls k _ _ t743 t741 t746 _ ?side1 ?side2 A6.out).mono ?_); (case side1 => repeat (first | exact (Kd.R_reads' HO745.out).2.2 | (with_reducible refine Kd.C_alloc ?_ _) | (with_reducible refine Kd.C_drewN ?_ _) | (with_reducible refine Kd.C_drew ?_))); (case side2 => exact (Kd.R_reads' HO745.out).2.1); rintro e w' ⟨rfl, ⟨nd, rfl⟩⟩; (try first | exact ⟨rfl, _, World.drewN_drewN _ _ _⟩ | exact ⟨rfl, _, Eq.trans (World.drewN_drewN _ _ _) (congrArg (World.drewN _) (Nat.add_assoc _ _ _))⟩); obtain ⟨i022, hi022, _, hsz22, _⟩ := info_parts info5; obtain ⟨hcut22, hA22, hC22⟩ := print_take_of (P := Tryd.prog) (Value.int .u8) 0 22 5 .i64 Tryd.underlying22 hi022 hsz22 A0 c0 l0 t741 (of_decide_eq_true (by first | (with_reducible assumption) | assumption)) (of_decide_eq_true (by first | (with_reducible assumption) | assumption)) HC0.out; have HR747 := Aside0.mk (Kd.C_of_reads (h1 := fun _ => rfl) (hA22 _ (Kd.reads_of_C HR0.out))); have HC747 := Aside0.mk hC22; clear hA22 hC22 hi022 hsz22; have p748 : 0 ≤ (t746 : Int) := of_decide_eq_true (by first | (with_reducible assumption) | assumption); have q748 : t746 < (t743.length : Int) := of_decide_eq_true (by first | (with_reducible assumption) | assumption); obtain ⟨ad748, e748, hx748_0, hx748_1, hx748_2, hx748_3⟩ := at_T144 (Kd.R_reads' HO745.out).2.2 t746 p748 q748; cases e748; replace p748 := eq_true p748; replace q748 := eq_true q748; obtain ⟨i023, hi023, _, hsz23, _⟩ := info_parts info5; obtain ⟨A23, hcut23, hA23, hC23⟩ := print_mid_of (P := Tryd.prog) (Value.int .u8) 0 22 5 .i64 .i64 Tryd.underlying22 hi023 hsz23 A0 c0 l0 ((rd_T144 t743 t746).f0) t741 (of_decide_eq_true (by first | (with_reducible assumption) | assumption)) (by first | omega | exact of_decide_eq_true (by first | (with_reducible assumption) | assumption)) (of_decide_eq_true (by first | (with_reducible assumption) | assumption)) HC0.out; have HR749 := Aside0.mk (Kd.C_of_reads (h1 := fun _ => rfl) (hA23 _ (Kd.reads_of_C HR0.out))); have HC749 := Aside0.mk hC23; clear hA23 hC23 hi023 hsz23) | (go_at_call 103; (refine calls_of_args (args' := #[.slice A0 (l0.take (t741 : Int).toNat).length c0, .int .i64 2]) ?argsEq ?_); (case argsEq => (rw [hlenA]; done)); (with_reducible refine (lines_size.calls _ _ (l0.take (t741 : Int).toNat) 2 t750 _ ?side1 ?side2 ?side3 A14.out).mono ?_); (case side1 => repeat (first | exact (Kd.C_below HR747.out (by repeat (first | (with_reducible first | exact HB.out | apply below_alloc | apply pw_below_drewN | apply below_drew1 | refine below_set ?_ GE740.out) | exact HB.out))) | (with_reducible refine Kd.C_alloc ?_ _) | (with_reducible refine Kd.C_drewN ?_ _) | (with_reducible refine Kd.C_drew ?_))); (case side2 => exact HC747.out); (case side3 => repeat (first | exact HG.out | exact Laid.below HG.out HB.out | (with_reducible refine Laid.alloc ?_ _) | (with_reducible refine Laid.drewN ?_ _) | (with_reducible refine Laid.drew ?_))); rintro e w24 ⟨rfl, hb⟩; have n0_ := Aside0.mk (Kd.R_below (by (with_reducible repeat (first | apply Kd.R_alloc | apply Kd.R_drewN | apply Kd.R_drew)); exact HO745.out) hb); have n1_ := Aside0.mk (blk_below (g := gb740) (o := .cells #[.int .i64 0, .int .i64 0, .int .i64 0, .int .i64 0, .int .i64 0, .int .i64 0, .int .i64 0] 79 (0, 0)) (by (with_reducible repeat (first | refine blk_drewN ?_ _ | refine blk_drew ?_ | refine blk_alloc ?_ _)); exact BK740.out) hb); have n2_ := Aside0.mk (below_step (by repeat (first | (with_reducible first | exact HB.out | apply below_alloc | apply pw_below_drewN | apply below_drew1 | refine below_set ?_ GE740.out) | exact HB.out)) hb); clear HO745; clear BK740; clear HB; have HO745 := n0_; have BK740 := n1_; have HB := n2_; clear n0_ n1_ n2_; (try clear hb); (try clear hb2); (try clear hk); (try clear hi)) | (go_at_call 103; (refine calls_of_args (args' := #[.slice A0 (l0.take (t741 : Int).toNat).length c0, .int .i64 3]) ?argsEq ?_); (case argsEq => (rw [hlenA]; done)); (with_reducible refine (lines_size.calls _ _ (l0.take (t741 : Int).toNat) 3 t751 _ ?side1 ?side2 ?side3 A15.out).mono ?_); (case side1 => repeat (first | exact (Kd.C_below HR747.out HB.out) | (with_reducible refine Kd.C_alloc ?_ _) | (with_reducible refine Kd.C_drewN ?_ _) | (with_reducible refine Kd.C_drew ?_))); (case side2 => exact HC747.out); (case side3 => repeat (first | exact HG.out | exact Laid.below HG.out HB.out | (with_reducible refine Laid.alloc ?_ _) | (with_reducible refine Laid.drewN ?_ _) | (with_reducible refine Laid.drew ?_))); rintro e w25 ⟨rfl, hb⟩; have n0_ := Aside0.mk (Kd.R_below (by (with_reducible repeat (first | apply Kd.R_alloc | apply Kd.R_drewN | apply Kd.R_drew)); exact HO745.out) hb); have n1_ := Aside0.mk (blk_below (g := gb740) (o := .cells #[.int .i64 0, .int .i64 0, .int .i64 0, .int .i64 0, .int .i64 0, .int .i64 0, .int .i64 0] 79 (0, 0)) (by (with_reducible repeat (first | refine blk_drewN ?_ _ | refine blk_drew ?_ | refine blk_alloc ?_ _)); exact BK740.out) hb); have n2_ := Aside0.mk (below_step (by repeat (first | (with_reducible first | exact HB.out | apply below_alloc | apply pw_below_drewN | apply below_drew1 | refine below_set ?_ GE740.out) | exact HB.out)) hb); clear HO745; clear BK740; clear HB; have HO745 := n0_; have BK740 := n1_; have HB := n2_; clear n0_ n1_ n2_; (try clear hb); (try clear hb2); (try clear hk); (try clear hi)) | (go_at_call 103; (refine calls_of_args (args' := #[.slice A23 ((l0.take (t741 : Int).toNat).drop (((rd_T144 t743 t746).f0) : Int).toNat).length (c0 - ((rd_T144 t743 t746).f0 : Int).toNat), .int .i64 2]) ?argsEq ?_); (case argsEq => (rw [hlenB]; done)); (with_reducible refine (lines_size.calls _ _ ((l0.take (t741 : Int).toNat).drop (((rd_T144 t743 t746).f0) : Int).toNat) 2 t752 _ ?side1 ?side2 ?side3 A16.out).mono ?_); (case side1 => repeat (first | exact (Kd.C_below HR749.out HB.out) | (with_reducible refine Kd.C_alloc ?_ _) | (with_reducible refine Kd.C_drewN ?_ _) | (with_reducible refine Kd.C_drew ?_))); (case side2 => exact HC749.out); (case side3 => repeat (first | exact HG.out | exact Laid.below HG.out HB.out | (with_reducible refine Laid.alloc ?_ _) | (with_reducible refine Laid.drewN ?_ _) | (with_reducible refine Laid.drew ?_))); rintro e w26 ⟨rfl, hb⟩; have n0_ := Aside0.mk (Kd.R_below (by (with_reducible repeat (first | apply Kd.R_alloc | apply Kd.R_drewN | apply Kd.R_drew)); exact HO745.out) hb); have n1_ := Aside0.mk (blk_below (g := gb740) (o := .cells #[.int .i64 0, .int .i64 0, .int .i64 0, .int .i64 0, .int .i64 0, .int .i64 0, .int .i64 0] 79 (0, 0)) (by (with_reducible repeat (first | refine blk_drewN ?_ _ | refine blk_drew ?_ | refine blk_alloc ?_ _)); exact BK740.out) hb); have n2_ := Aside0.mk (below_step (by repeat (first | (with_reducible first | exact HB.out | apply below_alloc | apply pw_below_drewN | apply below_drew1 | refine below_set ?_ GE740.out) | exact HB.out)) hb); clear HO745; clear BK740; clear HB; have HO745 := n0_; have BK740 := n1_; have HB := n2_; clear n0_ n1_ n2_; (try clear hb); (try clear hb2); (try clear hk); (try clear hi)) | (go_at_call 103; (refine calls_of_args (args' := #[.slice A23 ((l0.take (t741 : Int).toNat).drop (((rd_T144 t743 t746).f0) : Int).toNat).length (c0 - ((rd_T144 t743 t746).f0 : Int).toNat), .int .i64 3]) ?argsEq ?_); (case argsEq => (rw [hlenB]; done)); (with_reducible refine (lines_size.calls _ _ ((l0.take (t741 : Int).toNat).drop (((rd_T144 t743 t746).f0) : Int).toNat) 3 t753 _ ?side1 ?side2 ?side3 A17.out).mono ?_); (case side1 => repeat (first | exact (Kd.C_below HR749.out HB.out) | (with_reducible refine Kd.C_alloc ?_ _) | (with_reducible refine Kd.C_drewN ?_ _) | (with_reducible refine Kd.C_drew ?_))); (case side2 => exact HC749.out); (case side3 => repeat (first | exact HG.out | exact Laid.below HG.out HB.out | (with_reducible refine Laid.alloc ?_ _) | (with_reducible refine Laid.drewN ?_ _) | (with_reducible refine Laid.drew ?_))); rintro e w27 ⟨rfl, hb⟩; have n0_ := Aside0.mk (Kd.R_below (by (with_reducible repeat (first | apply Kd.R_alloc | apply Kd.R_drewN | apply Kd.R_drew)); exact HO745.out) hb); have n1_ := Aside0.mk (blk_below (g := gb740) (o := .cells #[.int .i64 0, .int .i64 0, .int .i64 0, .int .i64 0, .int .i64 0, .int .i64 0, .int .i64 0] 79 (0, 0)) (by (with_reducible repeat (first | refine blk_drewN ?_ _ | refine blk_drew ?_ | refine blk_alloc ?_ _)); exact BK740.out) hb); have n2_ := Aside0.mk (below_step (by repeat (first | (with_reducible first | exact HB.out | apply below_alloc | apply pw_below_drewN | apply below_drew1 | refine below_set ?_ GE740.out) | exact HB.out)) hb); clear HO745; clear BK740; clear HB; have HO745 := n0_; have BK740 := n1_; have HB := n2_; clear n0_ n1_ n2_; (try clear hb); (try clear hb2); (try clear hk); (try clear hi); have hcz28_0 : w27.cell? ⟨gb740, 0, none⟩ = some (.int .i64 0) := (blk_cell BK740.out 0).trans rfl; have hcz28_1 : w27.cell? ⟨gb740, 1, none⟩ = some (.int .i64 0) := (blk_cell BK740.out 1).trans rfl; have hcz28_2 : w27.cell? ⟨gb740, 2, none⟩ = some (.int .i64 0) := (blk_cell BK740.out 2).trans rfl; have hcz28_3 : w27.cell? ⟨gb740, 3, none⟩ = some (.int .i64 0) := (blk_cell BK740.out 3).trans rfl; have hcz28_4 : w27.cell? ⟨gb740, 4, none⟩ = some (.int .i64 0) := (blk_cell BK740.out 4).trans rfl; have hcz28_5 : w27.cell? ⟨gb740, 5, none⟩ = some (.int .i64 0) := (blk_cell BK740.out 5).trans rfl; have hcz28_6 : w27.cell? ⟨gb740, 6, none⟩ = some (.int .i64 0) := (blk_cell BK740.out 6).trans rfl; have hfz28_0 := blk_frozen BK740.out 0; have hfz28_1 := blk_frozen BK740.out 1; have hfz28_2 := blk_frozen BK740.out 2; have hfz28_3 := blk_frozen BK740.out 3; have hfz28_4 := blk_frozen BK740.out 4; have hfz28_5 := blk_frozen BK740.out 5; have hfz28_6 := blk_frozen BK740.out 6)); try go_wp2_with (first | ((with_reducible refine gate_dst (N := 4) rfl ?_); refine box_event ?hg (N := 4) ?hd (cs := #[.int .i64 0, .int .i64 0, .int .i64 0, .int .i64 0, .int .i64 0, .int .i64 0, .int .i64 0]) (t := 79) ?hr ?_; (case hd => rfl); (case hg => rfl); (case hr => first | (go_simp; done) | (go_simp; rfl)); intro gb740 hg w18 hbox hb; have n0_ := Aside0.mk (below_step (by repeat (first | (with_reducible first | exact HB.out | apply below_alloc | apply pw_below_drewN | apply below_drew1) | exact HB.out)) hb); have n1_ := Aside0.mk (hbox); have n2_ := Aside0.mk ((by rw [hg]; exact (below_size (by repeat (first | (with_reducible first | exact HB.out | apply below_alloc | apply pw_below_drewN | apply below_drew1) | exact HB.out))) : w.heap.size ≤ gb740)); have n3_ := Aside0.mk ((by rw [hg]; exact (below_size (by repeat (first | (with_reducible first | exact HB.out | apply below_alloc | apply pw_below_drewN | apply below_drew1) | exact HB.out))) : w.heap.size ≤ gb740)); clear HB; have HB := n0_; have BK740 := n1_; have GW740 := n2_; have GE740 := n3_; clear n0_ n1_ n2_ n3_; clear hb hbox hg) | (go_at_call 101; (with_reducible refine (step_Floor.calls k _ _ l0 a1 t741 t742 _ ?side1 ?side2 ?side3 A3.out).mono ?_); (case side1 => repeat (first | exact (Kd.C_below HR0.out HB.out) | (with_reducible refine Kd.C_alloc ?_ _) | (with_reducible refine Kd.C_drewN ?_ _) | (with_reducible refine Kd.C_drew ?_))); (case side2 => exact HC0.out); (case side3 => repeat (first | exact HG.out | exact Laid.below HG.out HB.out | (with_reducible refine Laid.alloc ?_ _) | (with_reducible refine Laid.drewN ?_ _) | (with_reducible refine Laid.drew ?_))); rintro e w19 ⟨rfl, hb⟩; have n0_ := Aside0.mk (blk_below (g := gb740) (o := .cells #[.int .i64 0, .int .i64 0, .int .i64 0, .int .i64 0, .int .i64 0, .int .i64 0, .int .i64 0] 79 (0, 0)) (by (with_reducible repeat (first | refine blk_drewN ?_ _ | refine blk_drew ?_ | refine blk_alloc ?_ _)); exact BK740.out) hb); have n1_ := Aside0.mk (below_step (by repeat (first | (with_reducible first | exact HB.out | apply below_alloc | apply pw_below_drewN | apply below_drew1 | refine below_set ?_ GE740.out) | exact HB.out)) hb); clear BK740; clear HB; have BK740 := n0_; have HB := n1_; clear n0_ n1_; (try clear hb); (try clear hb2); (try clear hk); (try clear hi)) | (go_at_call 102; (with_reducible refine (lines_all.calls _ _ l0 t743 _ ?side1 ?side2 A5.out).mono ?_); (case side1 => repeat (first | exact (Kd.C_below HR0.out HB.out) | (with_reducible refine Kd.C_alloc ?_ _) | (with_reducible refine Kd.C_drewN ?_ _) | (with_reducible refine Kd.C_drew ?_))); (case side2 => exact HC0.out); rintro e w20 ⟨v744, rfl, ho0, hb⟩; have n0_ := Aside0.mk (Kd.R_lower ho0 (below_size (by repeat (first | (with_reducible first | exact HB.out | apply below_alloc | apply pw_below_drewN | apply below_drew1 | refine below_set ?_ GE740.out) | exact HB.out)))); have n1_ := Aside0.mk (blk_below (g := gb740) (o := .cells #[.int .i64 0, .int .i64 0, .int .i64 0, .int .i64 0, .int .i64 0, .int .i64 0, .int .i64 0] 79 (0, 0)) (by (with_reducible repeat (first | refine blk_drewN ?_ _ | refine blk_drew ?_ | refine blk_alloc ?_ _)); exact BK740.out) hb); have n2_ := Aside0.mk (below_step (by repeat (first | (with_reducible first | exact HB.out | apply below_alloc | apply pw_below_drewN | apply below_drew1 | refine below_set ?_ GE740.out) | exact HB.out)) hb); clear BK740; clear HB; have HO745 := n0_; have BK740 := n1_; have HB := n2_; clear n0_ n1_ n2_; (try clear hb); (try clear hb2); (try clear hk); (try clear hi); (try clear ho0); obtain ⟨Ao21, co21, eo21⟩ := Kd.R_slice HO745.out; subst eo21) | (go_at_call 106; (with_reducible refine (lines_holds.calls k _ _ t743 t741 t746 _ ?side1 ?side2 A6.out).mono ?_); (case side1 => repeat (first | exact (Kd.R_reads' HO745.out).2.2 | (with_reducible refine Kd.C_alloc ?_ _) | (with_reducible refine Kd.C_drewN ?_ _) | (with_reducible refine Kd.C_drew ?_))); (case side2 => exact (Kd.R_reads' HO745.out).2.1); rintro e w' ⟨rfl, ⟨nd, rfl⟩⟩; (try first | exact ⟨rfl, _, World.drewN_drewN _ _ _⟩ | exact ⟨rfl, _, Eq.trans (World.drewN_drewN _ _ _) (congrArg (World.drewN _) (Nat.add_assoc _ _ _))⟩); obtain ⟨i022, hi022, _, hsz22, _⟩ := info_parts info5; obtain ⟨hcut22, hA22, hC22⟩ := print_take_of (P := Tryd.prog) (Value.int .u8) 0 22 5 .i64 Tryd.underlying22 hi022 hsz22 A0 c0 l0 t741 (of_decide_eq_true (by first | (with_reducible assumption) | assumption)) (of_decide_eq_true (by first | (with_reducible assumption) | assumption)) HC0.out; have HR747 := Aside0.mk (Kd.C_of_reads (h1 := fun _ => rfl) (hA22 _ (Kd.reads_of_C HR0.out))); have HC747 := Aside0.mk hC22; clear hA22 hC22 hi022 hsz22; have p748 : 0 ≤ (t746 : Int) := of_decide_eq_true (by first | (with_reducible assumption) | assumption); have q748 : t746 < (t743.length : Int) := of_decide_eq_true (by first | (with_reducible assumption) | assumption); obtain ⟨ad748, e748, hx748_0, hx748_1, hx748_2, hx748_3⟩ := at_T144 (Kd.R_reads' HO745.out).2.2 t746 p748 q748; cases e748; replace p748 := eq_true p748; replace q748 := eq_true q748; obtain ⟨i023, hi023, _, hsz23, _⟩ := info_parts info5; obtain ⟨A23, hcut23, hA23, hC23⟩ := print_mid_of (P := Tryd.prog) (Value.int .u8) 0 22 5 .i64 .i64 Tryd.underlying22 hi023 hsz23 A0 c0 l0 ((rd_T144 t743 t746).f0) t741 (of_decide_eq_true (by first | (with_reducible assumption) | assumption)) (by first | omega | exact of_decide_eq_true (by first | (with_reducible assumption) | assumption)) (of_decide_eq_true (by first | (with_reducible assumption) | assumption)) HC0.out; have HR749 := Aside0.mk (Kd.C_of_reads (h1 := fun _ => rfl) (hA23 _ (Kd.reads_of_C HR0.out))); have HC749 := Aside0.mk hC23; clear hA23 hC23 hi023 hsz23) | (go_at_call 103; (refine calls_of_args (args' := #[.slice A0 (l0.take (t741 : Int).toNat).length c0, .int .i64 2]) ?argsEq ?_); (case argsEq => (rw [hlenA]; done)); (with_reducible refine (lines_size.calls _ _ (l0.take (t741 : Int).toNat) 2 t750 _ ?side1 ?side2 ?side3 A14.out).mono ?_); (case side1 => repeat (first | exact (Kd.C_below HR747.out (by repeat (first | (with_reducible first | exact HB.out | apply below_alloc | apply pw_below_drewN | apply below_drew1 | refine below_set ?_ GE740.out) | exact HB.out))) | (with_reducible refine Kd.C_alloc ?_ _) | (with_reducible refine Kd.C_drewN ?_ _) | (with_reducible refine Kd.C_drew ?_))); (case side2 => exact HC747.out); (case side3 => repeat (first | exact HG.out | exact Laid.below HG.out HB.out | (with_reducible refine Laid.alloc ?_ _) | (with_reducible refine Laid.drewN ?_ _) | (with_reducible refine Laid.drew ?_))); rintro e w24 ⟨rfl, hb⟩; have n0_ := Aside0.mk (Kd.R_below (by (with_reducible repeat (first | apply Kd.R_alloc | apply Kd.R_drewN | apply Kd.R_drew)); exact HO745.out) hb); have n1_ := Aside0.mk (blk_below (g := gb740) (o := .cells #[.int .i64 0, .int .i64 0, .int .i64 0, .int .i64 0, .int .i64 0, .int .i64 0, .int .i64 0] 79 (0, 0)) (by (with_reducible repeat (first | refine blk_drewN ?_ _ | refine blk_drew ?_ | refine blk_alloc ?_ _)); exact BK740.out) hb); have n2_ := Aside0.mk (below_step (by repeat (first | (with_reducible first | exact HB.out | apply below_alloc | apply pw_below_drewN | apply below_drew1 | refine below_set ?_ GE740.out) | exact HB.out)) hb); clear HO745; clear BK740; clear HB; have HO745 := n0_; have BK740 := n1_; have HB := n2_; clear n0_ n1_ n2_; (try clear hb); (try clear hb2); (try clear hk); (try clear hi)) | (go_at_call 103; (refine calls_of_args (args' := #[.slice A0 (l0.take (t741 : Int).toNat).length c0, .int .i64 3]) ?argsEq ?_); (case argsEq => (rw [hlenA]; done)); (with_reducible refine (lines_size.calls _ _ (l0.take (t741 : Int).toNat) 3 t751 _ ?side1 ?side2 ?side3 A15.out).mono ?_); (case side1 => repeat (first | exact (Kd.C_below HR747.out HB.out) | (with_reducible refine Kd.C_alloc ?_ _) | (with_reducible refine Kd.C_drewN ?_ _) | (with_reducible refine Kd.C_drew ?_))); (case side2 => exact HC747.out); (case side3 => repeat (first | exact HG.out | exact Laid.below HG.out HB.out | (with_reducible refine Laid.alloc ?_ _) | (with_reducible refine Laid.drewN ?_ _) | (with_reducible refine Laid.drew ?_))); rintro e w25 ⟨rfl, hb⟩; have n0_ := Aside0.mk (Kd.R_below (by (with_reducible repeat (first | apply Kd.R_alloc | apply Kd.R_drewN | apply Kd.R_drew)); exact HO745.out) hb); have n1_ := Aside0.mk (blk_below (g := gb740) (o := .cells #[.int .i64 0, .int .i64 0, .int .i64 0, .int .i64 0, .int .i64 0, .int .i64 0, .int .i64 0] 79 (0, 0)) (by (with_reducible repeat (first | refine blk_drewN ?_ _ | refine blk_drew ?_ | refine blk_alloc ?_ _)); exact BK740.out) hb); have n2_ := Aside0.mk (below_step (by repeat (first | (with_reducible first | exact HB.out | apply below_alloc | apply pw_below_drewN | apply below_drew1 | refine below_set ?_ GE740.out) | exact HB.out)) hb); clear HO745; clear BK740; clear HB; have HO745 := n0_; have BK740 := n1_; have HB := n2_; clear n0_ n1_ n2_; (try clear hb); (try clear hb2); (try clear hk); (try clear hi)) | (go_at_call 103; (refine calls_of_args (args' := #[.slice A23 ((l0.take (t741 : Int).toNat).drop (((rd_T144 t743 t746).f0) : Int).toNat).length (c0 - ((rd_T144 t743 t746).f0 : Int).toNat), .int .i64 2]) ?argsEq ?_); (case argsEq => (rw [hlenB]; done)); (with_reducible refine (lines_size.calls _ _ ((l0.take (t741 : Int).toNat).drop (((rd_T144 t743 t746).f0) : Int).toNat) 2 t752 _ ?side1 ?side2 ?side3 A16.out).mono ?_); (case side1 => repeat (first | exact (Kd.C_below HR749.out HB.out) | (with_reducible refine Kd.C_alloc ?_ _) | (with_reducible refine Kd.C_drewN ?_ _) | (with_reducible refine Kd.C_drew ?_))); (case side2 => exact HC749.out); (case side3 => repeat (first | exact HG.out | exact Laid.below HG.out HB.out | (with_reducible refine Laid.alloc ?_ _) | (with_reducible refine Laid.drewN ?_ _) | (with_reducible refine Laid.drew ?_))); rintro e w26 ⟨rfl, hb⟩; have n0_ := Aside0.mk (Kd.R_below (by (with_reducible repeat (first | apply Kd.R_alloc | apply Kd.R_drewN | apply Kd.R_drew)); exact HO745.out) hb); have n1_ := Aside0.mk (blk_below (g := gb740) (o := .cells #[.int .i64 0, .int .i64 0, .int .i64 0, .int .i64 0, .int .i64 0, .int .i64 0, .int .i64 0] 79 (0, 0)) (by (with_reducible repeat (first | refine blk_drewN ?_ _ | refine blk_drew ?_ | refine blk_alloc ?_ _)); exact BK740.out) hb); have n2_ := Aside0.mk (below_step (by repeat (first | (with_reducible first | exact HB.out | apply below_alloc | apply pw_below_drewN | apply below_drew1 | refine below_set ?_ GE740.out) | exact HB.out)) hb); clear HO745; clear BK740; clear HB; have HO745 := n0_; have BK740 := n1_; have HB := n2_; clear n0_ n1_ n2_; (try clear hb); (try clear hb2); (try clear hk); (try clear hi)) | (go_at_call 103; (refine calls_of_args (args' := #[.slice A23 ((l0.take (t741 : Int).toNat).drop (((rd_T144 t743 t746).f0) : Int).toNat).length (c0 - ((rd_T144 t743 t746).f0 : Int).toNat), .int .i64 3]) ?argsEq ?_); (case argsEq => (rw [hlenB]; done)); (with_reducible refine (lines_size.calls _ _ ((l0.take (t741 : Int).toNat).drop (((rd_T144 t743 t746).f0) : Int).toNat) 3 t753 _ ?side1 ?side2 ?side3 A17.out).mono ?_); (case side1 => repeat (first | exact (Kd.C_below HR749.out HB.out) | (with_reducible refine Kd.C_alloc ?_ _) | (with_reducible refine Kd.C_drewN ?_ _) | (with_reducible refine Kd.C_drew ?_))); (case side2 => exact HC749.out); (case side3 => repeat (first | exact HG.out | exact Laid.below HG.out HB.out | (with_reducible refine Laid.alloc ?_ _) | (with_reducible refine Laid.drewN ?_ _) | (with_reducible refine Laid.drew ?_))); rintro e w27 ⟨rfl, hb⟩; have n0_ := Aside0.mk (Kd.R_below (by (with_reducible repeat (first | apply Kd.R_alloc | apply Kd.R_drewN | apply Kd.R_drew)); exact HO745.out) hb); have n1_ := Aside0.mk (blk_below (g := gb740) (o := .cells #[.int .i64 0, .int .i64 0, .int .i64 0, .int .i64 0, .int .i64 0, .int .i64 0, .int .i64 0] 79 (0, 0)) (by (with_reducible repeat (first | refine blk_drewN ?_ _ | refine blk_drew ?_ | refine blk_alloc ?_ _)); exact BK740.out) hb); have n2_ := Aside0.mk (below_step (by repeat (first | (with_reducible first | exact HB.out | apply below_alloc | apply pw_below_drewN | apply below_drew1 | refine below_set ?_ GE740.out) | exact HB.out)) hb); clear HO745; clear BK740; clear HB; have HO745 := n0_; have BK740 := n1_; have HB := n2_; clear n0_ n1_ n2_; (try clear hb); (try clear hb2); (try clear hk); (try clear hi); have hcz28_0 : w27.cell? ⟨gb740, 0, none⟩ = some (.int .i64 0) := (blk_cell BK740.out 0).trans rfl; have hcz28_1 : w27.cell? ⟨gb740, 1, none⟩ = some (.int .i64 0) := (blk_cell BK740.out 1).trans rfl; have hcz28_2 : w27.cell? ⟨gb740, 2, none⟩ = some (.int .i64 0) := (blk_cell BK740.out 2).trans rfl; have hcz28_3 : w27.cell? ⟨gb740, 3, none⟩ = some (.int .i64 0) := (blk_cell BK740.out 3).trans rfl; have hcz28_4 : w27.cell? ⟨gb740, 4, none⟩ = some (.int .i64 0) := (blk_cell BK740.out 4).trans rfl; have hcz28_5 : w27.cell? ⟨gb740, 5, none⟩ = some (.int .i64 0) := (blk_cell BK740.out 5).trans rfl; have hcz28_6 : w27.cell? ⟨gb740, 6, none⟩ = some (.int .i64 0) := (blk_cell BK740.out 6).trans rfl; have hfz28_0 := blk_frozen BK740.out 0; have hfz28_1 := blk_frozen BK740.out 1; have hfz28_2 := blk_frozen BK740.out 2; have hfz28_3 := blk_frozen BK740.out 3; have hfz28_4 := blk_frozen BK740.out 4; have hfz28_5 := blk_frozen BK740.out 5; have hfz28_6 := blk_frozen BK740.out 6)))
        rw [← hlenB]
        refine bodyPost_ret (results_ct rfl _ _ gb740 79 #[.int .i64 t741, .int .i64 t750, .int .i64 t751, .int .i64 t746, .int .i64 (((l0.take (t741 : Int).toNat).drop (((rd_T144 t743 t746).f0) : Int).toNat).length : Int), .int .i64 t752, .int .i64 t753] (0, 0) _ rfl (by (with_reducible repeat (first | refine blk_drewN ?_ _ | refine blk_drew ?_ | refine blk_alloc ?_ _)); refine blk_put (cs := #[.int .i64 t741, .int .i64 t750, .int .i64 t751, .int .i64 t746, .int .i64 (((l0.take (t741 : Int).toNat).drop (((rd_T144 t743 t746).f0) : Int).toNat).length : Int), .int .i64 t752, .int .i64 0]) ?_ 6 _ rfl; (with_reducible repeat (first | refine blk_drewN ?_ _ | refine blk_drew ?_ | refine blk_alloc ?_ _)); refine blk_put (cs := #[.int .i64 t741, .int .i64 t750, .int .i64 t751, .int .i64 t746, .int .i64 (((l0.take (t741 : Int).toNat).drop (((rd_T144 t743 t746).f0) : Int).toNat).length : Int), .int .i64 0, .int .i64 0]) ?_ 5 _ rfl; (with_reducible repeat (first | refine blk_drewN ?_ _ | refine blk_drew ?_ | refine blk_alloc ?_ _)); refine blk_put (cs := #[.int .i64 t741, .int .i64 t750, .int .i64 t751, .int .i64 t746, .int .i64 0, .int .i64 0, .int .i64 0]) ?_ 4 _ rfl; (with_reducible repeat (first | refine blk_drewN ?_ _ | refine blk_drew ?_ | refine blk_alloc ?_ _)); refine blk_put (cs := #[.int .i64 t741, .int .i64 t750, .int .i64 t751, .int .i64 0, .int .i64 0, .int .i64 0, .int .i64 0]) ?_ 3 _ rfl; (with_reducible repeat (first | refine blk_drewN ?_ _ | refine blk_drew ?_ | refine blk_alloc ?_ _)); refine blk_put (cs := #[.int .i64 t741, .int .i64 t750, .int .i64 0, .int .i64 0, .int .i64 0, .int .i64 0, .int .i64 0]) ?_ 2 _ rfl; (with_reducible repeat (first | refine blk_drewN ?_ _ | refine blk_drew ?_ | refine blk_alloc ?_ _)); refine blk_put (cs := #[.int .i64 t741, .int .i64 0, .int .i64 0, .int .i64 0, .int .i64 0, .int .i64 0, .int .i64 0]) ?_ 1 _ rfl; (with_reducible repeat (first | refine blk_drewN ?_ _ | refine blk_drew ?_ | refine blk_alloc ?_ _)); refine blk_put (cs := #[.int .i64 0, .int .i64 0, .int .i64 0, .int .i64 0, .int .i64 0, .int .i64 0, .int .i64 0]) ?_ 0 _ rfl; (with_reducible repeat (first | refine blk_drewN ?_ _ | refine blk_drew ?_ | refine blk_alloc ?_ _)); exact BK740.out) Tryd.underlying79 rfl (by kernel_rfl)) rfl ?_
        exact ⟨by first | rfl | (simp [errW_none, errW_some] <;> rfl) | (simp [*, errW_none, errW_some] <;> rfl), by repeat (first | (with_reducible first | exact HB.out | apply below_alloc | apply pw_below_drewN | apply below_drew1 | refine below_set ?_ GE740.out) | exact HB.out)⟩
       ·
        rw [if_neg c12] at H
        exact absurd H (by simp)
      ·
       rw [if_neg c11] at H
       exact absurd H (by simp)
     ·
      rw [if_neg c10] at H
      exact absurd H (by simp)
    ·
     rw [if_neg c9] at H
     exact absurd H (by simp)
   ·
    rw [if_neg c8] at H
    exact absurd H (by simp)
  ·
   rw [if_neg c7] at H
   exact absurd H (by simp)
 ·
  rw [if_neg c4] at H
  have c4b0 : (t742 == 0) = false := beq_eq_false_iff_ne.mpr c4
  have c4b1 : (t742 != 0) = true := bne_iff_ne.mpr c4
  simp only [Option.some.injEq, Prod.mk.injEq] at H
  obtain ⟨rfl, rfl, rfl, rfl, rfl, rfl, rfl, rfl⟩ := H
  go_enter Tryd.func62, Tryd.ntmps62
  go_wp2_with (first | ((with_reducible refine gate_dst (N := 4) rfl ?_); refine box_event ?hg (N := 4) ?hd (cs := #[.int .i64 0, .int .i64 0, .int .i64 0, .int .i64 0, .int .i64 0, .int .i64 0, .int .i64 0]) (t := 79) ?hr ?_; (case hd => rfl); (case hg => rfl); (case hr => first | (go_simp; done) | (go_simp; rfl)); intro gb740 hg w29 hbox hb; have n0_ := Aside0.mk (below_step (by repeat (first | (with_reducible first | exact HB.out | apply below_alloc | apply pw_below_drewN | apply below_drew1) | exact HB.out)) hb); have n1_ := Aside0.mk (hbox); have n2_ := Aside0.mk ((by rw [hg]; exact (below_size (by repeat (first | (with_reducible first | exact HB.out | apply below_alloc | apply pw_below_drewN | apply below_drew1) | exact HB.out))) : w.heap.size ≤ gb740)); have n3_ := Aside0.mk ((by rw [hg]; exact (below_size (by repeat (first | (with_reducible first | exact HB.out | apply below_alloc | apply pw_below_drewN | apply below_drew1) | exact HB.out))) : w.heap.size ≤ gb740)); clear HB; have HB := n0_; have BK740 := n1_; have GW740 := n2_; have GE740 := n3_; clear n0_ n1_ n2_ n3_; clear hb hbox hg) | (go_at_call 101; (with_reducible refine (step_Floor.calls k _ _ l0 a1 t741 t742 _ ?side1 ?side2 ?side3 A3.out).mono ?_); (case side1 => repeat (first | exact (Kd.C_below HR0.out HB.out) | (with_reducible refine Kd.C_alloc ?_ _) | (with_reducible refine Kd.C_drewN ?_ _) | (with_reducible refine Kd.C_drew ?_))); (case side2 => exact HC0.out); (case side3 => repeat (first | exact HG.out | exact Laid.below HG.out HB.out | (with_reducible refine Laid.alloc ?_ _) | (with_reducible refine Laid.drewN ?_ _) | (with_reducible refine Laid.drew ?_))); rintro e w30 ⟨rfl, hb⟩; have n0_ := Aside0.mk (blk_below (g := gb740) (o := .cells #[.int .i64 0, .int .i64 0, .int .i64 0, .int .i64 0, .int .i64 0, .int .i64 0, .int .i64 0] 79 (0, 0)) (by (with_reducible repeat (first | refine blk_drewN ?_ _ | refine blk_drew ?_ | refine blk_alloc ?_ _)); exact BK740.out) hb); have n1_ := Aside0.mk (below_step (by repeat (first | (with_reducible first | exact HB.out | apply below_alloc | apply pw_below_drewN | apply below_drew1 | refine below_set ?_ GE740.out) | exact HB.out)) hb); clear BK740; clear HB; have BK740 := n0_; have HB := n1_; clear n0_ n1_; (try clear hb); (try clear hb2); (try clear hk); (try clear hi); have hcz31_0 : w30.cell? ⟨gb740, 0, none⟩ = some (.int .i64 0) := (blk_cell BK740.out 0).trans rfl; have hcz31_1 : w30.cell? ⟨gb740, 1, none⟩ = some (.int .i64 0) := (blk_cell BK740.out 1).trans rfl; have hcz31_2 : w30.cell? ⟨gb740, 2, none⟩ = some (.int .i64 0) := (blk_cell BK740.out 2).trans rfl; have hcz31_3 : w30.cell? ⟨gb740, 3, none⟩ = some (.int .i64 0) := (blk_cell BK740.out 3).trans rfl; have hcz31_4 : w30.cell? ⟨gb740, 4, none⟩ = some (.int .i64 0) := (blk_cell BK740.out 4).trans rfl; have hcz31_5 : w30.cell? ⟨gb740, 5, none⟩ = some (.int .i64 0) := (blk_cell BK740.out 5).trans rfl; have hcz31_6 : w30.cell? ⟨gb740, 6, none⟩ = some (.int .i64 0) := (blk_cell BK740.out 6).trans rfl; have hfz31_0 := blk_frozen BK740.out 0; have hfz31_1 := blk_frozen BK740.out 1; have hfz31_2 := blk_frozen BK740.out 2; have hfz31_3 := blk_frozen BK740.out 3; have hfz31_4 := blk_frozen BK740.out 4; have hfz31_5 := blk_frozen BK740.out 5; have hfz31_6 := blk_frozen BK740.out 6))
  repeat (go_quiet (first | ((with_reducible refine gate_dst (N := 4) rfl ?_); refine box_event ?hg (N := 4) ?hd (cs := #[.int .i64 0, .int .i64 0, .int .i64 0, .int .i64 0, .int .i64 0, .int .i64 0, .int .i64 0]) (t := 79) ?hr ?_; (case hd => rfl); (case hg => rfl); (case hr => first | (go_simp; done) | (go_simp; rfl)); intro gb740 hg w29 hbox hb; have n0_ := Aside0.mk (below_step (by repeat (first | (with_reducible first | exact HB.out | apply below_alloc | apply pw_below_drewN | apply below_drew1) | exact HB.out)) hb); have n1_ := Aside0.mk (hbox); have n2_ := Aside0.mk ((by rw [hg]; exact (below_size (by repeat (first | (with_reducible first | exact HB.out | apply below_alloc | apply pw_below_drewN | apply below_drew1) | exact HB.out))) : w.heap.size ≤ gb740)); have n3_ := Aside0.mk ((by rw [hg]; exact (below_size (by repeat (first | (with_reducible first | exact HB.out | apply below_alloc | apply pw_below_drewN | apply below_drew1) | exact HB.out))) : w.heap.size ≤ gb740)); clear HB; have HB := n0_; have BK740 := n1_; have GW740 := n2_; have GE740 := n3_; clear n0_ n1_ n2_ n3_; clear hb hbox hg) | (go_at_call 101; (with_reducible refine (step_Floor.calls k _ _ l0 a1 t741 t742 _ ?side1 ?side2 ?side3 A3.out).mono ?_); (case side1 => repeat (first | exact (Kd.C_below HR0.out HB.out) | (with_reducible refine Kd.C_alloc ?_ _) | (with_reducible refine Kd.C_drewN ?_ _) | (with_reducible refine Kd.C_drew ?_))); (case side2 => exact HC0.out); (case side3 => repeat (first | exact HG.out | exact Laid.below HG.out HB.out | (with_reducible refine Laid.alloc ?_ _) | (with_reducible refine Laid.drewN ?_ _) | (with_reducible refine Laid.drew ?_))); rintro e w30 ⟨rfl, hb⟩; have n0_ := Aside0.mk (blk_below (g := gb740) (o := .cells #[.int .i64 0, .int .i64 0, .int .i64 0, .int .i64 0, .int .i64 0, .int .i64 0, .int .i64 0] 79 (0, 0)) (by (with_reducible repeat (first | refine blk_drewN ?_ _ | refine blk_drew ?_ | refine blk_alloc ?_ _)); exact BK740.out) hb); have n1_ := Aside0.mk (below_step (by repeat (first | (with_reducible first | exact HB.out | apply below_alloc | apply pw_below_drewN | apply below_drew1 | refine below_set ?_ GE740.out) | exact HB.out)) hb); clear BK740; clear HB; have BK740 := n0_; have HB := n1_; clear n0_ n1_; (try clear hb); (try clear hb2); (try clear hk); (try clear hi); have hcz31_0 : w30.cell? ⟨gb740, 0, none⟩ = some (.int .i64 0) := (blk_cell BK740.out 0).trans rfl; have hcz31_1 : w30.cell? ⟨gb740, 1, none⟩ = some (.int .i64 0) := (blk_cell BK740.out 1).trans rfl; have hcz31_2 : w30.cell? ⟨gb740, 2, none⟩ = some (.int .i64 0) := (blk_cell BK740.out 2).trans rfl; have hcz31_3 : w30.cell? ⟨gb740, 3, none⟩ = some (.int .i64 0) := (blk_cell BK740.out 3).trans rfl; have hcz31_4 : w30.cell? ⟨gb740, 4, none⟩ = some (.int .i64 0) := (blk_cell BK740.out 4).trans rfl; have hcz31_5 : w30.cell? ⟨gb740, 5, none⟩ = some (.int .i64 0) := (blk_cell BK740.out 5).trans rfl; have hcz31_6 : w30.cell? ⟨gb740, 6, none⟩ = some (.int .i64 0) := (blk_cell BK740.out 6).trans rfl; have hfz31_0 := blk_frozen BK740.out 0; have hfz31_1 := blk_frozen BK740.out 1; have hfz31_2 := blk_frozen BK740.out 2; have hfz31_3 := blk_frozen BK740.out 3; have hfz31_4 := blk_frozen BK740.out 4; have hfz31_5 := blk_frozen BK740.out 5; have hfz31_6 := blk_frozen BK740.out 6)); try go_wp2_with (first | ((with_reducible refine gate_dst (N := 4) rfl ?_); refine box_event ?hg (N := 4) ?hd (cs := #[.int .i64 0, .int .i64 0, .int .i64 0, .int .i64 0, .int .i64 0, .int .i64 0, .int .i64 0]) (t := 79) ?hr ?_; (case hd => rfl); (case hg => rfl); (case hr => first | (go_simp; done) | (go_simp; rfl)); intro gb740 hg w29 hbox hb; have n0_ := Aside0.mk (below_step (by repeat (first | (with_reducible first | exact HB.out | apply below_alloc | apply pw_below_drewN | apply below_drew1) | exact HB.out)) hb); have n1_ := Aside0.mk (hbox); have n2_ := Aside0.mk ((by rw [hg]; exact (below_size (by repeat (first | (with_reducible first | exact HB.out | apply below_alloc | apply pw_below_drewN | apply below_drew1) | exact HB.out))) : w.heap.size ≤ gb740)); have n3_ := Aside0.mk ((by rw [hg]; exact (below_size (by repeat (first | (with_reducible first | exact HB.out | apply below_alloc | apply pw_below_drewN | apply below_drew1) | exact HB.out))) : w.heap.size ≤ gb740)); clear HB; have HB := n0_; have BK740 := n1_; have GW740 := n2_; have GE740 := n3_; clear n0_ n1_ n2_ n3_; clear hb hbox hg) | (go_at_call 101; (with_reducible refine (step_Floor.calls k _ _ l0 a1 t741 t742 _ ?side1 ?side2 ?side3 A3.out).mono ?_); (case side1 => repeat (first | exact (Kd.C_below HR0.out HB.out) | (with_reducible refine Kd.C_alloc ?_ _) | (with_reducible refine Kd.C_drewN ?_ _) | (with_reducible refine Kd.C_drew ?_))); (case side2 => exact HC0.out); (case side3 => repeat (first | exact HG.out | exact Laid.below HG.out HB.out | (with_reducible refine Laid.alloc ?_ _) | (with_reducible refine Laid.drewN ?_ _) | (with_reducible refine Laid.drew ?_))); rintro e w30 ⟨rfl, hb⟩; have n0_ := Aside0.mk (blk_below (g := gb740) (o := .cells #[.int .i64 0, .int .i64 0, .int .i64 0, .int .i64 0, .int .i64 0, .int .i64 0, .int .i64 0] 79 (0, 0)) (by (with_reducible repeat (first | refine blk_drewN ?_ _ | refine blk_drew ?_ | refine blk_alloc ?_ _)); exact BK740.out) hb); have n1_ := Aside0.mk (below_step (by repeat (first | (with_reducible first | exact HB.out | apply below_alloc | apply pw_below_drewN | apply below_drew1 | refine below_set ?_ GE740.out) | exact HB.out)) hb); clear BK740; clear HB; have BK740 := n0_; have HB := n1_; clear n0_ n1_; (try clear hb); (try clear hb2); (try clear hk); (try clear hi); have hcz31_0 : w30.cell? ⟨gb740, 0, none⟩ = some (.int .i64 0) := (blk_cell BK740.out 0).trans rfl; have hcz31_1 : w30.cell? ⟨gb740, 1, none⟩ = some (.int .i64 0) := (blk_cell BK740.out 1).trans rfl; have hcz31_2 : w30.cell? ⟨gb740, 2, none⟩ = some (.int .i64 0) := (blk_cell BK740.out 2).trans rfl; have hcz31_3 : w30.cell? ⟨gb740, 3, none⟩ = some (.int .i64 0) := (blk_cell BK740.out 3).trans rfl; have hcz31_4 : w30.cell? ⟨gb740, 4, none⟩ = some (.int .i64 0) := (blk_cell BK740.out 4).trans rfl; have hcz31_5 : w30.cell? ⟨gb740, 5, none⟩ = some (.int .i64 0) := (blk_cell BK740.out 5).trans rfl; have hcz31_6 : w30.cell? ⟨gb740, 6, none⟩ = some (.int .i64 0) := (blk_cell BK740.out 6).trans rfl; have hfz31_0 := blk_frozen BK740.out 0; have hfz31_1 := blk_frozen BK740.out 1; have hfz31_2 := blk_frozen BK740.out 2; have hfz31_3 := blk_frozen BK740.out 3; have hfz31_4 := blk_frozen BK740.out 4; have hfz31_5 := blk_frozen BK740.out 5; have hfz31_6 := blk_frozen BK740.out 6)))
  refine bodyPost_ret (results_ct rfl _ _ gb740 79 #[.int .i64 0, .int .i64 0, .int .i64 0, .int .i64 0, .int .i64 0, .int .i64 0, .int .i64 0] (0, 0) _ rfl (by (with_reducible repeat (first | refine blk_drewN ?_ _ | refine blk_drew ?_ | refine blk_alloc ?_ _)); refine blk_put (cs := #[.int .i64 0, .int .i64 0, .int .i64 0, .int .i64 0, .int .i64 0, .int .i64 0, .int .i64 0]) ?_ 6 _ rfl; (with_reducible repeat (first | refine blk_drewN ?_ _ | refine blk_drew ?_ | refine blk_alloc ?_ _)); refine blk_put (cs := #[.int .i64 0, .int .i64 0, .int .i64 0, .int .i64 0, .int .i64 0, .int .i64 0, .int .i64 0]) ?_ 5 _ rfl; (with_reducible repeat (first | refine blk_drewN ?_ _ | refine blk_drew ?_ | refine blk_alloc ?_ _)); refine blk_put (cs := #[.int .i64 0, .int .i64 0, .int .i64 0, .int .i64 0, .int .i64 0, .int .i64 0, .int .i64 0]) ?_ 4 _ rfl; (with_reducible repeat (first | refine blk_drewN ?_ _ | refine blk_drew ?_ | refine blk_alloc ?_ _)); refine blk_put (cs := #[.int .i64 0, .int .i64 0, .int .i64 0, .int .i64 0, .int .i64 0, .int .i64 0, .int .i64 0]) ?_ 3 _ rfl; (with_reducible repeat (first | refine blk_drewN ?_ _ | refine blk_drew ?_ | refine blk_alloc ?_ _)); refine blk_put (cs := #[.int .i64 0, .int .i64 0, .int .i64 0, .int .i64 0, .int .i64 0, .int .i64 0, .int .i64 0]) ?_ 2 _ rfl; (with_reducible repeat (first | refine blk_drewN ?_ _ | refine blk_drew ?_ | refine blk_alloc ?_ _)); refine blk_put (cs := #[.int .i64 0, .int .i64 0, .int .i64 0, .int .i64 0, .int .i64 0, .int .i64 0, .int .i64 0]) ?_ 1 _ rfl; (with_reducible repeat (first | refine blk_drewN ?_ _ | refine blk_drew ?_ | refine blk_alloc ?_ _)); refine blk_put (cs := #[.int .i64 0, .int .i64 0, .int .i64 0, .int .i64 0, .int .i64 0, .int .i64 0, .int .i64 0]) ?_ 0 _ rfl; (with_reducible repeat (first | refine blk_drewN ?_ _ | refine blk_drew ?_ | refine blk_alloc ?_ _)); exact BK740.out) Tryd.underlying79 rfl (by kernel_rfl)) rfl ?_
  exact ⟨by first | rfl | (simp [errW_none, errW_some] <;> rfl) | (simp [*, errW_none, errW_some] <;> rfl), by repeat (first | (with_reducible first | exact HB.out | apply below_alloc | apply pw_below_drewN | apply below_drew1 | refine below_set ?_ GE740.out) | exact HB.out)⟩
def lines_Count.f (l0 : List Int) : Option (Int) := (lines_all.f l0).bind fun t754 => (some (t754.length : Int))
set_option maxHeartbeats 8000000 in
set_option maxRecDepth 100000 in
theorem lines_Count.calls (A0 : Option Addr) (c0 : Nat) (l0 : List Int) (r : Int) (w : World) (hr0 : Kd.C (Kd.int .u8) w A0 l0.length l0) (hc0 : l0.length ≤ c0) (h : lines_Count.f l0 = some r) :
  Calls Tryd.prog 64 #[.slice A0 l0.length c0] w fun e w' => e = .returned (.int .i64 r) ∧ Below w.heap.size w w' := by
 have HR0 := Aside0.mk hr0
 have HC0 := Aside0.mk hc0
 clear hr0 hc0
 have HB := Aside0.mk (Below.refl w.heap.size w)
 have H : ((lines_all.f l0).bind fun t754 => (some (t754.length : Int))) = some r := h
 clear h
 replace H := Option.bind_eq_some_iff.mp H
 obtain ⟨t754, A20, H⟩ := H
 replace H : (some (t754.length : Int)) = some r := H
 have A2 := Aside0.mk A20
 clear A20
 obtain rfl := Option.some.inj H
 go_enter Tryd.func64, Tryd.ntmps64
 go_wp2_with (first | ((with_reducible refine gate_callee (f := 102) rfl ?_); refine goesL_ (some 4) rfl rfl Tryd.func102 (by kernel_rfl) rfl #[.slice A0 l0.length c0] rfl (by (try simp only [List.map_toArray, List.map_cons, List.map_nil]); first | done | rfl | (simp only [List.length_drop, List.length_take]; rfl)) ?_; (with_reducible refine (lines_all.calls _ _ l0 t754 _ ?side1 ?side2 A2.out).mono ?_); (case side1 => repeat (first | exact HR0.out | (with_reducible refine Kd.C_alloc ?_ _) | (with_reducible refine Kd.C_drewN ?_ _) | (with_reducible refine Kd.C_drew ?_))); (case side2 => exact HC0.out); rintro e w3 ⟨v755, rfl, ho0, hb⟩; refine ⟨_, rfl, ?_⟩; have n0_ := Aside0.mk (Kd.R_lower ho0 (below_size (by repeat (first | (with_reducible first | exact HB.out | apply below_alloc | apply pw_below_drewN | apply below_drew1) | exact HB.out)))); have n1_ := Aside0.mk (below_step (by repeat (first | (with_reducible first | exact HB.out | apply below_alloc | apply pw_below_drewN | apply below_drew1) | exact HB.out)) hb); clear HB; have HO756 := n0_; have HB := n1_; clear n0_ n1_; (try clear hb); (try clear hb2); (try clear hk); (try clear hi); (try clear ho0); obtain ⟨Ao4, co4, eo4⟩ := Kd.R_slice HO756.out; subst eo4))
 go_ret
 exact ⟨by first | rfl | (simp [errW_none, errW_some] <;> rfl) | (simp [*, errW_none, errW_some] <;> rfl), by repeat (first | (with_reducible first | exact HB.out | apply below_alloc | apply pw_below_drewN | apply below_drew1) | exact HB.out)⟩
end Go.Proofs.YtbomhpfckplgaaaDoor.P
namespace Go.Proofs.YtbomhpfckplgaaaDoor.P
open Go Go.RowKit Go.Proofs.YtbomhpfckplgaaaDoorW.PrintWords
set_option linter.unusedVariables false
set_option linter.unusedSimpArgs false
theorem own07_eq (l : List Int) (h : l.length < 140737488355328) : galleylaw07_own.f l = some l := by
  unfold galleylaw07_own.f
  simp
  omega
theorem linesF_length (l : List Int) : ∀ (n : Nat) (i s : Int), 0 ≤ i → i ≤ l.length → ((linesF l n i s).length : Int) ≤ l.length - i + 1
  | 0, i, s, h0, h1 => by simp [linesF]; omega
  | n + 1, i, s, h0, h1 => by
    unfold linesF
    by_cases c : i < (l.length : Int)
    · rw [if_pos c]
      by_cases c1 : rd l i = 10
      · rw [if_pos c1]
        have := linesF_length l n (i + 1) (i + 1) (by omega) (by omega)
        simp only [List.length_cons]
        omega
      · rw [if_neg c1]
        by_cases c2 : rd l i = 13
        · rw [if_pos c2]
          by_cases c3 : i + 1 < (l.length : Int) ∧ rd l (i + 1) = 10
          · rw [if_pos c3]
            have := linesF_length l n (i + 2) (i + 2) (by omega) (by omega)
            simp only [List.length_cons]
            omega
          · rw [if_neg c3]
            have := linesF_length l n (i + 1) (i + 1) (by omega) (by omega)
            simp only [List.length_cons]
            omega
        · rw [if_neg c2]
          have := linesF_length l n (i + 1) s (by omega) (by omega)
          omega
    · rw [if_neg c]
      simp
      omega
theorem linesL_length (l : List Int) : (linesL l).length ≤ l.length + 1 := by
  have := linesF_length l (l.length + 1) 0 0 (by omega) (by omega)
  unfold linesL
  omega
theorem all_is {l : List Int} (hs : Small l) : lines_all.f l = some (linesL l) := by
  unfold Small at hs
  unfold lines_all.f
  rw [if_pos (by omega)]
end Go.Proofs.YtbomhpfckplgaaaDoor.P
namespace Go.Proofs.YtbomhpfckplgaaaDoor.P
open Go Go.RowKit Go.Proofs.YtbomhpfckplgaaaDoorW.PrintWords
set_option linter.unusedVariables false
set_option linter.unusedSimpArgs false
def clean (l : List Int) (a b : Int) : Prop := ∀ i, a ≤ i → i < b → rd l i ≠ 13 ∧ rd l i ≠ 10
def kind (l : List Int) (c e : Int) : Prop := (l.take e.toNat).drop c.toNat = [10] ∨ ((l.take e.toNat).drop c.toNat = [13] ∧ (e < (l.length : Int) → rd l e ≠ 10)) ∨ (l.take e.toNat).drop c.toNat = [13, 10]
def Chain (l : List Int) : Int → List S144 → Prop
  | _, [] => False
  | s, x :: r => x.f0 = s ∧ 0 ≤ s ∧ s ≤ x.f1 ∧ x.f1 ≤ x.f3 ∧ x.f3 ≤ (l.length : Int) ∧ clean l s x.f1 ∧ ((r = [] ∧ x.f1 = (l.length : Int) ∧ x.f3 = (l.length : Int)) ∨ (r ≠ [] ∧ kind l x.f1 x.f3 ∧ Chain l x.f3 r))
theorem one_byte (l : List Int) (i : Int) (h0 : 0 ≤ i) (h1 : i < (l.length : Int)) : (l.take (i + 1).toNat).drop i.toNat = [rd l i] := by
  obtain ⟨n, rfl⟩ := Int.eq_ofNat_of_zero_le h0
  have h : n < l.length := by omega
  rw [show ((n : Int) + 1).toNat = n + 1 by omega, Int.toNat_natCast, rd_nat l n h, List.take_succ_eq_append_getElem h, List.drop_append]
  simp [Nat.min_eq_left (Nat.le_of_lt h)]
theorem two_bytes (l : List Int) (i : Int) (h0 : 0 ≤ i) (h1 : i + 1 < (l.length : Int)) : (l.take (i + 2).toNat).drop i.toNat = [rd l i, rd l (i + 1)] := by
  obtain ⟨n, rfl⟩ := Int.eq_ofNat_of_zero_le h0
  have h : n + 1 < l.length := by omega
  rw [show ((n : Int) + 2).toNat = n + 1 + 1 by omega, Int.toNat_natCast, rd_nat l n (by omega), show ((n : Int) + 1) = ((n + 1 : Nat) : Int) from rfl, rd_nat l (n + 1) h, List.take_succ_eq_append_getElem h, List.take_succ_eq_append_getElem (show n < l.length by omega), List.append_assoc, List.drop_append]
  simp [Nat.min_eq_left (show n ≤ l.length by omega)]
theorem chain_ne {l : List Int} {s : Int} {r : List S144} (h : Chain l s r) : r ≠ [] := by
  rintro rfl
  exact h
theorem chain_F (l : List Int) : ∀ (n : Nat) (i s : Int), 0 ≤ s → s ≤ i → i ≤ (l.length : Int) → (l.length : Int) - i < (n : Int) → clean l s i → Chain l s (linesF l n i s)
  | 0, i, s, h0, h1, h2, h3, h4 => by omega
  | n + 1, i, s, h0, h1, h2, h3, h4 => by
    unfold linesF
    by_cases c : i < (l.length : Int)
    · rw [if_pos c]
      have b1 := one_byte l i (by omega) c
      by_cases c1 : rd l i = 10
      · rw [if_pos c1]
        have ih := chain_F l n (i + 1) (i + 1) (by omega) (by omega) (by omega) (by omega) (fun j a b => by omega)
        refine ⟨rfl, h0, h1, by show i ≤ i + 1; omega, by show i + 1 ≤ _; omega, h4, .inr ⟨chain_ne ih, .inl ?_, ih⟩⟩
        rw [b1, c1]
      · rw [if_neg c1]
        by_cases c2 : rd l i = 13
        · rw [if_pos c2]
          by_cases c3 : i + 1 < (l.length : Int) ∧ rd l (i + 1) = 10
          · rw [if_pos c3]
            have ih := chain_F l n (i + 2) (i + 2) (by omega) (by omega) (by omega) (by omega) (fun j a b => by omega)
            refine ⟨rfl, h0, h1, by show i ≤ i + 2; omega, by show i + 2 ≤ _; omega, h4, .inr ⟨chain_ne ih, .inr (.inr ?_), ih⟩⟩
            rw [two_bytes l i (by omega) c3.1, c2, c3.2]
          · rw [if_neg c3]
            have ih := chain_F l n (i + 1) (i + 1) (by omega) (by omega) (by omega) (by omega) (fun j a b => by omega)
            refine ⟨rfl, h0, h1, by show i ≤ i + 1; omega, by show i + 1 ≤ _; omega, h4, .inr ⟨chain_ne ih, .inr (.inl ⟨?_, fun a b => c3 ⟨a, b⟩⟩), ih⟩⟩
            rw [b1, c2]
        · rw [if_neg c2]
          refine chain_F l n (i + 1) s h0 (by omega) (by omega) (by omega) (fun j a b => ?_)
          rcases (show j < i ∨ i ≤ j by omega) with h | h
          · exact h4 j a h
          · obtain rfl : j = i := by omega
            exact ⟨c2, c1⟩
    · rw [if_neg c]
      obtain rfl : i = (l.length : Int) := by omega
      exact ⟨rfl, h0, h1, Int.le_refl _, Int.le_refl _, h4, .inl ⟨rfl, rfl, rfl⟩⟩
theorem chain_is (l : List Int) : Chain l 0 (linesL l) := chain_F l (l.length + 1) 0 0 (by omega) (by omega) (by omega) (by omega) (fun j a b => by omega)
end Go.Proofs.YtbomhpfckplgaaaDoor.P
namespace Go.Proofs.YtbomhpfckplgaaaDoor.P
open Go Go.RowKit Go.Proofs.YtbomhpfckplgaaaDoorW.PrintWords Go.Proofs.YtbomhpfckplgaaaDoorW.PrintLast Go.Proofs.YtbomhpfckplgaaaDoorW.PrintMore
set_option linter.unusedVariables false
set_option linter.unusedSimpArgs false
set_option maxRecDepth 100000
attribute [local go_sem] max2_int min2_int max_two min_two max_three min_three max_four min_four
end Go.Proofs.YtbomhpfckplgaaaDoor.P
namespace Go.Proofs.YtbomhpfckplgaaaDoor.P
open Go Go.RowKit Go.Proofs.YtbomhpfckplgaaaDoorW.PrintWords Go.Proofs.YtbomhpfckplgaaaDoorW.PrintMore Utf
set_option linter.unusedVariables false
set_option linter.unusedSimpArgs false
theorem chain_line {l : List Int} : ∀ {s : Int} {L : List S144}, Chain l s L → ∀ x ∈ L, 0 ≤ x.f0 ∧ x.f0 ≤ x.f1 ∧ x.f1 ≤ x.f3 ∧ x.f3 ≤ (l.length : Int)
  | s, [], h => h.elim
  | s, x :: r, ⟨h0, h1, h2, h3, h4, h5, h6⟩ => by
    intro y hy
    rcases List.mem_cons.1 hy with rfl | hy
    · rw [h0]
      exact ⟨h1, h2, h3, h4⟩
    · rcases h6 with ⟨rfl, _⟩ | ⟨_, _, hc⟩
      · cases hy
      · exact chain_line hc y hy
theorem rd_mem (L : List S144) (k : Int) (h0 : 0 ≤ k) (h1 : k < L.length) : rd_T144 L k ∈ L := by
  obtain ⟨n, rfl⟩ := Int.eq_ofNat_of_zero_le h0
  have c : n < L.length := by omega
  unfold rd_T144
  rw [Int.toNat_natCast, List.getD_eq_getElem?_getD, List.getElem?_eq_getElem c]
  exact List.getElem_mem c
theorem last_line (l : List Int) : ∀ x ∈ linesL l, x.f1 ≤ x.f2 ∧ x.f2 ≤ x.f3 := by
  have : ∀ (n : Nat) (i s : Int), ∀ x ∈ linesF l n i s, x.f1 ≤ x.f2 ∧ x.f2 ≤ x.f3 := by
    intro n
    induction n with
    | zero => intro i s x hx; simp [linesF] at hx
    | succ n ih =>
      intro i s x hx
      unfold linesF at hx
      split at hx
      · split at hx
        · rcases List.mem_cons.1 hx with rfl | hx
          · exact ⟨Int.le_refl _, by show i ≤ i + 1; omega⟩
          · exact ih _ _ x hx
        · split at hx
          · split at hx
            · rcases List.mem_cons.1 hx with rfl | hx
              · exact ⟨by show i ≤ i + 1; omega, by show i + 1 ≤ i + 2; omega⟩
              · exact ih _ _ x hx
            · rcases List.mem_cons.1 hx with rfl | hx
              · exact ⟨Int.le_refl _, by show i ≤ i + 1; omega⟩
              · exact ih _ _ x hx
          · exact ih _ _ x hx
      · rcases List.mem_cons.1 hx with rfl | hx
        · exact ⟨Int.le_refl _, Int.le_refl _⟩
        · cases hx
  exact this _ _ _
theorem lsize_is {l : List Int} (hl : Bytes l) (hs : Wide l) (r : Nat) (h1 : 1 ≤ r) (h3 : r ≤ 3) : lines_size.f l (r : Int) = some (lastT l r) := by
  unfold lines_size.f
  rw [size_is hl hs, if_pos (by omega), Int.toNat_natCast]
  rfl
end Go.Proofs.YtbomhpfckplgaaaDoor.P
namespace Go.Proofs.YtbomhpfckplgaaaDoor.P
open Go Go.RowKit Go.Proofs.YtbomhpfckplgaaaDoorW.PrintWords Go.Proofs.YtbomhpfckplgaaaDoorW.PrintMore Utf
set_option linter.unusedVariables false
set_option linter.unusedSimpArgs false
def lineT (l : List Int) (s : Int) : List Int := (l.take (rd_T144 (linesL l) s).f2.toNat).drop (rd_T144 (linesL l) s).f0.toNat
def atP (l : List Int) (s c r m : Int) : Int × Int :=
  if (1 ≤ r ∧ r ≤ 3) ∧ (1 ≤ m ∧ m ≤ 3) then
    if s < 0 ∨ s ≥ (linesL l).length ∨ c < 0 then (0, 2)
    else if c ≤ lastT (lineT l s) r.toNat then (if ((rule_To.f (lineT l s) r c 1 m).getD (0, 0)).2 = 0 then ((rd_T144 (linesL l) s).f0 + ((rule_To.f (lineT l s) r c 1 m).getD (0, 0)).1, 0) else (0, ((rule_To.f (lineT l s) r c 1 m).getD (0, 0)).2))
    else if m = 3 then (0, 2) else ((rd_T144 (linesL l) s).f1, 0)
  else (0, 3)
theorem lineT_bytes {l : List Int} (hl : Bytes l) (s : Int) : Bytes (lineT l s) := fun x hx => hl x (List.mem_of_mem_take (List.mem_of_mem_drop hx))
theorem lineT_length (l : List Int) (s : Int) : (lineT l s).length ≤ l.length := by unfold lineT; simp; omega
theorem at_p {l : List Int} (hl : Bytes l) (hs : Small l) (s c r m : Int) : Ev (fun k => lines_At.f k l s c r m) (atP l s c r m) := by
  have hs' := hs
  unfold Small at hs'
  by_cases hg : (1 ≤ r ∧ r ≤ 3) ∧ (1 ≤ m ∧ m ≤ 3)
  · have head : ∀ v, Ev (fun k => lines_At.j0 k l r m false s c) v → Ev (fun k => lines_At.f k l s c r m) v := by
      intro v hv
      refine Ev.congr (fun k => ?_) hv
      unfold lines_At.f
      rw [if_neg (by omega), if_neg (by omega), if_neg (by omega), decide_eq_false (by omega)]
    refine head _ ?_
    unfold atP
    rw [if_pos hg]
    have bad : Ev (fun k => lines_At.j1 k l r m (linesL l) true s c) (0, 2) := Ev.step (G := fun _ => some (0, 2)) (fun k => by simp only [lines_At.j1, if_true]) (Ev.pure _)
    by_cases h1 : s < 0
    · rw [if_pos (.inl h1)]
      refine Ev.step (G := fun k => lines_At.j1 k l r m (linesL l) true s c) (fun k => ?_) bad
      simp only [lines_At.j0, Bool.false_eq_true, if_false]
      rw [all_is hs, Option.bind_some, if_pos h1]
    by_cases h2 : s ≥ ((linesL l).length : Int)
    · rw [if_pos (.inr (.inl h2))]
      refine Ev.step (G := fun k => lines_At.j1 k l r m (linesL l) true s c) (fun k => ?_) bad
      simp only [lines_At.j0, Bool.false_eq_true, if_false]
      rw [all_is hs, Option.bind_some, if_neg h1, if_pos h2]
    refine Ev.step (G := fun k => lines_At.j1 k l r m (linesL l) (decide (c < 0)) s c) (fun k => ?_) ?_
    · simp only [lines_At.j0, Bool.false_eq_true, if_false]
      rw [all_is hs, Option.bind_some, if_neg h1, if_neg h2]
    by_cases h3 : c < 0
    · rw [if_pos (.inr (.inr h3)), decide_eq_true h3]
      exact bad
    rw [if_neg (by omega), decide_eq_false h3]
    obtain ⟨n, rfl⟩ : ∃ n : Nat, r = n := ⟨r.toNat, by omega⟩
    have hm := rd_mem (linesL l) s (by omega) (by omega)
    have hx := chain_line (chain_is l) _ hm
    have hy := last_line l _ hm
    have hlen := lineT_length l s
    have bT := lineT_bytes hl s
    have wT : Wide (lineT l s) := by unfold Wide; omega
    have hsz := lsize_is bT wT n (by omega) (by omega)
    obtain ⟨v, e, ht⟩ := to_all (lineT l s) bT wT n c 1 m
    refine Ev.step (G := fun _ => some _) (fun k => ?_) (Ev.pure _)
    simp only [lines_At.j1, Bool.false_eq_true, if_false]
    rw [if_pos (by omega), if_pos (by omega), if_pos hx.1, if_pos (by omega), if_pos (by omega)]
    rw [show (l.take (rd_T144 (linesL l) s).f2.toNat).drop (rd_T144 (linesL l) s).f0.toNat = lineT l s from rfl, hsz, Option.bind_some, ht, Option.bind_some, Int.toNat_natCast, Option.getD_some]
    by_cases h4 : c ≤ lastT (lineT l s) n
    · rw [if_pos h4, if_pos h4]
      dsimp only
      by_cases h5 : e = 0
      · subst h5
        have hb := to_byte bT wT n c m v ht
        rw [if_pos rfl, if_pos rfl, w64 (by omega) (by omega)]
      · rw [if_neg h5, if_neg h5]
    · rw [if_neg h4, if_neg h4]
      by_cases h5 : m = 3
      · rw [if_pos h5, if_pos h5]
      · rw [if_neg h5, if_neg h5]
  · have bad : ∀ b : Bool, b = true → Ev (fun k => lines_At.j0 k l r m b s c) (0, 3) := fun b hb => by
      subst hb
      exact Ev.step (G := fun _ => some (0, 3)) (fun k => by simp only [lines_At.j0, if_true]) (Ev.pure _)
    unfold atP
    rw [if_neg hg]
    unfold lines_At.f
    by_cases h1 : r < 1
    · exact Ev.ite_pos h1 (bad _ rfl)
    refine Ev.ite_neg h1 ?_
    by_cases h2 : r > 3
    · exact Ev.ite_pos h2 (bad _ rfl)
    refine Ev.ite_neg h2 ?_
    by_cases h3 : m < 1
    · exact Ev.ite_pos h3 (bad _ rfl)
    refine Ev.ite_neg h3 (bad _ ?_)
    exact decide_eq_true (by omega)
end Go.Proofs.YtbomhpfckplgaaaDoor.P
namespace Go.Proofs.YtbomhpfckplgaaaDoor.P
open Go Go.RowKit Go.Proofs.YtbomhpfckplgaaaDoorW.PrintWords Go.Proofs.YtbomhpfckplgaaaDoorW.PrintMore Utf
set_option linter.unusedVariables false
set_option linter.unusedSimpArgs false
theorem long_ascii {l : List Int} {p : Nat} (h0 : 0 ≤ at_ l p) (h1 : at_ l p ≤ 127) : long l p = 1 := by
  unfold long long4
  rw [if_pos ⟨h0, h1⟩]
theorem ascii_edge {l : List Int} {p : Nat} (h0 : 0 ≤ at_ l p) (h1 : at_ l p ≤ 127) : inside l p = false ∧ inside l (p + 1) = false := by
  have hnt : ¬ tail (at_ l p) := fun h => by unfold tail at h; omega
  constructor
  · cases c : inside l p with
    | false => rfl
    | true =>
      obtain ⟨k, k0, k1, k2⟩ := inside_iff.1 c
      have := long_in k2 k0
      rw [show p - k + k = p by omega] at this
      exact absurd this hnt
  · cases c : inside l (p + 1) with
    | false => rfl
    | true =>
      obtain ⟨k, k0, k1, k2⟩ := inside_iff.1 c
      rcases Nat.eq_or_lt_of_le (show 1 ≤ k from k0) with rfl | h
      · rw [show p + 1 - 1 = p by omega, long_ascii h0 h1] at k2
        omega
      · have := long_in (b := l) (p := p + 1 - k) (k := k - 1) (by omega) (by omega)
        rw [show p + 1 - k + (k - 1) = p by omega] at this
        exact absurd this hnt
theorem edge_part {l : List Int} {a b q : Nat} (hab : a ≤ b) (hb : b ≤ l.length) (ha : inside l a = false) (hbe : inside l b = false) (hq : a + q ≤ b) (h : inside ((l.take b).drop a) q = false) : inside l (a + q) = false := by
  cases c : inside l (a + q) with
  | false => rfl
  | true =>
    obtain ⟨k, k0, k1, k2⟩ := inside_iff.1 c
    have hp : a ≤ a + q - k := by
      rcases Nat.lt_or_ge (a + q - k) a with g | g
      · have hw := long_le_width l (a + q - k)
        have := inside_mid (b := l) (p := a + q - k) (k := a - (a + q - k)) (by omega) (by omega)
        rw [show a + q - k + (a - (a + q - k)) = a by omega, ha] at this
        cases this
      · exact g
    have hpb : a + q - k < b := by omega
    have hw := step_within hbe hpb
    have hlw := long_le_width l (a + q - k)
    have hlt := long_take (b := l) (n := b) (q := a + q - k) (by omega) (by omega)
    have : inside ((l.take b).drop a) q = true := by
      refine inside_iff.2 ⟨k, k0, by omega, ?_⟩
      rw [long_drop, show a + (q - k) = a + q - k by omega, hlt]
      exact k2
    rw [h] at this
    cases this
theorem at_rd {l : List Int} {i : Int} (h0 : 0 ≤ i) (h1 : i < (l.length : Int)) : at_ l i.toNat = rd l i := by
  obtain ⟨n, rfl⟩ := Int.eq_ofNat_of_zero_le h0
  rw [Int.toNat_natCast, rd_at (by omega)]
theorem lines_edges (l : List Int) : ∀ (n : Nat) (i s : Int), 0 ≤ s → s ≤ i → i ≤ (l.length : Int) → (l.length : Int) - i < (n : Int) → inside l s.toNat = false → clean l s i →
    (∀ x ∈ linesF l n i s, inside l x.f0.toNat = false ∧ inside l x.f1.toNat = false ∧ inside l x.f2.toNat = false) ∧ (∀ x ∈ (linesF l n i s).dropLast, x.f2 < x.f3)
  | 0, i, s, h0, h1, h2, h3, h4, h5 => by omega
  | n + 1, i, s, h0, h1, h2, h3, h4, h5 => by
    unfold linesF
    by_cases c : i < (l.length : Int)
    · rw [if_pos c]
      have ha : ∀ j : Int, 0 ≤ j → j < (l.length : Int) → (rd l j = 10 ∨ rd l j = 13) → inside l j.toNat = false ∧ inside l (j + 1).toNat = false := fun j g0 g1 g2 => by
        have e := at_rd g0 g1
        rw [show (j + 1).toNat = j.toNat + 1 by omega]
        exact ascii_edge (by rw [e]; omega) (by rw [e]; omega)
      have cons : ∀ (x : S144) (i' : Int) , (l.length : Int) - i' < (n : Int) → 0 ≤ i' → i' ≤ (l.length : Int) → inside l i'.toNat = false → inside l x.f0.toNat = false → inside l x.f1.toNat = false → inside l x.f2.toNat = false → x.f2 < x.f3 →
          (∀ y ∈ x :: linesF l n i' i', inside l y.f0.toNat = false ∧ inside l y.f1.toNat = false ∧ inside l y.f2.toNat = false) ∧ (∀ y ∈ (x :: linesF l n i' i').dropLast, y.f2 < y.f3) := fun x i' g1 g2 g3 g4 g5 g6 g7 g8 => by
        have ih := lines_edges l n i' i' g2 (Int.le_refl _) g3 g1 g4 (fun j a b => by omega)
        have hne := chain_ne (chain_F l n i' i' g2 (Int.le_refl _) g3 g1 (fun j a b => by omega))
        refine ⟨fun y hy => ?_, fun y hy => ?_⟩
        · rcases List.mem_cons.1 hy with rfl | hy
          · exact ⟨g5, g6, g7⟩
          · exact ih.1 y hy
        · rw [List.dropLast_cons_of_ne_nil hne] at hy
          rcases List.mem_cons.1 hy with rfl | hy
          · exact g8
          · exact ih.2 y hy
      by_cases c1 : rd l i = 10
      · rw [if_pos c1]
        have e := ha i (by omega) c (.inl c1)
        exact cons _ _ (by omega) (by omega) (by omega) e.2 h4 e.1 e.1 (by show i < i + 1; omega)
      · rw [if_neg c1]
        by_cases c2 : rd l i = 13
        · rw [if_pos c2]
          have e := ha i (by omega) c (.inr c2)
          by_cases c3 : i + 1 < (l.length : Int) ∧ rd l (i + 1) = 10
          · rw [if_pos c3]
            have e2 := ha (i + 1) (by omega) c3.1 (.inl c3.2)
            rw [show i + 1 + 1 = i + 2 by omega] at e2
            exact cons _ _ (by omega) (by omega) (by omega) e2.2 h4 e.1 e.2 (by show i + 1 < i + 2; omega)
          · rw [if_neg c3]
            exact cons _ _ (by omega) (by omega) (by omega) e.2 h4 e.1 e.1 (by show i < i + 1; omega)
        · rw [if_neg c2]
          refine lines_edges l n (i + 1) s h0 (by omega) (by omega) (by omega) h4 (fun j a b => ?_)
          rcases (show j < i ∨ i ≤ j by omega) with h | h
          · exact h5 j a h
          · obtain rfl : j = i := by omega
            exact ⟨c2, c1⟩
    · rw [if_neg c]
      refine ⟨fun x hx => ?_, fun x hx => by simp at hx⟩
      rcases List.mem_cons.1 hx with rfl | hx
      · refine ⟨h4, ?_, ?_⟩
        · show inside l ((l.length : Int)).toNat = false
          rw [Int.toNat_natCast]
          exact inside_len l
        · show inside l ((l.length : Int)).toNat = false
          rw [Int.toNat_natCast]
          exact inside_len l
      · cases hx
theorem line_edge (l : List Int) (s : Nat) (h : s < (linesL l).length) : inside l (rd_T144 (linesL l) s).f0.toNat = false ∧ inside l (rd_T144 (linesL l) s).f1.toNat = false ∧ inside l (rd_T144 (linesL l) s).f2.toNat = false :=
  (lines_edges l _ 0 0 (by omega) (by omega) (by omega) (by omega) (inside_zero l) (fun j a b => by omega)).1 _ (rd_mem (linesL l) s (by omega) (by omega))
theorem line_order (l : List Int) (s : Nat) (h : s < (linesL l).length) : 0 ≤ (rd_T144 (linesL l) s).f0 ∧ (rd_T144 (linesL l) s).f0 ≤ (rd_T144 (linesL l) s).f1 ∧ (rd_T144 (linesL l) s).f1 ≤ (rd_T144 (linesL l) s).f2 ∧ (rd_T144 (linesL l) s).f2 ≤ (rd_T144 (linesL l) s).f3 ∧ (rd_T144 (linesL l) s).f3 ≤ (l.length : Int) := by
  have hm := rd_mem (linesL l) s (by omega) (by omega)
  have h1 := chain_line (chain_is l) _ hm
  have h2 := last_line l _ hm
  omega
theorem line_place {l : List Int} (s : Nat) (h : s < (linesL l).length) (e : Nat) (he : e ≤ (lineT l s).length) (hi : inside (lineT l s) e = false) : inside l ((rd_T144 (linesL l) s).f0.toNat + e) = false ∧ (rd_T144 (linesL l) s).f0 + (e : Int) ≤ (rd_T144 (linesL l) s).f2 := by
  have ho := line_order l s h
  have hed := line_edge l s h
  have hlen : (lineT l s).length = (rd_T144 (linesL l) s).f2.toNat - (rd_T144 (linesL l) s).f0.toNat := by
    unfold lineT
    rw [List.length_drop, List.length_take]
    omega
  refine ⟨edge_part (b := (rd_T144 (linesL l) s).f2.toNat) (by omega) (by omega) hed.1 hed.2.2 (by omega) hi, by omega⟩
end Go.Proofs.YtbomhpfckplgaaaDoor.P
namespace Go.Proofs.YtbomhpfckplgaaaDoor.P
open Go Go.RowKit Go.Proofs.YtbomhpfckplgaaaDoorW.PrintWords Go.Proofs.YtbomhpfckplgaaaDoorW.PrintMore Utf
set_option linter.unusedVariables false
set_option linter.unusedSimpArgs false
theorem pickV_lt {l : List Int} (hl : Bytes l) (hs : Wide l) (n : Nat) (n1 : 1 ≤ n) (n3 : n ≤ 3) {i j : Nat} (hi : i < (edgesL l).length) (hj : j < (edgesL l).length) (h : i < j) : pickE (edgesL l)[i] n < pickE (edgesL l)[j] n := by
  have hris := (tab_rises hl hs n n1 n3).1
  have hT : (tabL l n)[i]'(by simpa [tabL] using hi) < (tabL l n)[j]'(by simpa [tabL] using hj) := List.pairwise_iff_getElem.1 hris i j _ _ h
  simpa only [tabL, List.getElem_map] using hT
theorem pickV_inj {l : List Int} (hl : Bytes l) (hs : Wide l) (n : Nat) (n1 : 1 ≤ n) (n3 : n ≤ 3) {i j : Nat} (hi : i < (edgesL l).length) (hj : j < (edgesL l).length) (h : pickE (edgesL l)[i] n = pickE (edgesL l)[j] n) : i = j := by
  rcases Nat.lt_trichotomy i j with c | c | c
  · have := pickV_lt hl hs n n1 n3 hi hj c
    omega
  · exact c
  · have := pickV_lt hl hs n n1 n3 hj hi c
    omega
theorem place_where {l : List Int} (hl : Bytes l) (hs : Small l) (s : Nat) (h : s < (linesL l).length) (j : Nat) (hj : j < (edgesL (lineT l s)).length) :
    ∃ q : Nat, (rd_T144 (linesL l) s).f0 + pickE (edgesL (lineT l s))[j] 1 = (q : Int) ∧ (rd_T144 (linesL l) s).f0 ≤ (q : Int) ∧ (q : Int) ≤ (rd_T144 (linesL l) s).f2 ∧ inside l q = false := by
  have hlen := lineT_length l s
  have hs' := hs
  unfold Small at hs'
  have bT := lineT_bytes hl s
  have wT : Wide (lineT l s) := by unfold Wide; omega
  obtain ⟨e, he, h1, h2⟩ := byte_edge bT wT (List.mem_map.2 ⟨_, List.getElem_mem hj, rfl⟩ : pickE (edgesL (lineT l s))[j] 1 ∈ tabL (lineT l s) 1)
  have hp := line_place s h e h1 h2
  have ho := line_order l s h
  exact ⟨(rd_T144 (linesL l) s).f0.toNat + e, by omega, by omega, by omega, hp.1⟩
end Go.Proofs.YtbomhpfckplgaaaDoor.P
namespace Go.Proofs.YtbomhpfckplgaaaDoor.P
open Go Go.RowKit Go.Proofs.YtbomhpfckplgaaaDoorW.PrintWords Go.Proofs.YtbomhpfckplgaaaDoorW.PrintMore Utf
set_option linter.unusedVariables false
set_option linter.unusedSimpArgs false
theorem Bytes.take {l : List Int} (h : Bytes l) (n : Nat) : Bytes (l.take n) := fun x hx => h x (List.mem_of_mem_take hx)
theorem Bytes.drop {l : List Int} (h : Bytes l) (n : Nat) : Bytes (l.drop n) := fun x hx => h x (List.mem_of_mem_drop hx)
theorem Wide.take {l : List Int} (h : Wide l) (n : Nat) : Wide (l.take n) := by unfold Wide at *; simp; omega
theorem Wide.drop {l : List Int} (h : Wide l) (n : Nat) : Wide (l.drop n) := by unfold Wide at *; simp; omega
theorem long_take_pos {b : List Int} {n q : Nat} (h0 : 0 < long (b.take n) q) : long b q = long (b.take n) q := by
  have he := long_end h0
  have hl : (b.take n).length ≤ n := by simp; omega
  have hp : 0 < long b q := by
    rcases Nat.eq_zero_or_pos (long b q) with h | h
    · rw [long_take_zero h] at h0
      omega
    · exact h
  have hl4 := long_le4 (b.take n) q
  have e0 : at_ (b.take n) q = at_ b q := at_take (by omega)
  unfold long at he h0 hl4 ⊢
  rw [e0] at he h0 hl4 ⊢
  have a1 : q + 1 < n → at_ (b.take n) (q + 1) = at_ b (q + 1) := fun h => at_take h
  have a2 : q + 2 < n → at_ (b.take n) (q + 2) = at_ b (q + 2) := fun h => at_take h
  have a3 : q + 3 < n → at_ (b.take n) (q + 3) = at_ b (q + 3) := fun h => at_take h
  generalize at_ (b.take n) (q + 1) = y' at *
  generalize at_ (b.take n) (q + 2) = z' at *
  generalize at_ (b.take n) (q + 3) = w' at *
  generalize at_ b q = x at *
  generalize at_ b (q + 1) = y at *
  generalize at_ b (q + 2) = z at *
  generalize at_ b (q + 3) = w at *
  unfold long4 at *
  by_cases c1 : 0 ≤ x ∧ x ≤ 0x7f
  · rw [if_pos c1, if_pos c1]
  rw [if_neg c1] at he h0 hl4 ⊢
  rw [if_neg c1]
  by_cases c2 : (0xc2 ≤ x ∧ x ≤ 0xdf) ∧ tail y'
  · rw [if_pos c2] at he h0 hl4 ⊢
    rw [← a1 (by omega), if_pos c2]
  rw [if_neg c2] at he h0 hl4 ⊢
  by_cases c3 : tail z' ∧ three x y'
  · rw [if_pos c3] at he h0 hl4 ⊢
    rw [← a1 (by omega), ← a2 (by omega), if_neg c2, if_pos c3]
  rw [if_neg c3] at he h0 hl4 ⊢
  by_cases c4 : tail z' ∧ tail w' ∧ four x y'
  · rw [if_pos c4] at he h0 hl4 ⊢
    rw [← a1 (by omega), ← a2 (by omega), ← a3 (by omega), if_neg c2, if_neg c3, if_pos c4]
  rw [if_neg c4] at h0
  omega
theorem edge_take {l : List Int} {e n : Nat} (h : inside l e = false) : inside (l.take n) e = false := by
  rcases hb : inside (l.take n) e with _ | _
  · rfl
  · obtain ⟨k, k0, k1, k2⟩ := inside_iff.1 hb
    have e1 := long_take_pos (show 0 < long (l.take n) (e - k) by omega)
    rw [inside_iff.2 ⟨k, k0, k1, by omega⟩] at h
    cases h
theorem scan_at (r : Int) : ∀ (xs ys : List S121) (a : Int), (a :: scanT r a (xs ++ ys))[xs.length]? = (a :: scanT r a xs).getLast?
  | [], ys, a => by simp [scanT]
  | x :: xs, ys, a => by
    have ih := scan_at r xs ys (wrap64 (a + cntR r x))
    simp only [List.cons_append, scanT, List.length_cons, List.getElem?_cons_succ, List.getLast?_cons_cons]
    exact ih
theorem tab_cut {l : List Int} (hl : Bytes l) (e : Nat) (he : e ≤ l.length) (hi : inside l e = false) : ∃ i, ∃ h : i < (edgesL l).length, ∀ n : Nat, 1 ≤ n → n ≤ 3 → pickE (edgesL l)[i] n = lastT (l.take e) n := by
  have hc := steps_cut l e he hi
  have hlen : (stepsL (l.take e)).length ≤ (stepsL l).length := by
    have := congrArg List.length hc
    simp only [List.length_map, List.length_append] at this
    omega
  refine ⟨(stepsL (l.take e)).length, by rw [edges_length hl]; omega, fun n n1 n3 => ?_⟩
  have hT : (tabL l n)[(stepsL (l.take e)).length]? = (tabL (l.take e) n).getLast? := by
    rw [tab_scan hl n n1 n3, tab_scan (hl.take e) n n1 n3, hc]
    have := scan_at n ((stepsL (l.take e)).map toS) ((stepsL (l.drop e)).map toS) 0
    rwa [List.length_map] at this
  unfold lastT
  rw [← hT]
  unfold tabL
  rw [List.getElem?_map, List.getElem?_eq_getElem (by rw [edges_length hl]; omega)]
  rfl
end Go.Proofs.YtbomhpfckplgaaaDoor.P
namespace Go.Proofs.YtbomhpfckplgaaaDoor.P
open Go Go.RowKit Go.Proofs.YtbomhpfckplgaaaDoorW.PrintWords Go.Proofs.YtbomhpfckplgaaaDoorW.PrintMore Utf
set_option linter.unusedVariables false
set_option linter.unusedSimpArgs false
theorem long_need {l : List Int} (hl : Bytes l) {p : Nat} (hp : p < l.length) (h : 0 < long l p) : needP (at_ l p) = long l p := by
  have hb := at_byte hl hp
  rcases long4_need (y := at_ l (p + 1)) (z := at_ l (p + 2)) (w := at_ l (p + 3)) hb.1 hb.2 with e | e
  · have : long l p = 0 := e
    omega
  · exact e.symm
theorem ev_whole_w {l : List Int} (hl : Bytes l) (p : Nat) (hp : p < l.length) : Ev (fun k => galleyref01_Whole.f k ((l.take (p + width l p)).drop p)) (decide (0 < long l p)) := by
  rcases Nat.eq_zero_or_pos (long l p) with h | h
  · have hw : width l p = 1 := by unfold width; rw [if_pos h]
    rw [hw, decide_eq_false (by omega)]
    by_cases c : needP (at_ l p) = 1
    · have := ev_whole_n hl p 1 hp c (Nat.le_refl _) (by omega)
      rwa [decide_eq_false (by omega)] at this
    · obtain ⟨s, hsd⟩ : ∃ s, (l.take (p + 1)).drop p = s := ⟨_, rfl⟩
      have hlen : s.length = 1 := by rw [← hsd]; simp; omega
      have h0 : rd s 0 = at_ l p := by
        have e := rd_nat s 0 (by omega)
        rw [show ((0 : Nat) : Int) = 0 from rfl] at e
        rw [e]
        subst hsd
        rw [List.getElem_drop, List.getElem_take, ← at_nat]
        rfl
      rw [hsd]
      unfold galleyref01_Whole.f
      have beg : ∃ b, Ev (fun k => galleyref01_Begins.f k s) b := by
        unfold galleyref01_Begins.f
        by_cases c2 : needP (at_ l p) = 0
        · refine ⟨false, Ev.ite_neg (by omega) (Ev.ite_pos (by omega) ?_)⟩
          simp only [h0, need_is, Option.bind_some]
          rw [decide_eq_true (by omega)]
          refine Ev.step (G := fun _ => some false) (fun k => ?_) (Ev.pure _)
          simp only [galleyref01_Begins.j0, if_true]
        · refine ⟨true, Ev.ite_neg (by omega) (Ev.ite_pos (by omega) ?_)⟩
          simp only [h0, need_is, Option.bind_some]
          rw [decide_eq_false (by omega)]
          refine Ev.step (G := fun k => galleyref01_Begins.j1 k s) (fun k => ?_) ?_
          · simp only [galleyref01_Begins.j0, Bool.false_eq_true, if_false]
            rw [if_neg (by omega)]
          · refine Ev.step (G := fun k => galleyref01_Begins.l0 k s 2) (fun k => by simp only [galleyref01_Begins.j1]) (Ev.step (G := fun _ => some true) (fun k => ?_) (Ev.pure _))
            conv => lhs; unfold galleyref01_Begins.l0
            rw [if_neg (by omega)]
      obtain ⟨b, hb⟩ := beg
      refine Ev.bind hb ?_
      cases b with
      | false => exact Ev.ite_neg (by simp) (Ev.pure _)
      | true =>
        refine Ev.ite_pos rfl (Ev.ite_pos (by omega) (Ev.of ?_))
        rw [h0, need_is, Option.bind_some]
        congr 1
        rw [beq_eq_false_iff_ne]
        omega
  · have hn := long_need hl hp h
    have hw : width l p = long l p := by unfold width; rw [if_neg (by omega)]
    have he := long_end h
    have := ev_whole_n hl p (long l p) hp hn (by omega) he
    rw [hw, decide_eq_true h]
    rwa [decide_eq_true rfl] at this
theorem w32 {n : Int} (h0 : -2147483648 ≤ n) (h1 : n < 2147483648) : wrap32 n = n := by unfold wrap32; omega
theorem ev_value {l : List Int} (hl : Bytes l) (p : Nat) (hp : p < l.length) (h : 0 < long l p) : Ev (fun k => galleyref01_Value.f k ((l.take (p + width l p)).drop p)) (rune l p) := by
  have hwh := ev_whole_w hl p hp
  rw [decide_eq_true h] at hwh
  have hw : width l p = long l p := by unfold width; rw [if_neg (by omega)]
  rw [hw] at hwh ⊢
  have he := long_end h
  have h4 := long_le4 l p
  unfold rune
  generalize long l p = n at *
  obtain ⟨s, hsd⟩ : ∃ s, (l.take (p + n)).drop p = s := ⟨_, rfl⟩
  have hlen : s.length = n := by rw [← hsd]; simp; omega
  have hget : ∀ j, j < n → rd s (j : Int) = at_ l (p + j) ∧ 0 ≤ at_ l (p + j) ∧ at_ l (p + j) ≤ 255 := fun j h => by
    rw [rd_nat s j (by omega)]
    subst hsd
    rw [List.getElem_drop, List.getElem_take, ← at_nat]
    exact ⟨rfl, at_byte hl (by omega)⟩
  have h0 := hget 0 (by omega)
  rw [Nat.add_zero, show ((0 : Nat) : Int) = 0 from rfl] at h0
  have stp : ∀ (i : Nat) (v r : Int), i < n → 0 ≤ v → v < 1000000000000 → Ev (fun k => galleyref01_Value.l0 k s (v * 64 + at_ l (p + i) % 64) ((i + 1 : Nat) : Int)) r → Ev (fun k => galleyref01_Value.l0 k s v (i : Int)) r := by
    intro i v r hi v0 v1 hr
    have hg := hget i hi
    refine Ev.step (fun k => ?_) hr
    conv => lhs; unfold galleyref01_Value.l0
    rw [if_pos (by omega), if_pos (by omega), hg.1, w64 (n := at_ l (p + i)) (by omega) (by omega), tmod_nat hg.2.1, w64 (n := v * 64) (by omega) (by omega), w64 (n := v * 64 + at_ l (p + i) % 64) (by omega) (by omega), w64 (n := (i : Int) + 1) (by omega) (by omega)]
    rfl
  have fin : ∀ (v : Int), 0 ≤ v → v < 2147483648 → Ev (fun k => galleyref01_Value.l0 k s v (n : Int)) v := by
    intro v v0 v1
    refine Ev.step (G := fun _ => some v) (fun k => ?_) (Ev.pure _)
    conv => lhs; unfold galleyref01_Value.l0
    rw [if_neg (by omega), w32 (by omega) v1]
  have beg : ∀ v r, Ev (fun k => galleyref01_Value.l0 k s v ((1 : Nat) : Int)) r → Ev (fun k => galleyref01_Value.j0 k s v) r := fun v r hr => Ev.step (fun k => by simp only [galleyref01_Value.j0]; rfl) hr
  rw [hsd] at hwh ⊢
  unfold galleyref01_Value.f
  refine Ev.bind hwh (Ev.ite_pos rfl (Ev.ite_pos (by omega) ?_))
  simp only [h0.1, w64 (n := at_ l p) (by omega) (by omega), tmod_nat h0.2.1, hlen]
  obtain rfl | rfl | rfl | rfl : n = 1 ∨ n = 2 ∨ n = 3 ∨ n = 4 := by omega
  · refine Ev.ite_neg (by omega) (Ev.ite_neg (by omega) (Ev.ite_neg (by omega) (beg _ _ ?_)))
    exact fin _ (by omega) (by omega)
  · have g1 := (hget 1 (by omega)).2
    refine Ev.ite_pos (by omega) (beg _ _ (stp 1 _ _ (by omega) (by omega) (by omega) ?_))
    exact fin _ (by omega) (by omega)
  · have g1 := (hget 1 (by omega)).2
    have g2 := (hget 2 (by omega)).2
    refine Ev.ite_neg (by omega) (Ev.ite_pos (by omega) (beg _ _ (stp 1 _ _ (by omega) (by omega) (by omega) (stp 2 _ _ (by omega) (by omega) (by omega) ?_))))
    exact fin _ (by omega) (by omega)
  · have g1 := (hget 1 (by omega)).2
    have g2 := (hget 2 (by omega)).2
    have g3 := (hget 3 (by omega)).2
    refine Ev.ite_neg (by omega) (Ev.ite_neg (by omega) (Ev.ite_pos (by omega) (beg _ _ (stp 1 _ _ (by omega) (by omega) (by omega) (stp 2 _ _ (by omega) (by omega) (by omega) (stp 3 _ _ (by omega) (by omega) (by omega) ?_))))))
    exact fin _ (by omega) (by omega)
theorem ev_at4 {l : List Int} (hl : Bytes l) (hs : Small l) (p : Nat) (hp : p < l.length) : Ev (fun k => galleyref04_At.f k l (p : Int)) (stepN l p) := by
  have hs' := hs
  unfold Small at hs'
  have hwe := width_end hp
  have e : wrap64 ((p : Int) + (width l p : Int)) = ((p + width l p : Nat) : Int) := by rw [w64 (by omega) (by omega)]; rfl
  unfold galleyref04_At.f
  refine Ev.bind (ev_width hl hs p hp) (Ev.ite_pos (by omega) (Ev.ite_pos (by rw [e]; omega) (Ev.ite_pos (by rw [e]; omega) ?_)))
  rw [e, Int.toNat_natCast, Int.toNat_natCast]
  refine Ev.bind (ev_whole_w hl p hp) ?_
  unfold stepN
  rcases Nat.eq_zero_or_pos (long l p) with h | h
  · rw [if_pos h, decide_eq_false (by omega)]
    exact Ev.ite_neg (by simp) (Ev.pure _)
  · rw [if_neg (by omega), decide_eq_true h]
    refine Ev.ite_pos rfl (Ev.bind (ev_value hl p hp h) ?_)
    have hw : width l p = long l p := by unfold width; rw [if_neg (by omega)]
    rw [hw]
    exact Ev.pure _
theorem ev_steps4_from {l : List Int} (hl : Bytes l) (hs : Small l) : ∀ (n p : Nat) (acc : List S121), p ≤ l.length → l.length - p ≤ n → acc.length ≤ p →
    Ev (fun k => galleyref04_Steps.l0 k l acc (p : Int)) (acc ++ (stepsF l n p).map toS)
  | 0, p, acc, hp, hn, ha => by
    obtain rfl : p = l.length := by omega
    refine Ev.step (G := fun _ => some acc) (fun k => ?_) (by simpa [stepsF] using Ev.pure acc)
    conv => lhs; unfold galleyref04_Steps.l0
    rw [if_neg (by omega)]
  | n + 1, p, acc, hp, hn, ha => by
    have hs' := hs
    unfold Small at hs'
    rw [stepsF_succ]
    by_cases c : p < l.length
    · have hwp := width_pos l p
      have hwe := width_end c
      rw [if_pos c]
      refine Ev.step (G := fun k => (galleyref04_At.f k l (p : Int)).bind fun bt838 => (if acc.length < 5864062014805 then (galleyref04_Steps.l0 k l (acc ++ [(⟨bt838.1, bt838.2.1, bt838.2.2⟩ : S121)]) (wrap64 ((p : Int) + bt838.2.1))) else (none))) (fun k => ?_) ?_
      · conv => lhs; unfold galleyref04_Steps.l0
        rw [if_pos (by omega)]
      · refine Ev.bind (ev_at4 hl hs p c) (Ev.ite_pos (by omega) ?_)
        rw [stepN_w, w64 (n := (p : Int) + (width l p : Int)) (by omega) (by omega)]
        have ih := ev_steps4_from hl hs n (p + width l p) (acc ++ [toS (p, stepN l p)]) hwe (by omega) (by simp; omega)
        rw [List.append_assoc] at ih
        have e1 : toS (p, stepN l p) = ⟨(stepN l p).1, (width l p : Int), (stepN l p).2.2⟩ := by
          show (⟨_, (stepN l p).2.1, _⟩ : S121) = _
          rw [stepN_w]
        rw [List.map_cons, e1]
        rw [e1] at ih
        exact ih
    · rw [if_neg c]
      obtain rfl : p = l.length := by omega
      refine Ev.step (G := fun _ => some acc) (fun k => ?_) (by simpa using Ev.pure acc)
      conv => lhs; unfold galleyref04_Steps.l0
      rw [if_neg (by omega)]
theorem ev_steps4 {l : List Int} (hl : Bytes l) (hs : Small l) : Ev (fun k => galleyref04_Steps.f k l) ((stepsL l).map toS) := by
  have := ev_steps4_from hl hs l.length 0 [] (Nat.zero_le _) (by omega) (by simp)
  simpa [galleyref04_Steps.f, stepsL] using this
def sumT (r : Int) (xs : List S121) : Int := (xs.map fun x => cntR r x).sum
theorem last_scan (r : Int) : ∀ (xs : List S121) (a : Int), 0 ≤ a → a + 4 * (xs.length : Int) < 4611686018427387904 → (∀ x ∈ xs, 1 ≤ cntR r x ∧ cntR r x ≤ 4) → (a :: scanT r a xs).getLast?.getD 0 = a + sumT r xs
  | [], a, _, _, _ => by simp [scanT, sumT]
  | x :: xs, a, h0, hb, h => by
    have hx := h x List.mem_cons_self
    simp only [List.length_cons, Int.natCast_add, Int.natCast_one] at hb
    have e : wrap64 (a + cntR r x) = a + cntR r x := w64 (by omega) (by omega)
    have ih := last_scan r xs (a + cntR r x) (by omega) (by omega) (fun y hy => h y (List.mem_cons_of_mem _ hy))
    simp only [scanT, e, List.getLast?_cons_cons]
    rw [ih]
    simp [sumT]
    omega
theorem last_sum {l : List Int} (hl : Bytes l) (hs : Wide l) (r : Nat) (h1 : 1 ≤ r) (h3 : r ≤ 3) : lastT l r = sumT r ((stepsL l).map toS) := by
  have hlen := stepsL_length l
  unfold Wide at hs
  unfold lastT
  rw [tab_scan hl r h1 h3, last_scan r _ 0 (by omega) (by simp; omega)]
  · omega
  · intro x hx
    obtain ⟨y, hy, rfl⟩ := List.mem_map.1 hx
    exact cnt_range hl r h1 h3 hy
theorem ev_size_loop (r : Int) (hr : r ≠ 1) (xs : List S121) (hx : ∀ x ∈ xs, 1 ≤ cntR r x ∧ cntR r x ≤ 4) (hlen : xs.length < 1099511627777) : ∀ (d i : Nat) (n : Int), xs.length - i ≤ d → i ≤ xs.length → 0 ≤ n → n ≤ 4 * (i : Int) → Ev (fun k => galleyref07_Size.l0 k r n xs (i : Int)) (n + sumT r (xs.drop i))
  | 0, i, n, hd, hi, h0, h4 => by
    obtain rfl : i = xs.length := by omega
    refine Ev.step (G := fun _ => some n) (fun k => ?_) (by simpa [sumT] using Ev.pure n)
    conv => lhs; unfold galleyref07_Size.l0
    rw [if_neg (by omega)]
  | d + 1, i, n, hd, hi, h0, h4 => by
    by_cases c : i < xs.length
    · have hc := hx _ (List.getElem_mem c)
      have ih := ev_size_loop r hr xs hx hlen d (i + 1) (n + cntR r xs[i]) (by omega) (by omega) (by omega) (by omega)
      rw [List.drop_eq_getElem_cons c, show sumT r (xs[i] :: xs.drop (i + 1)) = cntR r xs[i] + sumT r (xs.drop (i + 1)) from by unfold sumT; rw [List.map_cons, List.sum_cons], ← Int.add_assoc]
      refine Ev.step (fun k => ?_) ih
      conv => lhs; unfold galleyref07_Size.l0
      rw [if_pos (by omega), w64 (n := (i : Int) + 1) (by omega) (by omega), rd_T_nat xs i c]
      unfold cntR
      rw [if_neg hr]
      by_cases c3 : r = 3
      · rw [if_pos c3, if_pos (by omega), if_pos c3]
        by_cases c4 : xs[i].f0 > 65535
        · rw [if_pos c4, if_pos c4, w64 (n := n + 1) (by omega) (by omega), w64 (n := n + 1 + 1) (by omega) (by omega)]
          rw [show n + 1 + 1 = n + 2 by omega]
          rfl
        · rw [if_neg c4, if_neg c4, w64 (n := n + 1) (by omega) (by omega)]
          rfl
      · rw [if_neg c3, if_neg c3, w64 (n := n + 1) (by omega) (by omega)]
        rfl
    · obtain rfl : i = xs.length := by omega
      refine Ev.step (G := fun _ => some n) (fun k => ?_) (by simpa [sumT] using Ev.pure n)
      conv => lhs; unfold galleyref07_Size.l0
      rw [if_neg (by omega)]
theorem ev_size7 {l : List Int} (hl : Bytes l) (hs : Small l) (r : Nat) (h1 : 1 ≤ r) (h3 : r ≤ 3) : Ev (fun k => galleyref07_Size.f k l (r : Int)) (lastT l r) := by
  unfold galleyref07_Size.f
  by_cases c : r = 1
  · subst c
    rw [last_bytes hl hs.wide]
    exact Ev.ite_pos rfl (Ev.pure _)
  · refine Ev.ite_neg (by omega) (Ev.bind (ev_steps4 hl hs) ?_)
    have hlen := stepsL_length l
    unfold Small at hs
    have := ev_size_loop (r : Int) (by omega) ((stepsL l).map toS) (fun x hx => by
      obtain ⟨y, hy, rfl⟩ := List.mem_map.1 hx
      exact cnt_range hl r h1 h3 hy) (by simp; omega) _ 0 0 (Nat.le_refl _) (Nat.zero_le _) (by omega) (by omega)
    rw [last_sum hl (by unfold Wide; omega) r h1 h3]
    simpa using this
theorem small_take {l : List Int} (h : Small l) (n : Nat) : Small (l.take n) := by unfold Small at *; simp; omega
theorem small_drop {l : List Int} (h : Small l) (n : Nat) : Small (l.drop n) := by unfold Small at *; simp; omega
end Go.Proofs.YtbomhpfckplgaaaDoor.P
namespace Go.Proofs.YtbomhpfckplgaaaDoor.P
open Go Go.RowKit Go.Proofs.YtbomhpfckplgaaaDoorW.PrintWords Go.Proofs.YtbomhpfckplgaaaDoorW.PrintLast Go.Proofs.YtbomhpfckplgaaaDoorW.PrintMore
set_option linter.unusedVariables false
set_option linter.unusedSimpArgs false
set_option maxRecDepth 100000
attribute [local go_sem] max2_int min2_int max_two min_two max_three min_three max_four min_four
def b07 : List Int := [97, 13, 10, 226, 130, 172, 120, 10, 13, 98]
theorem s07 : lines_Starts.f 9 b07 = some [0, 3, 8, 9] := by kernel_rfl
theorem w07 : lines_Where.f 9 b07 7 = some (7, 5, 5, 1, 4, 2, 2, 0) := by kernel_rfl
theorem a07 : lines_At.f 9 b07 1 1 2 3 = some (6, 0) := by kernel_rfl
theorem i07 : galleyref01_SameInts.f 9 [0, 3, 8, 9] [0, 3, 8, 9] = some true := by kernel_rfl
theorem c07 : lines_Count.f b07 = some 4 := by kernel_rfl
def galleylaw07_awake.f (k : Nat) : Option Bool := some true
set_option maxHeartbeats 8000000 in
theorem awake07_any (w : World) (hG : Laid w) : Calls Tryd.prog 56 #[] w fun e w' => e = .returned (.bool true) ∧ Below w.heap.size w w' := by
  have hu79 := Tryd.underlying79
  have hu71 := Tryd.underlying71
  have hcv := Go.Lib.run_convert_bytes_const (P := Tryd.prog) w 22 5 (List.map (Value.int .u8) b07).toArray 10 10 Tryd.underlying22 Tryd.underlying5
  have hG1 : Laid (w.alloc (.cells (List.map (Value.int .u8) b07).toArray 5 ((List.map (Value.int .u8) b07).toArray.size, (List.map (Value.int .u8) b07).toArray.size + 1))) := hG.alloc _
  have hb1 : Below w.heap.size w (w.alloc (.cells (List.map (Value.int .u8) b07).toArray 5 ((List.map (Value.int .u8) b07).toArray.size, (List.map (Value.int .u8) b07).toArray.size + 1))) := (Below.refl _ w).alloc (Nat.le_refl _) _
  have hR1 := blk_new w (.cells (List.map (Value.int .u8) b07).toArray 5 ((List.map (Value.int .u8) b07).toArray.size, (List.map (Value.int .u8) b07).toArray.size + 1))
  generalize w.alloc (.cells (List.map (Value.int .u8) b07).toArray 5 ((List.map (Value.int .u8) b07).toArray.size, (List.map (Value.int .u8) b07).toArray.size + 1)) = W1 at *
  rw [show (List.map (Value.int .u8) b07).toArray = #[.int .u8 97, .int .u8 13, .int .u8 10, .int .u8 226, .int .u8 130, .int .u8 172, .int .u8 120, .int .u8 10, .int .u8 13, .int .u8 98] from rfl] at hcv
  have F : Aside0 (Keeps (fun W => Kd.C (Kd.int .u8) W (some ⟨w.heap.size, 0, none⟩) b07.length b07 ∧ Laid W ∧ Below w.heap.size w W) W1) := ⟨(keeps_C (C_blk hR1 (by decide))).and ((keeps_laid hG1).and (keeps_below hb1 hb1.size))⟩
  clear hb1 hR1 hG1 hG
  have C1 : Aside0 (∀ W, Kd.C (Kd.int .u8) W (some ⟨w.heap.size, 0, none⟩) b07.length b07 → Calls Tryd.prog 61 #[.slice (some ⟨w.heap.size, 0, none⟩) 10 10] W fun e w' => ∃ A c, e = .returned (.slice A 4 c) ∧ 4 ≤ c ∧ Kd.C (Kd.int .i64) w' A 4 [0, 3, 8, 9] ∧ Below W.heap.size W w') := ⟨fun W hW => by
    refine (lines_Starts.calls 9 _ 10 b07 [0, 3, 8, 9] W hW (by decide) s07).mono ?_
    rintro e w' ⟨v, rfl, hR, hb⟩
    obtain ⟨A', c', rfl⟩ := Kd.R_slice hR
    obtain ⟨-, h2, h3⟩ := Kd.R_reads' hR
    exact ⟨A', c', rfl, h2, h3, hb⟩⟩
  have C2 : Aside0 (∀ W, Kd.C (Kd.int .u8) W (some ⟨w.heap.size, 0, none⟩) b07.length b07 → Laid W → Calls Tryd.prog 62 #[.slice (some ⟨w.heap.size, 0, none⟩) 10 10, .int .i64 7] W fun e w' => e = .returned (.tuple #[.agg #[.int .i64 7, .int .i64 5, .int .i64 5, .int .i64 1, .int .i64 4, .int .i64 2, .int .i64 2], .int .i64 0]) ∧ Below W.heap.size W w') := ⟨fun W hW hL => lines_Where.calls 9 _ 10 b07 7 7 5 5 1 4 2 2 0 W hW (by decide) hL w07⟩
  have C3 : Aside0 (∀ W, Kd.C (Kd.int .u8) W (some ⟨w.heap.size, 0, none⟩) b07.length b07 → Laid W → Calls Tryd.prog 58 #[.slice (some ⟨w.heap.size, 0, none⟩) 10 10, .agg #[.int .i64 1, .int .i64 1], .int .i64 2, .int .i64 3] W fun e w' => e = .returned (.tuple #[.int .i64 6, .int .i64 0]) ∧ Below W.heap.size W w') := ⟨fun W hW hL => lines_At.calls 9 _ 10 b07 1 1 2 3 6 0 W hW (by decide) hL a07⟩
  have C4 : Aside0 (∀ W, Kd.C (Kd.int .u8) W (some ⟨w.heap.size, 0, none⟩) b07.length b07 → Calls Tryd.prog 64 #[.slice (some ⟨w.heap.size, 0, none⟩) 10 10] W fun e w' => e = .returned (.int .i64 4) ∧ Below W.heap.size W w') := ⟨fun W hW => lines_Count.calls _ 10 b07 4 W hW (by decide) c07⟩
  have C5 : Aside0 (∀ W A c B d, Kd.C (Kd.int .i64) W A 4 [0, 3, 8, 9] → 4 ≤ c → Kd.C (Kd.int .i64) W B 4 [0, 3, 8, 9] → 4 ≤ d → Calls Tryd.prog 35 #[.slice A 4 c, .slice B 4 d] W fun e w' => e = .returned (.bool true) ∧ Below W.heap.size W w') := ⟨fun W A c B d h1 h2 h3 h4 => (galleyref01_SameInts.calls 9 A c [0, 3, 8, 9] B d [0, 3, 8, 9] true W h1 h2 h3 h4 i07).mono (fun e w' ⟨h, hd⟩ => ⟨h, hd.below⟩)⟩
  go_enter Tryd.func56, Tryd.ntmps56
  go_upto_region 4 with (first | (go_at_call 61; refine (C1.out _ F.out.here.1).mono ?_; rintro e w3 ⟨A, c, rfl, hc, hA, hb⟩; have F2 := Aside0.mk ((F.out.next hb).and (keeps_C hA)); have HC := Aside0.mk hc; clear hb hA hc) | (go_at_call 62; refine (C2.out _ F2.out.here.1.1 F2.out.here.1.2.1).mono ?_; rintro e w4 ⟨rfl, hb⟩; have F3 := Aside0.mk (F2.out.next hb); clear hb) | ((with_reducible refine gate_dst (N := 3) rfl ?_); refine box_event ?hg (N := 3) ?hd (cs := #[.int .i64 0, .int .i64 0, .int .i64 0, .int .i64 0, .int .i64 0, .int .i64 0, .int .i64 0]) (t := 79) ?hr ?_; (case hd => rfl); (case hg => rfl); (case hr => first | (go_simp; done) | (go_simp; rfl)); intro g3 hg3 w5 hx hb; have X3 := Aside0.mk hx; have F4 := Aside0.mk (F3.out.next hb); have G3 : Aside0 (w4.heap.size ≤ g3) := ⟨by rw [hg3]; exact Nat.le_refl _⟩; have B5 := Aside0.mk hb; clear hb hx hg3; have c30 : w5.cell? ⟨g3, 0, none⟩ = some (.int .i64 0) := (blk_cell X3.out 0).trans rfl; have f30 := blk_frozen X3.out 0; have c31 : w5.cell? ⟨g3, 1, none⟩ = some (.int .i64 0) := (blk_cell X3.out 1).trans rfl; have f31 := blk_frozen X3.out 1; have c32 : w5.cell? ⟨g3, 2, none⟩ = some (.int .i64 0) := (blk_cell X3.out 2).trans rfl; have f32 := blk_frozen X3.out 2; have c33 : w5.cell? ⟨g3, 3, none⟩ = some (.int .i64 0) := (blk_cell X3.out 3).trans rfl; have f33 := blk_frozen X3.out 3; have c34 : w5.cell? ⟨g3, 4, none⟩ = some (.int .i64 0) := (blk_cell X3.out 4).trans rfl; have f34 := blk_frozen X3.out 4; have c35 : w5.cell? ⟨g3, 5, none⟩ = some (.int .i64 0) := (blk_cell X3.out 5).trans rfl; have f35 := blk_frozen X3.out 5; have c36 : w5.cell? ⟨g3, 6, none⟩ = some (.int .i64 0) := (blk_cell X3.out 6).trans rfl; have f36 := blk_frozen X3.out 6))
  refine wp_world (fun V hV => ?_)
  have GE : Aside0 (w.heap.size ≤ g3) := ⟨Nat.le_trans F3.out.here.1.2.2.size G3.out⟩
  have Q3 : V.heap[g3]? = some (.cells #[.int .i64 7, .int .i64 5, .int .i64 5, .int .i64 1, .int .i64 4, .int .i64 2, .int .i64 2] 79 (0, 0)) := by
    rw [hV]
    refine blk_put (cs := #[.int .i64 7, .int .i64 5, .int .i64 5, .int .i64 1, .int .i64 4, .int .i64 2, .int .i64 0]) ?_ 6 _ rfl
    refine blk_put (cs := #[.int .i64 7, .int .i64 5, .int .i64 5, .int .i64 1, .int .i64 4, .int .i64 0, .int .i64 0]) ?_ 5 _ rfl
    refine blk_put (cs := #[.int .i64 7, .int .i64 5, .int .i64 5, .int .i64 1, .int .i64 0, .int .i64 0, .int .i64 0]) ?_ 4 _ rfl
    refine blk_put (cs := #[.int .i64 7, .int .i64 5, .int .i64 5, .int .i64 0, .int .i64 0, .int .i64 0, .int .i64 0]) ?_ 3 _ rfl
    refine blk_put (cs := #[.int .i64 7, .int .i64 5, .int .i64 0, .int .i64 0, .int .i64 0, .int .i64 0, .int .i64 0]) ?_ 2 _ rfl
    refine blk_put (cs := #[.int .i64 7, .int .i64 0, .int .i64 0, .int .i64 0, .int .i64 0, .int .i64 0, .int .i64 0]) ?_ 1 _ rfl
    refine blk_put (cs := #[.int .i64 0, .int .i64 0, .int .i64 0, .int .i64 0, .int .i64 0, .int .i64 0, .int .i64 0]) ?_ 0 _ rfl
    exact X3.out
  have FV : Keeps (fun W => (Kd.C (Kd.int .u8) W (some ⟨w.heap.size, 0, none⟩) b07.length b07 ∧ Laid W ∧ Below w.heap.size w W) ∧ Kd.C (Kd.int .i64) W A 4 [0, 3, 8, 9]) V := by
    have hb : Below w4.heap.size w4 V := by
      rw [hV]
      exact ((((((B5.out.setCell G3.out _).setCell G3.out _).setCell G3.out _).setCell G3.out _).setCell G3.out _).setCell G3.out _).setCell G3.out _
    exact F3.out.next hb
  have F5 := Aside0.mk (FV.and (keeps_cell ((blk_cell Q3 5).trans rfl : V.cell? ⟨g3, 5, none⟩ = some (.int .i64 2))))
  clear c30 f30 c31 f31 c32 f32 c33 f33 c34 f34 c35 f35 c36 f36
  clear hV Q3 FV F F2 F3 F4
  go_wp2_with (first | (go_at_call 58; refine (C3.out _ F5.out.here.1.1.1 F5.out.here.1.1.2.1).mono ?_; rintro e w7 ⟨rfl, hb⟩; replace F5 := Aside0.mk (F5.out.next hb); clear hb) | (go_at_call 35; refine (C5.out _ _ _ _ _ (Kd.C_alloc F5.out.here.1.2 _) HC.out (C_blk (fz := (0, 0)) (blk_new _ _) (by decide)) (by decide)).mono ?_; rintro e w8 ⟨rfl, hb⟩; replace F5 := Aside0.mk ((F5.out.next ((Below.refl _ _).alloc (Nat.le_refl _) _)).next hb); clear hb) | (go_at_call 64; refine (C4.out _ F5.out.here.1.1.1).mono ?_; rintro e w9 ⟨rfl, hb⟩; replace F5 := Aside0.mk (F5.out.next hb); clear hb; have c5 := F5.out.here.2))
  go_ret
  exact ⟨rfl, F5.out.here.1.1.2.2⟩
theorem galleylaw07_awake.calls (k : Nat) (r : Bool) (w : World) (hG : Laid w) (h : galleylaw07_awake.f k = some r) :
    Calls Tryd.prog 56 #[] w fun e w' => e = .returned (.bool r) ∧ Below w.heap.size w w' := by
  obtain rfl := Option.some.inj h
  exact awake07_any w hG
end Go.Proofs.YtbomhpfckplgaaaDoor.P
