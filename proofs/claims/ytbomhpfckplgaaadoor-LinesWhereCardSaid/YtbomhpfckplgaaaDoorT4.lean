/- Texts of this claim, put together: Px54, Uchain, HSpot, Uq, Uz, Ux, Ul. -/
import Derived.Test.YtbomhpfckplgaaaDoorT0
import Derived.Test.YtbomhpfckplgaaaDoorT1
import Derived.Test.YtbomhpfckplgaaaDoorT2
import Derived.Test.YtbomhpfckplgaaaDoorT3
namespace Go.Proofs.YtbomhpfckplgaaaDoor.P
open Go.RowKit Go.Proofs.YtbomhpfckplgaaaDoorW.PrintWords Go.Proofs.YtbomhpfckplgaaaDoorW.PrintLast Go.Proofs.YtbomhpfckplgaaaDoorW.PrintMore
attribute [local go_sem] max2_int min2_int max_two min_two max_three min_three max_four min_four   -- for this text's walks alone
set_option linter.unusedVariables false
set_option linter.unusedSimpArgs false
def lines_Where.f (k : Nat) (l0 : List Int) (a1 : Int) : Option (Int × Int × Int × Int × Int × Int × Int × Int) := (step_Floor.f k l0 a1).bind fun bt741 => (if bt741.2 = 0 then ((lines_all.f l0).bind fun t743 => ((lines_holds.f k t743 bt741.1).bind fun t746 => (if 0 ≤ bt741.1 then (if bt741.1 ≤ (l0.length : Int) then (if 0 ≤ t746 then (if t746 < (t743.length : Int) then (if 0 ≤ ((rd_T144 t743 t746).f0) then (if ((rd_T144 t743 t746).f0) ≤ bt741.1 then ((lines_size.f (l0.take (bt741.1 : Int).toNat) 2).bind fun t750 => ((lines_size.f (l0.take (bt741.1 : Int).toNat) 3).bind fun t751 => ((lines_size.f ((l0.take (bt741.1 : Int).toNat).drop (((rd_T144 t743 t746).f0) : Int).toNat) 2).bind fun t752 => ((lines_size.f ((l0.take (bt741.1 : Int).toNat).drop (((rd_T144 t743 t746).f0) : Int).toNat) 3).bind fun t753 => (some (bt741.1, t750, t751, t746, (((l0.take (bt741.1 : Int).toNat).drop (((rd_T144 t743 t746).f0) : Int).toNat).length : Int), t752, t753, 0)))))) else (none)) else (none)) else (none)) else (none)) else (none)) else (none)))) else (some (0, 0, 0, 0, 0, 0, 0, bt741.2)))
theorem lines_Where.mono : ∀ a0 a1 k, LeO (lines_Where.f k a0 a1) (lines_Where.f (k + 1) a0 a1) := by
 intro a0 a1 k
 unfold lines_Where.f
 repeat' first
   | (with_reducible exact lines_holds.mono _ _ _)
   | (with_reducible exact step_Floor.mono _ _ _)
   | (with_reducible exact LeO.refl _)
   | (with_reducible exact LeO.none _)
   | (with_reducible refine LeO.ite ?_ ?_)
   | (with_reducible refine LeO.bind ?_ (fun _ => ?_))
   | exact lines_holds.mono _ _ _
   | exact step_Floor.mono _ _ _
   | exact LeO.none _
   | refine LeO.ite ?_ ?_
   | refine LeO.bind ?_ (fun _ => ?_)
set_option maxHeartbeats 8000000 in
set_option maxRecDepth 100000 in
theorem lines_Where.calls (k : Nat) (A0 : Option Addr) (c0 : Nat) (l0 : List Int) (a1 : Int) (r1 : Int) (r2 : Int) (r3 : Int) (r4 : Int) (r5 : Int) (r6 : Int) (r7 : Int) (r8 : Int) (w : World) (hr0 : Kd.C (Kd.int .u8) w A0 l0.length l0) (hc0 : l0.length ≤ c0) (hG : Laid w) (h : lines_Where.f k l0 a1 = some (r1, r2, r3, r4, r5, r6, r7, r8)) :
  Calls Tryd.prog 62 #[.slice A0 l0.length c0, .int .i64 a1] w fun e w' => e = .returned (.tuple #[.agg #[.int .i64 r1, .int .i64 r2, .int .i64 r3, .int .i64 r4, .int .i64 r5, .int .i64 r6, .int .i64 r7], .int .i64 r8]) ∧ Below w.heap.size w w' := by
 have hu79 := Tryd.underlying79
 have HG := Aside0.mk hG
 clear hG
 have HR0 := Aside0.mk hr0
 have HC0 := Aside0.mk hc0
 clear hr0 hc0
 have HB := Aside0.mk (Below.refl w.heap.size w)
 have H : ((step_Floor.f k l0 a1).bind fun bt741 => (if bt741.2 = 0 then ((lines_all.f l0).bind fun t743 => ((lines_holds.f k t743 bt741.1).bind fun t746 => (if 0 ≤ bt741.1 then (if bt741.1 ≤ (l0.length : Int) then (if 0 ≤ t746 then (if t746 < (t743.length : Int) then (if 0 ≤ ((rd_T144 t743 t746).f0) then (if ((rd_T144 t743 t746).f0) ≤ bt741.1 then ((lines_size.f (l0.take (bt741.1 : Int).toNat) 2).bind fun t750 => ((lines_size.f (l0.take (bt741.1 : Int).toNat) 3).bind fun t751 => ((lines_size.f ((l0.take (bt741.1 : Int).toNat).drop (((rd_T144 t743 t746).f0) : Int).toNat) 2).bind fun t752 => ((lines_size.f ((l0.take (bt741.1 : Int).toNat).drop (((rd_T144 t743 t746).f0) : Int).toNat) 3).bind fun t753 => (some (bt741.1, t750, t751, t746, (((l0.take (bt741.1 : Int).toNat).drop (((rd_T144 t743 t746).f0) : Int).toNat).length : Int), t752, t753, 0)))))) else (none)) else (none)) else (none)) else (none)) else (none)) else (none)))) else (some (0, 0, 0, 0, 0, 0, 0, bt741.2)))) = some (r1, r2, r3, r4, r5, r6, r7, r8) := h
 clear h
 replace H := Option.bind_eq_some_iff.mp H
 obtain ⟨⟨t741, t742⟩, A30, H⟩ := H
 replace H : (if t742 = 0 then ((lines_all.f l0).bind fun t743 => ((lines_holds.f k t743 t741).bind fun t746 => (if 0 ≤ t741 then (if t741 ≤ (l0.length : Int) then (if 0 ≤ t746 then (if t746 < (t743.length : Int) then (if 0 ≤ ((rd_T144 t743 t746).f0) then (if ((rd_T144 t743 t746).f0) ≤ t741 then ((lines_size.f (l0.take (t741 : Int).toNat) 2).bind fun t750 => ((lines_size.f (l0.take (t741 : Int).toNat) 3).bind fun t751 => ((lines_size.f ((l0.take (t741 : Int).toNat).drop (((rd_T144 t743 t746).f0) : Int).toNat) 2).bind fun t752 => ((lines_size.f ((l0.take (t741 : Int).toNat).drop (((rd_T144 t743 t746).f0) : Int).toNat) 3).bind fun t753 => (some (t741, t750, t751, t746, (((l0.take (t741 : Int).toNat).drop (((rd_T144 t743 t746).f0) : Int).toNat).length : Int), t752, t753, 0)))))) else (none)) else (none)) else (none)) else (none)) else (none)) else (none)))) else (some (0, 0, 0, 0, 0, 0, 0, t742))) = some (r1, r2, r3, r4, r5, r6, r7, r8) := H
 have A3 := Aside0.mk A30
 clear A30
 by_cases c4 : t742 = 0
 ·
  rw [if_pos c4] at H
  have c4b0 : (t742 == 0) = true := beq_iff_eq.mpr c4
  have c4b1 : (t742 != 0) = false := bne_eq_false_iff_eq.mpr c4
  clear c4
  replace H := Option.bind_eq_some_iff.mp H
  obtain ⟨t743, A50, H⟩ := H
  replace H : ((lines_holds.f k t743 t741).bind fun t746 => (if 0 ≤ t741 then (if t741 ≤ (l0.length : Int) then (if 0 ≤ t746 then (if t746 < (t743.length : Int) then (if 0 ≤ ((rd_T144 t743 t746).f0) then (if ((rd_T144 t743 t746).f0) ≤ t741 then ((lines_size.f (l0.take (t741 : Int).toNat) 2).bind fun t750 => ((lines_size.f (l0.take (t741 : Int).toNat) 3).bind fun t751 => ((lines_size.f ((l0.take (t741 : Int).toNat).drop (((rd_T144 t743 t746).f0) : Int).toNat) 2).bind fun t752 => ((lines_size.f ((l0.take (t741 : Int).toNat).drop (((rd_T144 t743 t746).f0) : Int).toNat) 3).bind fun t753 => (some (t741, t750, t751, t746, (((l0.take (t741 : Int).toNat).drop (((rd_T144 t743 t746).f0) : Int).toNat).length : Int), t752, t753, 0)))))) else (none)) else (none)) else (none)) else (none)) else (none)) else (none))) = some (r1, r2, r3, r4, r5, r6, r7, r8) := H
  have A5 := Aside0.mk A50
  clear A50
  replace H := Option.bind_eq_some_iff.mp H
  obtain ⟨t746, A60, H⟩ := H
  replace H : (if 0 ≤ t741 then (if t741 ≤ (l0.length : Int) then (if 0 ≤ t746 then (if t746 < (t743.length : Int) then (if 0 ≤ ((rd_T144 t743 t746).f0) then (if ((rd_T144 t743 t746).f0) ≤ t741 then ((lines_size.f (l0.take (t741 : Int).toNat) 2).bind fun t750 => ((lines_size.f (l0.take (t741 : Int).toNat) 3).bind fun t751 => ((lines_size.f ((l0.take (t741 : Int).toNat).drop (((rd_T144 t743 t746).f0) : Int).toNat) 2).bind fun t752 => ((lines_size.f ((l0.take (t741 : Int).toNat).drop (((rd_T144 t743 t746).f0) : Int).toNat) 3).bind fun t753 => (some (t741, t750, t751, t746, (((l0.take (t741 : Int).toNat).drop (((rd_T144 t743 t746).f0) : Int).toNat).length : Int), t752, t753, 0)))))) else (none)) else (none)) else (none)) else (none)) else (none)) else (none)) = some (r1, r2, r3, r4, r5, r6, r7, r8) := H
  have A6 := Aside0.mk A60
  clear A60
  by_cases c7 : 0 ≤ t741
  ·
   rw [if_pos c7] at H
   have c7b0 := eq_true c7
   have c7b1 : decide (0 ≤ t741) = true := decide_eq_true c7
   clear c7
   by_cases c8 : t741 ≤ (l0.length : Int)
   ·
    rw [if_pos c8] at H
    have c8b0 := eq_true c8
    have c8b1 : decide (t741 ≤ (l0.length : Int)) = true := decide_eq_true c8
    clear c8
    by_cases c9 : 0 ≤ t746
    ·
     rw [if_pos c9] at H
     have c9b0 : decide (0 ≤ t746) = true := decide_eq_true c9
     clear c9
     by_cases c10 : t746 < (t743.length : Int)
     ·
      rw [if_pos c10] at H
      have c10b0 : decide (t746 < (t743.length : Int)) = true := decide_eq_true c10
      clear c10
      by_cases c11 : 0 ≤ ((rd_T144 t743 t746).f0)
      ·
       rw [if_pos c11] at H
       have c11b0 := eq_true c11
       have c11b1 : decide (0 ≤ ((rd_T144 t743 t746).f0)) = true := decide_eq_true c11
       clear c11
       by_cases c12 : ((rd_T144 t743 t746).f0) ≤ t741
       ·
        rw [if_pos c12] at H
        have c12b0 := eq_true c12
        have c12b1 : decide (((rd_T144 t743 t746).f0) ≤ t741) = true := decide_eq_true c12
        clear c12
        have c13b0 := eq_true (of_decide_eq_true (by first | (with_reducible assumption) | assumption) : t741 ≤ (l0.length : Int))
        replace H := Option.bind_eq_some_iff.mp H
        obtain ⟨t750, A140, H⟩ := H
        replace H : ((lines_size.f (l0.take (t741 : Int).toNat) 3).bind fun t751 => ((lines_size.f ((l0.take (t741 : Int).toNat).drop (((rd_T144 t743 t746).f0) : Int).toNat) 2).bind fun t752 => ((lines_size.f ((l0.take (t741 : Int).toNat).drop (((rd_T144 t743 t746).f0) : Int).toNat) 3).bind fun t753 => (some (t741, t750, t751, t746, (((l0.take (t741 : Int).toNat).drop (((rd_T144 t743 t746).f0) : Int).toNat).length : Int), t752, t753, 0))))) = some (r1, r2, r3, r4, r5, r6, r7, r8) := H
        have A14 := Aside0.mk A140
        clear A140
        replace H := Option.bind_eq_some_iff.mp H
        obtain ⟨t751, A150, H⟩ := H
        replace H : ((lines_size.f ((l0.take (t741 : Int).toNat).drop (((rd_T144 t743 t746).f0) : Int).toNat) 2).bind fun t752 => ((lines_size.f ((l0.take (t741 : Int).toNat).drop (((rd_T144 t743 t746).f0) : Int).toNat) 3).bind fun t753 => (some (t741, t750, t751, t746, (((l0.take (t741 : Int).toNat).drop (((rd_T144 t743 t746).f0) : Int).toNat).length : Int), t752, t753, 0)))) = some (r1, r2, r3, r4, r5, r6, r7, r8) := H
        have A15 := Aside0.mk A150
        clear A150
        replace H := Option.bind_eq_some_iff.mp H
        obtain ⟨t752, A160, H⟩ := H
        replace H : ((lines_size.f ((l0.take (t741 : Int).toNat).drop (((rd_T144 t743 t746).f0) : Int).toNat) 3).bind fun t753 => (some (t741, t750, t751, t746, (((l0.take (t741 : Int).toNat).drop (((rd_T144 t743 t746).f0) : Int).toNat).length : Int), t752, t753, 0))) = some (r1, r2, r3, r4, r5, r6, r7, r8) := H
        have A16 := Aside0.mk A160
        clear A160
        replace H := Option.bind_eq_some_iff.mp H
        obtain ⟨t753, A170, H⟩ := H
        replace H : (some (t741, t750, t751, t746, (((l0.take (t741 : Int).toNat).drop (((rd_T144 t743 t746).f0) : Int).toNat).length : Int), t752, t753, 0)) = some (r1, r2, r3, r4, r5, r6, r7, r8) := H
        have A17 := Aside0.mk A170
        clear A170
        simp only [Option.some.injEq, Prod.mk.injEq] at H
        obtain ⟨rfl, rfl, rfl, rfl, rfl, rfl, rfl, rfl⟩ := H
        have hlenA : (List.take (t741 : Int).toNat l0).length = (t741 : Int).toNat := by
         have := of_decide_eq_true c8b1
         have := of_decide_eq_true c7b1
         rw [List.length_take]
         omega
        have hlenB : (List.drop ((rd_T144 t743 t746).f0 : Int).toNat (List.take (t741 : Int).toNat l0)).length = (t741 : Int).toNat - ((rd_T144 t743 t746).f0 : Int).toNat := by
         rw [List.length_drop, hlenA]
        go_enter Tryd.func62, Tryd.ntmps62
        go_wp2_with (first | ((with_reducible refine gate_dst (N := 4) rfl ?_); refine box_event ?hg (N := 4) ?hd (cs := #[.int .i64 0, .int .i64 0, .int .i64 0, .int .i64 0, .int .i64 0, .int .i64 0, .int .i64 0]) (t := 79) ?hr ?_; (case hd => rfl); (case hg => rfl); (case hr => first | (go_simp; done) | (go_simp; rfl)); intro gb740 hg w18 hbox hb; have n0_ := Aside0.mk (below_step (by repeat (first | (with_reducible first | exact HB.out | apply below_alloc | apply pw_below_drewN | apply below_drew1) | exact HB.out)) hb); have n1_ := Aside0.mk (hbox); have n2_ := Aside0.mk ((by rw [hg]; exact (below_size (by repeat (first | (with_reducible first | exact HB.out | apply below_alloc | apply pw_below_drewN | apply below_drew1) | exact HB.out))) : w.heap.size ≤ gb740)); have n3_ := Aside0.mk ((by rw [hg]; exact (below_size (by repeat (first | (with_reducible first | exact HB.out | apply below_alloc | apply pw_below_drewN | apply below_drew1) | exact HB.out))) : w.heap.size ≤ gb740)); clear HB; have HB := n0_; have BK740 := n1_; have GW740 := n2_; have GE740 := n3_; clear n0_ n1_ n2_ n3_; clear hb hbox hg) | (go_at_call 101; (with_reducible refine (step_Floor.calls k _ _ l0 a1 t741 t742 _ ?side1 ?side2 ?side3 A3.out).mono ?_); (case side1 => repeat (first | exact (Kd.C_below HR0.out HB.out) | (with_reducible refine Kd.C_alloc ?_ _) | (with_reducible refine Kd.C_drewN ?_ _) | (with_reducible refine Kd.C_drew ?_))); (case side2 => exact HC0.out); (case side3 => repeat (first | exact HG.out | exact Laid.below HG.out HB.out | (with_reducible refine Laid.alloc ?_ _) | (with_reducible refine Laid.drewN ?_ _) | (with_reducible refine Laid.drew ?_))); rintro e w19 ⟨rfl, hb⟩; have n0_ := Aside0.mk (blk_below (g := gb740) (o := .cells #[.int .i64 0, .int .i64 0, .int .i64 0, .int .i64 0, .int .i64 0, .int .i64 0, .int .i64 0] 79 (0, 0)) (by (with_reducible repeat (first | refine blk_drewN ?_ _ | refine blk_drew ?_ | refine blk_alloc ?_ _)); exact BK740.out) hb); have n1_ := Aside0.mk (below_step (by repeat (first | (with_reducible first | exact HB.out | apply below_alloc | apply pw_below_drewN | apply below_drew1 | refine below_set ?_ GE740.out) | exact HB.out)) hb); clear BK740; clear HB; have BK740 := n0_; have HB := n1_; clear n0_ n1_; (try clear hb); (try clear hb2); (try clear hk); (try clear hi)) | (go_at_call 102; (with_reducible refine (lines_all.calls _ _ l0 t743 _ ?side1 ?side2 A5.out).mono ?_); (case side1 => repeat (first | exact (Kd.C_below HR0.out HB.out) | (with_reducible refine Kd.C_alloc ?_ _) | (with_reducible refine Kd.C_drewN ?_ _) | (with_reducible refine Kd.C_drew ?_))); (case side2 => exact HC0.out); rintro e w20 ⟨v744, rfl, ho0, hb⟩; have n0_ := Aside0.mk (Kd.R_lower ho0 (below_size (by repeat (first | (with_reducible first | exact HB.out | apply below_alloc | apply pw_below_drewN | apply below_drew1 | refine below_set ?_ GE740.out) | exact HB.out)))); have n1_ := Aside0.mk (blk_below (g := gb740) (o := .cells #[.int .i64 0, .int .i64 0, .int .i64 0, .int .i64 0, .int .i64 0, .int .i64 0, .int .i64 0] 79 (0, 0)) (by (with_reducible repeat (first | refine blk_drewN ?_ _ | refine blk_drew ?_ | refine blk_alloc ?_ _)); exact BK740.out) hb); have n2_ := Aside0.mk (below_step (by repeat (first | (with_reducible first | exact HB.out | apply below_alloc | apply pw_below_drewN | apply below_drew1 | refine below_set ?_ GE740.out) | exact HB.out)) hb); clear BK740; clear HB; have HO745 := n0_; have BK740 := n1_; have HB := n2_; clear n0_ n1_ n2_; (try clear hb); (try clear hb2); (try clear hk); (try clear hi); (try clear ho0); obtain ⟨Ao21, co21, eo21⟩ := Kd.R_slice HO745.out; subst eo21) | (go_at_call 106; (with_reducible refine (lines_holds.calls k _ _ t743 t741 t746 _ ?side1 ?side2 A6.out).mono ?_); (case side1 => repeat (first | exact (Kd.R_reads' HO745.out).2.2 | (with_reducible refine Kd.C_alloc ?_ _) | (with_reducible refine Kd.C_drewN ?_ _) | (with_reducible refine Kd.C_drew ?_))); (case side2 => exact (Kd.R_reads' HO745.out).2.1); rintro e w' ⟨rfl, ⟨nd, rfl⟩⟩; (try first | exact ⟨rfl, _, World.drewN_drewN _ _ _⟩ | exact ⟨rfl, _, Eq.trans (World.drewN_drewN _ _ _) (congrArg (World.drewN _) (Nat.add_assoc _ _ _))⟩); obtain ⟨i022, hi022, _, hsz22, _⟩ := info_parts info5; obtain ⟨hcut22, hA22, hC22⟩ := print_take_of (P := Tryd.prog) (Value.int .u8) 0 22 5 .i64 Tryd.underlying22 hi022 hsz22 A0 c0 l0 t741 (of_decide_eq_true (by first | (with_reducible assumption) | assumption)) (of_decide_eq_true (by first | (with_reducible assumption) | assumption)) HC0.out; have HR747 := Aside0.mk (Kd.C_of_reads (h1 := fun _ => rfl) (hA22 _ (Kd.reads_of_C HR0.out))); have HC747 := Aside0.mk hC22; clear hA22 hC22 hi022 hsz22; have p748 : 0 ≤ (t746 : Int) := of_decide_eq_true (by first | (with_reducible assumption) | assumption); have q748 : t746 < (t743.length : Int) := of_decide_eq_true (by first | (with_reducible assumption) | assumption); obtain ⟨ad748, e748, hx748_0, hx748_1, hx748_2, hx748_3⟩ := at_T144 (Kd.R_reads' HO745.out).2.2 t746 p748 q748; cases e748; replace p748 := eq_true p748; replace q748 := eq_true q748; obtain ⟨i023, hi023, _, hsz23, _⟩ := info_parts info5; obtain ⟨A23, hcut23, hA23, hC23⟩ := print_mid_of (P := Tryd.prog) (Value.int .u8) 0 22 5 .i64 .i64 Tryd.underlying22 hi023 hsz23 A0 c0 l0 ((rd_T144 t743 t746).f0) t741 (of_decide_eq_true (by first | (with_reducible assumption) | assumption)) (by first | omega | exact of_decide_eq_true (by first | (with_reducible assumption) | assumption)) (of_decide_eq_true (by first | (with_reducible assumption) | assumption)) HC0.out; have HR749 := Aside0.mk (Kd.C_of_reads (h1 := fun _ => rfl) (hA23 _ (Kd.reads_of_C HR0.out))); have HC749 := Aside0.mk hC23; clear hA23 hC23 hi023 hsz23) | (go_at_call 103; (refine calls_of_args (args' := #[.slice A0 (l0.take (t741 : Int).toNat).length c0, .int .i64 2]) ?argsEq ?_); (case argsEq => (rw [hlenA]; done)); (with_reducible refine (lines_size.calls _ _ (l0.take (t741 : Int).toNat) 2 t750 _ ?side1 ?side2 ?side3 A14.out).mono ?_); (case side1 => repeat (first | exact (Kd.C_below HR747.out (by repeat (first | (with_reducible first | exact HB.out | apply below_alloc | apply pw_below_drewN | apply below_drew1 | refine below_set ?_ GE740.out) | exact HB.out))) | (with_reducible refine Kd.C_alloc ?_ _) | (with_reducible refine Kd.C_drewN ?_ _) | (with_reducible refine Kd.C_drew ?_))); (case side2 => exact HC747.out); (case side3 => repeat (first | exact HG.out | exact Laid.below HG.out HB.out | (with_reducible refine Laid.alloc ?_ _) | (with_reducible refine Laid.drewN ?_ _) | (with_reducible refine Laid.drew ?_))); rintro e w24 ⟨rfl, hb⟩; have n0_ := Aside0.mk (Kd.R_below (by (with_reducible repeat (first | apply Kd.R_alloc | apply Kd.R_drewN | apply Kd.R_drew)); exact HO745.out) hb); have n1_ := Aside0.mk (blk_below (g := gb740) (o := .cells #[.int .i64 0, .int .i64 0, .int .i64 0, .int .i64 0, .int .i64 0, .int .i64 0, .int .i64 0] 79 (0, 0)) (by (with_reducible repeat (first | refine blk_drewN ?_ _ | refine blk_drew ?_ | refine blk_alloc ?_ _)); exact BK740.out) hb); have n2_ := Aside0.mk (below_step (by repeat (first | (with_reducible first | exact HB.out | apply below_alloc | apply pw_below_drewN | apply below_drew1 | refine below_set ?_ GE740.out) | exact HB.out)) hb); clear HO745; clear BK740; clear HB; have HO745 := n0_; have BK740 := n1_; have HB := n2_; clear n0_ n1_ n2_; (try clear hb); (try clear hb2); (try clear hk); (try clear hi)) | (go_at_call 103; (refine calls_of_args (args' := #[.slice A0 (l0.take (t741 : Int).toNat).length c0, .int .i64 3]) ?argsEq ?_); (case argsEq => (rw [hlenA]; done)); (with_reducible refine (lines_size.calls _ _ (l0.take (t741 : Int).toNat) 3 t751 _ ?side1 ?side2 ?side3 A15.out).mono ?_); (case side1 => repeat (first | exact (Kd.C_below HR747.out HB.out) | (with_reducible refine Kd.C_alloc ?_ _) | (with_reducible refine Kd.C_drewN ?_ _) | (with_reducible refine Kd.C_drew ?_))); (case side2 => exact HC747.out); (case side3 => repeat (first | exact HG.out | exact Laid.below HG.out HB.out | (with_reducible refine Laid.alloc ?_ _) | (with_reducible refine Laid.drewN ?_ _) | (with_reducible refine Laid.drew ?_))); rintro e w25 ⟨rfl, hb⟩; have n0_ := Aside0.mk (Kd.R_below (by (with_reducible repeat (first | apply Kd.R_alloc | apply Kd.R_drewN | apply Kd.R_drew)); exact HO745.out) hb); have n1_ := Aside0.mk (blk_below (g := gb740) (o := .cells #[.int .i64 0, .int .i64 0, .int .i64 0, .int .i64 0, .int .i64 0, .int .i64 0, .int .i64 0] 79 (0, 0)) (by (with_reducible repeat (first | refine blk_drewN ?_ _ | refine blk_drew ?_ | refine blk_alloc ?_ _)); exact BK740.out) hb); have n2_ := Aside0.mk (below_step (by repeat (first | (with_reducible first | exact HB.out | apply below_alloc | apply pw_below_drewN | apply below_drew1 | refine below_set ?_ GE740.out) | exact HB.out)) hb); clear HO745; clear BK740; clear HB; have HO745 := n0_; have BK740 := n1_; have HB := n2_; clear n0_ n1_ n2_; (try clear hb); (try clear hb2); (try clear hk); (try clear hi)) | (go_at_call 103; (refine calls_of_args (args' := #[.slice A23 ((l0.take (t741 : Int).toNat).drop (((rd_T144 t743 t746).f0) : Int).toNat).length (c0 - ((rd_T144 t743 t746).f0 : Int).toNat), .int .i64 2]) ?argsEq ?_); (case argsEq => (rw [hlenB]; done)); (with_reducible refine (lines_size.calls _ _ ((l0.take (t741 : Int).toNat).drop (((rd_T144 t743 t746).f0) : Int).toNat) 2 t752 _ ?side1 ?side2 ?side3 A16.out).mono ?_); (case side1 => repeat (first | exact (Kd.C_below HR749.out HB.out) | (with_reducible refine Kd.C_alloc ?_ _) | (with_reducible refine Kd.C_drewN ?_ _) | (with_reducible refine Kd.C_drew ?_))); (case side2 => exact HC749.out); (case side3 => repeat (first | exact HG.out | exact Laid.below HG.out HB.out | (with_reducible refine Laid.alloc ?_ _) | (with_reducible refine Laid.drewN ?_ _) | (with_reducible refine Laid.drew ?_))); rintro e w26 ⟨rfl, hb⟩; have n0_ := Aside0.mk (Kd.R_below (by (with_reducible repeat (first | apply Kd.R_alloc | apply Kd.R_drewN | apply Kd.R_drew)); exact HO745.out) hb); have n1_ := Aside0.mk (blk_below (g := gb740) (o := .cells #[.int .i64 0, .int .i64 0, .int .i64 0, .int .i64 0, .int .i64 0, .int .i64 0, .int .i64 0] 79 (0, 0)) (by (with_reducible repeat (first | refine blk_drewN ?_ _ | refine blk_drew ?_ | refine blk_alloc ?_ _)); exact BK740.out) hb); have n2_ := Aside0.mk (below_step (by repeat (first | (with_reducible first | exact HB.out | apply below_alloc | apply pw_below_drewN | apply below_drew1 | refine below_set ?_ GE740.out) | exact HB.out)) hb); clear HO745; clear BK740; clear HB; have HO745 := n0_; have BK740 := n1_; have HB := n2_; clear n0_ n1_ n2_; (try clear hb); (try clear hb2); (try clear hk); (try clear hi)) | (go_at_call 103; (refine calls_of_args (args' := #[.slice A23 ((l0.take (t741 : Int).toNat).drop (((rd_T144 t743 t746).f0) : Int).toNat).length (c0 - ((rd_T144 t743 t746).f0 : Int).toNat), .int .i64 3]) ?argsEq ?_); (case argsEq => (rw [hlenB]; done)); (with_reducible refine (lines_size.calls _ _ ((l0.take (t741 : Int).toNat).drop (((rd_T144 t743 t746).f0) : Int).toNat) 3 t753 _ ?side1 ?side2 ?side3 A17.out).mono ?_); (case side1 => repeat (first | exact (Kd.C_below HR749.out HB.out) | (with_reducible refine Kd.C_alloc ?_ _) | (with_reducible refine Kd.C_drewN ?_ _) | (with_reducible refine Kd.C_drew ?_))); (case side2 => exact HC749.out); (case side3 => repeat (first | exact HG.out | exact Laid.below HG.out HB.out | (with_reducible refine Laid.alloc ?_ _) | (with_reducible refine Laid.drewN ?_ _) | (with_reducible refine Laid.drew ?_))); rintro e w27 ⟨rfl, hb⟩; have n0_ := Aside0.mk (Kd.R_below (by (with_reducible repeat (first | apply Kd.R_alloc | apply Kd.R_drewN | apply Kd.R_drew)); exact HO745.out) hb); have n1_ := Aside0.mk (blk_below (g := gb740) (o := .cells #[.int .i64 0, .int .i64 0, .int .i64 0, .int .i64 0, .int .i64 0, .int .i64 0, .int .i64 0] 79 (0, 0)) (by (with_reducible repeat (first | refine blk_drewN ?_ _ | refine blk_drew ?_ | refine blk_alloc ?_ _)); exact BK740.out) hb); have n2_ := Aside0.mk (below_step (by repeat (first | (with_reducible first | exact HB.out | apply below_alloc | apply pw_below_drewN | apply below_drew1 | refine below_set ?_ GE740.out) | exact HB.out)) hb); clear HO745; clear BK740; clear HB; have HO745 := n0_; have BK740 := n1_; have HB := n2_; clear n0_ n1_ n2_; (try clear hb); (try clear hb2); (try clear hk); (try clear hi); have hcz28_0 : w27.cell? ⟨gb740, 0, none⟩ = some (.int .i64 0) := (blk_cell BK740.out 0).trans rfl; have hcz28_1 : w27.cell? ⟨gb740, 1, none⟩ = some (.int .i64 0) := (blk_cell BK740.out 1).trans rfl; have hcz28_2 : w27.cell? ⟨gb740, 2, none⟩ = some (.int .i64 0) := (blk_cell BK740.out 2).trans rfl; have hcz28_3 : w27.cell? ⟨gb740, 3, none⟩ = some (.int .i64 0) := (blk_cell BK740.out 3).trans rfl; have hcz28_4 : w27.cell? ⟨gb740, 4, none⟩ = some (.int .i64 0) := (blk_cell BK740.out 4).trans rfl; have hcz28_5 : w27.cell? ⟨gb740, 5, none⟩ = some (.int .i64 0) := (blk_cell BK740.out 5).trans rfl; have hcz28_6 : w27.cell? ⟨gb740, 6, none⟩ = some (.int .i64 0) := (blk_cell BK740.out 6).trans rfl; have hfz28_0 := blk_frozen BK740.out 0; have hfz28_1 := blk_frozen BK740.out 1; have hfz28_2 := blk_frozen BK740.out 2; have hfz28_3 := blk_frozen BK740.out 3; have hfz28_4 := blk_frozen BK740.out 4; have hfz28_5 := blk_frozen BK740.out 5; have hfz28_6 := blk_frozen BK740.out 6))
        repeat (go_quiet (first | ((with_reducible refine gate_dst (N := 4) rfl ?_); refine box_event ?hg (N := 4) ?hd (cs := #[.int .i64 0, .int .i64 0, .int .i64 0, .int .i64 0, .int .i64 0, .int .i64 0, .int .i64 0]) (t := 79) ?hr ?_; (case hd => rfl); (case hg => rfl); (case hr => first | (go_simp; done) | (go_simp; rfl)); intro gb740 hg w18 hbox hb; have n0_ := Aside0.mk (below_step (by repeat (first | (with_reducible first | exact HB.out | apply below_alloc | apply pw_below_drewN | apply below_drew1) | exact HB.out)) hb); have n1_ := Aside0.mk (hbox); have n2_ := Aside0.mk ((by rw [hg]; exact (below_size (by repeat (first | (with_reducible first | exact HB.out | apply below_alloc | apply pw_below_drewN | apply below_drew1) | exact HB.out))) : w.heap.size ≤ gb740)); have n3_ := Aside0.mk ((by rw [hg]; exact (below_size (by repeat (first | (with_reducible first | exact HB.out | apply below_alloc | apply pw_below_drewN | apply below_drew1) | exact HB.out))) : w.heap.size ≤ gb740)); clear HB; have HB := n0_; have BK740 := n1_; have GW740 := n2_; have GE740 := n3_; clear n0_ n1_ n2_ n3_; clear hb hbox hg) | (go_at_call 101; (with_reducible refine (step_Floor.calls k _ _ l0 a1 t741 t742 _ ?side1 ?side2 ?side3 A3.out).mono ?_); (case side1 => repeat (first | exact (Kd.C_below HR0.out HB.out) | (with_reducible refine Kd.C_alloc ?_ _) | (with_reducible refine Kd.C_drewN ?_ _) | (with_reducible refine Kd.C_drew ?_))); (case side2 => exact HC0.out); (case side3 => repeat (first | exact HG.out | exact Laid.below HG.out HB.out | (with_reducible refine Laid.alloc ?_ _) | (with_reducible refine Laid.drewN ?_ _) | (with_reducible refine Laid.drew ?_))); rintro e w19 ⟨rfl, hb⟩; have n0_ := Aside0.mk (blk_below (g := gb740) (o := .cells #[.int .i64 0, .int .i64 0, .int .i64 0, .int .i64 0, .int .i64 0, .int .i64 0, .int .i64 0] 79 (0, 0)) (by (with_reducible repeat (first | refine blk_drewN ?_ _ | refine blk_drew ?_ | refine blk_alloc ?_ _)); exact BK740.out) hb); have n1_ := Aside0.mk (below_step (by repeat (first | (with_reducible first | exact HB.out | apply below_alloc | apply pw_below_drewN | apply below_drew1 | refine below_set ?_ GE740.out) | exact HB.out)) hb); clear BK740; clear HB; have BK740 := n0_; have HB := n1_; clear n0_ n1_; (try clear hb); (try clear hb2); (try clear hk); (try clear hi)) | (go_at_call 102; (with_reducible refine (lines_all.calls _ _ l0 t743 _ ?side1 ?side2 A5.out).mono ?_); (case side1 => repeat (first | exact (Kd.C_below HR0.out HB.out) | (with_reducible refine Kd.C_alloc ?_ _) | (with_reducible refine Kd.C_drewN ?_ _) | (with_reducible refine Kd.C_drew ?_))); (case side2 => exact HC0.out); rintro e w20 ⟨v744, rfl, ho0, hb⟩; have n0_ := Aside0.mk (Kd.R_lower ho0 (below_size (by repeat (first | (with_reducible first | exact HB.out | apply below_alloc | apply pw_below_drewN | apply below_drew1 | refine below_set ?_ GE740.out) | exact HB.out)))); have n1_ := Aside0.mk (blk_below (g := gb740) (o := .cells #[.int .i64 0, .int .i64 0, .int .i64 0, .int .i64 0, .int .i64 0, .int .i64 0, .int .i64 0] 79 (0, 0)) (by (with_reducible repeat (first | refine blk_drewN ?_ _ | refine blk_drew ?_ | refine blk_alloc ?_ _)); exact BK740.out) hb); have n2_ := Aside0.mk (below_step (by repeat (first | (with_reducible first | exact HB.out | apply below_alloc | apply pw_below_drewN | apply below_drew1 | refine below_set ?_ GE740.out) | exact HB.out)) hb); clear BK740; clear HB; have HO745 := n0_; have BK740 := n1_; have HB := n2_; clear n0_ n1_ n2_; (try clear hb); (try clear hb2); (try clear hk); (try clear hi); (try clear ho0); obtain ⟨Ao21, co21, eo21⟩ := Kd.R_slice HO745.out; subst eo21) | (go_at_call 106; (with_reducible refine (lines_holds.calls k _ _ t743 t741 t746 _ ?side1 ?side2 A6.out).mono ?_); (case side1 => repeat (first | exact (Kd.R_reads' HO745.out).2.2 | (with_reducible refine Kd.C_alloc ?_ _) | (with_reducible refine Kd.C_drewN ?_ _) | (with_reducible refine Kd.C_drew ?_))); (case side2 => exact (Kd.R_reads' HO745.out).2.1); rintro e w' ⟨rfl, ⟨nd, rfl⟩⟩; (try first | exact ⟨rfl, _, World.drewN_drewN _ _ _⟩ | exact ⟨rfl, _, Eq.trans (World.drewN_drewN _ _ _) (congrArg (World.drewN _) (Nat.add_assoc _ _ _))⟩); obtain ⟨i022, hi022, _, hsz22, _⟩ := info_parts info5; obtain ⟨hcut22, hA22, hC22⟩ := print_take_of (P := Tryd.prog) (Value.int .u8) 0 22 5 .i64 Tryd.underlying22 hi022 hsz22 A0 c0 l0 t741 (of_decide_eq_true (by first | (with_reducible assumption) | assumption)) (of_decide_eq_true (by first | (with_reducible assumption) | assumption)) HC0.out; have HR747 := Aside0.mk (Kd.C_of_reads (h1 := fun _ => rfl) (hA22 _ (Kd.reads_of_C HR0.out))); have HC747 := Aside0.mk hC22; clear hA22 hC22 hi022 hsz22; have p748 : 0 ≤ (t746 : Int) := of_decide_eq_true (by first | (with_reducible assumption) | assumption); have q748 : t746 < (t743.length : Int) := of_decide_eq_true (by first | (with_reducible assumption) | assumption); obtain ⟨ad748, e748, hx748_0, hx748_1, hx748_2, hx748_3⟩ := at_T144 (Kd.R_reads' HO745.out).2.2 t746 p748 q748; cases e748; replace p748 := eq_true p748; replace q748 := eq_true q748; obtain ⟨i023, hi023, _, hsz23, _⟩ := info_parts info5; obtain ⟨A23, hcut23, hA23, hC23⟩ := print_mid_of (P := Tryd.prog) (Value.int .u8) 0 22 5 .i64 .i64 Tryd.underlying22 hi023 hsz23 A0 c0 l0 ((rd_T144 t743 t746).f0) t741 (of_decide_eq_true (by first | (with_reducible assumption) | assumption)) (by first | omega | exact of_decide_eq_true (by first | (with_reducible assumption) | assumption)) (of_decide_eq_true (by first | (with_reducible assumption) | assumption)) HC0.out; have HR749 := Aside0.mk (Kd.C_of_reads (h1 := fun _ => rfl) (hA23 _ (Kd.reads_of_C HR0.out))); have HC749 := Aside0.mk hC23; clear hA23 hC23 hi023 hsz23) | (go_at_call 103; (refine calls_of_args (args' := #[.slice A0 (l0.take (t741 : Int).toNat).length c0, .int .i64 2]) ?argsEq ?_); (case argsEq => (rw [hlenA]; done)); (with_reducible refine (lines_size.calls _ _ (l0.take (t741 : Int).toNat) 2 t750 _ ?side1 ?side2 ?side3 A14.out).mono ?_); (case side1 => repeat (first | exact (Kd.C_below HR747.out (by repeat (first | (with_reducible first | exact HB.out | apply below_alloc | apply pw_below_drewN | apply below_drew1 | refine below_set ?_ GE740.out) | exact HB.out))) | (with_reducible refine Kd.C_alloc ?_ _) | (with_reducible refine Kd.C_drewN ?_ _) | (with_reducible refine Kd.C_drew ?_))); (case side2 => exact HC747.out); (case side3 => repeat (first | exact HG.out | exact Laid.below HG.out HB.out | (with_reducible refine Laid.alloc ?_ _) | (with_reducible refine Laid.drewN ?_ _) | (with_reducible refine Laid.drew ?_))); rintro e w24 ⟨rfl, hb⟩; have n0_ := Aside0.mk (Kd.R_below (by (with_reducible repeat (first | apply Kd.R_alloc | apply Kd.R_drewN | apply Kd.R_drew)); exact HO745.out) hb); have n1_ := Aside0.mk (blk_below (g := gb740) (o := .cells #[.int .i64 0, .int .i64 0, .int .i64 0, .int .i64 0, .int .i64 0, .int .i64 0, .int .i64 0] 79 (0, 0)) (by (with_reducible repeat (first | refine blk_drewN ?_ _ | refine blk_drew ?_ | refine blk_alloc ?_ _)); exact BK740.out) hb); have n2_ := Aside0.mk (below_step (by repeat (first | (with_reducible first | exact HB.out | apply below_alloc | apply pw_below_drewN | apply below_drew1 | refine below_set ?_ GE740.out) | exact HB.out)) hb); clear HO745; clear BK740; clear HB; have HO745 := n0_; have BK740 := n1_; have HB := n2_; clear n0_ n1_ n2_; (try clear hb); (try clear hb2); (try clear hk); (try clear hi)) | (go_at_call 103; (refine calls_of_args (args' := #[.slice A0 (l0.take (t741 : Int).toNat).length c0, .int .i64 3]) ?argsEq ?_); (case argsEq => (rw [hlenA]; done)); (with_reducible refine (lines_size.calls _ _ (l0.take (t741 : Int).toNat) 3 t751 _ ?side1 ?side2 ?side3 A15.out).mono ?_); (case side1 => repeat (first | exact (Kd.C_below HR747.out HB.out) | (with_reducible refine Kd.C_alloc ?_ _) | (with_reducible refine Kd.C_drewN ?_ _) | (with_reducible refine Kd.C_drew ?_))); (case side2 => exact HC747.out); (case side3 => repeat (first | exact HG.out | exact Laid.below HG.out HB.out | (with_reducible refine Laid.alloc ?_ _) | (with_reducible refine Laid.drewN ?_ _) | (with_reducible refine Laid.drew ?_))); rintro e w25 ⟨rfl, hb⟩; have n0_ := Aside0.mk (Kd.R_below (by (with_reducible repeat (first | apply Kd.R_alloc | apply Kd.R_drewN | apply Kd.R_drew)); exact HO745.out) hb); have n1_ := Aside0.mk (blk_below (g := gb740) (o := .cells #[.int .i64 0, .int .i64 0, .int .i64 0, .int .i64 0, .int .i64 0, .int .i64 0, .int .i64 0] 79 (0, 0)) (by (with_reducible repeat (first | refine blk_drewN ?_ _ | refine blk_drew ?_ | refine blk_alloc ?_ _)); exact BK740.out) hb); have n2_ := Aside0.mk (below_step (by repeat (first | (with_reducible first | exact HB.out | apply below_alloc | apply pw_below_drewN | apply below_drew1 | refine below_set ?_ GE740.out) | exact HB.out)) hb); clear HO745; clear BK740; clear HB; have HO745 := n0_; have BK740 := n1_; have HB := n2_; clear n0_ n1_ n2_; (try clear hb); (try clear hb2); (try clear hk); (try clear hi)) | (go_at_call 103; (refine calls_of_args (args' := #[.slice A23 ((l0.take (t741 : Int).toNat).drop (((rd_T144 t743 t746).f0) : Int).toNat).length (c0 - ((rd_T144 t743 t746).f0 : Int).toNat), .int .i64 2]) ?argsEq ?_); (case argsEq => (rw [hlenB]; done)); (with_reducible refine (lines_size.calls _ _ ((l0.take (t741 : Int).toNat).drop (((rd_T144 t743 t746).f0) : Int).toNat) 2 t752 _ ?side1 ?side2 ?side3 A16.out).mono ?_); (case side1 => repeat (first | exact (Kd.C_below HR749.out HB.out) | (with_reducible refine Kd.C_alloc ?_ _) | (with_reducible refine Kd.C_drewN ?_ _) | (with_reducible refine Kd.C_drew ?_))); (case side2 => exact HC749.out); (case side3 => repeat (first | exact HG.out | exact Laid.below HG.out HB.out | (with_reducible refine Laid.alloc ?_ _) | (with_reducible refine Laid.drewN ?_ _) | (with_reducible refine Laid.drew ?_))); rintro e w26 ⟨rfl, hb⟩; have n0_ := Aside0.mk (Kd.R_below (by (with_reducible repeat (first | apply Kd.R_alloc | apply Kd.R_drewN | apply Kd.R_drew)); exact HO745.out) hb); have n1_ := Aside0.mk (blk_below (g := gb740) (o := .cells #[.int .i64 0, .int .i64 0, .int .i64 0, .int .i64 0, .int .i64 0, .int .i64 0, .int .i64 0] 79 (0, 0)) (by (with_reducible repeat (first | refine blk_drewN ?_ _ | refine blk_drew ?_ | refine blk_alloc ?_ _)); exact BK740.out) hb); have n2_ := Aside0.mk (below_step (by repeat (first | (with_reducible first | exact HB.out | apply below_alloc | apply pw_below_drewN | apply below_drew1 | refine below_set ?_ GE740.out) | exact HB.out)) hb); clear HO745; clear BK740; clear HB; have HO745 := n0_; have BK740 := n1_; have HB := n2_; clear n0_ n1_ n2_; (try clear hb); (try clear hb2); (try clear hk); (try clear hi)) | (go_at_call 103; (refine calls_of_args (args' := #[.slice A23 ((l0.take (t741 : Int).toNat).drop (((rd_T144 t743 t746).f0) : Int).toNat).length (c0 - ((rd_T144 t743 t746).f0 : Int).toNat), .int .i64 3]) ?argsEq ?_); (case argsEq => (rw [hlenB]; done)); (with_reducible refine (lines_size.calls _ _ ((l0.take (t741 : Int).toNat).drop (((rd_T144 t743 t746).f0) : Int).toNat) 3 t753 _ ?side1 ?side2 ?side3 A17.out).mono ?_); (case side1 => repeat (first | exact (Kd.C_below HR749.out HB.out) | (with_reducible refine Kd.C_alloc ?_ _) | (with_reducible refine Kd.C_drewN ?_ _) | (with_reducible refine Kd.C_drew ?_))); (case side2 => exact HC749.out); (case side3 => repeat (first | exact HG.out | exact Laid.below HG.out HB.out | (with_reducible refine Laid.alloc ?_ _) | (with_reducible refine Laid.drewN ?_ _) | (with_reducible refine Laid.drew ?_))); rintro e w27 ⟨rfl, hb⟩; have n0_ := Aside0.mk (Kd.R_below (by (with_reducible repeat (first | apply Kd.R_alloc | apply Kd.R_drewN | apply Kd.R_drew)); exact HO745.out) hb); have n1_ := Aside0.mk (blk_below (g := gb740) (o := .cells #[.int .i64 0, .int .i64 0, .int .i64 0, .int .i64 0, .int .i64 0, .int .i64 0, .int .i64 0] 79 (0, 0)) (by (with_reducible repeat (first | refine blk_drewN ?_ _ | refine blk_drew ?_ | refine blk_alloc ?_ _)); exact BK740.out) hb); have n2_ := Aside0.mk (below_step (by repeat (first | (with_reducible first | exact HB.out | apply below_alloc | apply pw_below_drewN | apply below_drew1 | refine below_set ?_ GE740.out) | exact HB.out)) hb); clear HO745; clear BK740; clear HB; have HO745 := n0_; have BK740 := n1_; have HB := n2_; clear n0_ n1_ n2_; (try clear hb); (try clear hb2); (try clear hk); (try clear hi); have hcz28_0 : w27.cell? ⟨gb740, 0, none⟩ = some (.int .i64 0) := (blk_cell BK740.out 0).trans rfl; have hcz28_1 : w27.cell? ⟨gb740, 1, none⟩ = some (.int .i64 0) := (blk_cell BK740.out 1).trans rfl; have hcz28_2 : w27.cell? ⟨gb740, 2, none⟩ = some (.int .i64 0) := (blk_cell BK740.out 2).trans rfl; have hcz28_3 : w27.cell? ⟨gb740, 3, none⟩ = some (.int .i64 0) := (blk_cell BK740.out 3).trans rfl; have hcz28_4 : w27.cell? ⟨gb740, 4, none⟩ = some (.int .i64 0) := (blk_cell BK740.out 4).trans rfl; have hcz28_5 : w27.cell? ⟨gb740, 5, none⟩ = some (.int .i64 0) := (blk_cell BK740.out 5).trans rfl; have hcz28_6 : w27.cell? ⟨gb740, 6, none⟩ = some (.int .i64 0) := (blk_cell BK740.out 6).trans rfl; have hfz28_0 := blk_frozen BK740.out 0; have hfz28_1 := blk_frozen BK740.out 1; have hfz28_2 := blk_frozen BK740.out 2; have hfz28_3 := blk_frozen BK740.out 3; have hfz28_4 := blk_frozen BK740.out 4; have hfz28_5 := blk_frozen BK740.out 5; have hfz28_6 := blk_frozen BK740.out 6)); try go_wp2_with (first | ((with_reducible refine gate_dst (N := 4) rfl ?_); refine box_event ?hg (N := 4) ?hd (cs := #[.int .i64 0, .int .i64 0, .int .i64 0, .int .i64 0, .int .i64 0, .int .i64 0, .int .i64 0]) (t := 79) ?hr ?_; (case hd => rfl); (case hg => rfl); (case hr => first | (go_simp; done) | (go_simp; rfl)); intro gb740 hg w18 hbox hb; have n0_ := Aside0.mk (below_step (by repeat (first | (with_reducible first | exact HB.out | apply below_alloc | apply pw_below_drewN | apply below_drew1) | exact HB.out)) hb); have n1_ := Aside0.mk (hbox); have n2_ := Aside0.mk ((by rw [hg]; exact (below_size (by repeat (first | (with_reducible first | exact HB.out | apply below_alloc | apply pw_below_drewN | apply below_drew1) | exact HB.out))) : w.heap.size ≤ gb740)); have n3_ := Aside0.mk ((by rw [hg]; exact (below_size (by repeat (first | (with_reducible first | exact HB.out | apply below_alloc | apply pw_below_drewN | apply below_drew1) | exact HB.out))) : w.heap.size ≤ gb740)); clear HB; have HB := n0_; have BK740 := n1_; have GW740 := n2_; have GE740 := n3_; clear n0_ n1_ n2_ n3_; clear hb hbox hg) | (go_at_call 101; (with_reducible refine (step_Floor.calls k _ _ l0 a1 t741 t742 _ ?side1 ?side2 ?side3 A3.out).mono ?_); (case side1 => repeat (first | exact (Kd.C_below HR0.out HB.out) | (with_reducible refine Kd.C_alloc ?_ _) | (with_reducible refine Kd.C_drewN ?_ _) | (with_reducible refine Kd.C_drew ?_))); (case side2 => exact HC0.out); (case side3 => repeat (first | exact HG.out | exact Laid.below HG.out HB.out | (with_reducible refine Laid.alloc ?_ _) | (with_reducible refine Laid.drewN ?_ _) | (with_reducible refine Laid.drew ?_))); rintro e w19 ⟨rfl, hb⟩; have n0_ := Aside0.mk (blk_below (g := gb740) (o := .cells #[.int .i64 0, .int .i64 0, .int .i64 0, .int .i64 0, .int .i64 0, .int .i64 0, .int .i64 0] 79 (0, 0)) (by (with_reducible repeat (first | refine blk_drewN ?_ _ | refine blk_drew ?_ | refine blk_alloc ?_ _)); exact BK740.out) hb); have n1_ := Aside0.mk (below_step (by repeat (first | (with_reducible first | exact HB.out | apply below_alloc | apply pw_below_drewN | apply below_drew1 | refine below_set ?_ GE740.out) | exact HB.out)) hb); clear BK740; clear HB; have BK740 := n0_; have HB := n1_; clear n0_ n1_; (try clear hb); (try clear hb2); (try clear hk); (try clear hi)) | (go_at_call 102; (with_reducible refine (lines_all.calls _ _ l0 t743 _ ?side1 ?side2 A5.out).mono ?_); (case side1 => repeat (first | exact (Kd.C_below HR0.out HB.out) | (with_reducible refine Kd.C_alloc ?_ _) | (with_reducible refine Kd.C_drewN ?_ _) | (with_reducible refine Kd.C_drew ?_))); (case side2 => exact HC0.out); rintro e w20 ⟨v744, rfl, ho0, hb⟩; have n0_ := Aside0.mk (Kd.R_lower ho0 (below_size (by repeat (first | (with_reducible first | exact HB.out | apply below_alloc | apply pw_below_drewN | apply below_drew1 | refine below_set ?_ GE740.out) | exact HB.out)))); have n1_ := Aside0.mk (blk_below (g := gb740) (o := .cells #[.int .i64 0, .int .i64 0, .int .i64 0, .int .i64 0, .int .i64 0, .int .i64 0, .int .i64 0] 79 (0, 0)) (by (with_reducible repeat (first | refine blk_drewN ?_ _ | refine blk_drew ?_ | refine blk_alloc ?_ _)); exact BK740.out) hb); have n2_ := Aside0.mk (below_step (by repeat (first | (with_reducible first | exact HB.out | apply below_alloc | apply pw_below_drewN | apply below_drew1 | refine below_set ?_ GE740.out) | exact HB.out)) hb); clear BK740; clear HB; have HO745 := n0_; have BK740 := n1_; have HB := n2_; clear n0_ n1_ n2_; (try clear hb); (try clear hb2); (try clear hk); (try clear hi); (try clear ho0); obtain ⟨Ao21, co21, eo21⟩ := Kd.R_slice HO745.out; subst eo21) | (go_at_call 106; (with_reducible refine (lines_holds.calls k _ _ t743 t741 t746 _ ?side1 ?side2 A6.out).mono ?_); (case side1 => repeat (first | exact (Kd.R_reads' HO745.out).2.2 | (with_reducible refine Kd.C_alloc ?_ _) | (with_reducible refine Kd.C_drewN ?_ _) | (with_reducible refine Kd.C_drew ?_))); (case side2 => exact (Kd.R_reads' HO745.out).2.1); rintro e w' ⟨rfl, ⟨nd, rfl⟩⟩; (try first | exact ⟨rfl, _, World.drewN_drewN _ _ _⟩ | exact ⟨rfl, _, Eq.trans (World.drewN_drewN _ _ _) (congrArg (World.drewN _) (Nat.add_assoc _ _ _))⟩); obtain ⟨i022, hi022, _, hsz22, _⟩ := info_parts info5; obtain ⟨hcut22, hA22, hC22⟩ := print_take_of (P := Tryd.prog) (Value.int .u8) 0 22 5 .i64 Tryd.underlying22 hi022 hsz22 A0 c0 l0 t741 (of_decide_eq_true (by first | (with_reducible assumption) | assumption)) (of_decide_eq_true (by first | (with_reducible assumption) | assumption)) HC0.out; have HR747 := Aside0.mk (Kd.C_of_reads (h1 := fun _ => rfl) (hA22 _ (Kd.reads_of_C HR0.out))); have HC747 := Aside0.mk hC22; clear hA22 hC22 hi022 hsz22; have p748 : 0 ≤ (t746 : Int) := of_decide_eq_true (by first | (with_reducible assumption) | assumption); have q748 : t746 < (t743.length : Int) := of_decide_eq_true (by first | (with_reducible assumption) | assumption); obtain ⟨ad748, e748, hx748_0, hx748_1, hx748_2, hx748_3⟩ := at_T144 (Kd.R_reads' HO745.out).2.2 t746 p748 q748; cases e748; replace p748 := eq_true p748; replace q748 := eq_true q748; obtain ⟨i023, hi023, _, hsz23, _⟩ := info_parts info5; obtain ⟨A23, hcut23, hA23, hC23⟩ := print_mid_of (P := Tryd.prog) (Value.int .u8) 0 22 5 .i64 .i64 Tryd.underlying22 hi023 hsz23 A0 c0 l0 ((rd_T144 t743 t746).f0) t741 (of_decide_eq_true (by first | (with_reducible assumption) | assumption)) (by first | omega | exact of_decide_eq_true (by first | (with_reducible assumption) | assumption)) (of_decide_eq_true (by first | (with_reducible assumption) | assumption)) HC0.out; have HR749 := Aside0.mk (Kd.C_of_reads (h1 := fun _ => rfl) (hA23 _ (Kd.reads_of_C HR0.out))); have HC749 := Aside0.mk hC23; clear hA23 hC23 hi023 hsz23) | (go_at_call 103; (refine calls_of_args (args' := #[.slice A0 (l0.take (t741 : Int).toNat).length c0, .int .i64 2]) ?argsEq ?_); (case argsEq => (rw [hlenA]; done)); (with_reducible refine (lines_size.calls _ _ (l0.take (t741 : Int).toNat) 2 t750 _ ?side1 ?side2 ?side3 A14.out).mono ?_); (case side1 => repeat (first | exact (Kd.C_below HR747.out (by repeat (first | (with_reducible first | exact HB.out | apply below_alloc | apply pw_below_drewN | apply below_drew1 | refine below_set ?_ GE740.out) | exact HB.out))) | (with_reducible refine Kd.C_alloc ?_ _) | (with_reducible refine Kd.C_drewN ?_ _) | (with_reducible refine Kd.C_drew ?_))); (case side2 => exact HC747.out); (case side3 => repeat (first | exact HG.out | exact Laid.below HG.out HB.out | (with_reducible refine Laid.alloc ?_ _) | (with_reducible refine Laid.drewN ?_ _) | (with_reducible refine Laid.drew ?_))); rintro e w24 ⟨rfl, hb⟩; have n0_ := Aside0.mk (Kd.R_below (by (with_reducible repeat (first | apply Kd.R_alloc | apply Kd.R_drewN | apply Kd.R_drew)); exact HO745.out) hb); have n1_ := Aside0.mk (blk_below (g := gb740) (o := .cells #[.int .i64 0, .int .i64 0, .int .i64 0, .int .i64 0, .int .i64 0, .int .i64 0, .int .i64 0] 79 (0, 0)) (by (with_reducible repeat (first | refine blk_drewN ?_ _ | refine blk_drew ?_ | refine blk_alloc ?_ _)); exact BK740.out) hb); have n2_ := Aside0.mk (below_step (by repeat (first | (with_reducible first | exact HB.out | apply below_alloc | apply pw_below_drewN | apply below_drew1 | refine below_set ?_ GE740.out) | exact HB.out)) hb); clear HO745; clear BK740; clear HB; have HO745 := n0_; have BK740 := n1_; have HB := n2_; clear n0_ n1_ n2_; (try clear hb); (try clear hb2); (try clear hk); (try clear hi)) | (go_at_call 103; (refine calls_of_args (args' := #[.slice A0 (l0.take (t741 : Int).toNat).length c0, .int .i64 3]) ?argsEq ?_); (case argsEq => (rw [hlenA]; done)); (with_reducible refine (lines_size.calls _ _ (l0.take (t741 : Int).toNat) 3 t751 _ ?side1 ?side2 ?side3 A15.out).mono ?_); (case side1 => repeat (first | exact (Kd.C_below HR747.out HB.out) | (with_reducible refine Kd.C_alloc ?_ _) | (with_reducible refine Kd.C_drewN ?_ _) | (with_reducible refine Kd.C_drew ?_))); (case side2 => exact HC747.out); (case side3 => repeat (first | exact HG.out | exact Laid.below HG.out HB.out | (with_reducible refine Laid.alloc ?_ _) | (with_reducible refine Laid.drewN ?_ _) | (with_reducible refine Laid.drew ?_))); rintro e w25 ⟨rfl, hb⟩; have n0_ := Aside0.mk (Kd.R_below (by (with_reducible repeat (first | apply Kd.R_alloc | apply Kd.R_drewN | apply Kd.R_drew)); exact HO745.out) hb); have n1_ := Aside0.mk (blk_below (g := gb740) (o := .cells #[.int .i64 0, .int .i64 0, .int .i64 0, .int .i64 0, .int .i64 0, .int .i64 0, .int .i64 0] 79 (0, 0)) (by (with_reducible repeat (first | refine blk_drewN ?_ _ | refine blk_drew ?_ | refine blk_alloc ?_ _)); exact BK740.out) hb); have n2_ := Aside0.mk (below_step (by repeat (first | (with_reducible first | exact HB.out | apply below_alloc | apply pw_below_drewN | apply below_drew1 | refine below_set ?_ GE740.out) | exact HB.out)) hb); clear HO745; clear BK740; clear HB; have HO745 := n0_; have BK740 := n1_; have HB := n2_; clear n0_ n1_ n2_; (try clear hb); (try clear hb2); (try clear hk); (try clear hi)) | (go_at_call 103; (refine calls_of_args (args' := #[.slice A23 ((l0.take (t741 : Int).toNat).drop (((rd_T144 t743 t746).f0) : Int).toNat).length (c0 - ((rd_T144 t743 t746).f0 : Int).toNat), .int .i64 2]) ?argsEq ?_); (case argsEq => (rw [hlenB]; done)); (with_reducible refine (lines_size.calls _ _ ((l0.take (t741 : Int).toNat).drop (((rd_T144 t743 t746).f0) : Int).toNat) 2 t752 _ ?side1 ?side2 ?side3 A16.out).mono ?_); (case side1 => repeat (first | exact (Kd.C_below HR749.out HB.out) | (with_reducible refine Kd.C_alloc ?_ _) | (with_reducible refine Kd.C_drewN ?_ _) | (with_reducible refine Kd.C_drew ?_))); (case side2 => exact HC749.out); (case side3 => repeat (first | exact HG.out | exact Laid.below HG.out HB.out | (with_reducible refine Laid.alloc ?_ _) | (with_reducible refine Laid.drewN ?_ _) | (with_reducible refine Laid.drew ?_))); rintro e w26 ⟨rfl, hb⟩; have n0_ := Aside0.mk (Kd.R_below (by (with_reducible repeat (first | apply Kd.R_alloc | apply Kd.R_drewN | apply Kd.R_drew)); exact HO745.out) hb); have n1_ := Aside0.mk (blk_below (g := gb740) (o := .cells #[.int .i64 0, .int .i64 0, .int .i64 0, .int .i64 0, .int .i64 0, .int .i64 0, .int .i64 0] 79 (0, 0)) (by (with_reducible repeat (first | refine blk_drewN ?_ _ | refine blk_drew ?_ | refine blk_alloc ?_ _)); exact BK740.out) hb); have n2_ := Aside0.mk (below_step (by repeat (first | (with_reducible first | exact HB.out | apply below_alloc | apply pw_below_drewN | apply below_drew1 | refine below_set ?_ GE740.out) | exact HB.out)) hb); clear HO745; clear BK740; clear HB; have HO745 := n0_; have BK740 := n1_; have HB := n2_; clear n0_ n1_ n2_; (try clear hb); (try clear hb2); (try clear hk); (try clear hi)) | (go_at_call 103; (refine calls_of_args (args' := #[.slice A23 ((l0.take (t741 : Int).toNat).drop (((rd_T144 t743 t746).f0) : Int).toNat).length (c0 - ((rd_T144 t743 t746).f0 : Int).toNat), .int .i64 3]) ?argsEq ?_); (case argsEq => (rw [hlenB]; done)); (with_reducible refine (lines_size.calls _ _ ((l0.take (t741 : Int).toNat).drop (((rd_T144 t743 t746).f0) : Int).toNat) 3 t753 _ ?side1 ?side2 ?side3 A17.out).mono ?_); (case side1 => repeat (first | exact (Kd.C_below HR749.out HB.out) | (with_reducible refine Kd.C_alloc ?_ _) | (with_reducible refine Kd.C_drewN ?_ _) | (with_reducible refine Kd.C_drew ?_))); (case side2 => exact HC749.out); (case side3 => repeat (first | exact HG.out | exact Laid.below HG.out HB.out | (with_reducible refine Laid.alloc ?_ _) | (with_reducible refine Laid.drewN ?_ _) | (with_reducible refine Laid.drew ?_))); rintro e w27 ⟨rfl, hb⟩; have n0_ := Aside0.mk (Kd.R_below (by (with_reducible repeat (first | apply Kd.R_alloc | apply Kd.R_drewN | apply Kd.R_drew)); exact HO745.out) hb); have n1_ := Aside0.mk (blk_below (g := gb740) (o := .cells #[.int .i64 0, .int .i64 0, .int .i64 0, .int .i64 0, .int .i64 0, .int .i64 0, .int .i64 0] 79 (0, 0)) (by (with_reducible repeat (first | refine blk_drewN ?_ _ | refine blk_drew ?_ | refine blk_alloc ?_ _)); exact BK740.out) hb); have n2_ := Aside0.mk (below_step (by repeat (first | (with_reducible first | exact HB.out | apply below_alloc | apply pw_below_drewN | apply below_drew1 | refine below_set ?_ GE740.out) | exact HB.out)) hb); clear HO745; clear BK740; clear HB; have HO745 := n0_; have BK740 := n1_; have HB := n2_; clear n0_ n1_ n2_; (try clear hb); (try clear hb2); (try clear hk); (try clear hi); have hcz28_0 : w27.cell? ⟨gb740, 0, none⟩ = some (.int .i64 0) := (blk_cell BK740.out 0).trans rfl; have hcz28_1 : w27.cell? ⟨gb740, 1, none⟩ = some (.int .i64 0) := (blk_cell BK740.out 1).trans rfl; have hcz28_2 : w27.cell? ⟨gb740, 2, none⟩ = some (.int .i64 0) := (blk_cell BK740.out 2).trans rfl; have hcz28_3 : w27.cell? ⟨gb740, 3, none⟩ = some (.int .i64 0) := (blk_cell BK740.out 3).trans rfl; have hcz28_4 : w27.cell? ⟨gb740, 4, none⟩ = some (.int .i64 0) := (blk_cell BK740.out 4).trans rfl; have hcz28_5 : w27.cell? ⟨gb740, 5, none⟩ = some (.int .i64 0) := (blk_cell BK740.out 5).trans rfl; have hcz28_6 : w27.cell? ⟨gb740, 6, none⟩ = some (.int .i64 0) := (blk_cell BK740.out 6).trans rfl; have hfz28_0 := blk_frozen BK740.out 0; have hfz28_1 := blk_frozen BK740.out 1; have hfz28_2 := blk_frozen BK740.out 2; have hfz28_3 := blk_frozen BK740.out 3; have hfz28_4 := blk_frozen BK740.out 4; have hfz28_5 := blk_frozen BK740.out 5; have hfz28_6 := blk_frozen BK740.out 6)))
        rw [← hlenB]
        refine bodyPost_ret (results_ct rfl _ _ gb740 79 #[.int .i64 t741, .int .i64 t750, .int .i64 t751, .int .i64 t746, .int .i64 (((l0.take (t741 : Int).toNat).drop (((rd_T144 t743 t746).f0) : Int).toNat).length : Int), .int .i64 t752, .int .i64 t753] (0, 0) _ rfl (by (with_reducible repeat (first | refine blk_drewN ?_ _ | refine blk_drew ?_ | refine blk_alloc ?_ _)); refine blk_put (cs := #[.int .i64 t741, .int .i64 t750, .int .i64 t751, .int .i64 t746, .int .i64 (((l0.take (t741 : Int).toNat).drop (((rd_T144 t743 t746).f0) : Int).toNat).length : Int), .int .i64 t752, .int .i64 0]) ?_ 6 _ rfl; (with_reducible repeat (first | refine blk_drewN ?_ _ | refine blk_drew ?_ | refine blk_alloc ?_ _)); refine blk_put (cs := #[.int .i64 t741, .int .i64 t750, .int .i64 t751, .int .i64 t746, .int .i64 (((l0.take (t741 : Int).toNat).drop (((rd_T144 t743 t746).f0) : Int).toNat).length : Int), .int .i64 0, .int .i64 0]) ?_ 5 _ rfl; (with_reducible repeat (first | refine blk_drewN ?_ _ | refine blk_drew ?_ | refine blk_alloc ?_ _)); refine blk_put (cs := #[.int .i64 t741, .int .i64 t750, .int .i64 t751, .int .i64 t746, .int .i64 0, .int .i64 0, .int .i64 0]) ?_ 4 _ rfl; (with_reducible repeat (first | refine blk_drewN ?_ _ | refine blk_drew ?_ | refine blk_alloc ?_ _)); refine blk_put (cs := #[.int .i64 t741, .int .i64 t750, .int .i64 t751, .int .i64 0, .int .i64 0, .int .i64 0, .int .i64 0]) ?_ 3 _ rfl; (with_reducible repeat (first | refine blk_drewN ?_ _ | refine blk_drew ?_ | refine blk_alloc ?_ _)); refine blk_put (cs := #[.int .i64 t741, .int .i64 t750, .int .i64 0, .int .i64 0, .int .i64 0, .int .i64 0, .int .i64 0]) ?_ 2 _ rfl; (with_reducible repeat (first | refine blk_drewN ?_ _ | refine blk_drew ?_ | refine blk_alloc ?_ _)); refine blk_put (cs := #[.int .i64 t741, .int .i64 0, .int .i64 0, .int .i64 0, .int .i64 0, .int .i64 0, .int .i64 0]) ?_ 1 _ rfl; (with_reducible repeat (first | refine blk_drewN ?_ _ | refine blk_drew ?_ | refine blk_alloc ?_ _)); refine blk_put (cs := #[.int .i64 0, .int .i64 0, .int .i64 0, .int .i64 0, .int .i64 0, .int .i64 0, .int .i64 0]) ?_ 0 _ rfl; (with_reducible repeat (first | refine blk_drewN ?_ _ | refine blk_drew ?_ | refine blk_alloc ?_ _)); exact BK740.out) Tryd.underlying79 rfl (by kernel_rfl)) rfl ?_
        exact ⟨by first | rfl | (simp [errW_none, errW_some] <;> rfl) | (simp [*, errW_none, errW_some] <;> rfl), by repeat (first | (with_reducible first | exact HB.out | apply below_alloc | apply pw_below_drewN | apply below_drew1 | refine below_set ?_ GE740.out) | exact HB.out)⟩
       ·
        rw [if_neg c12] at H
        exact absurd H (by simp)
      ·
       rw [if_neg c11] at H
       exact absurd H (by simp)
     ·
      rw [if_neg c10] at H
      exact absurd H (by simp)
    ·
     rw [if_neg c9] at H
     exact absurd H (by simp)
   ·
    rw [if_neg c8] at H
    exact absurd H (by simp)
  ·
   rw [if_neg c7] at H
   exact absurd H (by simp)
 ·
  rw [if_neg c4] at H
  have c4b0 : (t742 == 0) = false := beq_eq_false_iff_ne.mpr c4
  have c4b1 : (t742 != 0) = true := bne_iff_ne.mpr c4
  simp only [Option.some.injEq, Prod.mk.injEq] at H
  obtain ⟨rfl, rfl, rfl, rfl, rfl, rfl, rfl, rfl⟩ := H
  go_enter Tryd.func62, Tryd.ntmps62
  go_wp2_with (first | ((with_reducible refine gate_dst (N := 4) rfl ?_); refine box_event ?hg (N := 4) ?hd (cs := #[.int .i64 0, .int .i64 0, .int .i64 0, .int .i64 0, .int .i64 0, .int .i64 0, .int .i64 0]) (t := 79) ?hr ?_; (case hd => rfl); (case hg => rfl); (case hr => first | (go_simp; done) | (go_simp; rfl)); intro gb740 hg w29 hbox hb; have n0_ := Aside0.mk (below_step (by repeat (first | (with_reducible first | exact HB.out | apply below_alloc | apply pw_below_drewN | apply below_drew1) | exact HB.out)) hb); have n1_ := Aside0.mk (hbox); have n2_ := Aside0.mk ((by rw [hg]; exact (below_size (by repeat (first | (with_reducible first | exact HB.out | apply below_alloc | apply pw_below_drewN | apply below_drew1) | exact HB.out))) : w.heap.size ≤ gb740)); have n3_ := Aside0.mk ((by rw [hg]; exact (below_size (by repeat (first | (with_reducible first | exact HB.out | apply below_alloc | apply pw_below_drewN | apply below_drew1) | exact HB.out))) : w.heap.size ≤ gb740)); clear HB; have HB := n0_; have BK740 := n1_; have GW740 := n2_; have GE740 := n3_; clear n0_ n1_ n2_ n3_; clear hb hbox hg) | (go_at_call 101; (with_reducible refine (step_Floor.calls k _ _ l0 a1 t741 t742 _ ?side1 ?side2 ?side3 A3.out).mono ?_); (case side1 => repeat (first | exact (Kd.C_below HR0.out HB.out) | (with_reducible refine Kd.C_alloc ?_ _) | (with_reducible refine Kd.C_drewN ?_ _) | (with_reducible refine Kd.C_drew ?_))); (case side2 => exact HC0.out); (case side3 => repeat (first | exact HG.out | exact Laid.below HG.out HB.out | (with_reducible refine Laid.alloc ?_ _) | (with_reducible refine Laid.drewN ?_ _) | (with_reducible refine Laid.drew ?_))); rintro e w30 ⟨rfl, hb⟩; have n0_ := Aside0.mk (blk_below (g := gb740) (o := .cells #[.int .i64 0, .int .i64 0, .int .i64 0, .int .i64 0, .int .i64 0, .int .i64 0, .int .i64 0] 79 (0, 0)) (by (with_reducible repeat (first | refine blk_drewN ?_ _ | refine blk_drew ?_ | refine blk_alloc ?_ _)); exact BK740.out) hb); have n1_ := Aside0.mk (below_step (by repeat (first | (with_reducible first | exact HB.out | apply below_alloc | apply pw_below_drewN | apply below_drew1 | refine below_set ?_ GE740.out) | exact HB.out)) hb); clear BK740; clear HB; have BK740 := n0_; have HB := n1_; clear n0_ n1_; (try clear hb); (try clear hb2); (try clear hk); (try clear hi); have hcz31_0 : w30.cell? ⟨gb740, 0, none⟩ = some (.int .i64 0) := (blk_cell BK740.out 0).trans rfl; have hcz31_1 : w30.cell? ⟨gb740, 1, none⟩ = some (.int .i64 0) := (blk_cell BK740.out 1).trans rfl; have hcz31_2 : w30.cell? ⟨gb740, 2, none⟩ = some (.int .i64 0) := (blk_cell BK740.out 2).trans rfl; have hcz31_3 : w30.cell? ⟨gb740, 3, none⟩ = some (.int .i64 0) := (blk_cell BK740.out 3).trans rfl; have hcz31_4 : w30.cell? ⟨gb740, 4, none⟩ = some (.int .i64 0) := (blk_cell BK740.out 4).trans rfl; have hcz31_5 : w30.cell? ⟨gb740, 5, none⟩ = some (.int .i64 0) := (blk_cell BK740.out 5).trans rfl; have hcz31_6 : w30.cell? ⟨gb740, 6, none⟩ = some (.int .i64 0) := (blk_cell BK740.out 6).trans rfl; have hfz31_0 := blk_frozen BK740.out 0; have hfz31_1 := blk_frozen BK740.out 1; have hfz31_2 := blk_frozen BK740.out 2; have hfz31_3 := blk_frozen BK740.out 3; have hfz31_4 := blk_frozen BK740.out 4; have hfz31_5 := blk_frozen BK740.out 5; have hfz31_6 := blk_frozen BK740.out 6))
  repeat (go_quiet (first | ((with_reducible refine gate_dst (N := 4) rfl ?_); refine box_event ?hg (N := 4) ?hd (cs := #[.int .i64 0, .int .i64 0, .int .i64 0, .int .i64 0, .int .i64 0, .int .i64 0, .int .i64 0]) (t := 79) ?hr ?_; (case hd => rfl); (case hg => rfl); (case hr => first | (go_simp; done) | (go_simp; rfl)); intro gb740 hg w29 hbox hb; have n0_ := Aside0.mk (below_step (by repeat (first | (with_reducible first | exact HB.out | apply below_alloc | apply pw_below_drewN | apply below_drew1) | exact HB.out)) hb); have n1_ := Aside0.mk (hbox); have n2_ := Aside0.mk ((by rw [hg]; exact (below_size (by repeat (first | (with_reducible first | exact HB.out | apply below_alloc | apply pw_below_drewN | apply below_drew1) | exact HB.out))) : w.heap.size ≤ gb740)); have n3_ := Aside0.mk ((by rw [hg]; exact (below_size (by repeat (first | (with_reducible first | exact HB.out | apply below_alloc | apply pw_below_drewN | apply below_drew1) | exact HB.out))) : w.heap.size ≤ gb740)); clear HB; have HB := n0_; have BK740 := n1_; have GW740 := n2_; have GE740 := n3_; clear n0_ n1_ n2_ n3_; clear hb hbox hg) | (go_at_call 101; (with_reducible refine (step_Floor.calls k _ _ l0 a1 t741 t742 _ ?side1 ?side2 ?side3 A3.out).mono ?_); (case side1 => repeat (first | exact (Kd.C_below HR0.out HB.out) | (with_reducible refine Kd.C_alloc ?_ _) | (with_reducible refine Kd.C_drewN ?_ _) | (with_reducible refine Kd.C_drew ?_))); (case side2 => exact HC0.out); (case side3 => repeat (first | exact HG.out | exact Laid.below HG.out HB.out | (with_reducible refine Laid.alloc ?_ _) | (with_reducible refine Laid.drewN ?_ _) | (with_reducible refine Laid.drew ?_))); rintro e w30 ⟨rfl, hb⟩; have n0_ := Aside0.mk (blk_below (g := gb740) (o := .cells #[.int .i64 0, .int .i64 0, .int .i64 0, .int .i64 0, .int .i64 0, .int .i64 0, .int .i64 0] 79 (0, 0)) (by (with_reducible repeat (first | refine blk_drewN ?_ _ | refine blk_drew ?_ | refine blk_alloc ?_ _)); exact BK740.out) hb); have n1_ := Aside0.mk (below_step (by repeat (first | (with_reducible first | exact HB.out | apply below_alloc | apply pw_below_drewN | apply below_drew1 | refine below_set ?_ GE740.out) | exact HB.out)) hb); clear BK740; clear HB; have BK740 := n0_; have HB := n1_; clear n0_ n1_; (try clear hb); (try clear hb2); (try clear hk); (try clear hi); have hcz31_0 : w30.cell? ⟨gb740, 0, none⟩ = some (.int .i64 0) := (blk_cell BK740.out 0).trans rfl; have hcz31_1 : w30.cell? ⟨gb740, 1, none⟩ = some (.int .i64 0) := (blk_cell BK740.out 1).trans rfl; have hcz31_2 : w30.cell? ⟨gb740, 2, none⟩ = some (.int .i64 0) := (blk_cell BK740.out 2).trans rfl; have hcz31_3 : w30.cell? ⟨gb740, 3, none⟩ = some (.int .i64 0) := (blk_cell BK740.out 3).trans rfl; have hcz31_4 : w30.cell? ⟨gb740, 4, none⟩ = some (.int .i64 0) := (blk_cell BK740.out 4).trans rfl; have hcz31_5 : w30.cell? ⟨gb740, 5, none⟩ = some (.int .i64 0) := (blk_cell BK740.out 5).trans rfl; have hcz31_6 : w30.cell? ⟨gb740, 6, none⟩ = some (.int .i64 0) := (blk_cell BK740.out 6).trans rfl; have hfz31_0 := blk_frozen BK740.out 0; have hfz31_1 := blk_frozen BK740.out 1; have hfz31_2 := blk_frozen BK740.out 2; have hfz31_3 := blk_frozen BK740.out 3; have hfz31_4 := blk_frozen BK740.out 4; have hfz31_5 := blk_frozen BK740.out 5; have hfz31_6 := blk_frozen BK740.out 6)); try go_wp2_with (first | ((with_reducible refine gate_dst (N := 4) rfl ?_); refine box_event ?hg (N := 4) ?hd (cs := #[.int .i64 0, .int .i64 0, .int .i64 0, .int .i64 0, .int .i64 0, .int .i64 0, .int .i64 0]) (t := 79) ?hr ?_; (case hd => rfl); (case hg => rfl); (case hr => first | (go_simp; done) | (go_simp; rfl)); intro gb740 hg w29 hbox hb; have n0_ := Aside0.mk (below_step (by repeat (first | (with_reducible first | exact HB.out | apply below_alloc | apply pw_below_drewN | apply below_drew1) | exact HB.out)) hb); have n1_ := Aside0.mk (hbox); have n2_ := Aside0.mk ((by rw [hg]; exact (below_size (by repeat (first | (with_reducible first | exact HB.out | apply below_alloc | apply pw_below_drewN | apply below_drew1) | exact HB.out))) : w.heap.size ≤ gb740)); have n3_ := Aside0.mk ((by rw [hg]; exact (below_size (by repeat (first | (with_reducible first | exact HB.out | apply below_alloc | apply pw_below_drewN | apply below_drew1) | exact HB.out))) : w.heap.size ≤ gb740)); clear HB; have HB := n0_; have BK740 := n1_; have GW740 := n2_; have GE740 := n3_; clear n0_ n1_ n2_ n3_; clear hb hbox hg) | (go_at_call 101; (with_reducible refine (step_Floor.calls k _ _ l0 a1 t741 t742 _ ?side1 ?side2 ?side3 A3.out).mono ?_); (case side1 => repeat (first | exact (Kd.C_below HR0.out HB.out) | (with_reducible refine Kd.C_alloc ?_ _) | (with_reducible refine Kd.C_drewN ?_ _) | (with_reducible refine Kd.C_drew ?_))); (case side2 => exact HC0.out); (case side3 => repeat (first | exact HG.out | exact Laid.below HG.out HB.out | (with_reducible refine Laid.alloc ?_ _) | (with_reducible refine Laid.drewN ?_ _) | (with_reducible refine Laid.drew ?_))); rintro e w30 ⟨rfl, hb⟩; have n0_ := Aside0.mk (blk_below (g := gb740) (o := .cells #[.int .i64 0, .int .i64 0, .int .i64 0, .int .i64 0, .int .i64 0, .int .i64 0, .int .i64 0] 79 (0, 0)) (by (with_reducible repeat (first | refine blk_drewN ?_ _ | refine blk_drew ?_ | refine blk_alloc ?_ _)); exact BK740.out) hb); have n1_ := Aside0.mk (below_step (by repeat (first | (with_reducible first | exact HB.out | apply below_alloc | apply pw_below_drewN | apply below_drew1 | refine below_set ?_ GE740.out) | exact HB.out)) hb); clear BK740; clear HB; have BK740 := n0_; have HB := n1_; clear n0_ n1_; (try clear hb); (try clear hb2); (try clear hk); (try clear hi); have hcz31_0 : w30.cell? ⟨gb740, 0, none⟩ = some (.int .i64 0) := (blk_cell BK740.out 0).trans rfl; have hcz31_1 : w30.cell? ⟨gb740, 1, none⟩ = some (.int .i64 0) := (blk_cell BK740.out 1).trans rfl; have hcz31_2 : w30.cell? ⟨gb740, 2, none⟩ = some (.int .i64 0) := (blk_cell BK740.out 2).trans rfl; have hcz31_3 : w30.cell? ⟨gb740, 3, none⟩ = some (.int .i64 0) := (blk_cell BK740.out 3).trans rfl; have hcz31_4 : w30.cell? ⟨gb740, 4, none⟩ = some (.int .i64 0) := (blk_cell BK740.out 4).trans rfl; have hcz31_5 : w30.cell? ⟨gb740, 5, none⟩ = some (.int .i64 0) := (blk_cell BK740.out 5).trans rfl; have hcz31_6 : w30.cell? ⟨gb740, 6, none⟩ = some (.int .i64 0) := (blk_cell BK740.out 6).trans rfl; have hfz31_0 := blk_frozen BK740.out 0; have hfz31_1 := blk_frozen BK740.out 1; have hfz31_2 := blk_frozen BK740.out 2; have hfz31_3 := blk_frozen BK740.out 3; have hfz31_4 := blk_frozen BK740.out 4; have hfz31_5 := blk_frozen BK740.out 5; have hfz31_6 := blk_frozen BK740.out 6)))
  refine bodyPost_ret (results_ct rfl _ _ gb740 79 #[.int .i64 0, .int .i64 0, .int .i64 0, .int .i64 0, .int .i64 0, .int .i64 0, .int .i64 0] (0, 0) _ rfl (by (with_reducible repeat (first | refine blk_drewN ?_ _ | refine blk_drew ?_ | refine blk_alloc ?_ _)); refine blk_put (cs := #[.int .i64 0, .int .i64 0, .int .i64 0, .int .i64 0, .int .i64 0, .int .i64 0, .int .i64 0]) ?_ 6 _ rfl; (with_reducible repeat (first | refine blk_drewN ?_ _ | refine blk_drew ?_ | refine blk_alloc ?_ _)); refine blk_put (cs := #[.int .i64 0, .int .i64 0, .int .i64 0, .int .i64 0, .int .i64 0, .int .i64 0, .int .i64 0]) ?_ 5 _ rfl; (with_reducible repeat (first | refine blk_drewN ?_ _ | refine blk_drew ?_ | refine blk_alloc ?_ _)); refine blk_put (cs := #[.int .i64 0, .int .i64 0, .int .i64 0, .int .i64 0, .int .i64 0, .int .i64 0, .int .i64 0]) ?_ 4 _ rfl; (with_reducible repeat (first | refine blk_drewN ?_ _ | refine blk_drew ?_ | refine blk_alloc ?_ _)); refine blk_put (cs := #[.int .i64 0, .int .i64 0, .int .i64 0, .int .i64 0, .int .i64 0, .int .i64 0, .int .i64 0]) ?_ 3 _ rfl; (with_reducible repeat (first | refine blk_drewN ?_ _ | refine blk_drew ?_ | refine blk_alloc ?_ _)); refine blk_put (cs := #[.int .i64 0, .int .i64 0, .int .i64 0, .int .i64 0, .int .i64 0, .int .i64 0, .int .i64 0]) ?_ 2 _ rfl; (with_reducible repeat (first | refine blk_drewN ?_ _ | refine blk_drew ?_ | refine blk_alloc ?_ _)); refine blk_put (cs := #[.int .i64 0, .int .i64 0, .int .i64 0, .int .i64 0, .int .i64 0, .int .i64 0, .int .i64 0]) ?_ 1 _ rfl; (with_reducible repeat (first | refine blk_drewN ?_ _ | refine blk_drew ?_ | refine blk_alloc ?_ _)); refine blk_put (cs := #[.int .i64 0, .int .i64 0, .int .i64 0, .int .i64 0, .int .i64 0, .int .i64 0, .int .i64 0]) ?_ 0 _ rfl; (with_reducible repeat (first | refine blk_drewN ?_ _ | refine blk_drew ?_ | refine blk_alloc ?_ _)); exact BK740.out) Tryd.underlying79 rfl (by kernel_rfl)) rfl ?_
  exact ⟨by first | rfl | (simp [errW_none, errW_some] <;> rfl) | (simp [*, errW_none, errW_some] <;> rfl), by repeat (first | (with_reducible first | exact HB.out | apply below_alloc | apply pw_below_drewN | apply below_drew1 | refine below_set ?_ GE740.out) | exact HB.out)⟩
def lines_Count.f (l0 : List Int) : Option (Int) := (lines_all.f l0).bind fun t754 => (some (t754.length : Int))
set_option maxHeartbeats 8000000 in
set_option maxRecDepth 100000 in
theorem lines_Count.calls (A0 : Option Addr) (c0 : Nat) (l0 : List Int) (r : Int) (w : World) (hr0 : Kd.C (Kd.int .u8) w A0 l0.length l0) (hc0 : l0.length ≤ c0) (h : lines_Count.f l0 = some r) :
  Calls Tryd.prog 64 #[.slice A0 l0.length c0] w fun e w' => e = .returned (.int .i64 r) ∧ Below w.heap.size w w' := by
 have HR0 := Aside0.mk hr0
 have HC0 := Aside0.mk hc0
 clear hr0 hc0
 have HB := Aside0.mk (Below.refl w.heap.size w)
 have H : ((lines_all.f l0).bind fun t754 => (some (t754.length : Int))) = some r := h
 clear h
 replace H := Option.bind_eq_some_iff.mp H
 obtain ⟨t754, A20, H⟩ := H
 replace H : (some (t754.length : Int)) = some r := H
 have A2 := Aside0.mk A20
 clear A20
 obtain rfl := Option.some.inj H
 go_enter Tryd.func64, Tryd.ntmps64
 go_wp2_with (first | ((with_reducible refine gate_callee (f := 102) rfl ?_); refine goesL_ (some 4) rfl rfl Tryd.func102 (by kernel_rfl) rfl #[.slice A0 l0.length c0] rfl (by (try simp only [List.map_toArray, List.map_cons, List.map_nil]); first | done | rfl | (simp only [List.length_drop, List.length_take]; rfl)) ?_; (with_reducible refine (lines_all.calls _ _ l0 t754 _ ?side1 ?side2 A2.out).mono ?_); (case side1 => repeat (first | exact HR0.out | (with_reducible refine Kd.C_alloc ?_ _) | (with_reducible refine Kd.C_drewN ?_ _) | (with_reducible refine Kd.C_drew ?_))); (case side2 => exact HC0.out); rintro e w3 ⟨v755, rfl, ho0, hb⟩; refine ⟨_, rfl, ?_⟩; have n0_ := Aside0.mk (Kd.R_lower ho0 (below_size (by repeat (first | (with_reducible first | exact HB.out | apply below_alloc | apply pw_below_drewN | apply below_drew1) | exact HB.out)))); have n1_ := Aside0.mk (below_step (by repeat (first | (with_reducible first | exact HB.out | apply below_alloc | apply pw_below_drewN | apply below_drew1) | exact HB.out)) hb); clear HB; have HO756 := n0_; have HB := n1_; clear n0_ n1_; (try clear hb); (try clear hb2); (try clear hk); (try clear hi); (try clear ho0); obtain ⟨Ao4, co4, eo4⟩ := Kd.R_slice HO756.out; subst eo4))
 go_ret
 exact ⟨by first | rfl | (simp [errW_none, errW_some] <;> rfl) | (simp [*, errW_none, errW_some] <;> rfl), by repeat (first | (with_reducible first | exact HB.out | apply below_alloc | apply pw_below_drewN | apply below_drew1) | exact HB.out)⟩
end Go.Proofs.YtbomhpfckplgaaaDoor.P
namespace Go.Proofs.YtbomhpfckplgaaaDoor.P
open Go Go.RowKit Go.Proofs.YtbomhpfckplgaaaDoorW.PrintWords
set_option linter.unusedVariables false
set_option linter.unusedSimpArgs false
theorem own07_eq (l : List Int) (h : l.length < 140737488355328) : galleylaw07_own.f l = some l := by
  unfold galleylaw07_own.f
  simp
  omega
theorem linesF_length (l : List Int) : ∀ (n : Nat) (i s : Int), 0 ≤ i → i ≤ l.length → ((linesF l n i s).length : Int) ≤ l.length - i + 1
  | 0, i, s, h0, h1 => by simp [linesF]; omega
  | n + 1, i, s, h0, h1 => by
    unfold linesF
    by_cases c : i < (l.length : Int)
    · rw [if_pos c]
      by_cases c1 : rd l i = 10
      · rw [if_pos c1]
        have := linesF_length l n (i + 1) (i + 1) (by omega) (by omega)
        simp only [List.length_cons]
        omega
      · rw [if_neg c1]
        by_cases c2 : rd l i = 13
        · rw [if_pos c2]
          by_cases c3 : i + 1 < (l.length : Int) ∧ rd l (i + 1) = 10
          · rw [if_pos c3]
            have := linesF_length l n (i + 2) (i + 2) (by omega) (by omega)
            simp only [List.length_cons]
            omega
          · rw [if_neg c3]
            have := linesF_length l n (i + 1) (i + 1) (by omega) (by omega)
            simp only [List.length_cons]
            omega
        · rw [if_neg c2]
          have := linesF_length l n (i + 1) s (by omega) (by omega)
          omega
    · rw [if_neg c]
      simp
      omega
theorem linesL_length (l : List Int) : (linesL l).length ≤ l.length + 1 := by
  have := linesF_length l (l.length + 1) 0 0 (by omega) (by omega)
  unfold linesL
  omega
theorem all_is {l : List Int} (hs : Small l) : lines_all.f l = some (linesL l) := by
  unfold Small at hs
  unfold lines_all.f
  rw [if_pos (by omega)]
end Go.Proofs.YtbomhpfckplgaaaDoor.P
namespace Go.Proofs.YtbomhpfckplgaaaDoor.P
open Go Go.RowKit Go.Proofs.YtbomhpfckplgaaaDoorW.PrintWords
set_option linter.unusedVariables false
set_option linter.unusedSimpArgs false
def clean (l : List Int) (a b : Int) : Prop := ∀ i, a ≤ i → i < b → rd l i ≠ 13 ∧ rd l i ≠ 10
def kind (l : List Int) (c e : Int) : Prop := (l.take e.toNat).drop c.toNat = [10] ∨ ((l.take e.toNat).drop c.toNat = [13] ∧ (e < (l.length : Int) → rd l e ≠ 10)) ∨ (l.take e.toNat).drop c.toNat = [13, 10]
def Chain (l : List Int) : Int → List S144 → Prop
  | _, [] => False
  | s, x :: r => x.f0 = s ∧ 0 ≤ s ∧ s ≤ x.f1 ∧ x.f1 ≤ x.f3 ∧ x.f3 ≤ (l.length : Int) ∧ clean l s x.f1 ∧ ((r = [] ∧ x.f1 = (l.length : Int) ∧ x.f3 = (l.length : Int)) ∨ (r ≠ [] ∧ kind l x.f1 x.f3 ∧ Chain l x.f3 r))
theorem one_byte (l : List Int) (i : Int) (h0 : 0 ≤ i) (h1 : i < (l.length : Int)) : (l.take (i + 1).toNat).drop i.toNat = [rd l i] := by
  obtain ⟨n, rfl⟩ := Int.eq_ofNat_of_zero_le h0
  have h : n < l.length := by omega
  rw [show ((n : Int) + 1).toNat = n + 1 by omega, Int.toNat_natCast, rd_nat l n h, List.take_succ_eq_append_getElem h, List.drop_append]
  simp [Nat.min_eq_left (Nat.le_of_lt h)]
theorem two_bytes (l : List Int) (i : Int) (h0 : 0 ≤ i) (h1 : i + 1 < (l.length : Int)) : (l.take (i + 2).toNat).drop i.toNat = [rd l i, rd l (i + 1)] := by
  obtain ⟨n, rfl⟩ := Int.eq_ofNat_of_zero_le h0
  have h : n + 1 < l.length := by omega
  rw [show ((n : Int) + 2).toNat = n + 1 + 1 by omega, Int.toNat_natCast, rd_nat l n (by omega), show ((n : Int) + 1) = ((n + 1 : Nat) : Int) from rfl, rd_nat l (n + 1) h, List.take_succ_eq_append_getElem h, List.take_succ_eq_append_getElem (show n < l.length by omega), List.append_assoc, List.drop_append]
  simp [Nat.min_eq_left (show n ≤ l.length by omega)]
theorem chain_ne {l : List Int} {s : Int} {r : List S144} (h : Chain l s r) : r ≠ [] := by
  rintro rfl
  exact h
theorem chain_F (l : List Int) : ∀ (n : Nat) (i s : Int), 0 ≤ s → s ≤ i → i ≤ (l.length : Int) → (l.length : Int) - i < (n : Int) → clean l s i → Chain l s (linesF l n i s)
  | 0, i, s, h0, h1, h2, h3, h4 => by omega
  | n + 1, i, s, h0, h1, h2, h3, h4 => by
    unfold linesF
    by_cases c : i < (l.length : Int)
    · rw [if_pos c]
      have b1 := one_byte l i (by omega) c
      by_cases c1 : rd l i = 10
      · rw [if_pos c1]
        have ih := chain_F l n (i + 1) (i + 1) (by omega) (by omega) (by omega) (by omega) (fun j a b => by omega)
        refine ⟨rfl, h0, h1, by show i ≤ i + 1; omega, by show i + 1 ≤ _; omega, h4, .inr ⟨chain_ne ih, .inl ?_, ih⟩⟩
        rw [b1, c1]
      · rw [if_neg c1]
        by_cases c2 : rd l i = 13
        · rw [if_pos c2]
          by_cases c3 : i + 1 < (l.length : Int) ∧ rd l (i + 1) = 10
          · rw [if_pos c3]
            have ih := chain_F l n (i + 2) (i + 2) (by omega) (by omega) (by omega) (by omega) (fun j a b => by omega)
            refine ⟨rfl, h0, h1, by show i ≤ i + 2; omega, by show i + 2 ≤ _; omega, h4, .inr ⟨chain_ne ih, .inr (.inr ?_), ih⟩⟩
            rw [two_bytes l i (by omega) c3.1, c2, c3.2]
          · rw [if_neg c3]
            have ih := chain_F l n (i + 1) (i + 1) (by omega) (by omega) (by omega) (by omega) (fun j a b => by omega)
            refine ⟨rfl, h0, h1, by show i ≤ i + 1; omega, by show i + 1 ≤ _; omega, h4, .inr ⟨chain_ne ih, .inr (.inl ⟨?_, fun a b => c3 ⟨a, b⟩⟩), ih⟩⟩
            rw [b1, c2]
        · rw [if_neg c2]
          refine chain_F l n (i + 1) s h0 (by omega) (by omega) (by omega) (fun j a b => ?_)
          rcases (show j < i ∨ i ≤ j by omega) with h | h
          · exact h4 j a h
          · obtain rfl : j = i := by omega
            exact ⟨c2, c1⟩
    · rw [if_neg c]
      obtain rfl : i = (l.length : Int) := by omega
      exact ⟨rfl, h0, h1, Int.le_refl _, Int.le_refl _, h4, .inl ⟨rfl, rfl, rfl⟩⟩
theorem chain_is (l : List Int) : Chain l 0 (linesL l) := chain_F l (l.length + 1) 0 0 (by omega) (by omega) (by omega) (by omega) (fun j a b => by omega)
end Go.Proofs.YtbomhpfckplgaaaDoor.P
namespace Go.Proofs.YtbomhpfckplgaaaDoor.P
open Go Go.RowKit Go.Proofs.YtbomhpfckplgaaaDoorW.PrintWords Go.Proofs.YtbomhpfckplgaaaDoorW.PrintLast Go.Proofs.YtbomhpfckplgaaaDoorW.PrintMore
set_option linter.unusedVariables false
set_option linter.unusedSimpArgs false
set_option maxRecDepth 100000
attribute [local go_sem] max2_int min2_int max_two min_two max_three min_three max_four min_four
def lines_Spot.T7 : Bool × List (List Nat × List Nat) := (true, [([], []), ([0], [0]), ([], []), ([2], [2]), ([3], [3]), ([1, 4], [1, 4]), ([5, 0, 1, 2, 3, 4, 5], [5]), ([6, 0, 1, 2, 3, 4, 5, 6], [])])
def lines_Spot.B7 : List Nat := [0, 1, 0, 4, 12, 31, 63, 127]
theorem lines_Spot.tab7 : rtab .any (opsOf Tryd.f67 7) = lines_Spot.T7 := by kernel_rfl
theorem lines_Spot.bits7 : waitsOk lines_Spot.T7.2 lines_Spot.B7 = true := by kernel_rfl
def lines_Spot.k (k : Nat) (l : List Int) (p r : Int) : Option (Int × Int × Int) := if 1 ≤ r ∧ r ≤ 3 then (lines_Where.f k l p).bind fun t => if t.2.2.2.2.2.2.2 = 0 then some (t.2.2.2.1, (if r = 1 then t.2.2.2.2.1 else if r = 2 then t.2.2.2.2.2.1 else t.2.2.2.2.2.2.1), 0) else some (0, 0, t.2.2.2.2.2.2.2) else some (0, 0, 3)
open Classical in
noncomputable def lines_Spot.f (l : List Int) (p r : Int) : Option (Int × Int × Int) := if h : ∃ v, ∃ k, lines_Spot.k k l p r = some v then some (Classical.choose h) else none
theorem lines_Spot.fuel {l : List Int} {p r : Int} {v : Int × Int × Int} (h : lines_Spot.f l p r = some v) : ∃ k, lines_Spot.k k l p r = some v := by
  unfold lines_Spot.f at h
  split at h
  · next hh =>
    obtain rfl := Option.some.inj h
    exact Classical.choose_spec hh
  · cases h
set_option maxHeartbeats 8000000 in
theorem lines_Spot.callsK (k : Nat) (A : Option Addr) (c : Nat) (l : List Int) (p r : Int) (r1 r2 r3 : Int) (w : World) (hr0 : Kd.C (Kd.int .u8) w A l.length l) (hc : l.length ≤ c) (hG : Laid w) (h : lines_Spot.k k l p r = some (r1, r2, r3)) :
    Calls Tryd.prog 67 #[.slice A l.length c, .int .i64 p, .int .i64 r] w fun e w' => e = .returned (.tuple #[.agg #[.int .i64 r1, .int .i64 r2], .int .i64 r3]) ∧ Below w.heap.size w w' := by
  have hu71 := Tryd.underlying71
  have hu79 := Tryd.underlying79
  have hu118 := Tryd.underlying118
  unfold lines_Spot.k at h
  have HB := Aside0.mk (Below.refl w.heap.size w)
  have HI : Aside0 (Keeps (fun W => Kd.C (Kd.int .u8) W A l.length l ∧ Laid W) w) := ⟨(keeps_C hr0).and (keeps_laid hG)⟩
  have HC := Aside0.mk hc
  have HH := Aside0.mk h
  clear hr0 hG hc h
  go_enter Tryd.func67, Tryd.ntmps67
  go_upto_region 1 with ((with_reducible refine gate_dst (N := 6) rfl ?_); refine box_event ?hg (N := 6) ?hd (cs := #[.int .i64 0, .int .i64 0]) (t := 71) ?hr ?_; (case hd => rfl); (case hg => rfl); (case hr => first | (go_simp; done) | (go_simp; rfl)); intro g6 hg6 w3 hx6 hb3; have GE6 : Aside0 (w.heap.size ≤ g6) := ⟨by rw [hg6]; exact Nat.le_refl _⟩; have L6 : Aside0 (g6 < w3.heap.size) := ⟨blk_lt hx6⟩; have B3 := Aside0.mk hb3; have X6 := Aside0.mk hx6; clear hg6 hb3 hx6)
  by_cases hr : 1 ≤ r ∧ r ≤ 3
  case neg =>
    have h := HH.out
    rw [if_neg hr] at h
    simp only [Option.some.injEq, Prod.mk.injEq] at h
    obtain ⟨rfl, rfl, rfl⟩ := h
    have c0 : w3.cell? ⟨g6, 0, none⟩ = some (.int .i64 0) := (blk_cell X6.out 0).trans rfl
    have c1 : w3.cell? ⟨g6, 1, none⟩ = some (.int .i64 0) := (blk_cell X6.out 1).trans rfl
    have f0 := blk_frozen X6.out 0
    have f1 := blk_frozen X6.out 1
    have fin : bodyPost Tryd.prog Tryd.f67 (fun e w' => e = .returned (.tuple #[.agg #[.int .i64 0, .int .i64 0], .int .i64 3]) ∧ Below w.heap.size w w') = bodyPost Tryd.prog Tryd.f67 (fun e w' => e = .returned (.tuple #[.agg #[.int .i64 0, .int .i64 0], .int .i64 3]) ∧ Below w.heap.size w w') := rfl
    clear fin HH
    by_cases h1 : r < 1
    · have h1' : decide (r < 1) = true := decide_eq_true h1
      clear hr h1
      go_wp2
      refine bodyPost_ret (results_ct rfl _ _ g6 71 #[.int .i64 0, .int .i64 0] (0, 0) _ rfl (by refine blk_put (cs := #[.int .i64 0, .int .i64 0]) ?_ 1 _ rfl; refine blk_put (cs := #[.int .i64 0, .int .i64 0]) ?_ 0 _ rfl; exact X6.out) Tryd.underlying71 rfl (by kernel_rfl)) rfl ?_
      exact ⟨rfl, (B3.out.setCell GE6.out _).setCell GE6.out _⟩
    · have h1' : decide (r < 1) = false := decide_eq_false h1
      have h2' : decide (3 < r) = true := decide_eq_true (by omega)
      clear hr h1
      go_wp2
      refine bodyPost_ret (results_ct rfl _ _ g6 71 #[.int .i64 0, .int .i64 0] (0, 0) _ rfl (by refine blk_put (cs := #[.int .i64 0, .int .i64 0]) ?_ 1 _ rfl; refine blk_put (cs := #[.int .i64 0, .int .i64 0]) ?_ 0 _ rfl; exact X6.out) Tryd.underlying71 rfl (by kernel_rfl)) rfl ?_
      exact ⟨rfl, (B3.out.setCell GE6.out _).setCell GE6.out _⟩
  have h1' : decide (r < 1) = false := decide_eq_false (by omega)
  have h2' : decide (3 < r) = false := decide_eq_false (by omega)
  have h := HH.out
  clear HH
  rw [if_pos hr] at h
  obtain ⟨⟨t1, t2, t3, t4, t5, t6, t7, t8⟩, hw, h⟩ := Option.bind_eq_some_iff.1 h
  have A1 := Aside0.mk hw
  have HH : Aside0 ((if t8 = 0 then some (t4, (if r = 1 then t5 else if r = 2 then t6 else t7), 0) else some (0, 0, t8)) = some (r1, r2, r3)) := ⟨h⟩
  have HR := Aside0.mk hr
  clear hw h hr
  go_upto_region 4 with (first | (go_at_call 62; refine (lines_Where.calls k A c l p t1 t2 t3 t4 t5 t6 t7 t8 _ (HI.out.of B3.out).1 HC.out (HI.out.of B3.out).2 A1.out).mono ?_; rintro e w4 ⟨rfl, hb4⟩; have B4 := Aside0.mk hb4; clear hb4) | ((with_reducible refine gate_dst (N := 8) rfl ?_); refine box_event ?hg (N := 8) ?hd (cs := #[.int .i64 0, .int .i64 0, .int .i64 0, .int .i64 0, .int .i64 0, .int .i64 0, .int .i64 0]) (t := 79) ?hr ?_; (case hd => rfl); (case hg => rfl); (case hr => first | (go_simp; done) | (go_simp; rfl)); intro g8 hg8 w5 hx8 hb5; have X8 := Aside0.mk hx8; have B5 := Aside0.mk hb5; have L8 : Aside0 (g6 < g8) := ⟨by rw [hg8]; exact Nat.lt_of_lt_of_le L6.out B4.out.size⟩; clear hx8 hb5 hg8; have c80 : w5.cell? ⟨g8, 0, none⟩ = some (.int .i64 0) := (blk_cell X8.out 0).trans rfl; have f80 := blk_frozen X8.out 0; have c81 : w5.cell? ⟨g8, 1, none⟩ = some (.int .i64 0) := (blk_cell X8.out 1).trans rfl; have f81 := blk_frozen X8.out 1; have c82 : w5.cell? ⟨g8, 2, none⟩ = some (.int .i64 0) := (blk_cell X8.out 2).trans rfl; have f82 := blk_frozen X8.out 2; have c83 : w5.cell? ⟨g8, 3, none⟩ = some (.int .i64 0) := (blk_cell X8.out 3).trans rfl; have f83 := blk_frozen X8.out 3; have c84 : w5.cell? ⟨g8, 4, none⟩ = some (.int .i64 0) := (blk_cell X8.out 4).trans rfl; have f84 := blk_frozen X8.out 4; have c85 : w5.cell? ⟨g8, 5, none⟩ = some (.int .i64 0) := (blk_cell X8.out 5).trans rfl; have f85 := blk_frozen X8.out 5; have c86 : w5.cell? ⟨g8, 6, none⟩ = some (.int .i64 0) := (blk_cell X8.out 6).trans rfl; have f86 := blk_frozen X8.out 6))
  refine wp_world (fun W hW => ?_)
  have NE : g6 ≠ g8 := Nat.ne_of_lt L8.out
  have NE' : g8 ≠ g6 := fun h_ => NE h_.symm
  have Q8 : Aside0 (W.heap[g8]? = some (.cells #[.int .i64 t1, .int .i64 t2, .int .i64 t3, .int .i64 t4, .int .i64 t5, .int .i64 t6, .int .i64 t7] 79 (0, 0))) := ⟨by
    rw [hW]
    refine blk_put (cs := #[.int .i64 t1, .int .i64 t2, .int .i64 t3, .int .i64 t4, .int .i64 t5, .int .i64 t6, .int .i64 0]) ?_ 6 _ rfl
    refine blk_put (cs := #[.int .i64 t1, .int .i64 t2, .int .i64 t3, .int .i64 t4, .int .i64 t5, .int .i64 0, .int .i64 0]) ?_ 5 _ rfl
    refine blk_put (cs := #[.int .i64 t1, .int .i64 t2, .int .i64 t3, .int .i64 t4, .int .i64 0, .int .i64 0, .int .i64 0]) ?_ 4 _ rfl
    refine blk_put (cs := #[.int .i64 t1, .int .i64 t2, .int .i64 t3, .int .i64 0, .int .i64 0, .int .i64 0, .int .i64 0]) ?_ 3 _ rfl
    refine blk_put (cs := #[.int .i64 t1, .int .i64 t2, .int .i64 0, .int .i64 0, .int .i64 0, .int .i64 0, .int .i64 0]) ?_ 2 _ rfl
    refine blk_put (cs := #[.int .i64 t1, .int .i64 0, .int .i64 0, .int .i64 0, .int .i64 0, .int .i64 0, .int .i64 0]) ?_ 1 _ rfl
    refine blk_put (cs := #[.int .i64 0, .int .i64 0, .int .i64 0, .int .i64 0, .int .i64 0, .int .i64 0, .int .i64 0]) ?_ 0 _ rfl
    exact X8.out⟩
  have Q6 : Aside0 (W.heap[g6]? = some (.cells #[.int .i64 0, .int .i64 0] 71 (0, 0))) := ⟨by
    rw [hW]
    refine blk_far ?_ NE _
    refine blk_far ?_ NE _
    refine blk_far ?_ NE _
    refine blk_far ?_ NE _
    refine blk_far ?_ NE _
    refine blk_far ?_ NE _
    refine blk_far ?_ NE _
    exact blk_below (blk_below X6.out B4.out) B5.out⟩
  have GE8 : Aside0 (w.heap.size ≤ g8) := ⟨Nat.le_trans GE6.out (Nat.le_of_lt L8.out)⟩
  have BW : Aside0 (Below w.heap.size w W) := ⟨by
    have b4 := B3.out.trans (B4.out.mono B3.out.size)
    have b45 := b4.trans (B5.out.mono b4.size)
    rw [hW]
    exact ((((((b45.setCell GE8.out _).setCell GE8.out _).setCell GE8.out _).setCell GE8.out _).setCell GE8.out _).setCell GE8.out _).setCell GE8.out _⟩
  clear c80 f80 c81 f81 c82 f82 c83 f83 c84 f84 c85 f85 c86 f86
  clear hW
  by_cases e : t8 = 0
  case neg =>
    have c60 : W.cell? ⟨g6, 0, none⟩ = some (.int .i64 0) := (blk_cell Q6.out 0).trans rfl
    have c61 : W.cell? ⟨g6, 1, none⟩ = some (.int .i64 0) := (blk_cell Q6.out 1).trans rfl
    have f60 := blk_frozen Q6.out 0
    have f61 := blk_frozen Q6.out 1
    have h := HH.out
    rw [if_neg e] at h
    simp only [Option.some.injEq, Prod.mk.injEq] at h
    obtain ⟨rfl, rfl, rfl⟩ := h
    have e' : (t8 != 0) = true := by simp [e]
    clear HH e
    go_wp2
    refine bodyPost_ret (results_ct rfl _ _ g6 71 #[.int .i64 0, .int .i64 0] (0, 0) _ rfl (by refine blk_put (cs := #[.int .i64 0, .int .i64 0]) ?_ 1 _ rfl; refine blk_put (cs := #[.int .i64 0, .int .i64 0]) ?_ 0 _ rfl; exact Q6.out) Tryd.underlying71 rfl (by kernel_rfl)) rfl ?_
    exact ⟨rfl, (BW.out.setCell GE6.out _).setCell GE6.out _⟩
  subst e
  have h := HH.out
  rw [if_pos rfl] at h
  simp only [Option.some.injEq, Prod.mk.injEq] at h
  obtain ⟨rfl, htv, rfl⟩ := h
  have HTV := Aside0.mk htv
  clear HH htv
  have c84 : W.cell? ⟨g8, 4, none⟩ = some (.int .i64 t5) := (blk_cell Q8.out 4).trans rfl
  have c85 : W.cell? ⟨g8, 5, none⟩ = some (.int .i64 t6) := (blk_cell Q8.out 5).trans rfl
  have c86 : W.cell? ⟨g8, 6, none⟩ = some (.int .i64 t7) := (blk_cell Q8.out 6).trans rfl
  go_upto_region 7 with ((with_reducible refine gate_dst (N := 10) rfl ?_); refine box_event ?hg (N := 10) ?hd (cs := #[.int .i64 0, .int .i64 0, .int .i64 0, .int .i64 0]) (t := 118) ?hr ?_; (case hd => rfl); (case hg => rfl); (case hr => first | (go_simp; done) | (go_simp; rfl)); intro gA hgA wA hxA hbA; have XA := Aside0.mk hxA; have BA := Aside0.mk hbA; have LA : Aside0 (g6 < gA ∧ g8 < gA) := ⟨by rw [hgA]; exact ⟨blk_lt Q6.out, blk_lt Q8.out⟩⟩; clear hxA hbA hgA; have cA0 : wA.cell? ⟨gA, 0, none⟩ = some (.int .i64 0) := (blk_cell XA.out 0).trans rfl; have fA0 := blk_frozen XA.out 0; have cA1 : wA.cell? ⟨gA, 1, none⟩ = some (.int .i64 0) := (blk_cell XA.out 1).trans rfl; have fA1 := blk_frozen XA.out 1; have cA2 : wA.cell? ⟨gA, 2, none⟩ = some (.int .i64 0) := (blk_cell XA.out 2).trans rfl; have fA2 := blk_frozen XA.out 2; have cA3 : wA.cell? ⟨gA, 3, none⟩ = some (.int .i64 0) := (blk_cell XA.out 3).trans rfl; have fA3 := blk_frozen XA.out 3)
  refine wp_world (fun V hV => ?_)
  have NA6 : g6 ≠ gA := Nat.ne_of_lt LA.out.1
  have NA8 : g8 ≠ gA := Nat.ne_of_lt LA.out.2
  have GEA : Aside0 (w.heap.size ≤ gA) := ⟨Nat.le_trans GE6.out (Nat.le_of_lt LA.out.1)⟩
  have QA : V.heap[gA]? = some (.cells #[.int .i64 0, .int .i64 t5, .int .i64 t6, .int .i64 t7] 118 (0, 0)) := by
    rw [hV]
    refine blk_put (cs := #[.int .i64 0, .int .i64 t5, .int .i64 t6, .int .i64 0]) ?_ 3 _ rfl
    refine blk_put (cs := #[.int .i64 0, .int .i64 t5, .int .i64 0, .int .i64 0]) ?_ 2 _ rfl
    refine blk_put (cs := #[.int .i64 0, .int .i64 0, .int .i64 0, .int .i64 0]) ?_ 1 _ rfl
    refine blk_put (cs := #[.int .i64 0, .int .i64 0, .int .i64 0, .int .i64 0]) ?_ 0 _ rfl
    exact XA.out
  have Q8V : V.heap[g8]? = some (.cells #[.int .i64 t1, .int .i64 t2, .int .i64 t3, .int .i64 t4, .int .i64 t5, .int .i64 t6, .int .i64 t7] 79 (0, 0)) := by
    rw [hV]
    refine blk_far ?_ NA8 _
    refine blk_far ?_ NA8 _
    refine blk_far ?_ NA8 _
    refine blk_far ?_ NA8 _
    exact blk_below Q8.out BA.out
  have Q6V : V.heap[g6]? = some (.cells #[.int .i64 0, .int .i64 0] 71 (0, 0)) := by
    rw [hV]
    refine blk_far ?_ NA6 _
    refine blk_far ?_ NA6 _
    refine blk_far ?_ NA6 _
    refine blk_far ?_ NA6 _
    exact blk_below Q6.out BA.out
  have BV : Aside0 (Below w.heap.size w V) := ⟨by
    rw [hV]
    exact ((((BW.out.trans (BA.out.mono BW.out.size)).setCell GEA.out _).setCell GEA.out _).setCell GEA.out _).setCell GEA.out _⟩
  obtain ⟨n, rfl⟩ : ∃ n : Nat, r = n := ⟨r.toNat, by have := HR.out; omega⟩
  have hr4 : (n : Int) < 4 := by have := HR.out; omega
  have htv := HTV.out
  have hcol : V.cell? ⟨gA, n, none⟩ = some (.int .i64 r2) := by
    have := HR.out
    refine (blk_cell QA n).trans ?_
    obtain rfl | rfl | rfl : n = 1 ∨ n = 2 ∨ n = 3 := by omega
    · simp at htv; rw [htv]; rfl
    · simp at htv; rw [htv]; rfl
    · simp at htv; rw [htv]; rfl
  have FS : Aside0 (Keeps (fun W' => W'.cell? ⟨g8, 3, none⟩ = some (.int .i64 t4) ∧ W'.cell? ⟨gA, n, none⟩ = some (.int .i64 r2)) V) := ⟨(keeps_cell ((blk_cell Q8V 3).trans rfl)).and (keeps_cell hcol)⟩
  have F6 := Aside0.mk (keeps_blk Q6V)
  have FZ : Aside0 (Keeps (fun W' => W'.cell? ⟨g6, 0, none⟩ = some (.int .i64 0) ∧ W'.cell? ⟨g6, 1, none⟩ = some (.int .i64 0) ∧ W'.frozen? ⟨g6, 0, none⟩ = false ∧ W'.frozen? ⟨g6, 1, none⟩ = false) V) := ⟨fun W' hW' => by
    have q := keeps_blk Q6V W' hW'
    exact ⟨(blk_cell q 0).trans rfl, (blk_cell q 1).trans rfl, blk_frozen q 0, blk_frozen q 1⟩⟩
  clear QA Q8V Q6V hcol hV NA6 NA8 cA0 cA1 cA2 cA3 fA0 fA1 fA2 fA3 c84 c85 c86 NE NE'
  clear htv
  refine start_ (n := 8) (S := fun w' => Below V.heap.size V w') (ds := [6]) #[false, false, false, false, false, false, false, false] (by kernel_rfl) rfl rfl (Below.refl _ _).drew (fun hHeld => ?_); refine with_tabW lines_Spot.tab7 lines_Spot.bits7 (fun HT_ HW_ => ?_)
  obtain ⟨V2, hZ_⟩ : ∃ Z_, V.drew = Z_ := ⟨_, rfl⟩
  rw [hZ_] at hHeld ⊢
  clear hZ_
  refine pure_ (i := 0) (N := some 35) (v := ?_) (a' := ?_) #[true, false, false, false, false, false, false, false] rfl rfl (any_of HT_.out (by kernel_rfl)) (fun _ _ _ h => h) (Or.inl ⟨by rfl, ?_⟩) ?_ ?_
  rotate_left
  · intro w'
    go_simp
    with_reducible rfl
  rotate_left
  · simp only [Act.put, List.setIfInBounds_toArray, List.set_cons_zero, List.set_cons_succ, i64_w, i32_w]
    rfl
  refine pure_ (i := 2) (N := some 37) (v := ?_) (a' := ?_) #[true, false, true, false, false, false, false, false] rfl rfl (any_of HT_.out (by kernel_rfl)) (fun _ _ _ h => h) (Or.inl ⟨by rfl, ?_⟩) ?_ ?_
  rotate_left
  · intro w'
    go_simp
    with_reducible rfl
  rotate_left
  · simp only [Act.put, List.setIfInBounds_toArray, List.set_cons_zero, List.set_cons_succ, i64_w, i32_w]
    rfl
  refine pure_ (i := 3) (N := some 38) (v := ?_) (a' := ?_) #[true, false, true, true, false, false, false, false] rfl rfl (any_of HT_.out (by kernel_rfl)) (fun _ _ _ h => h) (Or.inl ⟨by rfl, ?_⟩) ?_ ?_
  rotate_left
  · intro w'
    go_simp
    with_reducible rfl
  rotate_left
  · simp only [Act.put, List.setIfInBounds_toArray, List.set_cons_zero, List.set_cons_succ, i64_w, i32_w]
    rfl
  refine take_ (i := 1) (N := some 36) (v := ?_) (a' := ?_) #[true, true, true, true, false, false, false, false] rfl rfl (take_ofW HT_.out HW_.out (by kernel_rfl)) (fun _ _ _ h => h) (Or.inl ⟨by rfl, ?_⟩) hHeld ?_ ?_
  rotate_left
  · intro w' hS_
    obtain ⟨s0, s1⟩ := FS.out.of hS_
    go_simp
    with_reducible rfl
  rotate_left
  · simp only [Act.put, List.setIfInBounds_toArray, List.set_cons_zero, List.set_cons_succ, i64_w, i32_w]
    rfl
  refine take_ (i := 4) (N := some 39) (v := ?_) (a' := ?_) #[true, true, true, true, true, false, false, false] rfl rfl (take_ofW HT_.out HW_.out (by kernel_rfl)) (fun _ _ _ h => h) (Or.inl ⟨by rfl, ?_⟩) hHeld ?_ ?_
  rotate_left
  · intro w' hS_
    obtain ⟨s0, s1⟩ := FS.out.of hS_
    go_simp
    with_reducible rfl
  rotate_left
  · simp only [Act.put, List.setIfInBounds_toArray, List.set_cons_zero, List.set_cons_succ, i64_w, i32_w]
    rfl
  refine pure_ (i := 5) (N := some 40) (v := ?_) (a' := ?_) #[true, true, true, true, true, true, false, false] rfl rfl (any_of HT_.out (by kernel_rfl)) (fun _ _ _ h => h) (Or.inl ⟨by rfl, ?_⟩) ?_ ?_
  rotate_left
  · intro w'
    go_simp
    with_reducible rfl
  rotate_left
  · simp only [Act.put, List.setIfInBounds_toArray, List.set_cons_zero, List.set_cons_succ, i64_w, i32_w]
    rfl
  refine last_ (i := 6) (N := none) #[true, true, true, true, true, true, true, false] rfl rfl (one_of HT_.out (by kernel_rfl)) (by decide) (fun K hK => ?_)
  have hcell := (FZ.out.of hHeld)
  obtain ⟨d0, d1, d2, d3⟩ := hcell
  refine skip_ (w1 := ?_) (by rfl) rfl ?_ ?_
  rotate_left
  · go_simp
    rfl
  refine hK.out _ _ ?_
  clear hK K
  refine pure_ (i := 7) (N := some 7) (v := ?_) (a' := ?_) #[true, true, true, true, true, true, true, true] rfl rfl (any_of HT_.out (by kernel_rfl)) (fun _ _ _ h => h) (Or.inl ⟨by rfl, ?_⟩) ?_ ?_
  rotate_left
  · intro w'
    go_simp
    with_reducible rfl
  rotate_left
  · simp only [Act.put, List.setIfInBounds_toArray, List.set_cons_zero, List.set_cons_succ, i64_w, i32_w]
    rfl
  refine done_ (done_of HT_.out (by kernel_rfl)) ?_
  clear HT_ HW_
  go_wp2
  refine bodyPost_ret (results_ct rfl _ _ g6 71 #[.int .i64 t4, .int .i64 r2] (0, 0) _ rfl (by refine blk_put (cs := #[.int .i64 t4, .int .i64 0]) ?_ 1 _ rfl; refine blk_put (cs := #[.int .i64 0, .int .i64 0]) ?_ 0 _ rfl; exact F6.out.of hHeld) Tryd.underlying71 rfl (by kernel_rfl)) rfl ?_
  have b2 := BV.out.trans (hHeld.mono BV.out.size)
  exact ⟨rfl, (b2.setCell GE6.out _).setCell GE6.out _⟩
theorem lines_Spot.calls (A0 : Option Addr) (c0 : Nat) (l0 : List Int) (a1 : Int) (a2 : Int) (r1 : Int) (r2 : Int) (r3 : Int) (w : World) (hr0 : Kd.C (Kd.int .u8) w A0 l0.length l0) (hc0 : l0.length ≤ c0) (hG : Laid w) (h : lines_Spot.f l0 a1 a2 = some (r1, r2, r3)) :
    Calls Tryd.prog 67 #[.slice A0 l0.length c0, .int .i64 a1, .int .i64 a2] w fun e w' => e = .returned (.tuple #[.agg #[.int .i64 r1, .int .i64 r2], .int .i64 r3]) ∧ Below w.heap.size w w' := by
  obtain ⟨k, hk⟩ := lines_Spot.fuel h
  exact lines_Spot.callsK k A0 c0 l0 a1 a2 r1 r2 r3 w hr0 hc0 hG hk
end Go.Proofs.YtbomhpfckplgaaaDoor.P
namespace Go.Proofs.YtbomhpfckplgaaaDoor.P
open Go Go.RowKit Go.Proofs.YtbomhpfckplgaaaDoorW.PrintWords Go.Proofs.YtbomhpfckplgaaaDoorW.PrintMore Utf
set_option linter.unusedVariables false
set_option linter.unusedSimpArgs false
theorem extract_all (l : List Int) : (strOfNums l).extract 0 (strOfNums l).size = strOfNums l := by
  simp
theorem at_is {l : List Int} (hl : Bytes l) (hs : Small l) (p : Nat) (hp : p < l.length) : step_at.f l (p : Int) = some (stepN l p) := by
  have hs' := hs
  unfold Small at hs'
  obtain ⟨e, he⟩ : ∃ e : Nat, e = min (p + 4) l.length := ⟨_, rfl⟩
  have hm : mn (wrap64 ((p : Int) + 4)) (l.length : Int) = (e : Int) := by
    rw [w64 (by omega) (by omega)]
    unfold mn
    split <;> omega
  have hw := width_le4 l p
  have hwe := width_end hp
  unfold step_at.f
  rw [hm, if_pos (by omega), if_pos (by omega), if_pos (by omega), Int.toNat_natCast, Int.toNat_natCast]
  have hb : Bytes ((l.take e).drop p) := fun x hx => hl x (List.mem_of_mem_take (List.mem_of_mem_drop hx))
  have hlen : 0 < ((l.take e).drop p).length := by simp; omega
  have h1 := stepW_eq hb hlen
  rw [extract_all] at h1
  have h2 : stepN ((l.take e).drop p) 0 = stepN l p := by
    rw [stepN_drop, Nat.add_zero]
    exact stepN_take (by omega)
  unfold step_first.f
  rw [h1, h2]
  rfl
def insideK (l : List Int) (p : Nat) : Nat := if 1 ≤ p ∧ 1 < width l (p - 1) then 1 else if 2 ≤ p ∧ 2 < width l (p - 2) then 2 else if 3 ≤ p ∧ 3 < width l (p - 3) then 3 else 0
theorem inside_step {l : List Int} (hl : Bytes l) (hs : Small l) (p x : Nat) (hp : p ≤ l.length) (h0 : 1 ≤ x) (h3 : x ≤ 3) (v : Int)
    (h : (x ≤ p ∧ x < width l (p - x) ∧ v = x) ∨ ((x ≤ p → ¬ x < width l (p - x)) ∧ (p < x → v = 0) ∧ (x ≤ p → Ev (fun k => step_inside.l0 k l (p : Int) ((x + 1 : Nat) : Int)) v))) : Ev (fun k => step_inside.l0 k l (p : Int) (x : Int)) v := by
  have hs' := hs
  unfold Small at hs'
  refine Ev.step (G := fun k => step_inside.j1 k l (p : Int) (x : Int) (decide ((x : Int) ≤ (p : Int)))) (fun k => ?_) ?_
  · conv => lhs; unfold step_inside.l0
    rw [if_pos (by omega)]
  by_cases c : x ≤ p
  · rw [decide_eq_true (show (x : Int) ≤ (p : Int) by omega)]
    have hat := at_is hl hs (p - x) (by omega)
    have hw : wrap64 ((p : Int) - (x : Int)) = ((p - x : Nat) : Int) := by
      rw [w64 (by omega) (by omega)]
      omega
    have hsw := stepN_w l (p - x)
    rcases h with ⟨_, h1, rfl⟩ | ⟨h1, _, h2⟩
    · refine Ev.step (G := fun _ => some (x : Int)) (fun k => ?_) (Ev.pure _)
      conv => lhs; unfold step_inside.j1
      rw [if_pos rfl, hw, hat, Option.bind_some, if_pos (by rw [hsw]; omega)]
    · refine Ev.step (G := fun k => step_inside.l0 k l (p : Int) ((x + 1 : Nat) : Int)) (fun k => ?_) (h2 c)
      have := h1 c
      conv => lhs; unfold step_inside.j1
      rw [if_pos rfl, hw, hat, Option.bind_some, if_neg (by rw [hsw]; omega), w64 (n := (x : Int) + 1) (by omega) (by omega)]
      rfl
  · rw [decide_eq_false (show ¬ (x : Int) ≤ (p : Int) by omega)]
    rcases h with ⟨h1, _⟩ | ⟨_, h1, _⟩
    · omega
    · rw [h1 (by omega)]
      refine Ev.step (G := fun _ => some (0 : Int)) (fun k => ?_) (Ev.pure _)
      conv => lhs; unfold step_inside.j1
      rw [if_neg (by simp)]
theorem ev_insideK {l : List Int} (hl : Bytes l) (hs : Small l) (p : Nat) (hp : p ≤ l.length) : Ev (fun k => step_inside.f k l (p : Int)) (insideK l p : Int) := by
  unfold step_inside.f
  refine inside_step hl hs p 1 hp (by omega) (by omega) _ ?_
  unfold insideK
  by_cases c1 : 1 ≤ p ∧ 1 < width l (p - 1)
  · rw [if_pos c1]
    exact .inl ⟨c1.1, c1.2, rfl⟩
  rw [if_neg c1]
  refine .inr ⟨fun h h' => c1 ⟨h, h'⟩, fun h => by rw [if_neg (by omega), if_neg (by omega)]; rfl, fun h => inside_step hl hs p 2 hp (by omega) (by omega) _ ?_⟩
  by_cases c2 : 2 ≤ p ∧ 2 < width l (p - 2)
  · rw [if_pos c2]
    exact .inl ⟨c2.1, c2.2, rfl⟩
  rw [if_neg c2]
  refine .inr ⟨fun h h' => c2 ⟨h, h'⟩, fun h => by rw [if_neg (by omega)]; rfl, fun h => inside_step hl hs p 3 hp (by omega) (by omega) _ ?_⟩
  by_cases c3 : 3 ≤ p ∧ 3 < width l (p - 3)
  · rw [if_pos c3]
    exact .inl ⟨c3.1, c3.2, rfl⟩
  rw [if_neg c3]
  refine .inr ⟨fun h h' => c3 ⟨h, h'⟩, fun h => rfl, fun h => ?_⟩
  refine Ev.step (G := fun k => step_inside.j1 k l (p : Int) ((3 + 1 : Nat) : Int) false) (fun k => ?_) ?_
  · conv => lhs; unfold step_inside.l0
    rw [if_neg (by omega)]
  refine Ev.step (G := fun _ => some (0 : Int)) (fun k => ?_) (Ev.pure _)
  conv => lhs; unfold step_inside.j1
  rw [if_neg (by simp)]
def flr (l : List Int) (p : Nat) : Nat := p - insideK l p
theorem insideK_le (l : List Int) (p : Nat) : insideK l p ≤ p := by
  unfold insideK
  split
  · omega
  · split
    · omega
    · split <;> omega
theorem flr_le (l : List Int) (p : Nat) : flr l p ≤ p := Nat.sub_le _ _
theorem width_long {l : List Int} {p k : Nat} (h0 : 0 < k) (h : k < width l p) : k < long l p := by
  unfold width at h
  split at h
  · omega
  · exact h
theorem start_edge {l : List Int} {p : Nat} (h : 0 < long l p) : inside l p = false := by
  cases c : inside l p with
  | false => rfl
  | true =>
    obtain ⟨k, h0, h1, h2⟩ := inside_iff.1 c
    have h3 := long_within h2 h0
    rw [show p - k + k = p by omega] at h3
    omega
theorem flr_edge (l : List Int) (p : Nat) : inside l (flr l p) = false := by
  unfold flr insideK
  by_cases c1 : 1 ≤ p ∧ 1 < width l (p - 1)
  · rw [if_pos c1]
    exact start_edge (by have := width_long (by omega) c1.2; omega)
  rw [if_neg c1]
  by_cases c2 : 2 ≤ p ∧ 2 < width l (p - 2)
  · rw [if_pos c2]
    exact start_edge (by have := width_long (by omega) c2.2; omega)
  rw [if_neg c2]
  by_cases c3 : 3 ≤ p ∧ 3 < width l (p - 3)
  · rw [if_pos c3]
    exact start_edge (by have := width_long (by omega) c3.2; omega)
  rw [if_neg c3, Nat.sub_zero]
  cases c : inside l p with
  | false => rfl
  | true =>
    exfalso
    obtain ⟨k, h0, h1, h2⟩ := inside_iff.1 c
    have h4 := long_le4 l (p - k)
    have h5 := long_le_width l (p - k)
    rcases (show k = 1 ∨ k = 2 ∨ k = 3 by omega) with rfl | rfl | rfl
    · exact c1 ⟨h1, by omega⟩
    · exact c2 ⟨h1, by omega⟩
    · exact c3 ⟨h1, by omega⟩
theorem flr_mid (l : List Int) (p q : Nat) (h : flr l p < q) (hq : q ≤ p) (hk : insideK l p ≠ 0) : inside l q = true := by
  have key : flr l p + insideK l p = p ∧ insideK l p < width l (flr l p) := by
    unfold flr
    have := insideK_le l p
    refine ⟨by omega, ?_⟩
    unfold insideK at hk ⊢
    split
    · next c => exact c.2
    · next c1 =>
      rw [if_neg c1] at hk
      split
      · next c => exact c.2
      · next c2 =>
        rw [if_neg c2] at hk
        split
        · next c => exact c.2
        · next c3 =>
          rw [if_neg c3] at hk
          exact absurd rfl hk
  have := inside_mid (b := l) (p := flr l p) (k := q - flr l p) (by omega) (by omega)
  rwa [show flr l p + (q - flr l p) = q by omega] at this
theorem floor_in {l : List Int} (hl : Bytes l) (hs : Small l) (p : Nat) (hp : p ≤ l.length) : Ev (fun k => step_Floor.f k l (p : Int)) ((flr l p : Int), 0) := by
  have hs' := hs
  unfold Small at hs'
  have hk := insideK_le l p
  unfold step_Floor.f
  refine Ev.ite_neg (by omega) (Ev.ite_neg (by omega) (Ev.bind (ev_insideK hl hs p hp) (Ev.of ?_)))
  rw [w64 (by omega) (by omega)]
  unfold flr
  rw [Int.ofNat_sub hk]
theorem floor_out (l : List Int) (p : Int) (h : p < 0 ∨ p > (l.length : Int)) : Ev (fun k => step_Floor.f k l p) (0, 2) := by
  unfold step_Floor.f
  by_cases c : p < 0
  · exact Ev.ite_pos c (Ev.pure _)
  · exact Ev.ite_neg c (Ev.ite_pos (by omega) (Ev.pure _))
theorem holds_from (L : List S144) (hL : L.length < 4611686018427387904) (q : Int) : ∀ (n i : Nat) (at_ : Nat), L.length - i ≤ n → i ≤ L.length → at_ < L.length → (i = 0 → at_ = 0) → (0 < i → at_ + 1 = i ∧ (rd_T144 L at_).f0 ≤ q) → (0 < L.length → (rd_T144 L 0).f0 ≤ q) →
    ∃ j : Nat, Ev (fun k => lines_holds.l0 k L q (at_ : Int) (L.length : Int) (i : Int)) (j : Int) ∧ j < L.length ∧ (rd_T144 L j).f0 ≤ q ∧ (j + 1 < L.length → q < (rd_T144 L (j + 1 : Nat)).f0)
  | 0, i, a, hn, hi, ha, h0, h1, hz => by
    refine ⟨a, Ev.step (G := fun _ => some (a : Int)) (fun k => ?_) (Ev.pure _), ha, (h1 (by omega)).2, fun h => ?_⟩
    · conv => lhs; unfold lines_holds.l0
      rw [if_neg (by omega)]
    · have := (h1 (by omega)).1
      omega
  | n + 1, i, a, hn, hi, ha, h0, h1, hz => by
    by_cases c : i < L.length
    · by_cases g : (rd_T144 L (i : Int)).f0 > q
      · have hi0 : 0 < i := by
          rcases Nat.eq_zero_or_pos i with rfl | h
          · have h_ : (rd_T144 L ((0 : Nat) : Int)).f0 ≤ q := hz (by omega)
            omega
          · exact h
        have ha1 := h1 hi0
        refine ⟨a, Ev.step (G := fun _ => some (a : Int)) (fun k => ?_) (Ev.pure _), ha, ha1.2, fun h => ?_⟩
        · conv => lhs; unfold lines_holds.l0
          rw [if_pos (by omega), if_pos (by omega), if_pos (by omega), if_pos g]
        · rw [show a + 1 = i from ha1.1]
          exact g
      · obtain ⟨j, hj, r⟩ := holds_from L hL q n (i + 1) i (by omega) (by omega) c (by omega) (fun _ => ⟨rfl, by omega⟩) hz
        refine ⟨j, Ev.step (G := fun k => lines_holds.l0 k L q (i : Int) (L.length : Int) ((i + 1 : Nat) : Int)) (fun k => ?_) hj, r⟩
        conv => lhs; unfold lines_holds.l0
        rw [if_pos (by omega), if_pos (by omega), if_pos (by omega), if_neg g, w64 (n := (i : Int) + 1) (by omega) (by omega)]
        rfl
    · refine ⟨a, Ev.step (G := fun _ => some (a : Int)) (fun k => ?_) (Ev.pure _), ha, (h1 (by omega)).2, fun h => ?_⟩
      · conv => lhs; unfold lines_holds.l0
        rw [if_neg (by omega)]
      · have := (h1 (by omega)).1
        omega
theorem chain_line {l : List Int} : ∀ {s : Int} {L : List S144}, Chain l s L → ∀ x ∈ L, 0 ≤ x.f0 ∧ x.f0 ≤ x.f1 ∧ x.f1 ≤ x.f3 ∧ x.f3 ≤ (l.length : Int)
  | s, [], h => h.elim
  | s, x :: r, ⟨h0, h1, h2, h3, h4, h5, h6⟩ => by
    intro y hy
    rcases List.mem_cons.1 hy with rfl | hy
    · rw [h0]
      exact ⟨h1, h2, h3, h4⟩
    · rcases h6 with ⟨rfl, _⟩ | ⟨_, _, hc⟩
      · cases hy
      · exact chain_line hc y hy
theorem rd_mem (L : List S144) (k : Int) (h0 : 0 ≤ k) (h1 : k < L.length) : rd_T144 L k ∈ L := by
  obtain ⟨n, rfl⟩ := Int.eq_ofNat_of_zero_le h0
  have c : n < L.length := by omega
  unfold rd_T144
  rw [Int.toNat_natCast, List.getD_eq_getElem?_getD, List.getElem?_eq_getElem c]
  exact List.getElem_mem c
theorem lines_first (l : List Int) : 0 < (linesL l).length ∧ (rd_T144 (linesL l) 0).f0 = 0 := by
  have h := chain_is l
  generalize linesL l = L at h
  cases L with
  | nil => exact h.elim
  | cons x r => exact ⟨by simp, h.1⟩
theorem last_line (l : List Int) : ∀ x ∈ linesL l, x.f1 ≤ x.f2 ∧ x.f2 ≤ x.f3 := by
  have : ∀ (n : Nat) (i s : Int), ∀ x ∈ linesF l n i s, x.f1 ≤ x.f2 ∧ x.f2 ≤ x.f3 := by
    intro n
    induction n with
    | zero => intro i s x hx; simp [linesF] at hx
    | succ n ih =>
      intro i s x hx
      unfold linesF at hx
      split at hx
      · split at hx
        · rcases List.mem_cons.1 hx with rfl | hx
          · exact ⟨Int.le_refl _, by show i ≤ i + 1; omega⟩
          · exact ih _ _ x hx
        · split at hx
          · split at hx
            · rcases List.mem_cons.1 hx with rfl | hx
              · exact ⟨by show i ≤ i + 1; omega, by show i + 1 ≤ i + 2; omega⟩
              · exact ih _ _ x hx
            · rcases List.mem_cons.1 hx with rfl | hx
              · exact ⟨Int.le_refl _, by show i ≤ i + 1; omega⟩
              · exact ih _ _ x hx
          · exact ih _ _ x hx
      · rcases List.mem_cons.1 hx with rfl | hx
        · exact ⟨Int.le_refl _, Int.le_refl _⟩
        · cases hx
  exact this _ _ _
theorem lsize_is {l : List Int} (hl : Bytes l) (hs : Wide l) (r : Nat) (h1 : 1 ≤ r) (h3 : r ≤ 3) : lines_size.f l (r : Int) = some (lastT l r) := by
  unfold lines_size.f
  rw [size_is hl hs, if_pos (by omega), Int.toNat_natCast]
  rfl
theorem where_in {l : List Int} (hl : Bytes l) (hs : Small l) (p : Nat) (hp : p ≤ l.length) : ∃ j : Nat, j < (linesL l).length ∧ 0 ≤ (rd_T144 (linesL l) j).f0 ∧ (rd_T144 (linesL l) j).f0 ≤ (flr l p : Int) ∧ (j + 1 < (linesL l).length → (flr l p : Int) < (rd_T144 (linesL l) (j + 1 : Nat)).f0) ∧
    Ev (fun k => lines_Where.f k l (p : Int)) ((flr l p : Int), lastT (l.take (flr l p)) 2, lastT (l.take (flr l p)) 3, (j : Int), (flr l p : Int) - (rd_T144 (linesL l) j).f0, lastT ((l.take (flr l p)).drop (rd_T144 (linesL l) j).f0.toNat) 2, lastT ((l.take (flr l p)).drop (rd_T144 (linesL l) j).f0.toNat) 3, 0) := by
  have hs' := hs
  unfold Small at hs'
  have hfl := flr_le l p
  have hlen := linesL_length l
  have hfirst := lines_first l
  obtain ⟨j, hj, h1, h2, h3⟩ := holds_from (linesL l) (by omega) (flr l p : Int) _ 0 0 (Nat.le_refl _) (Nat.zero_le _) hfirst.1 (fun _ => rfl) (fun h => absurd h (by omega)) (fun _ => by rw [hfirst.2]; omega)
  have hx := chain_line (chain_is l) _ (rd_mem (linesL l) j (by omega) (by omega))
  refine ⟨j, h1, hx.1, h2, h3, ?_⟩
  have bt : Bytes (l.take (flr l p)) := fun x hx => hl x (List.mem_of_mem_take hx)
  have bd : Bytes ((l.take (flr l p)).drop (rd_T144 (linesL l) j).f0.toNat) := fun x hx => bt x (List.mem_of_mem_drop hx)
  have st : Wide (l.take (flr l p)) := by unfold Wide; simp; omega
  have sd : Wide ((l.take (flr l p)).drop (rd_T144 (linesL l) j).f0.toNat) := by unfold Wide at *; simp; omega
  have z1 := lsize_is bt st 2 (by omega) (by omega)
  have z2 := lsize_is bt st 3 (by omega) (by omega)
  have z3 := lsize_is bd sd 2 (by omega) (by omega)
  have z4 := lsize_is bd sd 3 (by omega) (by omega)
  unfold lines_Where.f
  refine Ev.bind (floor_in hl hs p hp) (Ev.ite_pos rfl ?_)
  simp only [all_is hs, Option.bind_some]
  refine Ev.bind (hj : Ev (fun k => lines_holds.f k (linesL l) (flr l p : Int)) (j : Int)) ?_
  refine Ev.ite_pos (by omega) (Ev.ite_pos (by omega) (Ev.ite_pos (by omega) (Ev.ite_pos (by omega) (Ev.ite_pos hx.1 (Ev.ite_pos h2 (Ev.of ?_))))))
  simp only [Int.toNat_natCast]
  rw [show (2 : Int) = ((2 : Nat) : Int) from rfl, show (3 : Int) = ((3 : Nat) : Int) from rfl, z1, z2, z3, z4]
  simp only [Option.bind_some]
  have e : ((((l.take (flr l p)).drop (rd_T144 (linesL l) j).f0.toNat).length : Nat) : Int) = (flr l p : Int) - (rd_T144 (linesL l) j).f0 := by
    rw [List.length_drop, List.length_take]
    omega
  rw [e]
theorem where_out (l : List Int) (p : Int) (h : p < 0 ∨ p > (l.length : Int)) : Ev (fun k => lines_Where.f k l p) (0, 0, 0, 0, 0, 0, 0, 2) := by
  unfold lines_Where.f
  exact Ev.bind (floor_out l p h) (Ev.ite_neg (show ¬ ((2 : Int) = 0) by decide) (Ev.pure _))
end Go.Proofs.YtbomhpfckplgaaaDoor.P
namespace Go.Proofs.YtbomhpfckplgaaaDoor.P
open Go Go.RowKit Go.Proofs.YtbomhpfckplgaaaDoorW.PrintWords Go.Proofs.YtbomhpfckplgaaaDoorW.PrintMore Utf
set_option linter.unusedVariables false
set_option linter.unusedSimpArgs false
theorem where_up (l : List Int) (p : Int) (v) : ∀ (d k : Nat), lines_Where.f k l p = some v → lines_Where.f (k + d) l p = some v
  | 0, k, h => h
  | d + 1, k, h => by
    have := where_up l p v d k h
    exact lines_Where.mono l p (k + d) v this
theorem spot_up (l : List Int) (p r : Int) (v) (k k' : Nat) (hk : k ≤ k') (h : lines_Spot.k k l p r = some v) : lines_Spot.k k' l p r = some v := by
  unfold lines_Spot.k at h ⊢
  by_cases c : 1 ≤ r ∧ r ≤ 3
  · rw [if_pos c] at h ⊢
    obtain ⟨t, h1, h2⟩ := Option.bind_eq_some_iff.1 h
    have := where_up l p t (k' - k) k h1
    rw [show k + (k' - k) = k' by omega] at this
    rw [this]
    exact h2
  · rw [if_neg c] at h ⊢
    exact h
theorem spot_of {l : List Int} {p r : Int} {v} (h : Ev (fun k => lines_Spot.k k l p r) v) : lines_Spot.f l p r = some v := by
  obtain ⟨k, hk⟩ := h.get
  have hh : ∃ v, ∃ k, lines_Spot.k k l p r = some v := ⟨v, k, hk⟩
  unfold lines_Spot.f
  rw [dif_pos hh]
  obtain ⟨k', hk'⟩ := Classical.choose_spec hh
  have e1 := spot_up l p r _ k (max k k') (by omega) hk
  have e2 := spot_up l p r _ k' (max k k') (by omega) hk'
  rw [e1] at e2
  exact e2.symm
end Go.Proofs.YtbomhpfckplgaaaDoor.P
namespace Go.Proofs.YtbomhpfckplgaaaDoor.P
open Go Go.RowKit Go.Proofs.YtbomhpfckplgaaaDoorW.PrintWords Go.Proofs.YtbomhpfckplgaaaDoorW.PrintMore Utf
set_option linter.unusedVariables false
set_option linter.unusedSimpArgs false
theorem long_ascii {l : List Int} {p : Nat} (h0 : 0 ≤ at_ l p) (h1 : at_ l p ≤ 127) : long l p = 1 := by
  unfold long long4
  rw [if_pos ⟨h0, h1⟩]
theorem ascii_edge {l : List Int} {p : Nat} (h0 : 0 ≤ at_ l p) (h1 : at_ l p ≤ 127) : inside l p = false ∧ inside l (p + 1) = false := by
  have hnt : ¬ tail (at_ l p) := fun h => by unfold tail at h; omega
  constructor
  · cases c : inside l p with
    | false => rfl
    | true =>
      obtain ⟨k, k0, k1, k2⟩ := inside_iff.1 c
      have := long_in k2 k0
      rw [show p - k + k = p by omega] at this
      exact absurd this hnt
  · cases c : inside l (p + 1) with
    | false => rfl
    | true =>
      obtain ⟨k, k0, k1, k2⟩ := inside_iff.1 c
      rcases Nat.eq_or_lt_of_le (show 1 ≤ k from k0) with rfl | h
      · rw [show p + 1 - 1 = p by omega, long_ascii h0 h1] at k2
        omega
      · have := long_in (b := l) (p := p + 1 - k) (k := k - 1) (by omega) (by omega)
        rw [show p + 1 - k + (k - 1) = p by omega] at this
        exact absurd this hnt
theorem at_rd {l : List Int} {i : Int} (h0 : 0 ≤ i) (h1 : i < (l.length : Int)) : at_ l i.toNat = rd l i := by
  obtain ⟨n, rfl⟩ := Int.eq_ofNat_of_zero_le h0
  rw [Int.toNat_natCast, rd_at (by omega)]
theorem lines_edges (l : List Int) : ∀ (n : Nat) (i s : Int), 0 ≤ s → s ≤ i → i ≤ (l.length : Int) → (l.length : Int) - i < (n : Int) → inside l s.toNat = false → clean l s i →
    (∀ x ∈ linesF l n i s, inside l x.f0.toNat = false ∧ inside l x.f1.toNat = false ∧ inside l x.f2.toNat = false) ∧ (∀ x ∈ (linesF l n i s).dropLast, x.f2 < x.f3)
  | 0, i, s, h0, h1, h2, h3, h4, h5 => by omega
  | n + 1, i, s, h0, h1, h2, h3, h4, h5 => by
    unfold linesF
    by_cases c : i < (l.length : Int)
    · rw [if_pos c]
      have ha : ∀ j : Int, 0 ≤ j → j < (l.length : Int) → (rd l j = 10 ∨ rd l j = 13) → inside l j.toNat = false ∧ inside l (j + 1).toNat = false := fun j g0 g1 g2 => by
        have e := at_rd g0 g1
        rw [show (j + 1).toNat = j.toNat + 1 by omega]
        exact ascii_edge (by rw [e]; omega) (by rw [e]; omega)
      have cons : ∀ (x : S144) (i' : Int) , (l.length : Int) - i' < (n : Int) → 0 ≤ i' → i' ≤ (l.length : Int) → inside l i'.toNat = false → inside l x.f0.toNat = false → inside l x.f1.toNat = false → inside l x.f2.toNat = false → x.f2 < x.f3 →
          (∀ y ∈ x :: linesF l n i' i', inside l y.f0.toNat = false ∧ inside l y.f1.toNat = false ∧ inside l y.f2.toNat = false) ∧ (∀ y ∈ (x :: linesF l n i' i').dropLast, y.f2 < y.f3) := fun x i' g1 g2 g3 g4 g5 g6 g7 g8 => by
        have ih := lines_edges l n i' i' g2 (Int.le_refl _) g3 g1 g4 (fun j a b => by omega)
        have hne := chain_ne (chain_F l n i' i' g2 (Int.le_refl _) g3 g1 (fun j a b => by omega))
        refine ⟨fun y hy => ?_, fun y hy => ?_⟩
        · rcases List.mem_cons.1 hy with rfl | hy
          · exact ⟨g5, g6, g7⟩
          · exact ih.1 y hy
        · rw [List.dropLast_cons_of_ne_nil hne] at hy
          rcases List.mem_cons.1 hy with rfl | hy
          · exact g8
          · exact ih.2 y hy
      by_cases c1 : rd l i = 10
      · rw [if_pos c1]
        have e := ha i (by omega) c (.inl c1)
        exact cons _ _ (by omega) (by omega) (by omega) e.2 h4 e.1 e.1 (by show i < i + 1; omega)
      · rw [if_neg c1]
        by_cases c2 : rd l i = 13
        · rw [if_pos c2]
          have e := ha i (by omega) c (.inr c2)
          by_cases c3 : i + 1 < (l.length : Int) ∧ rd l (i + 1) = 10
          · rw [if_pos c3]
            have e2 := ha (i + 1) (by omega) c3.1 (.inl c3.2)
            rw [show i + 1 + 1 = i + 2 by omega] at e2
            exact cons _ _ (by omega) (by omega) (by omega) e2.2 h4 e.1 e.2 (by show i + 1 < i + 2; omega)
          · rw [if_neg c3]
            exact cons _ _ (by omega) (by omega) (by omega) e.2 h4 e.1 e.1 (by show i < i + 1; omega)
        · rw [if_neg c2]
          refine lines_edges l n (i + 1) s h0 (by omega) (by omega) (by omega) h4 (fun j a b => ?_)
          rcases (show j < i ∨ i ≤ j by omega) with h | h
          · exact h5 j a h
          · obtain rfl : j = i := by omega
            exact ⟨c2, c1⟩
    · rw [if_neg c]
      refine ⟨fun x hx => ?_, fun x hx => by simp at hx⟩
      rcases List.mem_cons.1 hx with rfl | hx
      · refine ⟨h4, ?_, ?_⟩
        · show inside l ((l.length : Int)).toNat = false
          rw [Int.toNat_natCast]
          exact inside_len l
        · show inside l ((l.length : Int)).toNat = false
          rw [Int.toNat_natCast]
          exact inside_len l
      · cases hx
theorem rd_get (L : List S144) (k : Nat) (h : k < L.length) : rd_T144 L (k : Int) = L[k] := by
  unfold rd_T144
  rw [Int.toNat_natCast, List.getD_eq_getElem?_getD, List.getElem?_eq_getElem h]
  rfl
theorem chain_next {l : List Int} : ∀ {a : Int} {L : List S144}, Chain l a L → ∀ (k : Nat) (h : k + 1 < L.length), L[k + 1].f0 = L[k].f3
  | a, [], h, k, hk => by simp at hk
  | a, x :: r, ⟨h0, h1, h2, h3, h4, h5, h6⟩, k, hk => by
    rcases h6 with ⟨rfl, _⟩ | ⟨_, _, hc⟩
    · simp at hk
    · cases k with
      | zero =>
        cases r with
        | nil => simp at hk
        | cons y r => exact hc.1
      | succ k => exact chain_next hc k (by simpa using hk)
theorem line_next (l : List Int) (s : Nat) (h : s + 1 < (linesL l).length) : (rd_T144 (linesL l) (s + 1 : Nat)).f0 = (rd_T144 (linesL l) s).f3 ∧ (rd_T144 (linesL l) s).f2 < (rd_T144 (linesL l) s).f3 := by
  rw [rd_get _ _ h, rd_get _ s (by omega)]
  refine ⟨chain_next (chain_is l) s h, ?_⟩
  have key : ∀ x ∈ (linesL l).dropLast, x.f2 < x.f3 := (lines_edges l (l.length + 1) 0 0 (by omega) (by omega) (by omega) (by omega) (inside_zero l) (fun j a b => by omega)).2
  refine key _ ?_
  rw [List.mem_iff_getElem]
  exact ⟨s, by rw [List.length_dropLast]; omega, by rw [List.getElem_dropLast]⟩
theorem line_order (l : List Int) (s : Nat) (h : s < (linesL l).length) : 0 ≤ (rd_T144 (linesL l) s).f0 ∧ (rd_T144 (linesL l) s).f0 ≤ (rd_T144 (linesL l) s).f1 ∧ (rd_T144 (linesL l) s).f1 ≤ (rd_T144 (linesL l) s).f2 ∧ (rd_T144 (linesL l) s).f2 ≤ (rd_T144 (linesL l) s).f3 ∧ (rd_T144 (linesL l) s).f3 ≤ (l.length : Int) := by
  have hm := rd_mem (linesL l) s (by omega) (by omega)
  have h1 := chain_line (chain_is l) _ hm
  have h2 := last_line l _ hm
  omega
theorem starts_rise (l : List Int) (i j : Nat) (h : i < j) (hj : j < (linesL l).length) : (rd_T144 (linesL l) i).f0 < (rd_T144 (linesL l) j).f0 := by
  induction j with
  | zero => omega
  | succ j ih =>
    have h1 := line_next l j hj
    have h2 := line_order l j (by omega)
    rcases Nat.eq_or_lt_of_le (show i ≤ j by omega) with rfl | h3
    · omega
    · have := ih h3 (by omega)
      omega
end Go.Proofs.YtbomhpfckplgaaaDoor.P
namespace Go.Proofs.YtbomhpfckplgaaaDoor.P
open Go Go.RowKit Go.Proofs.YtbomhpfckplgaaaDoorW.PrintWords Go.Proofs.YtbomhpfckplgaaaDoorW.PrintMore Utf
set_option linter.unusedVariables false
set_option linter.unusedSimpArgs false
end Go.Proofs.YtbomhpfckplgaaaDoor.P
namespace Go.Proofs.YtbomhpfckplgaaaDoor.P
open Go Go.RowKit Go.Proofs.YtbomhpfckplgaaaDoorW.PrintWords Go.Proofs.YtbomhpfckplgaaaDoorW.PrintMore Utf
set_option linter.unusedVariables false
set_option linter.unusedSimpArgs false
theorem Bytes.take {l : List Int} (h : Bytes l) (n : Nat) : Bytes (l.take n) := fun x hx => h x (List.mem_of_mem_take hx)
theorem Bytes.drop {l : List Int} (h : Bytes l) (n : Nat) : Bytes (l.drop n) := fun x hx => h x (List.mem_of_mem_drop hx)
theorem Wide.take {l : List Int} (h : Wide l) (n : Nat) : Wide (l.take n) := by unfold Wide at *; simp; omega
theorem Wide.drop {l : List Int} (h : Wide l) (n : Nat) : Wide (l.drop n) := by unfold Wide at *; simp; omega
theorem scan_at (r : Int) : ∀ (xs ys : List S121) (a : Int), (a :: scanT r a (xs ++ ys))[xs.length]? = (a :: scanT r a xs).getLast?
  | [], ys, a => by simp [scanT]
  | x :: xs, ys, a => by
    have ih := scan_at r xs ys (wrap64 (a + cntR r x))
    simp only [List.cons_append, scanT, List.length_cons, List.getElem?_cons_succ, List.getLast?_cons_cons]
    exact ih
theorem tab_cut {l : List Int} (hl : Bytes l) (e : Nat) (he : e ≤ l.length) (hi : inside l e = false) : ∃ i, ∃ h : i < (edgesL l).length, ∀ n : Nat, 1 ≤ n → n ≤ 3 → pickE (edgesL l)[i] n = lastT (l.take e) n := by
  have hc := steps_cut l e he hi
  have hlen : (stepsL (l.take e)).length ≤ (stepsL l).length := by
    have := congrArg List.length hc
    simp only [List.length_map, List.length_append] at this
    omega
  refine ⟨(stepsL (l.take e)).length, by rw [edges_length hl]; omega, fun n n1 n3 => ?_⟩
  have hT : (tabL l n)[(stepsL (l.take e)).length]? = (tabL (l.take e) n).getLast? := by
    rw [tab_scan hl n n1 n3, tab_scan (hl.take e) n n1 n3, hc]
    have := scan_at n ((stepsL (l.take e)).map toS) ((stepsL (l.drop e)).map toS) 0
    rwa [List.length_map] at this
  unfold lastT
  rw [← hT]
  unfold tabL
  rw [List.getElem?_map, List.getElem?_eq_getElem (by rw [edges_length hl]; omega)]
  rfl
end Go.Proofs.YtbomhpfckplgaaaDoor.P
namespace Go.Proofs.YtbomhpfckplgaaaDoor.P
open Go Go.RowKit Go.Proofs.YtbomhpfckplgaaaDoorW.PrintWords Go.Proofs.YtbomhpfckplgaaaDoorW.PrintMore Utf
set_option linter.unusedVariables false
set_option linter.unusedSimpArgs false
theorem long_need {l : List Int} (hl : Bytes l) {p : Nat} (hp : p < l.length) (h : 0 < long l p) : needP (at_ l p) = long l p := by
  have hb := at_byte hl hp
  rcases long4_need (y := at_ l (p + 1)) (z := at_ l (p + 2)) (w := at_ l (p + 3)) hb.1 hb.2 with e | e
  · have : long l p = 0 := e
    omega
  · exact e.symm
theorem ev_whole_w {l : List Int} (hl : Bytes l) (p : Nat) (hp : p < l.length) : Ev (fun k => galleyref01_Whole.f k ((l.take (p + width l p)).drop p)) (decide (0 < long l p)) := by
  rcases Nat.eq_zero_or_pos (long l p) with h | h
  · have hw : width l p = 1 := by unfold width; rw [if_pos h]
    rw [hw, decide_eq_false (by omega)]
    by_cases c : needP (at_ l p) = 1
    · have := ev_whole_n hl p 1 hp c (Nat.le_refl _) (by omega)
      rwa [decide_eq_false (by omega)] at this
    · obtain ⟨s, hsd⟩ : ∃ s, (l.take (p + 1)).drop p = s := ⟨_, rfl⟩
      have hlen : s.length = 1 := by rw [← hsd]; simp; omega
      have h0 : rd s 0 = at_ l p := by
        have e := rd_nat s 0 (by omega)
        rw [show ((0 : Nat) : Int) = 0 from rfl] at e
        rw [e]
        subst hsd
        rw [List.getElem_drop, List.getElem_take, ← at_nat]
        rfl
      rw [hsd]
      unfold galleyref01_Whole.f
      have beg : ∃ b, Ev (fun k => galleyref01_Begins.f k s) b := by
        unfold galleyref01_Begins.f
        by_cases c2 : needP (at_ l p) = 0
        · refine ⟨false, Ev.ite_neg (by omega) (Ev.ite_pos (by omega) ?_)⟩
          simp only [h0, need_is, Option.bind_some]
          rw [decide_eq_true (by omega)]
          refine Ev.step (G := fun _ => some false) (fun k => ?_) (Ev.pure _)
          simp only [galleyref01_Begins.j0, if_true]
        · refine ⟨true, Ev.ite_neg (by omega) (Ev.ite_pos (by omega) ?_)⟩
          simp only [h0, need_is, Option.bind_some]
          rw [decide_eq_false (by omega)]
          refine Ev.step (G := fun k => galleyref01_Begins.j1 k s) (fun k => ?_) ?_
          · simp only [galleyref01_Begins.j0, Bool.false_eq_true, if_false]
            rw [if_neg (by omega)]
          · refine Ev.step (G := fun k => galleyref01_Begins.l0 k s 2) (fun k => by simp only [galleyref01_Begins.j1]) (Ev.step (G := fun _ => some true) (fun k => ?_) (Ev.pure _))
            conv => lhs; unfold galleyref01_Begins.l0
            rw [if_neg (by omega)]
      obtain ⟨b, hb⟩ := beg
      refine Ev.bind hb ?_
      cases b with
      | false => exact Ev.ite_neg (by simp) (Ev.pure _)
      | true =>
        refine Ev.ite_pos rfl (Ev.ite_pos (by omega) (Ev.of ?_))
        rw [h0, need_is, Option.bind_some]
        congr 1
        rw [beq_eq_false_iff_ne]
        omega
  · have hn := long_need hl hp h
    have hw : width l p = long l p := by unfold width; rw [if_neg (by omega)]
    have he := long_end h
    have := ev_whole_n hl p (long l p) hp hn (by omega) he
    rw [hw, decide_eq_true h]
    rwa [decide_eq_true rfl] at this
theorem w32 {n : Int} (h0 : -2147483648 ≤ n) (h1 : n < 2147483648) : wrap32 n = n := by unfold wrap32; omega
theorem ev_value {l : List Int} (hl : Bytes l) (p : Nat) (hp : p < l.length) (h : 0 < long l p) : Ev (fun k => galleyref01_Value.f k ((l.take (p + width l p)).drop p)) (rune l p) := by
  have hwh := ev_whole_w hl p hp
  rw [decide_eq_true h] at hwh
  have hw : width l p = long l p := by unfold width; rw [if_neg (by omega)]
  rw [hw] at hwh ⊢
  have he := long_end h
  have h4 := long_le4 l p
  unfold rune
  generalize long l p = n at *
  obtain ⟨s, hsd⟩ : ∃ s, (l.take (p + n)).drop p = s := ⟨_, rfl⟩
  have hlen : s.length = n := by rw [← hsd]; simp; omega
  have hget : ∀ j, j < n → rd s (j : Int) = at_ l (p + j) ∧ 0 ≤ at_ l (p + j) ∧ at_ l (p + j) ≤ 255 := fun j h => by
    rw [rd_nat s j (by omega)]
    subst hsd
    rw [List.getElem_drop, List.getElem_take, ← at_nat]
    exact ⟨rfl, at_byte hl (by omega)⟩
  have h0 := hget 0 (by omega)
  rw [Nat.add_zero, show ((0 : Nat) : Int) = 0 from rfl] at h0
  have stp : ∀ (i : Nat) (v r : Int), i < n → 0 ≤ v → v < 1000000000000 → Ev (fun k => galleyref01_Value.l0 k s (v * 64 + at_ l (p + i) % 64) ((i + 1 : Nat) : Int)) r → Ev (fun k => galleyref01_Value.l0 k s v (i : Int)) r := by
    intro i v r hi v0 v1 hr
    have hg := hget i hi
    refine Ev.step (fun k => ?_) hr
    conv => lhs; unfold galleyref01_Value.l0
    rw [if_pos (by omega), if_pos (by omega), hg.1, w64 (n := at_ l (p + i)) (by omega) (by omega), tmod_nat hg.2.1, w64 (n := v * 64) (by omega) (by omega), w64 (n := v * 64 + at_ l (p + i) % 64) (by omega) (by omega), w64 (n := (i : Int) + 1) (by omega) (by omega)]
    rfl
  have fin : ∀ (v : Int), 0 ≤ v → v < 2147483648 → Ev (fun k => galleyref01_Value.l0 k s v (n : Int)) v := by
    intro v v0 v1
    refine Ev.step (G := fun _ => some v) (fun k => ?_) (Ev.pure _)
    conv => lhs; unfold galleyref01_Value.l0
    rw [if_neg (by omega), w32 (by omega) v1]
  have beg : ∀ v r, Ev (fun k => galleyref01_Value.l0 k s v ((1 : Nat) : Int)) r → Ev (fun k => galleyref01_Value.j0 k s v) r := fun v r hr => Ev.step (fun k => by simp only [galleyref01_Value.j0]; rfl) hr
  rw [hsd] at hwh ⊢
  unfold galleyref01_Value.f
  refine Ev.bind hwh (Ev.ite_pos rfl (Ev.ite_pos (by omega) ?_))
  simp only [h0.1, w64 (n := at_ l p) (by omega) (by omega), tmod_nat h0.2.1, hlen]
  obtain rfl | rfl | rfl | rfl : n = 1 ∨ n = 2 ∨ n = 3 ∨ n = 4 := by omega
  · refine Ev.ite_neg (by omega) (Ev.ite_neg (by omega) (Ev.ite_neg (by omega) (beg _ _ ?_)))
    exact fin _ (by omega) (by omega)
  · have g1 := (hget 1 (by omega)).2
    refine Ev.ite_pos (by omega) (beg _ _ (stp 1 _ _ (by omega) (by omega) (by omega) ?_))
    exact fin _ (by omega) (by omega)
  · have g1 := (hget 1 (by omega)).2
    have g2 := (hget 2 (by omega)).2
    refine Ev.ite_neg (by omega) (Ev.ite_pos (by omega) (beg _ _ (stp 1 _ _ (by omega) (by omega) (by omega) (stp 2 _ _ (by omega) (by omega) (by omega) ?_))))
    exact fin _ (by omega) (by omega)
  · have g1 := (hget 1 (by omega)).2
    have g2 := (hget 2 (by omega)).2
    have g3 := (hget 3 (by omega)).2
    refine Ev.ite_neg (by omega) (Ev.ite_neg (by omega) (Ev.ite_pos (by omega) (beg _ _ (stp 1 _ _ (by omega) (by omega) (by omega) (stp 2 _ _ (by omega) (by omega) (by omega) (stp 3 _ _ (by omega) (by omega) (by omega) ?_))))))
    exact fin _ (by omega) (by omega)
theorem ev_at4 {l : List Int} (hl : Bytes l) (hs : Small l) (p : Nat) (hp : p < l.length) : Ev (fun k => galleyref04_At.f k l (p : Int)) (stepN l p) := by
  have hs' := hs
  unfold Small at hs'
  have hwe := width_end hp
  have e : wrap64 ((p : Int) + (width l p : Int)) = ((p + width l p : Nat) : Int) := by rw [w64 (by omega) (by omega)]; rfl
  unfold galleyref04_At.f
  refine Ev.bind (ev_width hl hs p hp) (Ev.ite_pos (by omega) (Ev.ite_pos (by rw [e]; omega) (Ev.ite_pos (by rw [e]; omega) ?_)))
  rw [e, Int.toNat_natCast, Int.toNat_natCast]
  refine Ev.bind (ev_whole_w hl p hp) ?_
  unfold stepN
  rcases Nat.eq_zero_or_pos (long l p) with h | h
  · rw [if_pos h, decide_eq_false (by omega)]
    exact Ev.ite_neg (by simp) (Ev.pure _)
  · rw [if_neg (by omega), decide_eq_true h]
    refine Ev.ite_pos rfl (Ev.bind (ev_value hl p hp h) ?_)
    have hw : width l p = long l p := by unfold width; rw [if_neg (by omega)]
    rw [hw]
    exact Ev.pure _
theorem ev_steps4_from {l : List Int} (hl : Bytes l) (hs : Small l) : ∀ (n p : Nat) (acc : List S121), p ≤ l.length → l.length - p ≤ n → acc.length ≤ p →
    Ev (fun k => galleyref04_Steps.l0 k l acc (p : Int)) (acc ++ (stepsF l n p).map toS)
  | 0, p, acc, hp, hn, ha => by
    obtain rfl : p = l.length := by omega
    refine Ev.step (G := fun _ => some acc) (fun k => ?_) (by simpa [stepsF] using Ev.pure acc)
    conv => lhs; unfold galleyref04_Steps.l0
    rw [if_neg (by omega)]
  | n + 1, p, acc, hp, hn, ha => by
    have hs' := hs
    unfold Small at hs'
    rw [stepsF_succ]
    by_cases c : p < l.length
    · have hwp := width_pos l p
      have hwe := width_end c
      rw [if_pos c]
      refine Ev.step (G := fun k => (galleyref04_At.f k l (p : Int)).bind fun bt838 => (if acc.length < 5864062014805 then (galleyref04_Steps.l0 k l (acc ++ [(⟨bt838.1, bt838.2.1, bt838.2.2⟩ : S121)]) (wrap64 ((p : Int) + bt838.2.1))) else (none))) (fun k => ?_) ?_
      · conv => lhs; unfold galleyref04_Steps.l0
        rw [if_pos (by omega)]
      · refine Ev.bind (ev_at4 hl hs p c) (Ev.ite_pos (by omega) ?_)
        rw [stepN_w, w64 (n := (p : Int) + (width l p : Int)) (by omega) (by omega)]
        have ih := ev_steps4_from hl hs n (p + width l p) (acc ++ [toS (p, stepN l p)]) hwe (by omega) (by simp; omega)
        rw [List.append_assoc] at ih
        have e1 : toS (p, stepN l p) = ⟨(stepN l p).1, (width l p : Int), (stepN l p).2.2⟩ := by
          show (⟨_, (stepN l p).2.1, _⟩ : S121) = _
          rw [stepN_w]
        rw [List.map_cons, e1]
        rw [e1] at ih
        exact ih
    · rw [if_neg c]
      obtain rfl : p = l.length := by omega
      refine Ev.step (G := fun _ => some acc) (fun k => ?_) (by simpa using Ev.pure acc)
      conv => lhs; unfold galleyref04_Steps.l0
      rw [if_neg (by omega)]
theorem ev_steps4 {l : List Int} (hl : Bytes l) (hs : Small l) : Ev (fun k => galleyref04_Steps.f k l) ((stepsL l).map toS) := by
  have := ev_steps4_from hl hs l.length 0 [] (Nat.zero_le _) (by omega) (by simp)
  simpa [galleyref04_Steps.f, stepsL] using this
def sumT (r : Int) (xs : List S121) : Int := (xs.map fun x => cntR r x).sum
theorem last_scan (r : Int) : ∀ (xs : List S121) (a : Int), 0 ≤ a → a + 4 * (xs.length : Int) < 4611686018427387904 → (∀ x ∈ xs, 1 ≤ cntR r x ∧ cntR r x ≤ 4) → (a :: scanT r a xs).getLast?.getD 0 = a + sumT r xs
  | [], a, _, _, _ => by simp [scanT, sumT]
  | x :: xs, a, h0, hb, h => by
    have hx := h x List.mem_cons_self
    simp only [List.length_cons, Int.natCast_add, Int.natCast_one] at hb
    have e : wrap64 (a + cntR r x) = a + cntR r x := w64 (by omega) (by omega)
    have ih := last_scan r xs (a + cntR r x) (by omega) (by omega) (fun y hy => h y (List.mem_cons_of_mem _ hy))
    simp only [scanT, e, List.getLast?_cons_cons]
    rw [ih]
    simp [sumT]
    omega
theorem last_sum {l : List Int} (hl : Bytes l) (hs : Wide l) (r : Nat) (h1 : 1 ≤ r) (h3 : r ≤ 3) : lastT l r = sumT r ((stepsL l).map toS) := by
  have hlen := stepsL_length l
  unfold Wide at hs
  unfold lastT
  rw [tab_scan hl r h1 h3, last_scan r _ 0 (by omega) (by simp; omega)]
  · omega
  · intro x hx
    obtain ⟨y, hy, rfl⟩ := List.mem_map.1 hx
    exact cnt_range hl r h1 h3 hy
theorem ev_size_loop (r : Int) (hr : r ≠ 1) (xs : List S121) (hx : ∀ x ∈ xs, 1 ≤ cntR r x ∧ cntR r x ≤ 4) (hlen : xs.length < 1099511627777) : ∀ (d i : Nat) (n : Int), xs.length - i ≤ d → i ≤ xs.length → 0 ≤ n → n ≤ 4 * (i : Int) → Ev (fun k => galleyref07_Size.l0 k r n xs (i : Int)) (n + sumT r (xs.drop i))
  | 0, i, n, hd, hi, h0, h4 => by
    obtain rfl : i = xs.length := by omega
    refine Ev.step (G := fun _ => some n) (fun k => ?_) (by simpa [sumT] using Ev.pure n)
    conv => lhs; unfold galleyref07_Size.l0
    rw [if_neg (by omega)]
  | d + 1, i, n, hd, hi, h0, h4 => by
    by_cases c : i < xs.length
    · have hc := hx _ (List.getElem_mem c)
      have ih := ev_size_loop r hr xs hx hlen d (i + 1) (n + cntR r xs[i]) (by omega) (by omega) (by omega) (by omega)
      rw [List.drop_eq_getElem_cons c, show sumT r (xs[i] :: xs.drop (i + 1)) = cntR r xs[i] + sumT r (xs.drop (i + 1)) from by unfold sumT; rw [List.map_cons, List.sum_cons], ← Int.add_assoc]
      refine Ev.step (fun k => ?_) ih
      conv => lhs; unfold galleyref07_Size.l0
      rw [if_pos (by omega), w64 (n := (i : Int) + 1) (by omega) (by omega), rd_T_nat xs i c]
      unfold cntR
      rw [if_neg hr]
      by_cases c3 : r = 3
      · rw [if_pos c3, if_pos (by omega), if_pos c3]
        by_cases c4 : xs[i].f0 > 65535
        · rw [if_pos c4, if_pos c4, w64 (n := n + 1) (by omega) (by omega), w64 (n := n + 1 + 1) (by omega) (by omega)]
          rw [show n + 1 + 1 = n + 2 by omega]
          rfl
        · rw [if_neg c4, if_neg c4, w64 (n := n + 1) (by omega) (by omega)]
          rfl
      · rw [if_neg c3, if_neg c3, w64 (n := n + 1) (by omega) (by omega)]
        rfl
    · obtain rfl : i = xs.length := by omega
      refine Ev.step (G := fun _ => some n) (fun k => ?_) (by simpa [sumT] using Ev.pure n)
      conv => lhs; unfold galleyref07_Size.l0
      rw [if_neg (by omega)]
theorem ev_size7 {l : List Int} (hl : Bytes l) (hs : Small l) (r : Nat) (h1 : 1 ≤ r) (h3 : r ≤ 3) : Ev (fun k => galleyref07_Size.f k l (r : Int)) (lastT l r) := by
  unfold galleyref07_Size.f
  by_cases c : r = 1
  · subst c
    rw [last_bytes hl hs.wide]
    exact Ev.ite_pos rfl (Ev.pure _)
  · refine Ev.ite_neg (by omega) (Ev.bind (ev_steps4 hl hs) ?_)
    have hlen := stepsL_length l
    unfold Small at hs
    have := ev_size_loop (r : Int) (by omega) ((stepsL l).map toS) (fun x hx => by
      obtain ⟨y, hy, rfl⟩ := List.mem_map.1 hx
      exact cnt_range hl r h1 h3 hy) (by simp; omega) _ 0 0 (Nat.le_refl _) (Nat.zero_le _) (by omega) (by omega)
    rw [last_sum hl (by unfold Wide; omega) r h1 h3]
    simpa using this
theorem small_take {l : List Int} (h : Small l) (n : Nat) : Small (l.take n) := by unfold Small at *; simp; omega
theorem small_drop {l : List Int} (h : Small l) (n : Nat) : Small (l.drop n) := by unfold Small at *; simp; omega
end Go.Proofs.YtbomhpfckplgaaaDoor.P
namespace Go.Proofs.YtbomhpfckplgaaaDoor.P
open Go Go.RowKit Go.Proofs.YtbomhpfckplgaaaDoorW.PrintWords
set_option linter.unusedVariables false
set_option linter.unusedSimpArgs false
def toRow (x : S144) : S88 := ⟨x.f0, x.f1, x.f3⟩
theorem rows_step {l : List Int} (hs : Small l) : ∀ (n : Nat) (i s : Int) (xs : List S88), 0 ≤ i → i ≤ l.length → (l.length : Int) - i < (n : Int) → (xs.length : Int) ≤ i →
    Ev (fun k => galleyref07_Rows.l0 k l xs s i) (xs ++ (linesF l n i s).map toRow)
  | 0, i, s, xs, h0, h1, h2, h3 => by omega
  | n + 1, i, s, xs, h0, h1, h2, h3 => by
    have hs' := hs
    unfold Small at hs'
    have w1 : wrap64 (i + 1) = i + 1 := w64 (by omega) (by omega)
    have w2 : wrap64 (i + 1 + 1) = i + 1 + 1 := w64 (by omega) (by omega)
    have m1 : wrap64 (i + 1 - 1) = i := by rw [Int.add_sub_cancel]; exact w64 (by omega) (by omega)
    have m2 : wrap64 (i + 1 + 1 - 1) = i + 1 := by rw [Int.add_sub_cancel]; exact w1
    by_cases c : i < (l.length : Int)
    · have head : ∀ v b, (if rd l i = 13 then false else (rd l i != 10)) = b → Ev (fun k => galleyref07_Rows.j1 k l xs s i b) v → Ev (fun k => galleyref07_Rows.l0 k l xs s i) v := by
        intro v b hb hv
        refine Ev.step (fun k => ?_) hv
        conv => lhs; unfold galleyref07_Rows.l0
        rw [if_pos c, if_pos h0]
        by_cases c2 : rd l i = 13
        · rw [if_pos c2] at hb ⊢
          rw [hb]
        · rw [if_neg c2] at hb ⊢
          rw [hb]
      unfold linesF
      rw [if_pos c]
      by_cases c1 : rd l i = 10
      · rw [if_pos c1]
        refine head _ false (by rw [if_neg (by omega), c1]; rfl) ?_
        refine Ev.step (G := fun k => galleyref07_Rows.l0 k l (xs ++ [⟨s, i, i + 1⟩]) (i + 1) (i + 1)) (fun k => ?_) ?_
        · conv => lhs; unfold galleyref07_Rows.j1
          rw [if_neg (by simp), if_pos h0, if_pos c, if_neg (by omega), if_pos (by omega), w1, m1, w1]
        · have := rows_step hs n (i + 1) (i + 1) (xs ++ [⟨s, i, i + 1⟩]) (by omega) (by omega) (by omega) (by simp; omega)
          simpa [toRow] using this
      · rw [if_neg c1]
        by_cases c2 : rd l i = 13
        · rw [if_pos c2]
          refine head _ false (by rw [if_pos c2]) ?_
          by_cases c3 : i + 1 < (l.length : Int)
          · by_cases c4 : rd l (i + 1) = 10
            · rw [if_pos ⟨c3, c4⟩]
              refine Ev.step (G := fun k => galleyref07_Rows.l0 k l (xs ++ [⟨s, i, i + 2⟩]) (i + 2) (i + 2)) (fun k => ?_) ?_
              · conv => lhs; unfold galleyref07_Rows.j1
                rw [if_neg (by simp), if_pos h0, if_pos c, if_pos c2, w1, if_pos c3, if_pos (by omega), if_pos c4, if_pos (by omega), w2, m2, w2]
                rw [show i + 1 + 1 = i + 2 by omega]
              · have := rows_step hs n (i + 2) (i + 2) (xs ++ [⟨s, i, i + 2⟩]) (by omega) (by omega) (by omega) (by simp; omega)
                simpa [toRow] using this
            · rw [if_neg (fun h => c4 h.2)]
              refine Ev.step (G := fun k => galleyref07_Rows.l0 k l (xs ++ [⟨s, i, i + 1⟩]) (i + 1) (i + 1)) (fun k => ?_) ?_
              · conv => lhs; unfold galleyref07_Rows.j1
                rw [if_neg (by simp), if_pos h0, if_pos c, if_pos c2, w1, if_pos c3, if_pos (by omega), if_neg c4, if_pos (by omega), m1, w1]
              · have := rows_step hs n (i + 1) (i + 1) (xs ++ [⟨s, i, i + 1⟩]) (by omega) (by omega) (by omega) (by simp; omega)
                simpa [toRow] using this
          · rw [if_neg (fun h => c3 h.1)]
            refine Ev.step (G := fun k => galleyref07_Rows.l0 k l (xs ++ [⟨s, i, i + 1⟩]) (i + 1) (i + 1)) (fun k => ?_) ?_
            · conv => lhs; unfold galleyref07_Rows.j1
              rw [if_neg (by simp), if_pos h0, if_pos c, if_pos c2, w1, if_neg c3, if_pos (by omega), m1, w1]
            · have := rows_step hs n (i + 1) (i + 1) (xs ++ [⟨s, i, i + 1⟩]) (by omega) (by omega) (by omega) (by simp; omega)
              simpa [toRow] using this
        · rw [if_neg c2]
          refine head _ true (by rw [if_neg c2]; simpa using c1) ?_
          refine Ev.step (G := fun k => galleyref07_Rows.l0 k l xs s (i + 1)) (fun k => ?_) ?_
          · conv => lhs; unfold galleyref07_Rows.j1
            rw [if_pos rfl, w1]
          · exact rows_step hs n (i + 1) s xs (by omega) (by omega) (by omega) (by omega)
    · refine Ev.step (G := fun _ => some (xs ++ (linesF l (n + 1) i s).map toRow)) (fun k => ?_) (Ev.pure _)
      conv => lhs; unfold galleyref07_Rows.l0
      unfold linesF
      rw [if_neg c, if_neg c, if_pos (by omega)]
      rfl
theorem ev_rows {l : List Int} (hs : Small l) : Ev (fun k => galleyref07_Rows.f k l) ((linesL l).map toRow) := by
  have := rows_step hs (l.length + 1) 0 0 [] (by omega) (by omega) (by omega) (by simp)
  simpa [galleyref07_Rows.f, linesL] using this
theorem rd88_row (L : List S144) (i : Int) (h0 : 0 ≤ i) (h1 : i < L.length) : rd_T88 (L.map toRow) i = toRow (rd_T144 L i) := by
  obtain ⟨n, rfl⟩ := Int.eq_ofNat_of_zero_le h0
  have c : n < L.length := by omega
  unfold rd_T88 rd_T144
  simp only [Int.toNat_natCast, List.getD_eq_getElem?_getD]
  rw [List.getElem?_map, List.getElem?_eq_getElem c]
  rfl
end Go.Proofs.YtbomhpfckplgaaaDoor.P
