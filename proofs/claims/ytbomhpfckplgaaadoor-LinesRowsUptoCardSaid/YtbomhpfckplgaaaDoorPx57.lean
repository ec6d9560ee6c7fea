-- Written by a program (the kit's print, turned so that hand-proved contracts are taken as given).
import Derived.Test.YtbomhpfckplgaaaDoorPx0
import Derived.Test.YtbomhpfckplgaaaDoorPx18
import Derived.Test.YtbomhpfckplgaaaDoorPx19
import Derived.Test.YtbomhpfckplgaaaDoorPxA
import Derived.Test.YtbomhpfckplgaaaDoorPx54
import Derived.Test.YtbomhpfckplgaaaDoorPx56
import Derived.Test.YtbomhpfckplgaaaDoorHAwake
namespace Go.Proofs.YtbomhpfckplgaaaDoor.P
open Go.RowKit Go.Proofs.YtbomhpfckplgaaaDoorW.PrintWords Go.Proofs.YtbomhpfckplgaaaDoorW.PrintLast Go.Proofs.YtbomhpfckplgaaaDoorW.PrintMore
attribute [local go_sem] max2_int min2_int max_two min_two max_three min_three max_four min_four   -- for this text's walks alone
set_option linter.unusedVariables false
set_option linter.unusedSimpArgs false

/-! ### galleylaw07_LinesRows: function 15 -/
mutual
def galleylaw07_LinesRows.j0 : Nat → List Int → Int → List (S88) → List Int → Bool → Option (Bool)
  | 0, _, _, _, _, _ => none
  | k + 1, x0, x1, x5, x6, x35 => if x35 = true then (some false) else (galleylaw07_LinesRows.l0 k x0 x1 x5 x6 0)
def galleylaw07_LinesRows.l0 : Nat → List Int → Int → List (S88) → List Int → Int → Option (Bool)
  | 0, _, _, _, _, _ => none
  | k + 1, x0, x1, x5, x6, x7 => if x7 < (x5.length : Int) then (galleylaw07_LinesRows.j2 k x0 x1 x5 x6 x7 (decide (x7 < 300))) else (galleylaw07_LinesRows.j2 k x0 x1 x5 x6 x7 false)
def galleylaw07_LinesRows.j2 : Nat → List Int → Int → List (S88) → List Int → Int → Bool → Option (Bool)
  | 0, _, _, _, _, _, _ => none
  | k + 1, x0, x1, x5, x6, x7, x43 => if x43 = true then ((galleylaw07_own.f x0).bind fun t941 => ((lines_Line.f t941 x7).bind fun bt944 => (if bt944.2.2.2 = 0 then (if 0 ≤ x7 then (if x7 < (x5.length : Int) then (if bt944.1 = ((rd_T88 x5 x7).f0) then (if bt944.2.1 = ((rd_T88 x5 x7).f1) then (if bt944.2.2.1 = ((rd_T88 x5 x7).f2) then (if x7 < (x6.length : Int) then (if (rd x6 x7) = bt944.1 then (galleylaw07_LinesRows.l0 k x0 x1 x5 x6 (wrap64 (x7 + 1))) else (some false)) else (none)) else (some false)) else (some false)) else (some false)) else (none)) else (none)) else (some false)))) else (if x1 ≥ 0 then (galleylaw07_LinesRows.j3 k x0 x1 (decide (x1 < (x5.length : Int)))) else (galleylaw07_LinesRows.j3 k x0 x1 false))
def galleylaw07_LinesRows.j3 : Nat → List Int → Int → Bool → Option (Bool)
  | 0, _, _, _ => none
  | k + 1, x0, x1, x99 => if x99 = true then (some true) else ((galleylaw07_own.f x0).bind fun t952 => ((lines_Line.f t952 x1).bind fun bt955 => (if bt955.2.2.2 = 2 then (if bt955.1 = 0 then (if bt955.2.1 = 0 then (some (bt955.2.2.1 == 0)) else (some false)) else (some false)) else (some false))))
end
def galleylaw07_LinesRows.f (k : Nat) (l0 : List Int) (a1 : Int) : Option (Bool) := (galleylaw07_awake.f k).bind fun t927 => (if t927 = true then ((galleyref07_Rows.f k l0).bind fun t928 => ((galleylaw07_own.f l0).bind fun t931 => ((lines_Starts.f k t931).bind fun t934 => ((galleylaw07_own.f l0).bind fun t937 => ((lines_Count.f t937).bind fun t940 => (if t940 = (t928.length : Int) then (galleylaw07_LinesRows.j0 k l0 a1 t928 t934 ((t934.length : Int) != (t928.length : Int))) else (galleylaw07_LinesRows.j0 k l0 a1 t928 t934 true))))))) else (some false))
theorem galleylaw07_LinesRows.mono_l : ∀ k, (∀ y0 y1 y2 y3 y4, LeO (galleylaw07_LinesRows.j0 k y0 y1 y2 y3 y4) (galleylaw07_LinesRows.j0 (k + 1) y0 y1 y2 y3 y4)) ∧ (∀ y0 y1 y2 y3 y4, LeO (galleylaw07_LinesRows.l0 k y0 y1 y2 y3 y4) (galleylaw07_LinesRows.l0 (k + 1) y0 y1 y2 y3 y4)) ∧ (∀ y0 y1 y2 y3 y4 y5, LeO (galleylaw07_LinesRows.j2 k y0 y1 y2 y3 y4 y5) (galleylaw07_LinesRows.j2 (k + 1) y0 y1 y2 y3 y4 y5)) ∧ (∀ y0 y1 y2, LeO (galleylaw07_LinesRows.j3 k y0 y1 y2) (galleylaw07_LinesRows.j3 (k + 1) y0 y1 y2))
  | 0 => ⟨fun _ _ _ _ _ r h => by simp [galleylaw07_LinesRows.j0] at h, fun _ _ _ _ _ r h => by simp [galleylaw07_LinesRows.l0] at h, fun _ _ _ _ _ _ r h => by simp [galleylaw07_LinesRows.j2] at h, fun _ _ _ r h => by simp [galleylaw07_LinesRows.j3] at h⟩
  | k + 1 => by
    obtain ⟨ih0, ih1, ih2, ih3⟩ := galleylaw07_LinesRows.mono_l k
    refine ⟨?_, ?_, ?_, ?_⟩
    · intro y0 y1 y2 y3 y4
      unfold galleylaw07_LinesRows.j0
      repeat' first
      | (with_reducible exact ih0 _ _ _ _ _)
      | (with_reducible exact ih1 _ _ _ _ _)
      | (with_reducible exact ih2 _ _ _ _ _ _)
      | (with_reducible exact ih3 _ _ _)
      | (with_reducible exact galleylaw07_awake.mono _)
      | (with_reducible exact galleyref07_Rows.mono _ _)
      | (with_reducible exact lines_Starts.mono _ _)
      | (with_reducible exact LeO.refl _)
      | (with_reducible exact LeO.none _)
      | (with_reducible refine LeO.ite ?_ ?_)
      | (with_reducible refine LeO.bind ?_ (fun _ => ?_))
      | exact ih0 _ _ _ _ _
      | exact ih1 _ _ _ _ _
      | exact ih2 _ _ _ _ _ _
      | exact ih3 _ _ _
      | exact galleylaw07_awake.mono _
      | exact galleyref07_Rows.mono _ _
      | exact lines_Starts.mono _ _
      | exact LeO.none _
      | refine LeO.ite ?_ ?_
      | refine LeO.bind ?_ (fun _ => ?_)
    · intro y0 y1 y2 y3 y4
      unfold galleylaw07_LinesRows.l0
      repeat' first
      | (with_reducible exact ih0 _ _ _ _ _)
      | (with_reducible exact ih1 _ _ _ _ _)
      | (with_reducible exact ih2 _ _ _ _ _ _)
      | (with_reducible exact ih3 _ _ _)
      | (with_reducible exact galleylaw07_awake.mono _)
      | (with_reducible exact galleyref07_Rows.mono _ _)
      | (with_reducible exact lines_Starts.mono _ _)
      | (with_reducible exact LeO.refl _)
      | (with_reducible exact LeO.none _)
      | (with_reducible refine LeO.ite ?_ ?_)
      | (with_reducible refine LeO.bind ?_ (fun _ => ?_))
      | exact ih0 _ _ _ _ _
      | exact ih1 _ _ _ _ _
      | exact ih2 _ _ _ _ _ _
      | exact ih3 _ _ _
      | exact galleylaw07_awake.mono _
      | exact galleyref07_Rows.mono _ _
      | exact lines_Starts.mono _ _
      | exact LeO.none _
      | refine LeO.ite ?_ ?_
      | refine LeO.bind ?_ (fun _ => ?_)
    · intro y0 y1 y2 y3 y4 y5
      unfold galleylaw07_LinesRows.j2
      repeat' first
      | (with_reducible exact ih0 _ _ _ _ _)
      | (with_reducible exact ih1 _ _ _ _ _)
      | (with_reducible exact ih2 _ _ _ _ _ _)
      | (with_reducible exact ih3 _ _ _)
      | (with_reducible exact galleylaw07_awake.mono _)
      | (with_reducible exact galleyref07_Rows.mono _ _)
      | (with_reducible exact lines_Starts.mono _ _)
      | (with_reducible exact LeO.refl _)
      | (with_reducible exact LeO.none _)
      | (with_reducible refine LeO.ite ?_ ?_)
      | (with_reducible refine LeO.bind ?_ (fun _ => ?_))
      | exact ih0 _ _ _ _ _
      | exact ih1 _ _ _ _ _
      | exact ih2 _ _ _ _ _ _
      | exact ih3 _ _ _
      | exact galleylaw07_awake.mono _
      | exact galleyref07_Rows.mono _ _
      | exact lines_Starts.mono _ _
      | exact LeO.none _
      | refine LeO.ite ?_ ?_
      | refine LeO.bind ?_ (fun _ => ?_)
    · intro y0 y1 y2
      unfold galleylaw07_LinesRows.j3
      repeat' first
      | (with_reducible exact ih0 _ _ _ _ _)
      | (with_reducible exact ih1 _ _ _ _ _)
      | (with_reducible exact ih2 _ _ _ _ _ _)
      | (with_reducible exact ih3 _ _ _)
      | (with_reducible exact galleylaw07_awake.mono _)
      | (with_reducible exact galleyref07_Rows.mono _ _)
      | (with_reducible exact lines_Starts.mono _ _)
      | (with_reducible exact LeO.refl _)
      | (with_reducible exact LeO.none _)
      | (with_reducible refine LeO.ite ?_ ?_)
      | (with_reducible refine LeO.bind ?_ (fun _ => ?_))
      | exact ih0 _ _ _ _ _
      | exact ih1 _ _ _ _ _
      | exact ih2 _ _ _ _ _ _
      | exact ih3 _ _ _
      | exact galleylaw07_awake.mono _
      | exact galleyref07_Rows.mono _ _
      | exact lines_Starts.mono _ _
      | exact LeO.none _
      | refine LeO.ite ?_ ?_
      | refine LeO.bind ?_ (fun _ => ?_)
theorem galleylaw07_LinesRows.mono : ∀ a0 a1 k, LeO (galleylaw07_LinesRows.f k a0 a1) (galleylaw07_LinesRows.f (k + 1) a0 a1) := by
  intro a0 a1 k
  obtain ⟨ih0, ih1, ih2, ih3⟩ := galleylaw07_LinesRows.mono_l k
  unfold galleylaw07_LinesRows.f
  repeat' first
      | (with_reducible exact ih0 _ _ _ _ _)
      | (with_reducible exact ih1 _ _ _ _ _)
      | (with_reducible exact ih2 _ _ _ _ _ _)
      | (with_reducible exact ih3 _ _ _)
      | (with_reducible exact galleylaw07_awake.mono _)
      | (with_reducible exact galleyref07_Rows.mono _ _)
      | (with_reducible exact lines_Starts.mono _ _)
      | (with_reducible exact LeO.refl _)
      | (with_reducible exact LeO.none _)
      | (with_reducible refine LeO.ite ?_ ?_)
      | (with_reducible refine LeO.bind ?_ (fun _ => ?_))
      | exact ih0 _ _ _ _ _
      | exact ih1 _ _ _ _ _
      | exact ih2 _ _ _ _ _ _
      | exact ih3 _ _ _
      | exact galleylaw07_awake.mono _
      | exact galleyref07_Rows.mono _ _
      | exact lines_Starts.mono _ _
      | exact LeO.none _
      | refine LeO.ite ?_ ?_
      | refine LeO.bind ?_ (fun _ => ?_)
set_option maxHeartbeats 8000000 in
set_option maxRecDepth 100000 in
theorem galleylaw07_LinesRows.calls (k : Nat) (A0 : Option Addr) (c0 : Nat) (l0 : List Int) (a1 : Int) (r : Bool) (w : World) (hr0 : Kd.C (Kd.int .u8) w A0 l0.length l0) (hc0 : l0.length ≤ c0) (hG : Laid w) (h : galleylaw07_LinesRows.f k l0 a1 = some r) :
    Calls Tryd.prog 15 #[.slice A0 l0.length c0, .int .i64 a1] w fun e w' => e = .returned (.bool r) ∧ Below w.heap.size w w' := by
  have HG := Aside0.mk hG
  clear hG
  have HR0 := Aside0.mk hr0
  have HC0 := Aside0.mk hc0
  clear hr0 hc0
  have HB := Aside0.mk (Below.refl w.heap.size w)
  have H : ((galleylaw07_awake.f k).bind fun t927 => (if t927 = true then ((galleyref07_Rows.f k l0).bind fun t928 => ((galleylaw07_own.f l0).bind fun t931 => ((lines_Starts.f k t931).bind fun t934 => ((galleylaw07_own.f l0).bind fun t937 => ((lines_Count.f t937).bind fun t940 => (if t940 = (t928.length : Int) then (galleylaw07_LinesRows.j0 k l0 a1 t928 t934 ((t934.length : Int) != (t928.length : Int))) else (galleylaw07_LinesRows.j0 k l0 a1 t928 t934 true))))))) else (some false))) = some r := h
  clear h
  replace H := Option.bind_eq_some_iff.mp H
  obtain ⟨t927, A30, H⟩ := H
  replace H : (if t927 = true then ((galleyref07_Rows.f k l0).bind fun t928 => ((galleylaw07_own.f l0).bind fun t931 => ((lines_Starts.f k t931).bind fun t934 => ((galleylaw07_own.f l0).bind fun t937 => ((lines_Count.f t937).bind fun t940 => (if t940 = (t928.length : Int) then (galleylaw07_LinesRows.j0 k l0 a1 t928 t934 ((t934.length : Int) != (t928.length : Int))) else (galleylaw07_LinesRows.j0 k l0 a1 t928 t934 true))))))) else (some false)) = some r := H
  have A3 := Aside0.mk A30
  clear A30
  by_cases c4 : t927 = true
  · subst c4
    have H1 : ((galleyref07_Rows.f k l0).bind fun t928 => ((galleylaw07_own.f l0).bind fun t931 => ((lines_Starts.f k t931).bind fun t934 => ((galleylaw07_own.f l0).bind fun t937 => ((lines_Count.f t937).bind fun t940 => (if t940 = (t928.length : Int) then (galleylaw07_LinesRows.j0 k l0 a1 t928 t934 ((t934.length : Int) != (t928.length : Int))) else (galleylaw07_LinesRows.j0 k l0 a1 t928 t934 true))))))) = some r := by rw [if_pos rfl] at H; exact H
    clear H
    have H := H1
    clear H1
    replace H := Option.bind_eq_some_iff.mp H
    obtain ⟨t928, A50, H⟩ := H
    replace H : ((galleylaw07_own.f l0).bind fun t931 => ((lines_Starts.f k t931).bind fun t934 => ((galleylaw07_own.f l0).bind fun t937 => ((lines_Count.f t937).bind fun t940 => (if t940 = (t928.length : Int) then (galleylaw07_LinesRows.j0 k l0 a1 t928 t934 ((t934.length : Int) != (t928.length : Int))) else (galleylaw07_LinesRows.j0 k l0 a1 t928 t934 true)))))) = some r := H
    have A5 := Aside0.mk A50
    clear A50
    replace H := Option.bind_eq_some_iff.mp H
    obtain ⟨t931, A60, H⟩ := H
    replace H : ((lines_Starts.f k t931).bind fun t934 => ((galleylaw07_own.f l0).bind fun t937 => ((lines_Count.f t937).bind fun t940 => (if t940 = (t928.length : Int) then (galleylaw07_LinesRows.j0 k l0 a1 t928 t934 ((t934.length : Int) != (t928.length : Int))) else (galleylaw07_LinesRows.j0 k l0 a1 t928 t934 true))))) = some r := H
    have A6 := Aside0.mk A60
    clear A60
    replace H := Option.bind_eq_some_iff.mp H
    obtain ⟨t934, A70, H⟩ := H
    replace H : ((galleylaw07_own.f l0).bind fun t937 => ((lines_Count.f t937).bind fun t940 => (if t940 = (t928.length : Int) then (galleylaw07_LinesRows.j0 k l0 a1 t928 t934 ((t934.length : Int) != (t928.length : Int))) else (galleylaw07_LinesRows.j0 k l0 a1 t928 t934 true)))) = some r := H
    have A7 := Aside0.mk A70
    clear A70
    have HC8 := Aside0.mk H
    clear H
    go_enter Tryd.func15, Tryd.ntmps15
    go_upto_region 5 with (first | ((with_reducible refine gate_callee (f := 56) rfl ?_); refine goesL_ (some 16) rfl rfl Tryd.func56 (by kernel_rfl) rfl #[] rfl (by (try simp only [List.map_toArray, List.map_cons, List.map_nil]); first | done | rfl | (simp only [List.length_drop, List.length_take]; rfl)) ?_; (with_reducible refine (galleylaw07_awake.calls k  true _ ?side1 A3.out).mono ?_); (case side1 => repeat (first | exact HG.out | exact Laid.below HG.out HB.out | (with_reducible refine Laid.alloc ?_ _) | (with_reducible refine Laid.drewN ?_ _) | (with_reducible refine Laid.drew ?_))); rintro e w9 ⟨rfl, hb⟩; refine ⟨_, rfl, ?_⟩; have n0_ := Aside0.mk (below_step (by repeat (first | (with_reducible first | exact HB.out | apply below_alloc | apply pw_below_drewN | apply below_drew1) | exact HB.out)) hb); clear HB; have HB := n0_; clear n0_; (try clear hb); (try clear hb2); (try clear hk); (try clear hi)) | ((with_reducible refine gate_callee (f := 63) rfl ?_); refine goesL_ (some 19) rfl rfl Tryd.func63 (by kernel_rfl) rfl #[.slice A0 l0.length c0] rfl (by (try simp only [List.map_toArray, List.map_cons, List.map_nil]); first | done | rfl | (simp only [List.length_drop, List.length_take]; rfl)) ?_; (with_reducible refine (galleyref07_Rows.calls k _ _ l0 t928 _ ?side1 ?side2 A5.out).mono ?_); (case side1 => repeat (first | exact (Kd.C_below HR0.out HB.out) | (with_reducible refine Kd.C_alloc ?_ _) | (with_reducible refine Kd.C_drewN ?_ _) | (with_reducible refine Kd.C_drew ?_))); (case side2 => exact HC0.out); rintro e w10 ⟨v929, rfl, ho0, hb⟩; refine ⟨_, rfl, ?_⟩; have n0_ := Aside0.mk (Kd.R_lower ho0 (below_size (by repeat (first | (with_reducible first | exact HB.out | apply below_alloc | apply pw_below_drewN | apply below_drew1) | exact HB.out)))); have n1_ := Aside0.mk (below_step (by repeat (first | (with_reducible first | exact HB.out | apply below_alloc | apply pw_below_drewN | apply below_drew1) | exact HB.out)) hb); clear HB; have HO930 := n0_; have HB := n1_; clear n0_ n1_; (try clear hb); (try clear hb2); (try clear hk); (try clear hi); (try clear ho0)) | ((with_reducible refine gate_callee (f := 59) rfl ?_); refine goesL_ (some 21) rfl rfl Tryd.func59 (by kernel_rfl) rfl #[.slice A0 l0.length c0] rfl (by (try simp only [List.map_toArray, List.map_cons, List.map_nil]); first | done | rfl | (simp only [List.length_drop, List.length_take]; rfl)) ?_; (with_reducible refine (galleylaw07_own.calls _ _ l0 t931 _ ?side1 ?side2 A6.out).mono ?_); (case side1 => repeat (first | exact (Kd.C_below HR0.out HB.out) | (with_reducible refine Kd.C_alloc ?_ _) | (with_reducible refine Kd.C_drewN ?_ _) | (with_reducible refine Kd.C_drew ?_))); (case side2 => exact HC0.out); rintro e w11 ⟨v932, rfl, ho0, hb⟩; refine ⟨_, rfl, ?_⟩; have n0_ := Aside0.mk (Kd.R_below (by (with_reducible repeat (first | apply Kd.R_alloc | apply Kd.R_drewN | apply Kd.R_drew)); exact HO930.out) hb); have n1_ := Aside0.mk (Kd.R_lower ho0 (below_size (by repeat (first | (with_reducible first | exact HB.out | apply below_alloc | apply pw_below_drewN | apply below_drew1) | exact HB.out)))); have n2_ := Aside0.mk (below_step (by repeat (first | (with_reducible first | exact HB.out | apply below_alloc | apply pw_below_drewN | apply below_drew1) | exact HB.out)) hb); clear HO930; clear HB; have HO930 := n0_; have HO933 := n1_; have HB := n2_; clear n0_ n1_ n2_; (try clear hb); (try clear hb2); (try clear hk); (try clear hi); (try clear ho0); obtain ⟨Ao12, co12, eo12⟩ := Kd.R_slice HO933.out; subst eo12) | ((with_reducible refine gate_callee (f := 61) rfl ?_); refine goesL_ (some 22) rfl rfl Tryd.func61 (by kernel_rfl) rfl #[.slice Ao12 t931.length co12] rfl (by (try simp only [List.map_toArray, List.map_cons, List.map_nil]); first | done | rfl | (simp only [List.length_drop, List.length_take]; rfl)) ?_; (with_reducible refine (lines_Starts.calls k _ _ t931 t934 _ ?side1 ?side2 A7.out).mono ?_); (case side1 => repeat (first | exact (Kd.R_reads' HO933.out).2.2 | (with_reducible refine Kd.C_alloc ?_ _) | (with_reducible refine Kd.C_drewN ?_ _) | (with_reducible refine Kd.C_drew ?_))); (case side2 => exact (Kd.R_reads' HO933.out).2.1); rintro e w13 ⟨v935, rfl, ho0, hb⟩; refine ⟨_, rfl, ?_⟩; have n0_ := Aside0.mk (Kd.R_below (by (with_reducible repeat (first | apply Kd.R_alloc | apply Kd.R_drewN | apply Kd.R_drew)); exact HO930.out) hb); have n1_ := Aside0.mk (Kd.R_below (by (with_reducible repeat (first | apply Kd.R_alloc | apply Kd.R_drewN | apply Kd.R_drew)); exact HO933.out) hb); have n2_ := Aside0.mk (Kd.R_lower ho0 (below_size (by repeat (first | (with_reducible first | exact HB.out | apply below_alloc | apply pw_below_drewN | apply below_drew1) | exact HB.out)))); have n3_ := Aside0.mk (below_step (by repeat (first | (with_reducible first | exact HB.out | apply below_alloc | apply pw_below_drewN | apply below_drew1) | exact HB.out)) hb); clear HO930; clear HO933; clear HB; have HO930 := n0_; have HO933 := n1_; have HO936 := n2_; have HB := n3_; clear n0_ n1_ n2_ n3_; (try clear hb); (try clear hb2); (try clear hk); (try clear hi); (try clear ho0)))
    (try simp only [Act.put, List.setIfInBounds_toArray, List.set_cons_zero, List.set_cons_succ])
    go_cut [35] (fun v35 wc => ∃ (kq : Nat) (x35_7 : Bool), v35 = .bool x35_7 ∧ Aside0 (galleylaw07_LinesRows.j0 kq l0 a1 t928 t934 x35_7 = some r) ∧ Aside0 (kq ≤ k) ∧ Aside0 (Kd.R k88 88 wc w.heap.size (fun _ => True) v929 t928) ∧ Aside0 (Kd.R (Kd.int .i64) 3 wc w.heap.size (fun _ => True) v935 t934) ∧ Aside0 (Below w.heap.size w wc))
    case first =>
      have H := HC8.out
      clear HC8
      replace H := Option.bind_eq_some_iff.mp H
      obtain ⟨t937, A140, H⟩ := H
      replace H : ((lines_Count.f t937).bind fun t940 => (if t940 = (t928.length : Int) then (galleylaw07_LinesRows.j0 k l0 a1 t928 t934 ((t934.length : Int) != (t928.length : Int))) else (galleylaw07_LinesRows.j0 k l0 a1 t928 t934 true))) = some r := H
      have A14 := Aside0.mk A140
      clear A140
      replace H := Option.bind_eq_some_iff.mp H
      obtain ⟨t940, A150, H⟩ := H
      replace H : (if t940 = (t928.length : Int) then (galleylaw07_LinesRows.j0 k l0 a1 t928 t934 ((t934.length : Int) != (t928.length : Int))) else (galleylaw07_LinesRows.j0 k l0 a1 t928 t934 true)) = some r := H
      have A15 := Aside0.mk A150
      clear A150
      by_cases c16 : t940 = (t928.length : Int)
      · rw [if_pos c16] at H
        have c16b0 : (t940 == (t928.length : Int)) = true := beq_iff_eq.mpr c16
        have c16b1 : (t940 != (t928.length : Int)) = false := bne_eq_false_iff_eq.mpr c16
        clear c16
        (first | rw [c16b0] | (simp only [i64_w, i32_w]; rw [c16b0]) | skip)
        have H' := Aside0.mk H
        clear H
        go_wp2_with (first | ((with_reducible refine gate_callee (f := 59) rfl ?_); refine goesL_ (some 24) rfl rfl Tryd.func59 (by kernel_rfl) rfl #[.slice A0 l0.length c0] rfl (by (try simp only [List.map_toArray, List.map_cons, List.map_nil]); first | done | rfl | (simp only [List.length_drop, List.length_take]; rfl)) ?_; (with_reducible refine (galleylaw07_own.calls _ _ l0 t937 _ ?side1 ?side2 A14.out).mono ?_); (case side1 => repeat (first | exact (Kd.C_below HR0.out HB.out) | (with_reducible refine Kd.C_alloc ?_ _) | (with_reducible refine Kd.C_drewN ?_ _) | (with_reducible refine Kd.C_drew ?_))); (case side2 => exact HC0.out); rintro e w17 ⟨v938, rfl, ho0, hb⟩; refine ⟨_, rfl, ?_⟩; have n0_ := Aside0.mk (Kd.R_below (by (with_reducible repeat (first | apply Kd.R_alloc | apply Kd.R_drewN | apply Kd.R_drew)); exact HO930.out) hb); have n1_ := Aside0.mk (Kd.R_elder' (by (with_reducible repeat (first | apply Kd.R_alloc | apply Kd.R_drewN | apply Kd.R_drew)); exact HO933.out) (Kd.R_base ho0) hb); have n2_ := Aside0.mk (Kd.R_below (by (with_reducible repeat (first | apply Kd.R_alloc | apply Kd.R_drewN | apply Kd.R_drew)); exact HO936.out) hb); have n3_ := Aside0.mk (Kd.R_lower (Kd.R_new' ho0 (Kd.R_lt (by (with_reducible repeat (first | apply Kd.R_alloc | apply Kd.R_drewN | apply Kd.R_drew)); exact HO933.out))) (below_size (by repeat (first | (with_reducible first | exact HB.out | apply below_alloc | apply pw_below_drewN | apply below_drew1) | exact HB.out)))); have n4_ := Aside0.mk (below_step (by repeat (first | (with_reducible first | exact HB.out | apply below_alloc | apply pw_below_drewN | apply below_drew1) | exact HB.out)) hb); clear HO930; clear HO933; clear HO936; clear HB; have HO930 := n0_; have HO933 := n1_; have HO936 := n2_; have HO939 := n3_; have HB := n4_; clear n0_ n1_ n2_ n3_ n4_; (try clear hb); (try clear hb2); (try clear hk); (try clear hi); (try clear ho0); obtain ⟨Ao18, co18, eo18⟩ := Kd.R_slice HO939.out; subst eo18) | ((with_reducible refine gate_callee (f := 64) rfl ?_); refine goesL_ (some 25) rfl rfl Tryd.func64 (by kernel_rfl) rfl #[.slice Ao18 t937.length co18] rfl (by (try simp only [List.map_toArray, List.map_cons, List.map_nil]); first | done | rfl | (simp only [List.length_drop, List.length_take]; rfl)) ?_; (with_reducible refine (lines_Count.calls _ _ t937 t940 _ ?side1 ?side2 A15.out).mono ?_); (case side1 => repeat (first | exact (Kd.R_reads' HO939.out).2.2 | (with_reducible refine Kd.C_alloc ?_ _) | (with_reducible refine Kd.C_drewN ?_ _) | (with_reducible refine Kd.C_drew ?_))); (case side2 => exact (Kd.R_reads' HO939.out).2.1); rintro e w19 ⟨rfl, hb⟩; refine ⟨_, rfl, ?_⟩; have n0_ := Aside0.mk (Kd.R_below (by (with_reducible repeat (first | apply Kd.R_alloc | apply Kd.R_drewN | apply Kd.R_drew)); exact HO930.out) hb); have n1_ := Aside0.mk (Kd.R_below (by (with_reducible repeat (first | apply Kd.R_alloc | apply Kd.R_drewN | apply Kd.R_drew)); exact HO933.out) hb); have n2_ := Aside0.mk (Kd.R_below (by (with_reducible repeat (first | apply Kd.R_alloc | apply Kd.R_drewN | apply Kd.R_drew)); exact HO936.out) hb); have n3_ := Aside0.mk (Kd.R_below (by (with_reducible repeat (first | apply Kd.R_alloc | apply Kd.R_drewN | apply Kd.R_drew)); exact HO939.out) hb); have n4_ := Aside0.mk (below_step (by repeat (first | (with_reducible first | exact HB.out | apply below_alloc | apply pw_below_drewN | apply below_drew1) | exact HB.out)) hb); clear HO930; clear HO933; clear HO936; clear HO939; clear HB; have HO930 := n0_; have HO933 := n1_; have HO936 := n2_; have HO939 := n3_; have HB := n4_; clear n0_ n1_ n2_ n3_ n4_; (try clear hb); (try clear hb2); (try clear hk); (try clear hi); obtain ⟨Ao20, co20, eo20⟩ := Kd.R_slice HO930.out; subst eo20; obtain ⟨Ao21, co21, eo21⟩ := Kd.R_slice HO936.out; subst eo21))
        go_meet
        case rel => exact ⟨_, (((t934.length : Int) != (t928.length : Int))), (by first | rfl | (simp; done) | (simp [*]; done)), H', ⟨by first | omega | exact Nat.le_refl _⟩, ⟨by (with_reducible repeat (first | apply Kd.R_alloc | apply Kd.R_drewN | apply Kd.R_drew)); exact HO930.out⟩, ⟨by (with_reducible repeat (first | apply Kd.R_alloc | apply Kd.R_drewN | apply Kd.R_drew)); exact HO936.out⟩, ⟨by repeat (first | (with_reducible first | exact HB.out | apply below_alloc | apply pw_below_drewN | apply below_drew1) | exact HB.out)⟩⟩
      · rw [if_neg c16] at H
        have c16b0 : (t940 == (t928.length : Int)) = false := beq_eq_false_iff_ne.mpr c16
        have c16b1 : (t940 != (t928.length : Int)) = true := bne_iff_ne.mpr c16
        (first | rw [c16b0] | (simp only [i64_w, i32_w]; rw [c16b0]) | skip)
        have H' := Aside0.mk H
        clear H
        go_wp2_with (first | ((with_reducible refine gate_callee (f := 59) rfl ?_); refine goesL_ (some 24) rfl rfl Tryd.func59 (by kernel_rfl) rfl #[.slice A0 l0.length c0] rfl (by (try simp only [List.map_toArray, List.map_cons, List.map_nil]); first | done | rfl | (simp only [List.length_drop, List.length_take]; rfl)) ?_; (with_reducible refine (galleylaw07_own.calls _ _ l0 t937 _ ?side1 ?side2 A14.out).mono ?_); (case side1 => repeat (first | exact (Kd.C_below HR0.out HB.out) | (with_reducible refine Kd.C_alloc ?_ _) | (with_reducible refine Kd.C_drewN ?_ _) | (with_reducible refine Kd.C_drew ?_))); (case side2 => exact HC0.out); rintro e w22 ⟨v938, rfl, ho0, hb⟩; refine ⟨_, rfl, ?_⟩; have n0_ := Aside0.mk (Kd.R_below (by (with_reducible repeat (first | apply Kd.R_alloc | apply Kd.R_drewN | apply Kd.R_drew)); exact HO930.out) hb); have n1_ := Aside0.mk (Kd.R_elder' (by (with_reducible repeat (first | apply Kd.R_alloc | apply Kd.R_drewN | apply Kd.R_drew)); exact HO933.out) (Kd.R_base ho0) hb); have n2_ := Aside0.mk (Kd.R_below (by (with_reducible repeat (first | apply Kd.R_alloc | apply Kd.R_drewN | apply Kd.R_drew)); exact HO936.out) hb); have n3_ := Aside0.mk (Kd.R_lower (Kd.R_new' ho0 (Kd.R_lt (by (with_reducible repeat (first | apply Kd.R_alloc | apply Kd.R_drewN | apply Kd.R_drew)); exact HO933.out))) (below_size (by repeat (first | (with_reducible first | exact HB.out | apply below_alloc | apply pw_below_drewN | apply below_drew1) | exact HB.out)))); have n4_ := Aside0.mk (below_step (by repeat (first | (with_reducible first | exact HB.out | apply below_alloc | apply pw_below_drewN | apply below_drew1) | exact HB.out)) hb); clear HO930; clear HO933; clear HO936; clear HB; have HO930 := n0_; have HO933 := n1_; have HO936 := n2_; have HO939 := n3_; have HB := n4_; clear n0_ n1_ n2_ n3_ n4_; (try clear hb); (try clear hb2); (try clear hk); (try clear hi); (try clear ho0); obtain ⟨Ao23, co23, eo23⟩ := Kd.R_slice HO939.out; subst eo23) | ((with_reducible refine gate_callee (f := 64) rfl ?_); refine goesL_ (some 25) rfl rfl Tryd.func64 (by kernel_rfl) rfl #[.slice Ao23 t937.length co23] rfl (by (try simp only [List.map_toArray, List.map_cons, List.map_nil]); first | done | rfl | (simp only [List.length_drop, List.length_take]; rfl)) ?_; (with_reducible refine (lines_Count.calls _ _ t937 t940 _ ?side1 ?side2 A15.out).mono ?_); (case side1 => repeat (first | exact (Kd.R_reads' HO939.out).2.2 | (with_reducible refine Kd.C_alloc ?_ _) | (with_reducible refine Kd.C_drewN ?_ _) | (with_reducible refine Kd.C_drew ?_))); (case side2 => exact (Kd.R_reads' HO939.out).2.1); rintro e w24 ⟨rfl, hb⟩; refine ⟨_, rfl, ?_⟩; have n0_ := Aside0.mk (Kd.R_below (by (with_reducible repeat (first | apply Kd.R_alloc | apply Kd.R_drewN | apply Kd.R_drew)); exact HO930.out) hb); have n1_ := Aside0.mk (Kd.R_below (by (with_reducible repeat (first | apply Kd.R_alloc | apply Kd.R_drewN | apply Kd.R_drew)); exact HO933.out) hb); have n2_ := Aside0.mk (Kd.R_below (by (with_reducible repeat (first | apply Kd.R_alloc | apply Kd.R_drewN | apply Kd.R_drew)); exact HO936.out) hb); have n3_ := Aside0.mk (Kd.R_below (by (with_reducible repeat (first | apply Kd.R_alloc | apply Kd.R_drewN | apply Kd.R_drew)); exact HO939.out) hb); have n4_ := Aside0.mk (below_step (by repeat (first | (with_reducible first | exact HB.out | apply below_alloc | apply pw_below_drewN | apply below_drew1) | exact HB.out)) hb); clear HO930; clear HO933; clear HO936; clear HO939; clear HB; have HO930 := n0_; have HO933 := n1_; have HO936 := n2_; have HO939 := n3_; have HB := n4_; clear n0_ n1_ n2_ n3_ n4_; (try clear hb); (try clear hb2); (try clear hk); (try clear hi); obtain ⟨Ao25, co25, eo25⟩ := Kd.R_slice HO930.out; subst eo25))
        go_meet
        case rel => exact ⟨_, (true), (by first | rfl | (simp; done) | (simp [*]; done)), H', ⟨by first | omega | exact Nat.le_refl _⟩, ⟨by (with_reducible repeat (first | apply Kd.R_alloc | apply Kd.R_drewN | apply Kd.R_drew)); exact HO930.out⟩, ⟨by (with_reducible repeat (first | apply Kd.R_alloc | apply Kd.R_drewN | apply Kd.R_drew)); exact HO936.out⟩, ⟨by repeat (first | (with_reducible first | exact HB.out | apply below_alloc | apply pw_below_drewN | apply below_drew1) | exact HB.out)⟩⟩
    case rest =>
      clear HC8
      try clear c1
      try clear p2
      try clear c4
      try clear c5
      try clear c6
      try clear c15
      try clear c16
      try clear c16b0
      try clear c16b1
      obtain ⟨kq, x35_7, rfl, HA, HJ7, HO_5, HO_6, HB⟩ := hcut
      cases kq with
      | zero => exact absurd HA.out (by simp [galleylaw07_LinesRows.j0])
      | succ kj7 =>
        have H := HA.out
        clear HA
        simp only [galleylaw07_LinesRows.j0] at H
        by_cases c26 : x35_7 = true
        · subst c26
          have H1 : (some false) = some r := by rw [if_pos rfl] at H; exact H
          clear H
          have H := H1
          clear H1
          obtain rfl := Option.some.inj H
          go_wp2
          go_ret
          exact ⟨by first | rfl | (simp [errW_none, errW_some] <;> rfl) | (simp [*, errW_none, errW_some] <;> rfl), by repeat (first | (with_reducible first | exact HB.out | apply below_alloc | apply pw_below_drewN | apply below_drew1) | exact HB.out)⟩
        · replace c26 := Bool.eq_false_iff.mpr c26
          subst c26
          have H1 : (galleylaw07_LinesRows.l0 kj7 l0 a1 t928 t934 0) = some r := by rw [if_neg (show ¬ (false = true) by decide)] at H; exact H
          clear H
          have H := H1
          clear H1
          have H' := Aside0.mk H
          clear H
          go_wp2
          go_loopg [7] kj7 (fun kq v7 w' => ∃ (x7_2 : Int), v7 = .int .i64 x7_2 ∧ Aside0 (galleylaw07_LinesRows.l0 kq l0 a1 t928 t934 x7_2 = some r) ∧ Aside0 (kq ≤ kj7) ∧ Aside0 (Kd.R k88 88 w' w.heap.size (fun _ => True) v929 t928) ∧ Aside0 (Kd.R (Kd.int .i64) 3 w' w.heap.size (fun _ => True) v935 t934) ∧ Aside0 (Below w.heap.size w w'))
          case atStart => exact ⟨(0), (by first | rfl | (simp; done) | (simp [*]; done)), H', ⟨Nat.le_refl _⟩, ⟨by (with_reducible repeat (first | apply Kd.R_alloc | apply Kd.R_drewN | apply Kd.R_drew)); exact HO_5.out⟩, ⟨by (with_reducible repeat (first | apply Kd.R_alloc | apply Kd.R_drewN | apply Kd.R_drew)); exact HO_6.out⟩, ⟨by repeat (first | (with_reducible first | exact HB.out | apply below_alloc | apply pw_below_drewN | apply below_drew1) | exact HB.out)⟩⟩
          case round =>
            clear H'
            try clear c1
            try clear c2
            try clear p2
            try clear c4
            try clear c5
            try clear c6
            try clear c15
            try clear c16
            try clear c16b0
            try clear c16b1
            try clear c26
            try clear p2
            obtain ⟨x7_2, rfl, HA, HK2, HO_5, HO_6, HB⟩ := hrel
            cases gk with
            | zero => exact absurd HA.out (by simp [galleylaw07_LinesRows.l0])
            | succ k2 =>
              have H := HA.out
              clear HA
              simp only [galleylaw07_LinesRows.l0] at H
              have HC27 := Aside0.mk H
              clear H
              go_upto_region 8 with (fail)
              go_cut [43] (fun v43 wc => ∃ (kq : Nat) (x43_26 : Bool), v43 = .bool x43_26 ∧ Aside0 (galleylaw07_LinesRows.j2 kq l0 a1 t928 t934 x7_2 x43_26 = some r) ∧ Aside0 (kq ≤ k2) ∧ Aside0 (Kd.R k88 88 wc w.heap.size (fun _ => True) v929 t928) ∧ Aside0 (Kd.R (Kd.int .i64) 3 wc w.heap.size (fun _ => True) v935 t934) ∧ Aside0 (Below w.heap.size w wc))
              case first =>
                have H := HC27.out
                clear HC27
                by_cases c28 : x7_2 < (t928.length : Int)
                · rw [if_pos c28] at H
                  have c28b0 : decide (x7_2 < (t928.length : Int)) = true := decide_eq_true c28
                  clear c28
                  (first | rw [c28b0] | (simp only [i64_w, i32_w]; rw [c28b0]) | skip)
                  have H' := Aside0.mk H
                  clear H
                  obtain ⟨Ao29, co29, eo29⟩ := Kd.R_slice HO_5.out
                  subst eo29
                  go_wp2
                  go_meet
                  case rel => exact ⟨_, (decide (x7_2 < 300)), (by first | rfl | (simp; done) | (simp [*]; done)), H', ⟨by have := HJ7.out; have := HK2.out; first | omega | exact Nat.le_refl _⟩, ⟨by (with_reducible repeat (first | apply Kd.R_alloc | apply Kd.R_drewN | apply Kd.R_drew)); exact HO_5.out⟩, ⟨by (with_reducible repeat (first | apply Kd.R_alloc | apply Kd.R_drewN | apply Kd.R_drew)); exact HO_6.out⟩, ⟨by repeat (first | (with_reducible first | exact HB.out | apply below_alloc | apply pw_below_drewN | apply below_drew1) | exact HB.out)⟩⟩
                · rw [if_neg c28] at H
                  have c28b0 : decide (x7_2 < (t928.length : Int)) = false := decide_eq_false c28
                  clear c28
                  (first | rw [c28b0] | (simp only [i64_w, i32_w]; rw [c28b0]) | skip)
                  have H' := Aside0.mk H
                  clear H
                  obtain ⟨Ao30, co30, eo30⟩ := Kd.R_slice HO_5.out
                  subst eo30
                  go_wp2
                  go_meet
                  case rel => exact ⟨_, (false), (by first | rfl | (simp; done) | (simp [*]; done)), H', ⟨by have := HJ7.out; have := HK2.out; first | omega | exact Nat.le_refl _⟩, ⟨by (with_reducible repeat (first | apply Kd.R_alloc | apply Kd.R_drewN | apply Kd.R_drew)); exact HO_5.out⟩, ⟨by (with_reducible repeat (first | apply Kd.R_alloc | apply Kd.R_drewN | apply Kd.R_drew)); exact HO_6.out⟩, ⟨by repeat (first | (with_reducible first | exact HB.out | apply below_alloc | apply pw_below_drewN | apply below_drew1) | exact HB.out)⟩⟩
              case rest =>
                clear HC27
                try clear c1
                try clear c2
                try clear p2
                try clear c4
                try clear c5
                try clear c6
                try clear c15
                try clear c16
                try clear c16b0
                try clear c16b1
                try clear c26
                try clear c28
                try clear c28b0
                try clear p2
                obtain ⟨kq, x43_26, rfl, HA, HJ26, HO_5, HO_6, HB⟩ := hcut
                cases kq with
                | zero => exact absurd HA.out (by simp [galleylaw07_LinesRows.j2])
                | succ kj26 =>
                  have H := HA.out
                  clear HA
                  simp only [galleylaw07_LinesRows.j2] at H
                  by_cases c31 : x43_26 = true
                  · subst c31
                    have H1 : ((galleylaw07_own.f l0).bind fun t941 => ((lines_Line.f t941 x7_2).bind fun bt944 => (if bt944.2.2.2 = 0 then (if 0 ≤ x7_2 then (if x7_2 < (t928.length : Int) then (if bt944.1 = ((rd_T88 t928 x7_2).f0) then (if bt944.2.1 = ((rd_T88 t928 x7_2).f1) then (if bt944.2.2.1 = ((rd_T88 t928 x7_2).f2) then (if x7_2 < (t934.length : Int) then (if (rd t934 x7_2) = bt944.1 then (galleylaw07_LinesRows.l0 kj26 l0 a1 t928 t934 (wrap64 (x7_2 + 1))) else (some false)) else (none)) else (some false)) else (some false)) else (some false)) else (none)) else (none)) else (some false)))) = some r := by rw [if_pos rfl] at H; exact H
                    clear H
                    have H := H1
                    clear H1
                    replace H := Option.bind_eq_some_iff.mp H
                    obtain ⟨t941, A320, H⟩ := H
                    replace H : ((lines_Line.f t941 x7_2).bind fun bt944 => (if bt944.2.2.2 = 0 then (if 0 ≤ x7_2 then (if x7_2 < (t928.length : Int) then (if bt944.1 = ((rd_T88 t928 x7_2).f0) then (if bt944.2.1 = ((rd_T88 t928 x7_2).f1) then (if bt944.2.2.1 = ((rd_T88 t928 x7_2).f2) then (if x7_2 < (t934.length : Int) then (if (rd t934 x7_2) = bt944.1 then (galleylaw07_LinesRows.l0 kj26 l0 a1 t928 t934 (wrap64 (x7_2 + 1))) else (some false)) else (none)) else (some false)) else (some false)) else (some false)) else (none)) else (none)) else (some false))) = some r := H
                    have A32 := Aside0.mk A320
                    clear A320
                    replace H := Option.bind_eq_some_iff.mp H
                    obtain ⟨⟨t944, t945, t946, t947⟩, A330, H⟩ := H
                    replace H : (if t947 = 0 then (if 0 ≤ x7_2 then (if x7_2 < (t928.length : Int) then (if t944 = ((rd_T88 t928 x7_2).f0) then (if t945 = ((rd_T88 t928 x7_2).f1) then (if t946 = ((rd_T88 t928 x7_2).f2) then (if x7_2 < (t934.length : Int) then (if (rd t934 x7_2) = t944 then (galleylaw07_LinesRows.l0 kj26 l0 a1 t928 t934 (wrap64 (x7_2 + 1))) else (some false)) else (none)) else (some false)) else (some false)) else (some false)) else (none)) else (none)) else (some false)) = some r := H
                    have A33 := Aside0.mk A330
                    clear A330
                    by_cases c34 : t947 = 0
                    · rw [if_pos c34] at H
                      have c34b0 : (t947 == 0) = true := beq_iff_eq.mpr c34
                      have c34b1 : (t947 != 0) = false := bne_eq_false_iff_eq.mpr c34
                      clear c34
                      by_cases c35 : 0 ≤ x7_2
                      · rw [if_pos c35] at H
                        have c35b0 : decide (0 ≤ x7_2) = true := decide_eq_true c35
                        clear c35
                        by_cases c36 : x7_2 < (t928.length : Int)
                        · rw [if_pos c36] at H
                          have c36b0 : decide (x7_2 < (t928.length : Int)) = true := decide_eq_true c36
                          clear c36
                          by_cases c37 : t944 = ((rd_T88 t928 x7_2).f0)
                          · rw [if_pos c37] at H
                            have c37b0 : (t944 == ((rd_T88 t928 x7_2).f0)) = true := beq_iff_eq.mpr c37
                            have c37b1 : (t944 != ((rd_T88 t928 x7_2).f0)) = false := bne_eq_false_iff_eq.mpr c37
                            clear c37
                            by_cases c38 : t945 = ((rd_T88 t928 x7_2).f1)
                            · rw [if_pos c38] at H
                              have c38b0 : (t945 == ((rd_T88 t928 x7_2).f1)) = true := beq_iff_eq.mpr c38
                              have c38b1 : (t945 != ((rd_T88 t928 x7_2).f1)) = false := bne_eq_false_iff_eq.mpr c38
                              clear c38
                              by_cases c39 : t946 = ((rd_T88 t928 x7_2).f2)
                              · rw [if_pos c39] at H
                                have c39b0 : (t946 == ((rd_T88 t928 x7_2).f2)) = true := beq_iff_eq.mpr c39
                                have c39b1 : (t946 != ((rd_T88 t928 x7_2).f2)) = false := bne_eq_false_iff_eq.mpr c39
                                clear c39
                                by_cases c40 : x7_2 < (t934.length : Int)
                                · rw [if_pos c40] at H
                                  have c40b0 : decide (x7_2 < (t934.length : Int)) = true := decide_eq_true c40
                                  clear c40
                                  by_cases c41 : (rd t934 x7_2) = t944
                                  · rw [if_pos c41] at H
                                    have c41b0 : ((rd t934 x7_2) == t944) = true := beq_iff_eq.mpr c41
                                    have c41b1 : ((rd t934 x7_2) != t944) = false := bne_eq_false_iff_eq.mpr c41
                                    clear c41
                                    have H' := Aside0.mk H
                                    clear H
                                    go_wp2_with (first | ((with_reducible refine gate_callee (f := 59) rfl ?_); refine goesL_ (some 48) rfl rfl Tryd.func59 (by kernel_rfl) rfl #[.slice A0 l0.length c0] rfl (by (try simp only [List.map_toArray, List.map_cons, List.map_nil]); first | done | rfl | (simp only [List.length_drop, List.length_take]; rfl)) ?_; (with_reducible refine (galleylaw07_own.calls _ _ l0 t941 _ ?side1 ?side2 A32.out).mono ?_); (case side1 => repeat (first | exact (Kd.C_below HR0.out HB.out) | (with_reducible refine Kd.C_alloc ?_ _) | (with_reducible refine Kd.C_drewN ?_ _) | (with_reducible refine Kd.C_drew ?_))); (case side2 => exact HC0.out); rintro e w42 ⟨v942, rfl, ho0, hb⟩; refine ⟨_, rfl, ?_⟩; have n0_ := Aside0.mk (Kd.R_below (by (with_reducible repeat (first | apply Kd.R_alloc | apply Kd.R_drewN | apply Kd.R_drew)); exact HO_5.out) hb); have n1_ := Aside0.mk (Kd.R_below (by (with_reducible repeat (first | apply Kd.R_alloc | apply Kd.R_drewN | apply Kd.R_drew)); exact HO_6.out) hb); have n2_ := Aside0.mk (Kd.R_lower ho0 (below_size (by repeat (first | (with_reducible first | exact HB.out | apply below_alloc | apply pw_below_drewN | apply below_drew1) | exact HB.out)))); have n3_ := Aside0.mk (below_step (by repeat (first | (with_reducible first | exact HB.out | apply below_alloc | apply pw_below_drewN | apply below_drew1) | exact HB.out)) hb); clear HO_5; clear HO_6; clear HB; have HO_5 := n0_; have HO_6 := n1_; have HO943 := n2_; have HB := n3_; clear n0_ n1_ n2_ n3_; (try clear hb); (try clear hb2); (try clear hk); (try clear hi); (try clear ho0); obtain ⟨Ao43, co43, eo43⟩ := Kd.R_slice HO943.out; subst eo43) | ((with_reducible refine gate_callee (f := 65) rfl ?_); refine goesL_ (some 50) rfl rfl Tryd.func65 (by kernel_rfl) rfl #[.slice Ao43 t941.length co43, .int .i64 x7_2] rfl (by (try simp only [List.map_toArray, List.map_cons, List.map_nil]); first | done | rfl | (simp only [List.length_drop, List.length_take]; rfl)) ?_; (with_reducible refine (lines_Line.calls _ _ t941 x7_2 t944 t945 t946 t947 _ ?side1 ?side2 A33.out).mono ?_); (case side1 => repeat (first | exact (Kd.R_reads' HO943.out).2.2 | (with_reducible refine Kd.C_alloc ?_ _) | (with_reducible refine Kd.C_drewN ?_ _) | (with_reducible refine Kd.C_drew ?_))); (case side2 => exact (Kd.R_reads' HO943.out).2.1); rintro e w44 ⟨rfl, hb⟩; refine ⟨_, rfl, ?_⟩; have n0_ := Aside0.mk (Kd.R_below (by (with_reducible repeat (first | apply Kd.R_alloc | apply Kd.R_drewN | apply Kd.R_drew)); exact HO_5.out) hb); have n1_ := Aside0.mk (Kd.R_below (by (with_reducible repeat (first | apply Kd.R_alloc | apply Kd.R_drewN | apply Kd.R_drew)); exact HO_6.out) hb); have n2_ := Aside0.mk (Kd.R_below (by (with_reducible repeat (first | apply Kd.R_alloc | apply Kd.R_drewN | apply Kd.R_drew)); exact HO943.out) hb); have n3_ := Aside0.mk (below_step (by repeat (first | (with_reducible first | exact HB.out | apply below_alloc | apply pw_below_drewN | apply below_drew1) | exact HB.out)) hb); clear HO_5; clear HO_6; clear HO943; clear HB; have HO_5 := n0_; have HO_6 := n1_; have HO943 := n2_; have HB := n3_; clear n0_ n1_ n2_ n3_; (try clear hb); (try clear hb2); (try clear hk); (try clear hi); obtain ⟨Ao45, co45, eo45⟩ := Kd.R_slice HO_5.out; subst eo45; have p948 : 0 ≤ (x7_2 : Int) := of_decide_eq_true (by first | (with_reducible assumption) | assumption); have q948 : x7_2 < (t928.length : Int) := of_decide_eq_true (by first | (with_reducible assumption) | assumption); obtain ⟨ad948, e948, hx948_0, hx948_1, hx948_2⟩ := at_T88 (Kd.R_reads' HO_5.out).2.2 x7_2 p948 q948; cases e948; replace p948 := eq_true p948; replace q948 := eq_true q948; have p949 : 0 ≤ (x7_2 : Int) := of_decide_eq_true (by first | (with_reducible assumption) | assumption); have q949 : x7_2 < (t928.length : Int) := of_decide_eq_true (by first | (with_reducible assumption) | assumption); obtain ⟨ad949, e949, hx949_0, hx949_1, hx949_2⟩ := at_T88 (Kd.R_reads' HO_5.out).2.2 x7_2 p949 q949; obtain rfl : ad948 = ad949 := (by injection e949); replace p949 := eq_true p949; replace q949 := eq_true q949; have p950 : 0 ≤ (x7_2 : Int) := of_decide_eq_true (by first | (with_reducible assumption) | assumption); have q950 : x7_2 < (t928.length : Int) := of_decide_eq_true (by first | (with_reducible assumption) | assumption); obtain ⟨ad950, e950, hx950_0, hx950_1, hx950_2⟩ := at_T88 (Kd.R_reads' HO_5.out).2.2 x7_2 p950 q950; obtain rfl : ad948 = ad950 := (by injection e950); replace p950 := eq_true p950; replace q950 := eq_true q950; obtain ⟨Ao46, co46, eo46⟩ := Kd.R_slice HO_6.out; subst eo46; have p951 : 0 ≤ (x7_2 : Int) := of_decide_eq_true (by first | (with_reducible assumption) | assumption); have q951 : x7_2 < (t934.length : Int) := of_decide_eq_true (by first | (with_reducible assumption) | assumption); obtain ⟨ad951, e951, hx951_0⟩ := Kd.at_int (Kd.R_reads' HO_6.out).2.2 x7_2 p951 q951; cases e951; replace p951 := eq_true p951; replace q951 := eq_true q951))
                                    go_roundg kj26
                                    case measure => have := HJ7.out; have := HK2.out; have := HJ26.out; omega
                                    case rel => exact ⟨(wrap64 (x7_2 + 1)), (by first | rfl | (simp; done) | (simp [*]; done)), H', ⟨by have := HJ7.out; have := HK2.out; have := HJ26.out; omega⟩, ⟨by (with_reducible repeat (first | apply Kd.R_alloc | apply Kd.R_drewN | apply Kd.R_drew)); exact HO_5.out⟩, ⟨by (with_reducible repeat (first | apply Kd.R_alloc | apply Kd.R_drewN | apply Kd.R_drew)); exact HO_6.out⟩, ⟨by repeat (first | (with_reducible first | exact HB.out | apply below_alloc | apply pw_below_drewN | apply below_drew1) | exact HB.out)⟩⟩
                                  · rw [if_neg c41] at H
                                    have c41b0 : ((rd t934 x7_2) == t944) = false := beq_eq_false_iff_ne.mpr c41
                                    have c41b1 : ((rd t934 x7_2) != t944) = true := bne_iff_ne.mpr c41
                                    obtain rfl := Option.some.inj H
                                    go_wp2_with (first | ((with_reducible refine gate_callee (f := 59) rfl ?_); refine goesL_ (some 48) rfl rfl Tryd.func59 (by kernel_rfl) rfl #[.slice A0 l0.length c0] rfl (by (try simp only [List.map_toArray, List.map_cons, List.map_nil]); first | done | rfl | (simp only [List.length_drop, List.length_take]; rfl)) ?_; (with_reducible refine (galleylaw07_own.calls _ _ l0 t941 _ ?side1 ?side2 A32.out).mono ?_); (case side1 => repeat (first | exact (Kd.C_below HR0.out HB.out) | (with_reducible refine Kd.C_alloc ?_ _) | (with_reducible refine Kd.C_drewN ?_ _) | (with_reducible refine Kd.C_drew ?_))); (case side2 => exact HC0.out); rintro e w47 ⟨v942, rfl, ho0, hb⟩; refine ⟨_, rfl, ?_⟩; have n0_ := Aside0.mk (Kd.R_below (by (with_reducible repeat (first | apply Kd.R_alloc | apply Kd.R_drewN | apply Kd.R_drew)); exact HO_5.out) hb); have n1_ := Aside0.mk (Kd.R_below (by (with_reducible repeat (first | apply Kd.R_alloc | apply Kd.R_drewN | apply Kd.R_drew)); exact HO_6.out) hb); have n2_ := Aside0.mk (Kd.R_lower ho0 (below_size (by repeat (first | (with_reducible first | exact HB.out | apply below_alloc | apply pw_below_drewN | apply below_drew1) | exact HB.out)))); have n3_ := Aside0.mk (below_step (by repeat (first | (with_reducible first | exact HB.out | apply below_alloc | apply pw_below_drewN | apply below_drew1) | exact HB.out)) hb); clear HO_5; clear HO_6; clear HB; have HO_5 := n0_; have HO_6 := n1_; have HO943 := n2_; have HB := n3_; clear n0_ n1_ n2_ n3_; (try clear hb); (try clear hb2); (try clear hk); (try clear hi); (try clear ho0); obtain ⟨Ao48, co48, eo48⟩ := Kd.R_slice HO943.out; subst eo48) | ((with_reducible refine gate_callee (f := 65) rfl ?_); refine goesL_ (some 50) rfl rfl Tryd.func65 (by kernel_rfl) rfl #[.slice Ao48 t941.length co48, .int .i64 x7_2] rfl (by (try simp only [List.map_toArray, List.map_cons, List.map_nil]); first | done | rfl | (simp only [List.length_drop, List.length_take]; rfl)) ?_; (with_reducible refine (lines_Line.calls _ _ t941 x7_2 t944 t945 t946 t947 _ ?side1 ?side2 A33.out).mono ?_); (case side1 => repeat (first | exact (Kd.R_reads' HO943.out).2.2 | (with_reducible refine Kd.C_alloc ?_ _) | (with_reducible refine Kd.C_drewN ?_ _) | (with_reducible refine Kd.C_drew ?_))); (case side2 => exact (Kd.R_reads' HO943.out).2.1); rintro e w49 ⟨rfl, hb⟩; refine ⟨_, rfl, ?_⟩; have n0_ := Aside0.mk (Kd.R_below (by (with_reducible repeat (first | apply Kd.R_alloc | apply Kd.R_drewN | apply Kd.R_drew)); exact HO_5.out) hb); have n1_ := Aside0.mk (Kd.R_below (by (with_reducible repeat (first | apply Kd.R_alloc | apply Kd.R_drewN | apply Kd.R_drew)); exact HO_6.out) hb); have n2_ := Aside0.mk (Kd.R_below (by (with_reducible repeat (first | apply Kd.R_alloc | apply Kd.R_drewN | apply Kd.R_drew)); exact HO943.out) hb); have n3_ := Aside0.mk (below_step (by repeat (first | (with_reducible first | exact HB.out | apply below_alloc | apply pw_below_drewN | apply below_drew1) | exact HB.out)) hb); clear HO_5; clear HO_6; clear HO943; clear HB; have HO_5 := n0_; have HO_6 := n1_; have HO943 := n2_; have HB := n3_; clear n0_ n1_ n2_ n3_; (try clear hb); (try clear hb2); (try clear hk); (try clear hi); obtain ⟨Ao50, co50, eo50⟩ := Kd.R_slice HO_5.out; subst eo50; have p948 : 0 ≤ (x7_2 : Int) := of_decide_eq_true (by first | (with_reducible assumption) | assumption); have q948 : x7_2 < (t928.length : Int) := of_decide_eq_true (by first | (with_reducible assumption) | assumption); obtain ⟨ad948, e948, hx948_0, hx948_1, hx948_2⟩ := at_T88 (Kd.R_reads' HO_5.out).2.2 x7_2 p948 q948; cases e948; replace p948 := eq_true p948; replace q948 := eq_true q948; have p949 : 0 ≤ (x7_2 : Int) := of_decide_eq_true (by first | (with_reducible assumption) | assumption); have q949 : x7_2 < (t928.length : Int) := of_decide_eq_true (by first | (with_reducible assumption) | assumption); obtain ⟨ad949, e949, hx949_0, hx949_1, hx949_2⟩ := at_T88 (Kd.R_reads' HO_5.out).2.2 x7_2 p949 q949; obtain rfl : ad948 = ad949 := (by injection e949); replace p949 := eq_true p949; replace q949 := eq_true q949; have p950 : 0 ≤ (x7_2 : Int) := of_decide_eq_true (by first | (with_reducible assumption) | assumption); have q950 : x7_2 < (t928.length : Int) := of_decide_eq_true (by first | (with_reducible assumption) | assumption); obtain ⟨ad950, e950, hx950_0, hx950_1, hx950_2⟩ := at_T88 (Kd.R_reads' HO_5.out).2.2 x7_2 p950 q950; obtain rfl : ad948 = ad950 := (by injection e950); replace p950 := eq_true p950; replace q950 := eq_true q950; obtain ⟨Ao51, co51, eo51⟩ := Kd.R_slice HO_6.out; subst eo51; have p951 : 0 ≤ (x7_2 : Int) := of_decide_eq_true (by first | (with_reducible assumption) | assumption); have q951 : x7_2 < (t934.length : Int) := of_decide_eq_true (by first | (with_reducible assumption) | assumption); obtain ⟨ad951, e951, hx951_0⟩ := Kd.at_int (Kd.R_reads' HO_6.out).2.2 x7_2 p951 q951; cases e951; replace p951 := eq_true p951; replace q951 := eq_true q951))
                                    go_ret
                                    exact ⟨by first | rfl | (simp [errW_none, errW_some] <;> rfl) | (simp [*, errW_none, errW_some] <;> rfl), by repeat (first | (with_reducible first | exact HB.out | apply below_alloc | apply pw_below_drewN | apply below_drew1) | exact HB.out)⟩
                                · rw [if_neg c40] at H
                                  exact absurd H (by simp)
                              · rw [if_neg c39] at H
                                have c39b0 : (t946 == ((rd_T88 t928 x7_2).f2)) = false := beq_eq_false_iff_ne.mpr c39
                                have c39b1 : (t946 != ((rd_T88 t928 x7_2).f2)) = true := bne_iff_ne.mpr c39
                                obtain rfl := Option.some.inj H
                                go_wp2_with (first | ((with_reducible refine gate_callee (f := 59) rfl ?_); refine goesL_ (some 48) rfl rfl Tryd.func59 (by kernel_rfl) rfl #[.slice A0 l0.length c0] rfl (by (try simp only [List.map_toArray, List.map_cons, List.map_nil]); first | done | rfl | (simp only [List.length_drop, List.length_take]; rfl)) ?_; (with_reducible refine (galleylaw07_own.calls _ _ l0 t941 _ ?side1 ?side2 A32.out).mono ?_); (case side1 => repeat (first | exact (Kd.C_below HR0.out HB.out) | (with_reducible refine Kd.C_alloc ?_ _) | (with_reducible refine Kd.C_drewN ?_ _) | (with_reducible refine Kd.C_drew ?_))); (case side2 => exact HC0.out); rintro e w52 ⟨v942, rfl, ho0, hb⟩; refine ⟨_, rfl, ?_⟩; have n0_ := Aside0.mk (Kd.R_below (by (with_reducible repeat (first | apply Kd.R_alloc | apply Kd.R_drewN | apply Kd.R_drew)); exact HO_5.out) hb); have n1_ := Aside0.mk (Kd.R_below (by (with_reducible repeat (first | apply Kd.R_alloc | apply Kd.R_drewN | apply Kd.R_drew)); exact HO_6.out) hb); have n2_ := Aside0.mk (Kd.R_lower ho0 (below_size (by repeat (first | (with_reducible first | exact HB.out | apply below_alloc | apply pw_below_drewN | apply below_drew1) | exact HB.out)))); have n3_ := Aside0.mk (below_step (by repeat (first | (with_reducible first | exact HB.out | apply below_alloc | apply pw_below_drewN | apply below_drew1) | exact HB.out)) hb); clear HO_5; clear HO_6; clear HB; have HO_5 := n0_; have HO_6 := n1_; have HO943 := n2_; have HB := n3_; clear n0_ n1_ n2_ n3_; (try clear hb); (try clear hb2); (try clear hk); (try clear hi); (try clear ho0); obtain ⟨Ao53, co53, eo53⟩ := Kd.R_slice HO943.out; subst eo53) | ((with_reducible refine gate_callee (f := 65) rfl ?_); refine goesL_ (some 50) rfl rfl Tryd.func65 (by kernel_rfl) rfl #[.slice Ao53 t941.length co53, .int .i64 x7_2] rfl (by (try simp only [List.map_toArray, List.map_cons, List.map_nil]); first | done | rfl | (simp only [List.length_drop, List.length_take]; rfl)) ?_; (with_reducible refine (lines_Line.calls _ _ t941 x7_2 t944 t945 t946 t947 _ ?side1 ?side2 A33.out).mono ?_); (case side1 => repeat (first | exact (Kd.R_reads' HO943.out).2.2 | (with_reducible refine Kd.C_alloc ?_ _) | (with_reducible refine Kd.C_drewN ?_ _) | (with_reducible refine Kd.C_drew ?_))); (case side2 => exact (Kd.R_reads' HO943.out).2.1); rintro e w54 ⟨rfl, hb⟩; refine ⟨_, rfl, ?_⟩; have n0_ := Aside0.mk (Kd.R_below (by (with_reducible repeat (first | apply Kd.R_alloc | apply Kd.R_drewN | apply Kd.R_drew)); exact HO_5.out) hb); have n1_ := Aside0.mk (Kd.R_below (by (with_reducible repeat (first | apply Kd.R_alloc | apply Kd.R_drewN | apply Kd.R_drew)); exact HO_6.out) hb); have n2_ := Aside0.mk (Kd.R_below (by (with_reducible repeat (first | apply Kd.R_alloc | apply Kd.R_drewN | apply Kd.R_drew)); exact HO943.out) hb); have n3_ := Aside0.mk (below_step (by repeat (first | (with_reducible first | exact HB.out | apply below_alloc | apply pw_below_drewN | apply below_drew1) | exact HB.out)) hb); clear HO_5; clear HO_6; clear HO943; clear HB; have HO_5 := n0_; have HO_6 := n1_; have HO943 := n2_; have HB := n3_; clear n0_ n1_ n2_ n3_; (try clear hb); (try clear hb2); (try clear hk); (try clear hi); obtain ⟨Ao55, co55, eo55⟩ := Kd.R_slice HO_5.out; subst eo55; have p948 : 0 ≤ (x7_2 : Int) := of_decide_eq_true (by first | (with_reducible assumption) | assumption); have q948 : x7_2 < (t928.length : Int) := of_decide_eq_true (by first | (with_reducible assumption) | assumption); obtain ⟨ad948, e948, hx948_0, hx948_1, hx948_2⟩ := at_T88 (Kd.R_reads' HO_5.out).2.2 x7_2 p948 q948; cases e948; replace p948 := eq_true p948; replace q948 := eq_true q948; have p949 : 0 ≤ (x7_2 : Int) := of_decide_eq_true (by first | (with_reducible assumption) | assumption); have q949 : x7_2 < (t928.length : Int) := of_decide_eq_true (by first | (with_reducible assumption) | assumption); obtain ⟨ad949, e949, hx949_0, hx949_1, hx949_2⟩ := at_T88 (Kd.R_reads' HO_5.out).2.2 x7_2 p949 q949; obtain rfl : ad948 = ad949 := (by injection e949); replace p949 := eq_true p949; replace q949 := eq_true q949; have p950 : 0 ≤ (x7_2 : Int) := of_decide_eq_true (by first | (with_reducible assumption) | assumption); have q950 : x7_2 < (t928.length : Int) := of_decide_eq_true (by first | (with_reducible assumption) | assumption); obtain ⟨ad950, e950, hx950_0, hx950_1, hx950_2⟩ := at_T88 (Kd.R_reads' HO_5.out).2.2 x7_2 p950 q950; obtain rfl : ad948 = ad950 := (by injection e950); replace p950 := eq_true p950; replace q950 := eq_true q950))
                                go_ret
                                exact ⟨by first | rfl | (simp [errW_none, errW_some] <;> rfl) | (simp [*, errW_none, errW_some] <;> rfl), by repeat (first | (with_reducible first | exact HB.out | apply below_alloc | apply pw_below_drewN | apply below_drew1) | exact HB.out)⟩
                            · rw [if_neg c38] at H
                              have c38b0 : (t945 == ((rd_T88 t928 x7_2).f1)) = false := beq_eq_false_iff_ne.mpr c38
                              have c38b1 : (t945 != ((rd_T88 t928 x7_2).f1)) = true := bne_iff_ne.mpr c38
                              obtain rfl := Option.some.inj H
                              go_wp2_with (first | ((with_reducible refine gate_callee (f := 59) rfl ?_); refine goesL_ (some 48) rfl rfl Tryd.func59 (by kernel_rfl) rfl #[.slice A0 l0.length c0] rfl (by (try simp only [List.map_toArray, List.map_cons, List.map_nil]); first | done | rfl | (simp only [List.length_drop, List.length_take]; rfl)) ?_; (with_reducible refine (galleylaw07_own.calls _ _ l0 t941 _ ?side1 ?side2 A32.out).mono ?_); (case side1 => repeat (first | exact (Kd.C_below HR0.out HB.out) | (with_reducible refine Kd.C_alloc ?_ _) | (with_reducible refine Kd.C_drewN ?_ _) | (with_reducible refine Kd.C_drew ?_))); (case side2 => exact HC0.out); rintro e w56 ⟨v942, rfl, ho0, hb⟩; refine ⟨_, rfl, ?_⟩; have n0_ := Aside0.mk (Kd.R_below (by (with_reducible repeat (first | apply Kd.R_alloc | apply Kd.R_drewN | apply Kd.R_drew)); exact HO_5.out) hb); have n1_ := Aside0.mk (Kd.R_below (by (with_reducible repeat (first | apply Kd.R_alloc | apply Kd.R_drewN | apply Kd.R_drew)); exact HO_6.out) hb); have n2_ := Aside0.mk (Kd.R_lower ho0 (below_size (by repeat (first | (with_reducible first | exact HB.out | apply below_alloc | apply pw_below_drewN | apply below_drew1) | exact HB.out)))); have n3_ := Aside0.mk (below_step (by repeat (first | (with_reducible first | exact HB.out | apply below_alloc | apply pw_below_drewN | apply below_drew1) | exact HB.out)) hb); clear HO_5; clear HO_6; clear HB; have HO_5 := n0_; have HO_6 := n1_; have HO943 := n2_; have HB := n3_; clear n0_ n1_ n2_ n3_; (try clear hb); (try clear hb2); (try clear hk); (try clear hi); (try clear ho0); obtain ⟨Ao57, co57, eo57⟩ := Kd.R_slice HO943.out; subst eo57) | ((with_reducible refine gate_callee (f := 65) rfl ?_); refine goesL_ (some 50) rfl rfl Tryd.func65 (by kernel_rfl) rfl #[.slice Ao57 t941.length co57, .int .i64 x7_2] rfl (by (try simp only [List.map_toArray, List.map_cons, List.map_nil]); first | done | rfl | (simp only [List.length_drop, List.length_take]; rfl)) ?_; (with_reducible refine (lines_Line.calls _ _ t941 x7_2 t944 t945 t946 t947 _ ?side1 ?side2 A33.out).mono ?_); (case side1 => repeat (first | exact (Kd.R_reads' HO943.out).2.2 | (with_reducible refine Kd.C_alloc ?_ _) | (with_reducible refine Kd.C_drewN ?_ _) | (with_reducible refine Kd.C_drew ?_))); (case side2 => exact (Kd.R_reads' HO943.out).2.1); rintro e w58 ⟨rfl, hb⟩; refine ⟨_, rfl, ?_⟩; have n0_ := Aside0.mk (Kd.R_below (by (with_reducible repeat (first | apply Kd.R_alloc | apply Kd.R_drewN | apply Kd.R_drew)); exact HO_5.out) hb); have n1_ := Aside0.mk (Kd.R_below (by (with_reducible repeat (first | apply Kd.R_alloc | apply Kd.R_drewN | apply Kd.R_drew)); exact HO_6.out) hb); have n2_ := Aside0.mk (Kd.R_below (by (with_reducible repeat (first | apply Kd.R_alloc | apply Kd.R_drewN | apply Kd.R_drew)); exact HO943.out) hb); have n3_ := Aside0.mk (below_step (by repeat (first | (with_reducible first | exact HB.out | apply below_alloc | apply pw_below_drewN | apply below_drew1) | exact HB.out)) hb); clear HO_5; clear HO_6; clear HO943; clear HB; have HO_5 := n0_; have HO_6 := n1_; have HO943 := n2_; have HB := n3_; clear n0_ n1_ n2_ n3_; (try clear hb); (try clear hb2); (try clear hk); (try clear hi); obtain ⟨Ao59, co59, eo59⟩ := Kd.R_slice HO_5.out; subst eo59; have p948 : 0 ≤ (x7_2 : Int) := of_decide_eq_true (by first | (with_reducible assumption) | assumption); have q948 : x7_2 < (t928.length : Int) := of_decide_eq_true (by first | (with_reducible assumption) | assumption); obtain ⟨ad948, e948, hx948_0, hx948_1, hx948_2⟩ := at_T88 (Kd.R_reads' HO_5.out).2.2 x7_2 p948 q948; cases e948; replace p948 := eq_true p948; replace q948 := eq_true q948; have p949 : 0 ≤ (x7_2 : Int) := of_decide_eq_true (by first | (with_reducible assumption) | assumption); have q949 : x7_2 < (t928.length : Int) := of_decide_eq_true (by first | (with_reducible assumption) | assumption); obtain ⟨ad949, e949, hx949_0, hx949_1, hx949_2⟩ := at_T88 (Kd.R_reads' HO_5.out).2.2 x7_2 p949 q949; obtain rfl : ad948 = ad949 := (by injection e949); replace p949 := eq_true p949; replace q949 := eq_true q949))
                              go_ret
                              exact ⟨by first | rfl | (simp [errW_none, errW_some] <;> rfl) | (simp [*, errW_none, errW_some] <;> rfl), by repeat (first | (with_reducible first | exact HB.out | apply below_alloc | apply pw_below_drewN | apply below_drew1) | exact HB.out)⟩
                          · rw [if_neg c37] at H
                            have c37b0 : (t944 == ((rd_T88 t928 x7_2).f0)) = false := beq_eq_false_iff_ne.mpr c37
                            have c37b1 : (t944 != ((rd_T88 t928 x7_2).f0)) = true := bne_iff_ne.mpr c37
                            obtain rfl := Option.some.inj H
                            go_wp2_with (first | ((with_reducible refine gate_callee (f := 59) rfl ?_); refine goesL_ (some 48) rfl rfl Tryd.func59 (by kernel_rfl) rfl #[.slice A0 l0.length c0] rfl (by (try simp only [List.map_toArray, List.map_cons, List.map_nil]); first | done | rfl | (simp only [List.length_drop, List.length_take]; rfl)) ?_; (with_reducible refine (galleylaw07_own.calls _ _ l0 t941 _ ?side1 ?side2 A32.out).mono ?_); (case side1 => repeat (first | exact (Kd.C_below HR0.out HB.out) | (with_reducible refine Kd.C_alloc ?_ _) | (with_reducible refine Kd.C_drewN ?_ _) | (with_reducible refine Kd.C_drew ?_))); (case side2 => exact HC0.out); rintro e w60 ⟨v942, rfl, ho0, hb⟩; refine ⟨_, rfl, ?_⟩; have n0_ := Aside0.mk (Kd.R_below (by (with_reducible repeat (first | apply Kd.R_alloc | apply Kd.R_drewN | apply Kd.R_drew)); exact HO_5.out) hb); have n1_ := Aside0.mk (Kd.R_below (by (with_reducible repeat (first | apply Kd.R_alloc | apply Kd.R_drewN | apply Kd.R_drew)); exact HO_6.out) hb); have n2_ := Aside0.mk (Kd.R_lower ho0 (below_size (by repeat (first | (with_reducible first | exact HB.out | apply below_alloc | apply pw_below_drewN | apply below_drew1) | exact HB.out)))); have n3_ := Aside0.mk (below_step (by repeat (first | (with_reducible first | exact HB.out | apply below_alloc | apply pw_below_drewN | apply below_drew1) | exact HB.out)) hb); clear HO_5; clear HO_6; clear HB; have HO_5 := n0_; have HO_6 := n1_; have HO943 := n2_; have HB := n3_; clear n0_ n1_ n2_ n3_; (try clear hb); (try clear hb2); (try clear hk); (try clear hi); (try clear ho0); obtain ⟨Ao61, co61, eo61⟩ := Kd.R_slice HO943.out; subst eo61) | ((with_reducible refine gate_callee (f := 65) rfl ?_); refine goesL_ (some 50) rfl rfl Tryd.func65 (by kernel_rfl) rfl #[.slice Ao61 t941.length co61, .int .i64 x7_2] rfl (by (try simp only [List.map_toArray, List.map_cons, List.map_nil]); first | done | rfl | (simp only [List.length_drop, List.length_take]; rfl)) ?_; (with_reducible refine (lines_Line.calls _ _ t941 x7_2 t944 t945 t946 t947 _ ?side1 ?side2 A33.out).mono ?_); (case side1 => repeat (first | exact (Kd.R_reads' HO943.out).2.2 | (with_reducible refine Kd.C_alloc ?_ _) | (with_reducible refine Kd.C_drewN ?_ _) | (with_reducible refine Kd.C_drew ?_))); (case side2 => exact (Kd.R_reads' HO943.out).2.1); rintro e w62 ⟨rfl, hb⟩; refine ⟨_, rfl, ?_⟩; have n0_ := Aside0.mk (Kd.R_below (by (with_reducible repeat (first | apply Kd.R_alloc | apply Kd.R_drewN | apply Kd.R_drew)); exact HO_5.out) hb); have n1_ := Aside0.mk (Kd.R_below (by (with_reducible repeat (first | apply Kd.R_alloc | apply Kd.R_drewN | apply Kd.R_drew)); exact HO_6.out) hb); have n2_ := Aside0.mk (Kd.R_below (by (with_reducible repeat (first | apply Kd.R_alloc | apply Kd.R_drewN | apply Kd.R_drew)); exact HO943.out) hb); have n3_ := Aside0.mk (below_step (by repeat (first | (with_reducible first | exact HB.out | apply below_alloc | apply pw_below_drewN | apply below_drew1) | exact HB.out)) hb); clear HO_5; clear HO_6; clear HO943; clear HB; have HO_5 := n0_; have HO_6 := n1_; have HO943 := n2_; have HB := n3_; clear n0_ n1_ n2_ n3_; (try clear hb); (try clear hb2); (try clear hk); (try clear hi); obtain ⟨Ao63, co63, eo63⟩ := Kd.R_slice HO_5.out; subst eo63; have p948 : 0 ≤ (x7_2 : Int) := of_decide_eq_true (by first | (with_reducible assumption) | assumption); have q948 : x7_2 < (t928.length : Int) := of_decide_eq_true (by first | (with_reducible assumption) | assumption); obtain ⟨ad948, e948, hx948_0, hx948_1, hx948_2⟩ := at_T88 (Kd.R_reads' HO_5.out).2.2 x7_2 p948 q948; cases e948; replace p948 := eq_true p948; replace q948 := eq_true q948))
                            go_ret
                            exact ⟨by first | rfl | (simp [errW_none, errW_some] <;> rfl) | (simp [*, errW_none, errW_some] <;> rfl), by repeat (first | (with_reducible first | exact HB.out | apply below_alloc | apply pw_below_drewN | apply below_drew1) | exact HB.out)⟩
                        · rw [if_neg c36] at H
                          exact absurd H (by simp)
                      · rw [if_neg c35] at H
                        exact absurd H (by simp)
                    · rw [if_neg c34] at H
                      have c34b0 : (t947 == 0) = false := beq_eq_false_iff_ne.mpr c34
                      have c34b1 : (t947 != 0) = true := bne_iff_ne.mpr c34
                      obtain rfl := Option.some.inj H
                      go_wp2_with (first | ((with_reducible refine gate_callee (f := 59) rfl ?_); refine goesL_ (some 48) rfl rfl Tryd.func59 (by kernel_rfl) rfl #[.slice A0 l0.length c0] rfl (by (try simp only [List.map_toArray, List.map_cons, List.map_nil]); first | done | rfl | (simp only [List.length_drop, List.length_take]; rfl)) ?_; (with_reducible refine (galleylaw07_own.calls _ _ l0 t941 _ ?side1 ?side2 A32.out).mono ?_); (case side1 => repeat (first | exact (Kd.C_below HR0.out HB.out) | (with_reducible refine Kd.C_alloc ?_ _) | (with_reducible refine Kd.C_drewN ?_ _) | (with_reducible refine Kd.C_drew ?_))); (case side2 => exact HC0.out); rintro e w64 ⟨v942, rfl, ho0, hb⟩; refine ⟨_, rfl, ?_⟩; have n0_ := Aside0.mk (Kd.R_below (by (with_reducible repeat (first | apply Kd.R_alloc | apply Kd.R_drewN | apply Kd.R_drew)); exact HO_5.out) hb); have n1_ := Aside0.mk (Kd.R_below (by (with_reducible repeat (first | apply Kd.R_alloc | apply Kd.R_drewN | apply Kd.R_drew)); exact HO_6.out) hb); have n2_ := Aside0.mk (Kd.R_lower ho0 (below_size (by repeat (first | (with_reducible first | exact HB.out | apply below_alloc | apply pw_below_drewN | apply below_drew1) | exact HB.out)))); have n3_ := Aside0.mk (below_step (by repeat (first | (with_reducible first | exact HB.out | apply below_alloc | apply pw_below_drewN | apply below_drew1) | exact HB.out)) hb); clear HO_5; clear HO_6; clear HB; have HO_5 := n0_; have HO_6 := n1_; have HO943 := n2_; have HB := n3_; clear n0_ n1_ n2_ n3_; (try clear hb); (try clear hb2); (try clear hk); (try clear hi); (try clear ho0); obtain ⟨Ao65, co65, eo65⟩ := Kd.R_slice HO943.out; subst eo65) | ((with_reducible refine gate_callee (f := 65) rfl ?_); refine goesL_ (some 50) rfl rfl Tryd.func65 (by kernel_rfl) rfl #[.slice Ao65 t941.length co65, .int .i64 x7_2] rfl (by (try simp only [List.map_toArray, List.map_cons, List.map_nil]); first | done | rfl | (simp only [List.length_drop, List.length_take]; rfl)) ?_; (with_reducible refine (lines_Line.calls _ _ t941 x7_2 t944 t945 t946 t947 _ ?side1 ?side2 A33.out).mono ?_); (case side1 => repeat (first | exact (Kd.R_reads' HO943.out).2.2 | (with_reducible refine Kd.C_alloc ?_ _) | (with_reducible refine Kd.C_drewN ?_ _) | (with_reducible refine Kd.C_drew ?_))); (case side2 => exact (Kd.R_reads' HO943.out).2.1); rintro e w66 ⟨rfl, hb⟩; refine ⟨_, rfl, ?_⟩; have n0_ := Aside0.mk (Kd.R_below (by (with_reducible repeat (first | apply Kd.R_alloc | apply Kd.R_drewN | apply Kd.R_drew)); exact HO_5.out) hb); have n1_ := Aside0.mk (Kd.R_below (by (with_reducible repeat (first | apply Kd.R_alloc | apply Kd.R_drewN | apply Kd.R_drew)); exact HO_6.out) hb); have n2_ := Aside0.mk (Kd.R_below (by (with_reducible repeat (first | apply Kd.R_alloc | apply Kd.R_drewN | apply Kd.R_drew)); exact HO943.out) hb); have n3_ := Aside0.mk (below_step (by repeat (first | (with_reducible first | exact HB.out | apply below_alloc | apply pw_below_drewN | apply below_drew1) | exact HB.out)) hb); clear HO_5; clear HO_6; clear HO943; clear HB; have HO_5 := n0_; have HO_6 := n1_; have HO943 := n2_; have HB := n3_; clear n0_ n1_ n2_ n3_; (try clear hb); (try clear hb2); (try clear hk); (try clear hi)))
                      go_ret
                      exact ⟨by first | rfl | (simp [errW_none, errW_some] <;> rfl) | (simp [*, errW_none, errW_some] <;> rfl), by repeat (first | (with_reducible first | exact HB.out | apply below_alloc | apply pw_below_drewN | apply below_drew1) | exact HB.out)⟩
                  · replace c31 := Bool.eq_false_iff.mpr c31
                    subst c31
                    have H1 : (if a1 ≥ 0 then (galleylaw07_LinesRows.j3 kj26 l0 a1 (decide (a1 < (t928.length : Int)))) else (galleylaw07_LinesRows.j3 kj26 l0 a1 false)) = some r := by rw [if_neg (show ¬ (false = true) by decide)] at H; exact H
                    clear H
                    have H := H1
                    clear H1
                    have HC67 := Aside0.mk H
                    clear H
                    go_upto_region 13 with (fail)
                    go_cut [99] (fun v99 wc => ∃ (kq : Nat) (x99_66 : Bool), v99 = .bool x99_66 ∧ Aside0 (galleylaw07_LinesRows.j3 kq l0 a1 x99_66 = some r) ∧ Aside0 (kq ≤ kj26) ∧ Aside0 (Below w.heap.size w wc))
                    case first =>
                      have H := HC67.out
                      clear HC67
                      by_cases c68 : a1 ≥ 0
                      · rw [if_pos c68] at H
                        have c68b0 : decide (0 ≤ a1) = true := decide_eq_true c68
                        clear c68
                        (first | rw [c68b0] | (simp only [i64_w, i32_w]; rw [c68b0]) | skip)
                        have H' := Aside0.mk H
                        clear H
                        obtain ⟨Ao69, co69, eo69⟩ := Kd.R_slice HO_5.out
                        subst eo69
                        go_wp2
                        go_meet
                        case rel => exact ⟨_, (decide (a1 < (t928.length : Int))), (by first | rfl | (simp; done) | (simp [*]; done)), H', ⟨by have := HJ7.out; have := HK2.out; have := HJ26.out; first | omega | exact Nat.le_refl _⟩, ⟨by repeat (first | (with_reducible first | exact HB.out | apply below_alloc | apply pw_below_drewN | apply below_drew1) | exact HB.out)⟩⟩
                      · rw [if_neg c68] at H
                        have c68b0 : decide (0 ≤ a1) = false := decide_eq_false c68
                        clear c68
                        (first | rw [c68b0] | (simp only [i64_w, i32_w]; rw [c68b0]) | skip)
                        have H' := Aside0.mk H
                        clear H
                        go_wp2
                        go_meet
                        case rel => exact ⟨_, (false), (by first | rfl | (simp; done) | (simp [*]; done)), H', ⟨by have := HJ7.out; have := HK2.out; have := HJ26.out; first | omega | exact Nat.le_refl _⟩, ⟨by repeat (first | (with_reducible first | exact HB.out | apply below_alloc | apply pw_below_drewN | apply below_drew1) | exact HB.out)⟩⟩
                    case rest =>
                      clear HC67
                      try clear c1
                      try clear c2
                      try clear p2
                      try clear c3
                      try clear c4
                      try clear c5
                      try clear c6
                      try clear p6
                      try clear p9
                      try clear q9
                      try clear hx9
                      try clear c15
                      try clear c16
                      try clear c16b0
                      try clear c16b1
                      try clear c26
                      try clear c28
                      try clear c28b0
                      try clear c31
                      try clear c34
                      try clear c34b0
                      try clear c34b1
                      try clear c35
                      try clear c35b0
                      try clear c36
                      try clear c36b0
                      try clear c37
                      try clear c37b0
                      try clear c37b1
                      try clear c38
                      try clear c38b0
                      try clear c38b1
                      try clear c39
                      try clear c39b0
                      try clear c39b1
                      try clear c40
                      try clear c40b0
                      try clear c41
                      try clear c41b0
                      try clear c41b1
                      try clear c56
                      try clear c59
                      try clear c61
                      try clear c63
                      try clear c64
                      try clear p64
                      try clear c65
                      try clear c68
                      try clear c68b0
                      try clear hx948_0
                      try clear hx948_1
                      try clear hx948_2
                      try clear hx949_0
                      try clear hx949_1
                      try clear hx949_2
                      try clear hx950_0
                      try clear hx950_1
                      try clear hx950_2
                      try clear hx951_0
                      try clear p2
                      try clear p948
                      try clear p949
                      try clear p950
                      try clear p951
                      try clear q948
                      try clear q949
                      try clear q950
                      try clear q951
                      obtain ⟨kq, x99_66, rfl, HA, HJ66, HB⟩ := hcut
                      cases kq with
                      | zero => exact absurd HA.out (by simp [galleylaw07_LinesRows.j3])
                      | succ kj66 =>
                        have H := HA.out
                        clear HA
                        simp only [galleylaw07_LinesRows.j3] at H
                        by_cases c70 : x99_66 = true
                        · subst c70
                          have H1 : (some true) = some r := by rw [if_pos rfl] at H; exact H
                          clear H
                          have H := H1
                          clear H1
                          obtain rfl := Option.some.inj H
                          go_wp2
                          go_ret
                          exact ⟨by first | rfl | (simp [errW_none, errW_some] <;> rfl) | (simp [*, errW_none, errW_some] <;> rfl), by repeat (first | (with_reducible first | exact HB.out | apply below_alloc | apply pw_below_drewN | apply below_drew1) | exact HB.out)⟩
                        · replace c70 := Bool.eq_false_iff.mpr c70
                          subst c70
                          have H1 : ((galleylaw07_own.f l0).bind fun t952 => ((lines_Line.f t952 a1).bind fun bt955 => (if bt955.2.2.2 = 2 then (if bt955.1 = 0 then (if bt955.2.1 = 0 then (some (bt955.2.2.1 == 0)) else (some false)) else (some false)) else (some false)))) = some r := by rw [if_neg (show ¬ (false = true) by decide)] at H; exact H
                          clear H
                          have H := H1
                          clear H1
                          replace H := Option.bind_eq_some_iff.mp H
                          obtain ⟨t952, A710, H⟩ := H
                          replace H : ((lines_Line.f t952 a1).bind fun bt955 => (if bt955.2.2.2 = 2 then (if bt955.1 = 0 then (if bt955.2.1 = 0 then (some (bt955.2.2.1 == 0)) else (some false)) else (some false)) else (some false))) = some r := H
                          have A71 := Aside0.mk A710
                          clear A710
                          replace H := Option.bind_eq_some_iff.mp H
                          obtain ⟨⟨t955, t956, t957, t958⟩, A720, H⟩ := H
                          replace H : (if t958 = 2 then (if t955 = 0 then (if t956 = 0 then (some (t957 == 0)) else (some false)) else (some false)) else (some false)) = some r := H
                          have A72 := Aside0.mk A720
                          clear A720
                          by_cases c73 : t958 = 2
                          · rw [if_pos c73] at H
                            have c73b0 : (t958 == 2) = true := beq_iff_eq.mpr c73
                            have c73b1 : (t958 != 2) = false := bne_eq_false_iff_eq.mpr c73
                            clear c73
                            by_cases c74 : t955 = 0
                            · rw [if_pos c74] at H
                              have c74b0 : (t955 == 0) = true := beq_iff_eq.mpr c74
                              have c74b1 : (t955 != 0) = false := bne_eq_false_iff_eq.mpr c74
                              clear c74
                              by_cases c75 : t956 = 0
                              · rw [if_pos c75] at H
                                have c75b0 : (t956 == 0) = true := beq_iff_eq.mpr c75
                                have c75b1 : (t956 != 0) = false := bne_eq_false_iff_eq.mpr c75
                                clear c75
                                obtain rfl := Option.some.inj H
                                go_wp2_with (first | ((with_reducible refine gate_callee (f := 59) rfl ?_); refine goesL_ (some 102) rfl rfl Tryd.func59 (by kernel_rfl) rfl #[.slice A0 l0.length c0] rfl (by (try simp only [List.map_toArray, List.map_cons, List.map_nil]); first | done | rfl | (simp only [List.length_drop, List.length_take]; rfl)) ?_; (with_reducible refine (galleylaw07_own.calls _ _ l0 t952 _ ?side1 ?side2 A71.out).mono ?_); (case side1 => repeat (first | exact (Kd.C_below HR0.out HB.out) | (with_reducible refine Kd.C_alloc ?_ _) | (with_reducible refine Kd.C_drewN ?_ _) | (with_reducible refine Kd.C_drew ?_))); (case side2 => exact HC0.out); rintro e w76 ⟨v953, rfl, ho0, hb⟩; refine ⟨_, rfl, ?_⟩; have n0_ := Aside0.mk (Kd.R_lower ho0 (below_size (by repeat (first | (with_reducible first | exact HB.out | apply below_alloc | apply pw_below_drewN | apply below_drew1) | exact HB.out)))); have n1_ := Aside0.mk (below_step (by repeat (first | (with_reducible first | exact HB.out | apply below_alloc | apply pw_below_drewN | apply below_drew1) | exact HB.out)) hb); clear HB; have HO954 := n0_; have HB := n1_; clear n0_ n1_; (try clear hb); (try clear hb2); (try clear hk); (try clear hi); (try clear ho0); obtain ⟨Ao77, co77, eo77⟩ := Kd.R_slice HO954.out; subst eo77) | ((with_reducible refine gate_callee (f := 65) rfl ?_); refine goesL_ (some 104) rfl rfl Tryd.func65 (by kernel_rfl) rfl #[.slice Ao77 t952.length co77, .int .i64 a1] rfl (by (try simp only [List.map_toArray, List.map_cons, List.map_nil]); first | done | rfl | (simp only [List.length_drop, List.length_take]; rfl)) ?_; (with_reducible refine (lines_Line.calls _ _ t952 a1 t955 t956 t957 t958 _ ?side1 ?side2 A72.out).mono ?_); (case side1 => repeat (first | exact (Kd.R_reads' HO954.out).2.2 | (with_reducible refine Kd.C_alloc ?_ _) | (with_reducible refine Kd.C_drewN ?_ _) | (with_reducible refine Kd.C_drew ?_))); (case side2 => exact (Kd.R_reads' HO954.out).2.1); rintro e w78 ⟨rfl, hb⟩; refine ⟨_, rfl, ?_⟩; have n0_ := Aside0.mk (Kd.R_below (by (with_reducible repeat (first | apply Kd.R_alloc | apply Kd.R_drewN | apply Kd.R_drew)); exact HO954.out) hb); have n1_ := Aside0.mk (below_step (by repeat (first | (with_reducible first | exact HB.out | apply below_alloc | apply pw_below_drewN | apply below_drew1) | exact HB.out)) hb); clear HO954; clear HB; have HO954 := n0_; have HB := n1_; clear n0_ n1_; (try clear hb); (try clear hb2); (try clear hk); (try clear hi)))
                                go_ret
                                exact ⟨by first | rfl | (simp [errW_none, errW_some] <;> rfl) | (simp [*, errW_none, errW_some] <;> rfl), by repeat (first | (with_reducible first | exact HB.out | apply below_alloc | apply pw_below_drewN | apply below_drew1) | exact HB.out)⟩
                              · rw [if_neg c75] at H
                                have c75b0 : (t956 == 0) = false := beq_eq_false_iff_ne.mpr c75
                                have c75b1 : (t956 != 0) = true := bne_iff_ne.mpr c75
                                obtain rfl := Option.some.inj H
                                go_wp2_with (first | ((with_reducible refine gate_callee (f := 59) rfl ?_); refine goesL_ (some 102) rfl rfl Tryd.func59 (by kernel_rfl) rfl #[.slice A0 l0.length c0] rfl (by (try simp only [List.map_toArray, List.map_cons, List.map_nil]); first | done | rfl | (simp only [List.length_drop, List.length_take]; rfl)) ?_; (with_reducible refine (galleylaw07_own.calls _ _ l0 t952 _ ?side1 ?side2 A71.out).mono ?_); (case side1 => repeat (first | exact (Kd.C_below HR0.out HB.out) | (with_reducible refine Kd.C_alloc ?_ _) | (with_reducible refine Kd.C_drewN ?_ _) | (with_reducible refine Kd.C_drew ?_))); (case side2 => exact HC0.out); rintro e w79 ⟨v953, rfl, ho0, hb⟩; refine ⟨_, rfl, ?_⟩; have n0_ := Aside0.mk (Kd.R_lower ho0 (below_size (by repeat (first | (with_reducible first | exact HB.out | apply below_alloc | apply pw_below_drewN | apply below_drew1) | exact HB.out)))); have n1_ := Aside0.mk (below_step (by repeat (first | (with_reducible first | exact HB.out | apply below_alloc | apply pw_below_drewN | apply below_drew1) | exact HB.out)) hb); clear HB; have HO954 := n0_; have HB := n1_; clear n0_ n1_; (try clear hb); (try clear hb2); (try clear hk); (try clear hi); (try clear ho0); obtain ⟨Ao80, co80, eo80⟩ := Kd.R_slice HO954.out; subst eo80) | ((with_reducible refine gate_callee (f := 65) rfl ?_); refine goesL_ (some 104) rfl rfl Tryd.func65 (by kernel_rfl) rfl #[.slice Ao80 t952.length co80, .int .i64 a1] rfl (by (try simp only [List.map_toArray, List.map_cons, List.map_nil]); first | done | rfl | (simp only [List.length_drop, List.length_take]; rfl)) ?_; (with_reducible refine (lines_Line.calls _ _ t952 a1 t955 t956 t957 t958 _ ?side1 ?side2 A72.out).mono ?_); (case side1 => repeat (first | exact (Kd.R_reads' HO954.out).2.2 | (with_reducible refine Kd.C_alloc ?_ _) | (with_reducible refine Kd.C_drewN ?_ _) | (with_reducible refine Kd.C_drew ?_))); (case side2 => exact (Kd.R_reads' HO954.out).2.1); rintro e w81 ⟨rfl, hb⟩; refine ⟨_, rfl, ?_⟩; have n0_ := Aside0.mk (Kd.R_below (by (with_reducible repeat (first | apply Kd.R_alloc | apply Kd.R_drewN | apply Kd.R_drew)); exact HO954.out) hb); have n1_ := Aside0.mk (below_step (by repeat (first | (with_reducible first | exact HB.out | apply below_alloc | apply pw_below_drewN | apply below_drew1) | exact HB.out)) hb); clear HO954; clear HB; have HO954 := n0_; have HB := n1_; clear n0_ n1_; (try clear hb); (try clear hb2); (try clear hk); (try clear hi)))
                                go_ret
                                exact ⟨by first | rfl | (simp [errW_none, errW_some] <;> rfl) | (simp [*, errW_none, errW_some] <;> rfl), by repeat (first | (with_reducible first | exact HB.out | apply below_alloc | apply pw_below_drewN | apply below_drew1) | exact HB.out)⟩
                            · rw [if_neg c74] at H
                              have c74b0 : (t955 == 0) = false := beq_eq_false_iff_ne.mpr c74
                              have c74b1 : (t955 != 0) = true := bne_iff_ne.mpr c74
                              obtain rfl := Option.some.inj H
                              go_wp2_with (first | ((with_reducible refine gate_callee (f := 59) rfl ?_); refine goesL_ (some 102) rfl rfl Tryd.func59 (by kernel_rfl) rfl #[.slice A0 l0.length c0] rfl (by (try simp only [List.map_toArray, List.map_cons, List.map_nil]); first | done | rfl | (simp only [List.length_drop, List.length_take]; rfl)) ?_; (with_reducible refine (galleylaw07_own.calls _ _ l0 t952 _ ?side1 ?side2 A71.out).mono ?_); (case side1 => repeat (first | exact (Kd.C_below HR0.out HB.out) | (with_reducible refine Kd.C_alloc ?_ _) | (with_reducible refine Kd.C_drewN ?_ _) | (with_reducible refine Kd.C_drew ?_))); (case side2 => exact HC0.out); rintro e w82 ⟨v953, rfl, ho0, hb⟩; refine ⟨_, rfl, ?_⟩; have n0_ := Aside0.mk (Kd.R_lower ho0 (below_size (by repeat (first | (with_reducible first | exact HB.out | apply below_alloc | apply pw_below_drewN | apply below_drew1) | exact HB.out)))); have n1_ := Aside0.mk (below_step (by repeat (first | (with_reducible first | exact HB.out | apply below_alloc | apply pw_below_drewN | apply below_drew1) | exact HB.out)) hb); clear HB; have HO954 := n0_; have HB := n1_; clear n0_ n1_; (try clear hb); (try clear hb2); (try clear hk); (try clear hi); (try clear ho0); obtain ⟨Ao83, co83, eo83⟩ := Kd.R_slice HO954.out; subst eo83) | ((with_reducible refine gate_callee (f := 65) rfl ?_); refine goesL_ (some 104) rfl rfl Tryd.func65 (by kernel_rfl) rfl #[.slice Ao83 t952.length co83, .int .i64 a1] rfl (by (try simp only [List.map_toArray, List.map_cons, List.map_nil]); first | done | rfl | (simp only [List.length_drop, List.length_take]; rfl)) ?_; (with_reducible refine (lines_Line.calls _ _ t952 a1 t955 t956 t957 t958 _ ?side1 ?side2 A72.out).mono ?_); (case side1 => repeat (first | exact (Kd.R_reads' HO954.out).2.2 | (with_reducible refine Kd.C_alloc ?_ _) | (with_reducible refine Kd.C_drewN ?_ _) | (with_reducible refine Kd.C_drew ?_))); (case side2 => exact (Kd.R_reads' HO954.out).2.1); rintro e w84 ⟨rfl, hb⟩; refine ⟨_, rfl, ?_⟩; have n0_ := Aside0.mk (Kd.R_below (by (with_reducible repeat (first | apply Kd.R_alloc | apply Kd.R_drewN | apply Kd.R_drew)); exact HO954.out) hb); have n1_ := Aside0.mk (below_step (by repeat (first | (with_reducible first | exact HB.out | apply below_alloc | apply pw_below_drewN | apply below_drew1) | exact HB.out)) hb); clear HO954; clear HB; have HO954 := n0_; have HB := n1_; clear n0_ n1_; (try clear hb); (try clear hb2); (try clear hk); (try clear hi)))
                              go_ret
                              exact ⟨by first | rfl | (simp [errW_none, errW_some] <;> rfl) | (simp [*, errW_none, errW_some] <;> rfl), by repeat (first | (with_reducible first | exact HB.out | apply below_alloc | apply pw_below_drewN | apply below_drew1) | exact HB.out)⟩
                          · rw [if_neg c73] at H
                            have c73b0 : (t958 == 2) = false := beq_eq_false_iff_ne.mpr c73
                            have c73b1 : (t958 != 2) = true := bne_iff_ne.mpr c73
                            obtain rfl := Option.some.inj H
                            go_wp2_with (first | ((with_reducible refine gate_callee (f := 59) rfl ?_); refine goesL_ (some 102) rfl rfl Tryd.func59 (by kernel_rfl) rfl #[.slice A0 l0.length c0] rfl (by (try simp only [List.map_toArray, List.map_cons, List.map_nil]); first | done | rfl | (simp only [List.length_drop, List.length_take]; rfl)) ?_; (with_reducible refine (galleylaw07_own.calls _ _ l0 t952 _ ?side1 ?side2 A71.out).mono ?_); (case side1 => repeat (first | exact (Kd.C_below HR0.out HB.out) | (with_reducible refine Kd.C_alloc ?_ _) | (with_reducible refine Kd.C_drewN ?_ _) | (with_reducible refine Kd.C_drew ?_))); (case side2 => exact HC0.out); rintro e w85 ⟨v953, rfl, ho0, hb⟩; refine ⟨_, rfl, ?_⟩; have n0_ := Aside0.mk (Kd.R_lower ho0 (below_size (by repeat (first | (with_reducible first | exact HB.out | apply below_alloc | apply pw_below_drewN | apply below_drew1) | exact HB.out)))); have n1_ := Aside0.mk (below_step (by repeat (first | (with_reducible first | exact HB.out | apply below_alloc | apply pw_below_drewN | apply below_drew1) | exact HB.out)) hb); clear HB; have HO954 := n0_; have HB := n1_; clear n0_ n1_; (try clear hb); (try clear hb2); (try clear hk); (try clear hi); (try clear ho0); obtain ⟨Ao86, co86, eo86⟩ := Kd.R_slice HO954.out; subst eo86) | ((with_reducible refine gate_callee (f := 65) rfl ?_); refine goesL_ (some 104) rfl rfl Tryd.func65 (by kernel_rfl) rfl #[.slice Ao86 t952.length co86, .int .i64 a1] rfl (by (try simp only [List.map_toArray, List.map_cons, List.map_nil]); first | done | rfl | (simp only [List.length_drop, List.length_take]; rfl)) ?_; (with_reducible refine (lines_Line.calls _ _ t952 a1 t955 t956 t957 t958 _ ?side1 ?side2 A72.out).mono ?_); (case side1 => repeat (first | exact (Kd.R_reads' HO954.out).2.2 | (with_reducible refine Kd.C_alloc ?_ _) | (with_reducible refine Kd.C_drewN ?_ _) | (with_reducible refine Kd.C_drew ?_))); (case side2 => exact (Kd.R_reads' HO954.out).2.1); rintro e w87 ⟨rfl, hb⟩; refine ⟨_, rfl, ?_⟩; have n0_ := Aside0.mk (Kd.R_below (by (with_reducible repeat (first | apply Kd.R_alloc | apply Kd.R_drewN | apply Kd.R_drew)); exact HO954.out) hb); have n1_ := Aside0.mk (below_step (by repeat (first | (with_reducible first | exact HB.out | apply below_alloc | apply pw_below_drewN | apply below_drew1) | exact HB.out)) hb); clear HO954; clear HB; have HO954 := n0_; have HB := n1_; clear n0_ n1_; (try clear hb); (try clear hb2); (try clear hk); (try clear hi)))
                            go_ret
                            exact ⟨by first | rfl | (simp [errW_none, errW_some] <;> rfl) | (simp [*, errW_none, errW_some] <;> rfl), by repeat (first | (with_reducible first | exact HB.out | apply below_alloc | apply pw_below_drewN | apply below_drew1) | exact HB.out)⟩
  · replace c4 := Bool.eq_false_iff.mpr c4
    subst c4
    have H1 : (some false) = some r := by rw [if_neg (show ¬ (false = true) by decide)] at H; exact H
    clear H
    have H := H1
    clear H1
    obtain rfl := Option.some.inj H
    go_enter Tryd.func15, Tryd.ntmps15
    go_wp2_with (first | ((with_reducible refine gate_callee (f := 56) rfl ?_); refine goesL_ (some 16) rfl rfl Tryd.func56 (by kernel_rfl) rfl #[] rfl (by (try simp only [List.map_toArray, List.map_cons, List.map_nil]); first | done | rfl | (simp only [List.length_drop, List.length_take]; rfl)) ?_; (with_reducible refine (galleylaw07_awake.calls k  false _ ?side1 A3.out).mono ?_); (case side1 => repeat (first | exact HG.out | exact Laid.below HG.out HB.out | (with_reducible refine Laid.alloc ?_ _) | (with_reducible refine Laid.drewN ?_ _) | (with_reducible refine Laid.drew ?_))); rintro e w88 ⟨rfl, hb⟩; refine ⟨_, rfl, ?_⟩; have n0_ := Aside0.mk (below_step (by repeat (first | (with_reducible first | exact HB.out | apply below_alloc | apply pw_below_drewN | apply below_drew1) | exact HB.out)) hb); clear HB; have HB := n0_; clear n0_; (try clear hb); (try clear hb2); (try clear hk); (try clear hi)))
    go_ret
    exact ⟨by first | rfl | (simp [errW_none, errW_some] <;> rfl) | (simp [*, errW_none, errW_some] <;> rfl), by repeat (first | (with_reducible first | exact HB.out | apply below_alloc | apply pw_below_drewN | apply below_drew1) | exact HB.out)⟩

end Go.Proofs.YtbomhpfckplgaaaDoor.P
