/- Texts of this claim, put together: Pb59, UWhere. -/
import Derived.Test.YtbomhpfckplgaaaDoorT0
import Derived.Test.YtbomhpfckplgaaaDoorT4
import Derived.Test.YtbomhpfckplgaaaDoorT5
namespace Go.Proofs.YtbomhpfckplgaaaDoor.P
open Go.RowKit Go.Proofs.YtbomhpfckplgaaaDoorW.PrintWords Go.Proofs.YtbomhpfckplgaaaDoorW.PrintLast Go.Proofs.YtbomhpfckplgaaaDoorW.PrintMore
attribute [local go_sem] max2_int min2_int max_two min_two max_three min_three max_four min_four   -- for this text's walks alone
set_option linter.unusedVariables false
set_option linter.unusedSimpArgs false
attribute [local go_sem high] eqA71 eqA79
noncomputable section
mutual
def lw.l0 : Nat → List Int → Int → Int → Int → Option (Bool)
 | 0, _, _, _, _ => none
 | k + 1, x0, x1, x2, x7 => if x7 ≤ (wrap64 ((x0.length : Int) + 1)) then (if x7 = (wrap64 ((x0.length : Int) + 1)) then (lw.j1 k x0 x1 x2 x7 x1) else (lw.j1 k x0 x1 x2 x7 x7)) else (some true)
def lw.j1 : Nat → List Int → Int → Int → Int → Int → Option (Bool)
 | 0, _, _, _, _, _ => none
 | k + 1, x0, x1, x2, x7, x8 => (galleylaw07_own.f x0).bind fun t1058 => ((lines_Where.f k t1058 x8).bind fun bt1061 => ((galleyref07_Where.f k x0 x8).bind fun bt1070 => ((galleylaw07_own.f x0).bind fun t1079 => ((lines_Spot.f t1079 x8 x2).bind fun bt1082 => ((galleyref07_Spot.f k x0 x8 x2).bind fun bt1086 => (if (!(bt1061.1 == bt1070.1) || (!(bt1061.2.1 == bt1070.2.1) || (!(bt1061.2.2.1 == bt1070.2.2.1) || (!(bt1061.2.2.2.1 == bt1070.2.2.2.1) || (!(bt1061.2.2.2.2.1 == bt1070.2.2.2.2.1) || (!(bt1061.2.2.2.2.2.1 == bt1070.2.2.2.2.2.1) || (!(bt1061.2.2.2.2.2.2.1 == bt1070.2.2.2.2.2.2.1)))))))) = true then (some false) else (if bt1061.2.2.2.2.2.2.2 = bt1070.2.2.2.2.2.2.2 then (if (!(bt1082.1 == bt1086.1) || (!(bt1082.2.1 == bt1086.2.1))) = true then (some false) else (if bt1082.2.2 = bt1086.2.2 then (lw.l0 k x0 x1 x2 (wrap64 (x7 + 1))) else (some false))) else (some false))))))))
end
def lw.f (k : Nat) (l0 : List Int) (a1 : Int) (a2 : Int) : Option (Bool) := (galleylaw07_awake.f k).bind fun t1056 => (if t1056 = true then ((galleylaw07_Large.f l0).bind fun t1057 => (if t1057 = true then (some true) else (lw.l0 k l0 a1 a2 (-1)))) else (some false))
set_option maxHeartbeats 8000000 in
set_option maxRecDepth 100000 in
theorem lw.calls (k : Nat) (A0 : Option Addr) (c0 : Nat) (l0 : List Int) (a1 : Int) (a2 : Int) (w : World) (hr0 : Kd.C (Kd.int .u8) w A0 l0.length l0) (hc0 : l0.length ≤ c0) (hG : Laid w) (h : lw.f k l0 a1 a2 = some true) :
  Calls Tryd.prog 18 #[.slice A0 l0.length c0, .int .i64 a1, .int .i64 a2] w fun e w' => e = .returned (.bool true) ∧ Below w.heap.size w w' := by
 have hu79 := Tryd.underlying79
 have hu71 := Tryd.underlying71
 have HG := Aside0.mk hG
 clear hG
 have HR0 := Aside0.mk hr0
 have HC0 := Aside0.mk hc0
 clear hr0 hc0
 have HB := Aside0.mk (Below.refl w.heap.size w)
 have H : ((galleylaw07_awake.f k).bind fun t1056 => (if t1056 = true then ((galleylaw07_Large.f l0).bind fun t1057 => (if t1057 = true then (some true) else (lw.l0 k l0 a1 a2 (-1)))) else (some false))) = some true := h
 clear h
 replace H := Option.bind_eq_some_iff.mp H
 obtain ⟨t1056, A40, H⟩ := H
 replace H : (if t1056 = true then ((galleylaw07_Large.f l0).bind fun t1057 => (if t1057 = true then (some true) else (lw.l0 k l0 a1 a2 (-1)))) else (some false)) = some true := H
 have A4 := Aside0.mk A40
 clear A40
 by_cases c5 : t1056 = true
 ·
  subst c5
  have H1 : ((galleylaw07_Large.f l0).bind fun t1057 => (if t1057 = true then (some true) else (lw.l0 k l0 a1 a2 (-1)))) = some true := by rw [if_pos rfl] at H; exact H
  clear H
  have H := H1
  clear H1
  replace H := Option.bind_eq_some_iff.mp H
  obtain ⟨t1057, A60, H⟩ := H
  replace H : (if t1057 = true then (some true) else (lw.l0 k l0 a1 a2 (-1))) = some true := H
  have A6 := Aside0.mk A60
  clear A60
  by_cases c7 : t1057 = true
  ·
   subst c7
   have H1 : some true = some true := rfl
   clear H
   have H := H1
   clear H1
   skip
   go_enter Tryd.func18, Tryd.ntmps18
   go_wp2_with (first | ((with_reducible refine gate_callee (f := 56) rfl ?_); refine goesL_ (some 17) rfl rfl Tryd.func56 (by kernel_rfl) rfl #[] rfl (by (try simp only [List.map_toArray, List.map_cons, List.map_nil]); first | done | rfl | (simp only [List.length_drop, List.length_take]; rfl)) ?_; (with_reducible refine (galleylaw07_awake.calls k  true _ ?side1 A4.out).mono ?_); (case side1 => repeat (first | exact HG.out | exact Laid.below HG.out HB.out | (with_reducible refine Laid.alloc ?_ _) | (with_reducible refine Laid.drewN ?_ _) | (with_reducible refine Laid.drew ?_))); rintro e w8 ⟨rfl, hb⟩; refine ⟨_, rfl, ?_⟩; have n0_ := Aside0.mk (below_step (by repeat (first | (with_reducible first | exact HB.out | apply below_alloc | apply pw_below_drewN | apply below_drew1) | exact HB.out)) hb); clear HB; have HB := n0_; clear n0_; (try clear hb); (try clear hb2); (try clear hk); (try clear hi)) | ((with_reducible refine gate_callee (f := 57) rfl ?_); refine goesL_ (some 20) rfl rfl Tryd.func57 (by kernel_rfl) rfl #[.slice A0 l0.length c0] rfl (by (try simp only [List.map_toArray, List.map_cons, List.map_nil]); first | done | rfl | (simp only [List.length_drop, List.length_take]; rfl)) ?_; (with_reducible refine (galleylaw07_Large.calls _ _ l0 true _ ?side1 ?side2 A6.out).mono ?_); (case side1 => repeat (first | exact (Kd.C_below HR0.out HB.out) | (with_reducible refine Kd.C_alloc ?_ _) | (with_reducible refine Kd.C_drewN ?_ _) | (with_reducible refine Kd.C_drew ?_))); (case side2 => exact HC0.out); rintro e w' ⟨rfl, ⟨nd, rfl⟩⟩; refine ⟨_, rfl, ?_⟩))
   go_ret
   exact ⟨by first | rfl | (simp [errW_none, errW_some] <;> rfl) | (simp [*, errW_none, errW_some] <;> rfl), by repeat (first | (with_reducible first | exact HB.out | apply below_alloc | apply pw_below_drewN | apply below_drew1) | exact HB.out)⟩
  ·
   replace c7 := Bool.eq_false_iff.mpr c7
   subst c7
   have H1 : (lw.l0 k l0 a1 a2 (-1)) = some true := by rw [if_neg (show ¬ (false = true) by decide)] at H; exact H
   clear H
   have H := H1
   clear H1
   have H' := Aside0.mk H
   clear H
   go_enter Tryd.func18, Tryd.ntmps18
   go_wp2_with (first | ((with_reducible refine gate_callee (f := 56) rfl ?_); refine goesL_ (some 17) rfl rfl Tryd.func56 (by kernel_rfl) rfl #[] rfl (by (try simp only [List.map_toArray, List.map_cons, List.map_nil]); first | done | rfl | (simp only [List.length_drop, List.length_take]; rfl)) ?_; (with_reducible refine (galleylaw07_awake.calls k  true _ ?side1 A4.out).mono ?_); (case side1 => repeat (first | exact HG.out | exact Laid.below HG.out HB.out | (with_reducible refine Laid.alloc ?_ _) | (with_reducible refine Laid.drewN ?_ _) | (with_reducible refine Laid.drew ?_))); rintro e w9 ⟨rfl, hb⟩; refine ⟨_, rfl, ?_⟩; have n0_ := Aside0.mk (below_step (by repeat (first | (with_reducible first | exact HB.out | apply below_alloc | apply pw_below_drewN | apply below_drew1) | exact HB.out)) hb); clear HB; have HB := n0_; clear n0_; (try clear hb); (try clear hb2); (try clear hk); (try clear hi)) | ((with_reducible refine gate_callee (f := 57) rfl ?_); refine goesL_ (some 20) rfl rfl Tryd.func57 (by kernel_rfl) rfl #[.slice A0 l0.length c0] rfl (by (try simp only [List.map_toArray, List.map_cons, List.map_nil]); first | done | rfl | (simp only [List.length_drop, List.length_take]; rfl)) ?_; (with_reducible refine (galleylaw07_Large.calls _ _ l0 false _ ?side1 ?side2 A6.out).mono ?_); (case side1 => repeat (first | exact (Kd.C_below HR0.out HB.out) | (with_reducible refine Kd.C_alloc ?_ _) | (with_reducible refine Kd.C_drewN ?_ _) | (with_reducible refine Kd.C_drew ?_))); (case side2 => exact HC0.out); rintro e w' ⟨rfl, ⟨nd, rfl⟩⟩; refine ⟨_, rfl, ?_⟩))
   go_loopg [7] k (fun kq v7 w' => ∃ (x7_1 : Int), v7 = .int .i64 x7_1 ∧ Aside0 (lw.l0 kq l0 a1 a2 x7_1 = some true) ∧ Aside0 (kq ≤ k) ∧ Aside0 (Below w.heap.size w w'))
   case atStart => exact ⟨((-1)), (by first | rfl | (simp; done) | (simp [*]; done)), H', ⟨Nat.le_refl _⟩, ⟨by repeat (first | (with_reducible first | exact HB.out | apply below_alloc | apply pw_below_drewN | apply below_drew1) | exact HB.out)⟩⟩
   case round =>
    clear H'
    (try clear c1); (try clear p2); (try clear c5); (try clear c7)
    obtain ⟨x7_1, rfl, HA, HK1, HB⟩ := hrel
    cases gk with
    | zero => exact absurd HA.out (by simp [lw.l0])
    | succ k1 =>
     have H := HA.out
     clear HA
     simp only [lw.l0] at H
     by_cases c10 : x7_1 ≤ (wrap64 ((l0.length : Int) + 1))
     ·
      rw [if_pos c10] at H
      have c10b0 : decide (x7_1 ≤ (wrap64 ((l0.length : Int) + 1))) = true := decide_eq_true c10
      clear c10
      have HC11 := Aside0.mk H
      clear H
      go_upto_if 33 with (fail)
      go_cut [8] (fun v8 wc => ∃ (kq : Nat) (x8_10 : Int), v8 = .int .i64 x8_10 ∧ Aside0 (lw.j1 kq l0 a1 a2 x7_1 x8_10 = some true) ∧ Aside0 (kq ≤ k1) ∧ Aside0 (Below w.heap.size w wc))
      case first =>
       have H := HC11.out
       clear HC11
       by_cases c12 : x7_1 = (wrap64 ((l0.length : Int) + 1))
       ·
        rw [if_pos c12] at H
        have c12b0 : (x7_1 == (wrap64 ((l0.length : Int) + 1))) = true := beq_iff_eq.mpr c12
        have c12b1 : (x7_1 != (wrap64 ((l0.length : Int) + 1))) = false := bne_eq_false_iff_eq.mpr c12
        clear c12
        (first | rw [c12b0] | (simp only [i64_w, i32_w]; rw [c12b0]) | skip)
        have H' := Aside0.mk H
        clear H
        go_wp2
        go_meet
        case rel => exact ⟨_, (a1), (by first | rfl | (simp; done) | (simp [*]; done)), H', ⟨by have := HK1.out; first | omega | exact Nat.le_refl _⟩, ⟨by repeat (first | (with_reducible first | exact HB.out | apply below_alloc | apply pw_below_drewN | apply below_drew1) | exact HB.out)⟩⟩
       ·
        rw [if_neg c12] at H
        have c12b0 : (x7_1 == (wrap64 ((l0.length : Int) + 1))) = false := beq_eq_false_iff_ne.mpr c12
        have c12b1 : (x7_1 != (wrap64 ((l0.length : Int) + 1))) = true := bne_iff_ne.mpr c12
        (first | rw [c12b0] | (simp only [i64_w, i32_w]; rw [c12b0]) | skip)
        have H' := Aside0.mk H
        clear H
        go_wp2
        go_meet
        case rel => exact ⟨_, (x7_1), (by first | rfl | (simp; done) | (simp [*]; done)), H', ⟨by have := HK1.out; first | omega | exact Nat.le_refl _⟩, ⟨by repeat (first | (with_reducible first | exact HB.out | apply below_alloc | apply pw_below_drewN | apply below_drew1) | exact HB.out)⟩⟩
      case rest =>
       clear HC11
       (try clear c1); (try clear p2); (try clear c5); (try clear p6); (try clear c7); (try clear c10); (try clear c10b0); (try clear c12); (try clear c12b0); (try clear c12b1)
       obtain ⟨kq, x8_10, rfl, HA, HJ10, HB⟩ := hcut
       cases kq with
       | zero => exact absurd HA.out (by simp [lw.j1])
       | succ kj10 =>
        have H := HA.out
        clear HA
        simp only [lw.j1] at H
        replace H := Option.bind_eq_some_iff.mp H
        obtain ⟨t1058, A130, H⟩ := H
        replace H : ((lines_Where.f kj10 t1058 x8_10).bind fun bt1061 => ((galleyref07_Where.f kj10 l0 x8_10).bind fun bt1070 => ((galleylaw07_own.f l0).bind fun t1079 => ((lines_Spot.f t1079 x8_10 a2).bind fun bt1082 => ((galleyref07_Spot.f kj10 l0 x8_10 a2).bind fun bt1086 => (if (!(bt1061.1 == bt1070.1) || (!(bt1061.2.1 == bt1070.2.1) || (!(bt1061.2.2.1 == bt1070.2.2.1) || (!(bt1061.2.2.2.1 == bt1070.2.2.2.1) || (!(bt1061.2.2.2.2.1 == bt1070.2.2.2.2.1) || (!(bt1061.2.2.2.2.2.1 == bt1070.2.2.2.2.2.1) || (!(bt1061.2.2.2.2.2.2.1 == bt1070.2.2.2.2.2.2.1)))))))) = true then (some false) else (if bt1061.2.2.2.2.2.2.2 = bt1070.2.2.2.2.2.2.2 then (if (!(bt1082.1 == bt1086.1) || (!(bt1082.2.1 == bt1086.2.1))) = true then (some false) else (if bt1082.2.2 = bt1086.2.2 then (lw.l0 kj10 l0 a1 a2 (wrap64 (x7_1 + 1))) else (some false))) else (some false)))))))) = some true := H
        have A13 := Aside0.mk A130
        clear A130
        replace H := Option.bind_eq_some_iff.mp H
        obtain ⟨⟨t1061, t1062, t1063, t1064, t1065, t1066, t1067, t1068⟩, A140, H⟩ := H
        replace H : ((galleyref07_Where.f kj10 l0 x8_10).bind fun bt1070 => ((galleylaw07_own.f l0).bind fun t1079 => ((lines_Spot.f t1079 x8_10 a2).bind fun bt1082 => ((galleyref07_Spot.f kj10 l0 x8_10 a2).bind fun bt1086 => (if (!(t1061 == bt1070.1) || (!(t1062 == bt1070.2.1) || (!(t1063 == bt1070.2.2.1) || (!(t1064 == bt1070.2.2.2.1) || (!(t1065 == bt1070.2.2.2.2.1) || (!(t1066 == bt1070.2.2.2.2.2.1) || (!(t1067 == bt1070.2.2.2.2.2.2.1)))))))) = true then (some false) else (if t1068 = bt1070.2.2.2.2.2.2.2 then (if (!(bt1082.1 == bt1086.1) || (!(bt1082.2.1 == bt1086.2.1))) = true then (some false) else (if bt1082.2.2 = bt1086.2.2 then (lw.l0 kj10 l0 a1 a2 (wrap64 (x7_1 + 1))) else (some false))) else (some false))))))) = some true := H
        have A14 := Aside0.mk A140
        clear A140
        replace H := Option.bind_eq_some_iff.mp H
        obtain ⟨⟨t1070, t1071, t1072, t1073, t1074, t1075, t1076, t1077⟩, A150, H⟩ := H
        replace H : ((galleylaw07_own.f l0).bind fun t1079 => ((lines_Spot.f t1079 x8_10 a2).bind fun bt1082 => ((galleyref07_Spot.f kj10 l0 x8_10 a2).bind fun bt1086 => (if (!(t1061 == t1070) || (!(t1062 == t1071) || (!(t1063 == t1072) || (!(t1064 == t1073) || (!(t1065 == t1074) || (!(t1066 == t1075) || (!(t1067 == t1076)))))))) = true then (some false) else (if t1068 = t1077 then (if (!(bt1082.1 == bt1086.1) || (!(bt1082.2.1 == bt1086.2.1))) = true then (some false) else (if bt1082.2.2 = bt1086.2.2 then (lw.l0 kj10 l0 a1 a2 (wrap64 (x7_1 + 1))) else (some false))) else (some false)))))) = some true := H
        have A15 := Aside0.mk A150
        clear A150
        replace H := Option.bind_eq_some_iff.mp H
        obtain ⟨t1079, A160, H⟩ := H
        replace H : ((lines_Spot.f t1079 x8_10 a2).bind fun bt1082 => ((galleyref07_Spot.f kj10 l0 x8_10 a2).bind fun bt1086 => (if (!(t1061 == t1070) || (!(t1062 == t1071) || (!(t1063 == t1072) || (!(t1064 == t1073) || (!(t1065 == t1074) || (!(t1066 == t1075) || (!(t1067 == t1076)))))))) = true then (some false) else (if t1068 = t1077 then (if (!(bt1082.1 == bt1086.1) || (!(bt1082.2.1 == bt1086.2.1))) = true then (some false) else (if bt1082.2.2 = bt1086.2.2 then (lw.l0 kj10 l0 a1 a2 (wrap64 (x7_1 + 1))) else (some false))) else (some false))))) = some true := H
        have A16 := Aside0.mk A160
        clear A160
        replace H := Option.bind_eq_some_iff.mp H
        obtain ⟨⟨t1082, t1083, t1084⟩, A170, H⟩ := H
        replace H : ((galleyref07_Spot.f kj10 l0 x8_10 a2).bind fun bt1086 => (if (!(t1061 == t1070) || (!(t1062 == t1071) || (!(t1063 == t1072) || (!(t1064 == t1073) || (!(t1065 == t1074) || (!(t1066 == t1075) || (!(t1067 == t1076)))))))) = true then (some false) else (if t1068 = t1077 then (if (!(t1082 == bt1086.1) || (!(t1083 == bt1086.2.1))) = true then (some false) else (if t1084 = bt1086.2.2 then (lw.l0 kj10 l0 a1 a2 (wrap64 (x7_1 + 1))) else (some false))) else (some false)))) = some true := H
        have A17 := Aside0.mk A170
        clear A170
        replace H := Option.bind_eq_some_iff.mp H
        obtain ⟨⟨t1086, t1087, t1088⟩, A180, H⟩ := H
        replace H : (if (!(t1061 == t1070) || (!(t1062 == t1071) || (!(t1063 == t1072) || (!(t1064 == t1073) || (!(t1065 == t1074) || (!(t1066 == t1075) || (!(t1067 == t1076)))))))) = true then (some false) else (if t1068 = t1077 then (if (!(t1082 == t1086) || (!(t1083 == t1087))) = true then (some false) else (if t1084 = t1088 then (lw.l0 kj10 l0 a1 a2 (wrap64 (x7_1 + 1))) else (some false))) else (some false))) = some true := H
        have A18 := Aside0.mk A180
        clear A180
        by_cases c19 : (!(t1061 == t1070) || (!(t1062 == t1071) || (!(t1063 == t1072) || (!(t1064 == t1073) || (!(t1065 == t1074) || (!(t1066 == t1075) || (!(t1067 == t1076)))))))) = true
        ·
         rw [if_pos c19] at H
         exact absurd H (by simp)
        ·
         rw [if_neg c19] at H
         have c19b0 : (!(t1061 == t1070) || (!(t1062 == t1071) || (!(t1063 == t1072) || (!(t1064 == t1073) || (!(t1065 == t1074) || (!(t1066 == t1075) || (!(t1067 == t1076)))))))) = false := by simpa using c19
         clear c19
         by_cases c44 : t1068 = t1077
         ·
          rw [if_pos c44] at H
          have c44b0 : (t1068 == t1077) = true := beq_iff_eq.mpr c44
          have c44b1 : (t1068 != t1077) = false := bne_eq_false_iff_eq.mpr c44
          clear c44
          by_cases c45 : (!(t1082 == t1086) || (!(t1083 == t1087))) = true
          ·
           rw [if_pos c45] at H
           exact absurd H (by simp)
          ·
           rw [if_neg c45] at H
           have c45b0 : (!(t1082 == t1086) || (!(t1083 == t1087))) = false := by simpa using c45
           clear c45
           by_cases c71 : t1084 = t1088
           ·
            rw [if_pos c71] at H
            have c71b0 : (t1084 == t1088) = true := beq_iff_eq.mpr c71
            have c71b1 : (t1084 != t1088) = false := bne_eq_false_iff_eq.mpr c71
            clear c71
            have H' := Aside0.mk H
            clear H
            go_wp2_with (first | ((with_reducible refine gate_callee (f := 59) rfl ?_); refine goesL_ (some 37) rfl rfl Tryd.func59 (by kernel_rfl) rfl #[.slice A0 l0.length c0] rfl (by (try simp only [List.map_toArray, List.map_cons, List.map_nil]); first | done | rfl | (simp only [List.length_drop, List.length_take]; rfl)) ?_; (with_reducible refine (galleylaw07_own.calls _ _ l0 t1058 _ ?side1 ?side2 A13.out).mono ?_); (case side1 => repeat (first | exact (Kd.C_below HR0.out HB.out) | (with_reducible refine Kd.C_alloc ?_ _) | (with_reducible refine Kd.C_drewN ?_ _) | (with_reducible refine Kd.C_drew ?_))); (case side2 => exact HC0.out); rintro e w72 ⟨v1059, rfl, ho0, hb⟩; refine ⟨_, rfl, ?_⟩; have n0_ := Aside0.mk (Kd.R_lower ho0 (below_size (by repeat (first | (with_reducible first | exact HB.out | apply below_alloc | apply pw_below_drewN | apply below_drew1) | exact HB.out)))); have n1_ := Aside0.mk (below_step (by repeat (first | (with_reducible first | exact HB.out | apply below_alloc | apply pw_below_drewN | apply below_drew1) | exact HB.out)) hb); clear HB; have HO1060 := n0_; have HB := n1_; clear n0_ n1_; (try clear hb); (try clear hb2); (try clear hk); (try clear hi); (try clear ho0); obtain ⟨Ao73, co73, eo73⟩ := Kd.R_slice HO1060.out; subst eo73) | ((with_reducible refine gate_callee (f := 62) rfl ?_); refine goesL_ (some 39) rfl rfl Tryd.func62 (by kernel_rfl) rfl #[.slice Ao73 t1058.length co73, .int .i64 x8_10] rfl (by (try simp only [List.map_toArray, List.map_cons, List.map_nil]); first | done | rfl | (simp only [List.length_drop, List.length_take]; rfl)) ?_; (with_reducible refine (lines_Where.calls kj10 _ _ t1058 x8_10 t1061 t1062 t1063 t1064 t1065 t1066 t1067 t1068 _ ?side1 ?side2 ?side3 A14.out).mono ?_); (case side1 => repeat (first | exact (Kd.R_reads' HO1060.out).2.2 | (with_reducible refine Kd.C_alloc ?_ _) | (with_reducible refine Kd.C_drewN ?_ _) | (with_reducible refine Kd.C_drew ?_))); (case side2 => exact (Kd.R_reads' HO1060.out).2.1); (case side3 => repeat (first | exact HG.out | exact Laid.below HG.out HB.out | (with_reducible refine Laid.alloc ?_ _) | (with_reducible refine Laid.drewN ?_ _) | (with_reducible refine Laid.drew ?_))); rintro e w74 ⟨rfl, hb⟩; refine ⟨_, rfl, ?_⟩; have n0_ := Aside0.mk (Kd.R_below (by (with_reducible repeat (first | apply Kd.R_alloc | apply Kd.R_drewN | apply Kd.R_drew)); exact HO1060.out) hb); have n1_ := Aside0.mk (below_step (by repeat (first | (with_reducible first | exact HB.out | apply below_alloc | apply pw_below_drewN | apply below_drew1) | exact HB.out)) hb); clear HO1060; clear HB; have HO1060 := n0_; have HB := n1_; clear n0_ n1_; (try clear hb); (try clear hb2); (try clear hk); (try clear hi)) | ((with_reducible refine gate_dst (N := 9) rfl ?_); refine box_event ?hg (N := 9) ?hd (cs := #[.int .i64 0, .int .i64 0, .int .i64 0, .int .i64 0, .int .i64 0, .int .i64 0, .int .i64 0]) (t := 79) ?hr ?_; (case hd => rfl); (case hg => rfl); (case hr => first | (go_simp; done) | (go_simp; rfl)); intro gb1069 hg w75 hbox hb; have n0_ := Aside0.mk (Kd.R_below (by (with_reducible repeat (first | apply Kd.R_alloc | apply Kd.R_drewN | apply Kd.R_drew)); exact HO1060.out) hb); have n1_ := Aside0.mk (below_step (by repeat (first | (with_reducible first | exact HB.out | apply below_alloc | apply pw_below_drewN | apply below_drew1) | exact HB.out)) hb); have n2_ := Aside0.mk (hbox); have n3_ := Aside0.mk ((by rw [hg]; exact (below_size (by repeat (first | (with_reducible first | exact HB.out | apply below_alloc | apply pw_below_drewN | apply below_drew1) | exact HB.out))) : w.heap.size ≤ gb1069)); have n4_ := Aside0.mk ((by rw [hg]; exact (below_size (by repeat (first | (with_reducible first | exact HB.out | apply below_alloc | apply pw_below_drewN | apply below_drew1) | exact HB.out))) : w.heap.size ≤ gb1069)); clear HO1060; clear HB; have HO1060 := n0_; have HB := n1_; have BK1069 := n2_; have GW1069 := n3_; have GE1069 := n4_; clear n0_ n1_ n2_ n3_ n4_; clear hb hbox hg; have hcz76_0 : w75.cell? ⟨gb1069, 0, none⟩ = some (.int .i64 0) := (blk_cell BK1069.out 0).trans rfl; have hcz76_1 : w75.cell? ⟨gb1069, 1, none⟩ = some (.int .i64 0) := (blk_cell BK1069.out 1).trans rfl; have hcz76_2 : w75.cell? ⟨gb1069, 2, none⟩ = some (.int .i64 0) := (blk_cell BK1069.out 2).trans rfl; have hcz76_3 : w75.cell? ⟨gb1069, 3, none⟩ = some (.int .i64 0) := (blk_cell BK1069.out 3).trans rfl; have hcz76_4 : w75.cell? ⟨gb1069, 4, none⟩ = some (.int .i64 0) := (blk_cell BK1069.out 4).trans rfl; have hcz76_5 : w75.cell? ⟨gb1069, 5, none⟩ = some (.int .i64 0) := (blk_cell BK1069.out 5).trans rfl; have hcz76_6 : w75.cell? ⟨gb1069, 6, none⟩ = some (.int .i64 0) := (blk_cell BK1069.out 6).trans rfl; have hfz76_0 := blk_frozen BK1069.out 0; have hfz76_1 := blk_frozen BK1069.out 1; have hfz76_2 := blk_frozen BK1069.out 2; have hfz76_3 := blk_frozen BK1069.out 3; have hfz76_4 := blk_frozen BK1069.out 4; have hfz76_5 := blk_frozen BK1069.out 5; have hfz76_6 := blk_frozen BK1069.out 6) | ((with_reducible refine gate_callee (f := 66) rfl ?_); refine goesL_ (some 45) rfl rfl Tryd.func66 (by kernel_rfl) rfl #[.slice A0 l0.length c0, .int .i64 x8_10] rfl (by (try simp only [List.map_toArray, List.map_cons, List.map_nil]); first | done | rfl | (simp only [List.length_drop, List.length_take]; rfl)) ?_; (with_reducible refine (galleyref07_Where.calls kj10 _ _ l0 x8_10 t1070 t1071 t1072 t1073 t1074 t1075 t1076 t1077 _ ?side1 ?side2 A15.out).mono ?_); (case side1 => exact Kd.C_below HR0.out (by repeat (first | (with_reducible first | exact HB.out | apply below_alloc | apply pw_below_drewN | apply below_drew1 | refine below_set ?_ GE1069.out) | exact HB.out))); (case side2 => exact HC0.out); rintro e w77 ⟨rfl, hb⟩; refine ⟨_, rfl, ?_⟩; have n0_ := Aside0.mk (Kd.R_below (by (with_reducible repeat (first | apply Kd.R_alloc | apply Kd.R_drewN | apply Kd.R_drew)); exact (Kd.R_mono (Kd.R_far (p := ⟨gb1069, 6, none⟩) (Kd.R_far (p := ⟨gb1069, 5, none⟩) (Kd.R_far (p := ⟨gb1069, 4, none⟩) (Kd.R_far (p := ⟨gb1069, 3, none⟩) (Kd.R_far (p := ⟨gb1069, 2, none⟩) (Kd.R_far (p := ⟨gb1069, 1, none⟩) (Kd.R_far (p := ⟨gb1069, 0, none⟩) (Kd.R_types HO1060.out BK1069.out (by decide)) (fun _ hk => hk.2) (.int .i64 t1061)) (fun _ hk => hk.2) (.int .i64 t1062)) (fun _ hk => hk.2) (.int .i64 t1063)) (fun _ hk => hk.2) (.int .i64 t1064)) (fun _ hk => hk.2) (.int .i64 t1065)) (fun _ hk => hk.2) (.int .i64 t1066)) (fun _ hk => hk.2) (.int .i64 t1067)) (fun _ h_ => h_.1))) hb); have n1_ := Aside0.mk (blk_below (g := gb1069) (o := .cells #[.int .i64 t1061, .int .i64 t1062, .int .i64 t1063, .int .i64 t1064, .int .i64 t1065, .int .i64 t1066, .int .i64 t1067] 79 (0, 0)) (by (with_reducible repeat (first | refine blk_drewN ?_ _ | refine blk_drew ?_ | refine blk_alloc ?_ _)); refine blk_put (cs := #[.int .i64 t1061, .int .i64 t1062, .int .i64 t1063, .int .i64 t1064, .int .i64 t1065, .int .i64 t1066, .int .i64 0]) ?_ 6 _ rfl; (with_reducible repeat (first | refine blk_drewN ?_ _ | refine blk_drew ?_ | refine blk_alloc ?_ _)); refine blk_put (cs := #[.int .i64 t1061, .int .i64 t1062, .int .i64 t1063, .int .i64 t1064, .int .i64 t1065, .int .i64 0, .int .i64 0]) ?_ 5 _ rfl; (with_reducible repeat (first | refine blk_drewN ?_ _ | refine blk_drew ?_ | refine blk_alloc ?_ _)); refine blk_put (cs := #[.int .i64 t1061, .int .i64 t1062, .int .i64 t1063, .int .i64 t1064, .int .i64 0, .int .i64 0, .int .i64 0]) ?_ 4 _ rfl; (with_reducible repeat (first | refine blk_drewN ?_ _ | refine blk_drew ?_ | refine blk_alloc ?_ _)); refine blk_put (cs := #[.int .i64 t1061, .int .i64 t1062, .int .i64 t1063, .int .i64 0, .int .i64 0, .int .i64 0, .int .i64 0]) ?_ 3 _ rfl; (with_reducible repeat (first | refine blk_drewN ?_ _ | refine blk_drew ?_ | refine blk_alloc ?_ _)); refine blk_put (cs := #[.int .i64 t1061, .int .i64 t1062, .int .i64 0, .int .i64 0, .int .i64 0, .int .i64 0, .int .i64 0]) ?_ 2 _ rfl; (with_reducible repeat (first | refine blk_drewN ?_ _ | refine blk_drew ?_ | refine blk_alloc ?_ _)); refine blk_put (cs := #[.int .i64 t1061, .int .i64 0, .int .i64 0, .int .i64 0, .int .i64 0, .int .i64 0, .int .i64 0]) ?_ 1 _ rfl; (with_reducible repeat (first | refine blk_drewN ?_ _ | refine blk_drew ?_ | refine blk_alloc ?_ _)); refine blk_put (cs := #[.int .i64 0, .int .i64 0, .int .i64 0, .int .i64 0, .int .i64 0, .int .i64 0, .int .i64 0]) ?_ 0 _ rfl; (with_reducible repeat (first | refine blk_drewN ?_ _ | refine blk_drew ?_ | refine blk_alloc ?_ _)); exact BK1069.out) hb); have n2_ := Aside0.mk (below_step (by repeat (first | (with_reducible first | exact HB.out | apply below_alloc | apply pw_below_drewN | apply below_drew1 | refine below_set ?_ GE1069.out) | exact HB.out)) hb); clear HO1060; clear BK1069; clear HB; have HO1060 := n0_; have BK1069 := n1_; have HB := n2_; clear n0_ n1_ n2_; (try clear hb); (try clear hb2); (try clear hk); (try clear hi)) | ((with_reducible refine gate_dst (N := 11) rfl ?_); refine box_event ?hg (N := 11) ?hd (cs := #[.int .i64 0, .int .i64 0, .int .i64 0, .int .i64 0, .int .i64 0, .int .i64 0, .int .i64 0]) (t := 79) ?hr ?_; (case hd => rfl); (case hg => rfl); (case hr => first | (go_simp; done) | (go_simp; rfl)); intro gb1078 hg w78 hbox hb; have n0_ := Aside0.mk (Kd.R_below (by (with_reducible repeat (first | apply Kd.R_alloc | apply Kd.R_drewN | apply Kd.R_drew)); exact HO1060.out) hb); have n1_ := Aside0.mk (blk_below (g := gb1069) (o := .cells #[.int .i64 t1061, .int .i64 t1062, .int .i64 t1063, .int .i64 t1064, .int .i64 t1065, .int .i64 t1066, .int .i64 t1067] 79 (0, 0)) (by (with_reducible repeat (first | refine blk_drewN ?_ _ | refine blk_drew ?_ | refine blk_alloc ?_ _)); exact BK1069.out) hb); have n2_ := Aside0.mk (below_step (by repeat (first | (with_reducible first | exact HB.out | apply below_alloc | apply pw_below_drewN | apply below_drew1 | refine below_set ?_ GE1069.out) | exact HB.out)) hb); have n3_ := Aside0.mk (hbox); have n4_ := Aside0.mk ((by rw [hg]; exact (below_size (by repeat (first | (with_reducible first | exact HB.out | apply below_alloc | apply pw_below_drewN | apply below_drew1 | refine below_set ?_ GE1069.out) | exact HB.out))) : w.heap.size ≤ gb1078)); have n5_ := Aside0.mk ((by rw [hg]; exact (below_size (by repeat (first | (with_reducible first | exact HB.out | apply below_alloc | apply pw_below_drewN | apply below_drew1 | refine below_set ?_ GE1069.out) | exact HB.out))) : w.heap.size ≤ gb1078)); have n6_ := Aside0.mk ((by rw [hg]; exact Nat.ne_of_lt (blk_lt (g := gb1069) (o := .cells #[.int .i64 t1061, .int .i64 t1062, .int .i64 t1063, .int .i64 t1064, .int .i64 t1065, .int .i64 t1066, .int .i64 t1067] 79 (0, 0)) (by (with_reducible repeat (first | refine blk_drewN ?_ _ | refine blk_drew ?_ | refine blk_alloc ?_ _)); exact BK1069.out)) : gb1069 ≠ gb1078)); have n7_ := Aside0.mk ((by rw [hg]; exact Nat.ne_of_gt (blk_lt (g := gb1069) (o := .cells #[.int .i64 t1061, .int .i64 t1062, .int .i64 t1063, .int .i64 t1064, .int .i64 t1065, .int .i64 t1066, .int .i64 t1067] 79 (0, 0)) (by (with_reducible repeat (first | refine blk_drewN ?_ _ | refine blk_drew ?_ | refine blk_alloc ?_ _)); exact BK1069.out)) : gb1078 ≠ gb1069)); clear HO1060; clear BK1069; clear HB; have HO1060 := n0_; have BK1069 := n1_; have HB := n2_; have BK1078 := n3_; have GW1078 := n4_; have GE1078 := n5_; have NB1069_1078 := n6_; have NB1078_1069 := n7_; clear n0_ n1_ n2_ n3_ n4_ n5_ n6_ n7_; clear hb hbox hg; have hnb79 := NB1078_1069.out; have hnc79 := NB1069_1078.out; have hcz80_0 : w78.cell? ⟨gb1078, 0, none⟩ = some (.int .i64 0) := (blk_cell BK1078.out 0).trans rfl; have hcz80_1 : w78.cell? ⟨gb1078, 1, none⟩ = some (.int .i64 0) := (blk_cell BK1078.out 1).trans rfl; have hcz80_2 : w78.cell? ⟨gb1078, 2, none⟩ = some (.int .i64 0) := (blk_cell BK1078.out 2).trans rfl; have hcz80_3 : w78.cell? ⟨gb1078, 3, none⟩ = some (.int .i64 0) := (blk_cell BK1078.out 3).trans rfl; have hcz80_4 : w78.cell? ⟨gb1078, 4, none⟩ = some (.int .i64 0) := (blk_cell BK1078.out 4).trans rfl; have hcz80_5 : w78.cell? ⟨gb1078, 5, none⟩ = some (.int .i64 0) := (blk_cell BK1078.out 5).trans rfl; have hcz80_6 : w78.cell? ⟨gb1078, 6, none⟩ = some (.int .i64 0) := (blk_cell BK1078.out 6).trans rfl; have hfz80_0 := blk_frozen BK1078.out 0; have hfz80_1 := blk_frozen BK1078.out 1; have hfz80_2 := blk_frozen BK1078.out 2; have hfz80_3 := blk_frozen BK1078.out 3; have hfz80_4 := blk_frozen BK1078.out 4; have hfz80_5 := blk_frozen BK1078.out 5; have hfz80_6 := blk_frozen BK1078.out 6) | ((with_reducible refine gate_callee (f := 59) rfl ?_); refine goesL_ (some 50) rfl rfl Tryd.func59 (by kernel_rfl) rfl #[.slice A0 l0.length c0] rfl (by (try simp only [List.map_toArray, List.map_cons, List.map_nil]); first | done | rfl | (simp only [List.length_drop, List.length_take]; rfl)) ?_; (with_reducible refine (galleylaw07_own.calls _ _ l0 t1079 _ ?side1 ?side2 A16.out).mono ?_); (case side1 => exact Kd.C_below HR0.out (by repeat (first | (with_reducible first | exact HB.out | apply below_alloc | apply pw_below_drewN | apply below_drew1 | refine below_set ?_ GE1069.out | refine below_set ?_ GE1078.out) | exact HB.out))); (case side2 => exact HC0.out); rintro e w81 ⟨v1080, rfl, ho0, hb⟩; refine ⟨_, rfl, ?_⟩; have n0_ := Aside0.mk (Kd.R_elder' (by (with_reducible repeat (first | apply Kd.R_alloc | apply Kd.R_drewN | apply Kd.R_drew)); exact (Kd.R_mono (Kd.R_far (p := ⟨gb1078, 6, none⟩) (Kd.R_far (p := ⟨gb1078, 5, none⟩) (Kd.R_far (p := ⟨gb1078, 4, none⟩) (Kd.R_far (p := ⟨gb1078, 3, none⟩) (Kd.R_far (p := ⟨gb1078, 2, none⟩) (Kd.R_far (p := ⟨gb1078, 1, none⟩) (Kd.R_far (p := ⟨gb1078, 0, none⟩) (Kd.R_types HO1060.out BK1078.out (by decide)) (fun _ hk => hk.2) (.int .i64 t1070)) (fun _ hk => hk.2) (.int .i64 t1071)) (fun _ hk => hk.2) (.int .i64 t1072)) (fun _ hk => hk.2) (.int .i64 t1073)) (fun _ hk => hk.2) (.int .i64 t1074)) (fun _ hk => hk.2) (.int .i64 t1075)) (fun _ hk => hk.2) (.int .i64 t1076)) (fun _ h_ => h_.1))) (Kd.R_base ho0) hb); have n1_ := Aside0.mk (Kd.R_lower (Kd.R_new' ho0 (Kd.R_lt (by (with_reducible repeat (first | apply Kd.R_alloc | apply Kd.R_drewN | apply Kd.R_drew)); exact (Kd.R_mono (Kd.R_far (p := ⟨gb1078, 6, none⟩) (Kd.R_far (p := ⟨gb1078, 5, none⟩) (Kd.R_far (p := ⟨gb1078, 4, none⟩) (Kd.R_far (p := ⟨gb1078, 3, none⟩) (Kd.R_far (p := ⟨gb1078, 2, none⟩) (Kd.R_far (p := ⟨gb1078, 1, none⟩) (Kd.R_far (p := ⟨gb1078, 0, none⟩) (Kd.R_types HO1060.out BK1078.out (by decide)) (fun _ hk => hk.2) (.int .i64 t1070)) (fun _ hk => hk.2) (.int .i64 t1071)) (fun _ hk => hk.2) (.int .i64 t1072)) (fun _ hk => hk.2) (.int .i64 t1073)) (fun _ hk => hk.2) (.int .i64 t1074)) (fun _ hk => hk.2) (.int .i64 t1075)) (fun _ hk => hk.2) (.int .i64 t1076)) (fun _ h_ => h_.1))))) (below_size (by repeat (first | (with_reducible first | exact HB.out | apply below_alloc | apply pw_below_drewN | apply below_drew1 | refine below_set ?_ GE1069.out | refine below_set ?_ GE1078.out) | exact HB.out)))); have n2_ := Aside0.mk (blk_below (g := gb1069) (o := .cells #[.int .i64 t1061, .int .i64 t1062, .int .i64 t1063, .int .i64 t1064, .int .i64 t1065, .int .i64 t1066, .int .i64 t1067] 79 (0, 0)) (by (with_reducible repeat (first | refine blk_drewN ?_ _ | refine blk_drew ?_ | refine blk_alloc ?_ _)); refine blk_far ?_ NB1069_1078.out _; (with_reducible repeat (first | refine blk_drewN ?_ _ | refine blk_drew ?_ | refine blk_alloc ?_ _)); refine blk_far ?_ NB1069_1078.out _; (with_reducible repeat (first | refine blk_drewN ?_ _ | refine blk_drew ?_ | refine blk_alloc ?_ _)); refine blk_far ?_ NB1069_1078.out _; (with_reducible repeat (first | refine blk_drewN ?_ _ | refine blk_drew ?_ | refine blk_alloc ?_ _)); refine blk_far ?_ NB1069_1078.out _; (with_reducible repeat (first | refine blk_drewN ?_ _ | refine blk_drew ?_ | refine blk_alloc ?_ _)); refine blk_far ?_ NB1069_1078.out _; (with_reducible repeat (first | refine blk_drewN ?_ _ | refine blk_drew ?_ | refine blk_alloc ?_ _)); refine blk_far ?_ NB1069_1078.out _; (with_reducible repeat (first | refine blk_drewN ?_ _ | refine blk_drew ?_ | refine blk_alloc ?_ _)); refine blk_far ?_ NB1069_1078.out _; (with_reducible repeat (first | refine blk_drewN ?_ _ | refine blk_drew ?_ | refine blk_alloc ?_ _)); exact BK1069.out) hb); have n3_ := Aside0.mk (blk_below (g := gb1078) (o := .cells #[.int .i64 t1070, .int .i64 t1071, .int .i64 t1072, .int .i64 t1073, .int .i64 t1074, .int .i64 t1075, .int .i64 t1076] 79 (0, 0)) (by (with_reducible repeat (first | refine blk_drewN ?_ _ | refine blk_drew ?_ | refine blk_alloc ?_ _)); refine blk_put (cs := #[.int .i64 t1070, .int .i64 t1071, .int .i64 t1072, .int .i64 t1073, .int .i64 t1074, .int .i64 t1075, .int .i64 0]) ?_ 6 _ rfl; (with_reducible repeat (first | refine blk_drewN ?_ _ | refine blk_drew ?_ | refine blk_alloc ?_ _)); refine blk_put (cs := #[.int .i64 t1070, .int .i64 t1071, .int .i64 t1072, .int .i64 t1073, .int .i64 t1074, .int .i64 0, .int .i64 0]) ?_ 5 _ rfl; (with_reducible repeat (first | refine blk_drewN ?_ _ | refine blk_drew ?_ | refine blk_alloc ?_ _)); refine blk_put (cs := #[.int .i64 t1070, .int .i64 t1071, .int .i64 t1072, .int .i64 t1073, .int .i64 0, .int .i64 0, .int .i64 0]) ?_ 4 _ rfl; (with_reducible repeat (first | refine blk_drewN ?_ _ | refine blk_drew ?_ | refine blk_alloc ?_ _)); refine blk_put (cs := #[.int .i64 t1070, .int .i64 t1071, .int .i64 t1072, .int .i64 0, .int .i64 0, .int .i64 0, .int .i64 0]) ?_ 3 _ rfl; (with_reducible repeat (first | refine blk_drewN ?_ _ | refine blk_drew ?_ | refine blk_alloc ?_ _)); refine blk_put (cs := #[.int .i64 t1070, .int .i64 t1071, .int .i64 0, .int .i64 0, .int .i64 0, .int .i64 0, .int .i64 0]) ?_ 2 _ rfl; (with_reducible repeat (first | refine blk_drewN ?_ _ | refine blk_drew ?_ | refine blk_alloc ?_ _)); refine blk_put (cs := #[.int .i64 t1070, .int .i64 0, .int .i64 0, .int .i64 0, .int .i64 0, .int .i64 0, .int .i64 0]) ?_ 1 _ rfl; (with_reducible repeat (first | refine blk_drewN ?_ _ | refine blk_drew ?_ | refine blk_alloc ?_ _)); refine blk_put (cs := #[.int .i64 0, .int .i64 0, .int .i64 0, .int .i64 0, .int .i64 0, .int .i64 0, .int .i64 0]) ?_ 0 _ rfl; (with_reducible repeat (first | refine blk_drewN ?_ _ | refine blk_drew ?_ | refine blk_alloc ?_ _)); exact BK1078.out) hb); have n4_ := Aside0.mk (below_step (by repeat (first | (with_reducible first | exact HB.out | apply below_alloc | apply pw_below_drewN | apply below_drew1 | refine below_set ?_ GE1069.out | refine below_set ?_ GE1078.out) | exact HB.out)) hb); clear HO1060; clear BK1069; clear BK1078; clear HB; have HO1060 := n0_; have HO1081 := n1_; have BK1069 := n2_; have BK1078 := n3_; have HB := n4_; clear n0_ n1_ n2_ n3_ n4_; (try clear hb); (try clear hb2); (try clear hk); (try clear hi); (try clear ho0); obtain ⟨Ao82, co82, eo82⟩ := Kd.R_slice HO1081.out; subst eo82) | ((with_reducible refine gate_callee (f := 67) rfl ?_); refine goesL_ (some 53) rfl rfl Tryd.func67 (by kernel_rfl) rfl #[.slice Ao82 t1079.length co82, .int .i64 x8_10, .int .i64 a2] rfl (by (try simp only [List.map_toArray, List.map_cons, List.map_nil]); first | done | rfl | (simp only [List.length_drop, List.length_take]; rfl)) ?_; (with_reducible refine (lines_Spot.calls _ _ t1079 x8_10 a2 t1082 t1083 t1084 _ ?side1 ?side2 ?side3 A17.out).mono ?_); (case side1 => repeat (first | exact (Kd.R_reads' HO1081.out).2.2 | (with_reducible refine Kd.C_alloc ?_ _) | (with_reducible refine Kd.C_drewN ?_ _) | (with_reducible refine Kd.C_drew ?_))); (case side2 => exact (Kd.R_reads' HO1081.out).2.1); (case side3 => repeat (first | exact HG.out | exact Laid.below HG.out HB.out | (with_reducible refine Laid.alloc ?_ _) | (with_reducible refine Laid.drewN ?_ _) | (with_reducible refine Laid.drew ?_))); rintro e w83 ⟨rfl, hb⟩; refine ⟨_, rfl, ?_⟩; have n0_ := Aside0.mk (Kd.R_below (by (with_reducible repeat (first | apply Kd.R_alloc | apply Kd.R_drewN | apply Kd.R_drew)); exact HO1060.out) hb); have n1_ := Aside0.mk (Kd.R_below (by (with_reducible repeat (first | apply Kd.R_alloc | apply Kd.R_drewN | apply Kd.R_drew)); exact HO1081.out) hb); have n2_ := Aside0.mk (blk_below (g := gb1069) (o := .cells #[.int .i64 t1061, .int .i64 t1062, .int .i64 t1063, .int .i64 t1064, .int .i64 t1065, .int .i64 t1066, .int .i64 t1067] 79 (0, 0)) (by (with_reducible repeat (first | refine blk_drewN ?_ _ | refine blk_drew ?_ | refine blk_alloc ?_ _)); exact BK1069.out) hb); have n3_ := Aside0.mk (blk_below (g := gb1078) (o := .cells #[.int .i64 t1070, .int .i64 t1071, .int .i64 t1072, .int .i64 t1073, .int .i64 t1074, .int .i64 t1075, .int .i64 t1076] 79 (0, 0)) (by (with_reducible repeat (first | refine blk_drewN ?_ _ | refine blk_drew ?_ | refine blk_alloc ?_ _)); exact BK1078.out) hb); have n4_ := Aside0.mk (below_step (by repeat (first | (with_reducible first | exact HB.out | apply below_alloc | apply pw_below_drewN | apply below_drew1 | refine below_set ?_ GE1069.out | refine below_set ?_ GE1078.out) | exact HB.out)) hb); clear HO1060; clear HO1081; clear BK1069; clear BK1078; clear HB; have HO1060 := n0_; have HO1081 := n1_; have BK1069 := n2_; have BK1078 := n3_; have HB := n4_; clear n0_ n1_ n2_ n3_ n4_; (try clear hb); (try clear hb2); (try clear hk); (try clear hi)) | ((with_reducible refine gate_dst (N := 13) rfl ?_); refine box_event ?hg (N := 13) ?hd (cs := #[.int .i64 0, .int .i64 0]) (t := 71) ?hr ?_; (case hd => rfl); (case hg => rfl); (case hr => first | (go_simp; done) | (go_simp; rfl)); intro gb1085 hg w84 hbox hb; have n0_ := Aside0.mk (Kd.R_below (by (with_reducible repeat (first | apply Kd.R_alloc | apply Kd.R_drewN | apply Kd.R_drew)); exact HO1060.out) hb); have n1_ := Aside0.mk (Kd.R_below (by (with_reducible repeat (first | apply Kd.R_alloc | apply Kd.R_drewN | apply Kd.R_drew)); exact HO1081.out) hb); have n2_ := Aside0.mk (blk_below (g := gb1069) (o := .cells #[.int .i64 t1061, .int .i64 t1062, .int .i64 t1063, .int .i64 t1064, .int .i64 t1065, .int .i64 t1066, .int .i64 t1067] 79 (0, 0)) (by (with_reducible repeat (first | refine blk_drewN ?_ _ | refine blk_drew ?_ | refine blk_alloc ?_ _)); exact BK1069.out) hb); have n3_ := Aside0.mk (blk_below (g := gb1078) (o := .cells #[.int .i64 t1070, .int .i64 t1071, .int .i64 t1072, .int .i64 t1073, .int .i64 t1074, .int .i64 t1075, .int .i64 t1076] 79 (0, 0)) (by (with_reducible repeat (first | refine blk_drewN ?_ _ | refine blk_drew ?_ | refine blk_alloc ?_ _)); exact BK1078.out) hb); have n4_ := Aside0.mk (below_step (by repeat (first | (with_reducible first | exact HB.out | apply below_alloc | apply pw_below_drewN | apply below_drew1 | refine below_set ?_ GE1069.out | refine below_set ?_ GE1078.out) | exact HB.out)) hb); have n5_ := Aside0.mk (hbox); have n6_ := Aside0.mk ((by rw [hg]; exact (below_size (by repeat (first | (with_reducible first | exact HB.out | apply below_alloc | apply pw_below_drewN | apply below_drew1 | refine below_set ?_ GE1069.out | refine below_set ?_ GE1078.out) | exact HB.out))) : w.heap.size ≤ gb1085)); have n7_ := Aside0.mk ((by rw [hg]; exact (below_size (by repeat (first | (with_reducible first | exact HB.out | apply below_alloc | apply pw_below_drewN | apply below_drew1 | refine below_set ?_ GE1069.out | refine below_set ?_ GE1078.out) | exact HB.out))) : w.heap.size ≤ gb1085)); have n8_ := Aside0.mk ((by rw [hg]; exact Nat.ne_of_lt (blk_lt (g := gb1069) (o := .cells #[.int .i64 t1061, .int .i64 t1062, .int .i64 t1063, .int .i64 t1064, .int .i64 t1065, .int .i64 t1066, .int .i64 t1067] 79 (0, 0)) (by (with_reducible repeat (first | refine blk_drewN ?_ _ | refine blk_drew ?_ | refine blk_alloc ?_ _)); exact BK1069.out)) : gb1069 ≠ gb1085)); have n9_ := Aside0.mk ((by rw [hg]; exact Nat.ne_of_gt (blk_lt (g := gb1069) (o := .cells #[.int .i64 t1061, .int .i64 t1062, .int .i64 t1063, .int .i64 t1064, .int .i64 t1065, .int .i64 t1066, .int .i64 t1067] 79 (0, 0)) (by (with_reducible repeat (first | refine blk_drewN ?_ _ | refine blk_drew ?_ | refine blk_alloc ?_ _)); exact BK1069.out)) : gb1085 ≠ gb1069)); have n10_ := Aside0.mk ((by rw [hg]; exact Nat.ne_of_lt (blk_lt (g := gb1078) (o := .cells #[.int .i64 t1070, .int .i64 t1071, .int .i64 t1072, .int .i64 t1073, .int .i64 t1074, .int .i64 t1075, .int .i64 t1076] 79 (0, 0)) (by (with_reducible repeat (first | refine blk_drewN ?_ _ | refine blk_drew ?_ | refine blk_alloc ?_ _)); exact BK1078.out)) : gb1078 ≠ gb1085)); have n11_ := Aside0.mk ((by rw [hg]; exact Nat.ne_of_gt (blk_lt (g := gb1078) (o := .cells #[.int .i64 t1070, .int .i64 t1071, .int .i64 t1072, .int .i64 t1073, .int .i64 t1074, .int .i64 t1075, .int .i64 t1076] 79 (0, 0)) (by (with_reducible repeat (first | refine blk_drewN ?_ _ | refine blk_drew ?_ | refine blk_alloc ?_ _)); exact BK1078.out)) : gb1085 ≠ gb1078)); clear HO1060; clear HO1081; clear BK1069; clear BK1078; clear HB; have HO1060 := n0_; have HO1081 := n1_; have BK1069 := n2_; have BK1078 := n3_; have HB := n4_; have BK1085 := n5_; have GW1085 := n6_; have GE1085 := n7_; have NB1069_1085 := n8_; have NB1085_1069 := n9_; have NB1078_1085 := n10_; have NB1085_1078 := n11_; clear n0_ n1_ n2_ n3_ n4_ n5_ n6_ n7_ n8_ n9_ n10_ n11_; clear hb hbox hg; have hnb85 := NB1085_1069.out; have hnc85 := NB1069_1085.out; have hnb86 := NB1085_1078.out; have hnc86 := NB1078_1085.out; have hcz87_0 : w84.cell? ⟨gb1085, 0, none⟩ = some (.int .i64 0) := (blk_cell BK1085.out 0).trans rfl; have hcz87_1 : w84.cell? ⟨gb1085, 1, none⟩ = some (.int .i64 0) := (blk_cell BK1085.out 1).trans rfl; have hfz87_0 := blk_frozen BK1085.out 0; have hfz87_1 := blk_frozen BK1085.out 1) | ((with_reducible refine gate_callee (f := 68) rfl ?_); refine goesL_ (some 60) rfl rfl Tryd.func68 (by kernel_rfl) rfl #[.slice A0 l0.length c0, .int .i64 x8_10, .int .i64 a2] rfl (by (try simp only [List.map_toArray, List.map_cons, List.map_nil]); first | done | rfl | (simp only [List.length_drop, List.length_take]; rfl)) ?_; (with_reducible refine (galleyref07_Spot.calls kj10 _ _ l0 x8_10 a2 t1086 t1087 t1088 _ ?side1 ?side2 A18.out).mono ?_); (case side1 => exact Kd.C_below HR0.out (by repeat (first | (with_reducible first | exact HB.out | apply below_alloc | apply pw_below_drewN | apply below_drew1 | refine below_set ?_ GE1069.out | refine below_set ?_ GE1078.out | refine below_set ?_ GE1085.out) | exact HB.out))); (case side2 => exact HC0.out); rintro e w88 ⟨rfl, hb⟩; refine ⟨_, rfl, ?_⟩; have n0_ := Aside0.mk (Kd.R_below (by (with_reducible repeat (first | apply Kd.R_alloc | apply Kd.R_drewN | apply Kd.R_drew)); exact (Kd.R_mono (Kd.R_far (p := ⟨gb1085, 1, none⟩) (Kd.R_far (p := ⟨gb1085, 0, none⟩) (Kd.R_types HO1060.out BK1085.out (by decide)) (fun _ hk => hk.2) (.int .i64 t1082)) (fun _ hk => hk.2) (.int .i64 t1083)) (fun _ h_ => h_.1))) hb); have n1_ := Aside0.mk (Kd.R_below (by (with_reducible repeat (first | apply Kd.R_alloc | apply Kd.R_drewN | apply Kd.R_drew)); exact (Kd.R_mono (Kd.R_far (p := ⟨gb1085, 1, none⟩) (Kd.R_far (p := ⟨gb1085, 0, none⟩) (Kd.R_types HO1081.out BK1085.out (by decide)) (fun _ hk => hk.2) (.int .i64 t1082)) (fun _ hk => hk.2) (.int .i64 t1083)) (fun _ h_ => h_.1))) hb); have n2_ := Aside0.mk (blk_below (g := gb1069) (o := .cells #[.int .i64 t1061, .int .i64 t1062, .int .i64 t1063, .int .i64 t1064, .int .i64 t1065, .int .i64 t1066, .int .i64 t1067] 79 (0, 0)) (by (with_reducible repeat (first | refine blk_drewN ?_ _ | refine blk_drew ?_ | refine blk_alloc ?_ _)); refine blk_far ?_ NB1069_1085.out _; (with_reducible repeat (first | refine blk_drewN ?_ _ | refine blk_drew ?_ | refine blk_alloc ?_ _)); refine blk_far ?_ NB1069_1085.out _; (with_reducible repeat (first | refine blk_drewN ?_ _ | refine blk_drew ?_ | refine blk_alloc ?_ _)); exact BK1069.out) hb); have n3_ := Aside0.mk (blk_below (g := gb1078) (o := .cells #[.int .i64 t1070, .int .i64 t1071, .int .i64 t1072, .int .i64 t1073, .int .i64 t1074, .int .i64 t1075, .int .i64 t1076] 79 (0, 0)) (by (with_reducible repeat (first | refine blk_drewN ?_ _ | refine blk_drew ?_ | refine blk_alloc ?_ _)); refine blk_far ?_ NB1078_1085.out _; (with_reducible repeat (first | refine blk_drewN ?_ _ | refine blk_drew ?_ | refine blk_alloc ?_ _)); refine blk_far ?_ NB1078_1085.out _; (with_reducible repeat (first | refine blk_drewN ?_ _ | refine blk_drew ?_ | refine blk_alloc ?_ _)); exact BK1078.out) hb); have n4_ := Aside0.mk (blk_below (g := gb1085) (o := .cells #[.int .i64 t1082, .int .i64 t1083] 71 (0, 0)) (by (with_reducible repeat (first | refine blk_drewN ?_ _ | refine blk_drew ?_ | refine blk_alloc ?_ _)); refine blk_put (cs := #[.int .i64 t1082, .int .i64 0]) ?_ 1 _ rfl; (with_reducible repeat (first | refine blk_drewN ?_ _ | refine blk_drew ?_ | refine blk_alloc ?_ _)); refine blk_put (cs := #[.int .i64 0, .int .i64 0]) ?_ 0 _ rfl; (with_reducible repeat (first | refine blk_drewN ?_ _ | refine blk_drew ?_ | refine blk_alloc ?_ _)); exact BK1085.out) hb); have n5_ := Aside0.mk (below_step (by repeat (first | (with_reducible first | exact HB.out | apply below_alloc | apply pw_below_drewN | apply below_drew1 | refine below_set ?_ GE1069.out | refine below_set ?_ GE1078.out | refine below_set ?_ GE1085.out) | exact HB.out)) hb); clear HO1060; clear HO1081; clear BK1069; clear BK1078; clear BK1085; clear HB; have HO1060 := n0_; have HO1081 := n1_; have BK1069 := n2_; have BK1078 := n3_; have BK1085 := n4_; have HB := n5_; clear n0_ n1_ n2_ n3_ n4_ n5_; (try clear hb); (try clear hb2); (try clear hk); (try clear hi)) | ((with_reducible refine gate_dst (N := 15) rfl ?_); refine box_event ?hg (N := 15) ?hd (cs := #[.int .i64 0, .int .i64 0]) (t := 71) ?hr ?_; (case hd => rfl); (case hg => rfl); (case hr => first | (go_simp; done) | (go_simp; rfl)); intro gb1089 hg w89 hbox hb; have n0_ := Aside0.mk (Kd.R_below (by (with_reducible repeat (first | apply Kd.R_alloc | apply Kd.R_drewN | apply Kd.R_drew)); exact HO1060.out) hb); have n1_ := Aside0.mk (Kd.R_below (by (with_reducible repeat (first | apply Kd.R_alloc | apply Kd.R_drewN | apply Kd.R_drew)); exact HO1081.out) hb); have n2_ := Aside0.mk (blk_below (g := gb1069) (o := .cells #[.int .i64 t1061, .int .i64 t1062, .int .i64 t1063, .int .i64 t1064, .int .i64 t1065, .int .i64 t1066, .int .i64 t1067] 79 (0, 0)) (by (with_reducible repeat (first | refine blk_drewN ?_ _ | refine blk_drew ?_ | refine blk_alloc ?_ _)); exact BK1069.out) hb); have n3_ := Aside0.mk (blk_below (g := gb1078) (o := .cells #[.int .i64 t1070, .int .i64 t1071, .int .i64 t1072, .int .i64 t1073, .int .i64 t1074, .int .i64 t1075, .int .i64 t1076] 79 (0, 0)) (by (with_reducible repeat (first | refine blk_drewN ?_ _ | refine blk_drew ?_ | refine blk_alloc ?_ _)); exact BK1078.out) hb); have n4_ := Aside0.mk (blk_below (g := gb1085) (o := .cells #[.int .i64 t1082, .int .i64 t1083] 71 (0, 0)) (by (with_reducible repeat (first | refine blk_drewN ?_ _ | refine blk_drew ?_ | refine blk_alloc ?_ _)); exact BK1085.out) hb); have n5_ := Aside0.mk (below_step (by repeat (first | (with_reducible first | exact HB.out | apply below_alloc | apply pw_below_drewN | apply below_drew1 | refine below_set ?_ GE1069.out | refine below_set ?_ GE1078.out | refine below_set ?_ GE1085.out) | exact HB.out)) hb); have n6_ := Aside0.mk (hbox); have n7_ := Aside0.mk ((by rw [hg]; exact (below_size (by repeat (first | (with_reducible first | exact HB.out | apply below_alloc | apply pw_below_drewN | apply below_drew1 | refine below_set ?_ GE1069.out | refine below_set ?_ GE1078.out | refine below_set ?_ GE1085.out) | exact HB.out))) : w.heap.size ≤ gb1089)); have n8_ := Aside0.mk ((by rw [hg]; exact (below_size (by repeat (first | (with_reducible first | exact HB.out | apply below_alloc | apply pw_below_drewN | apply below_drew1 | refine below_set ?_ GE1069.out | refine below_set ?_ GE1078.out | refine below_set ?_ GE1085.out) | exact HB.out))) : w.heap.size ≤ gb1089)); have n9_ := Aside0.mk ((by rw [hg]; exact Nat.ne_of_lt (blk_lt (g := gb1069) (o := .cells #[.int .i64 t1061, .int .i64 t1062, .int .i64 t1063, .int .i64 t1064, .int .i64 t1065, .int .i64 t1066, .int .i64 t1067] 79 (0, 0)) (by (with_reducible repeat (first | refine blk_drewN ?_ _ | refine blk_drew ?_ | refine blk_alloc ?_ _)); exact BK1069.out)) : gb1069 ≠ gb1089)); have n10_ := Aside0.mk ((by rw [hg]; exact Nat.ne_of_gt (blk_lt (g := gb1069) (o := .cells #[.int .i64 t1061, .int .i64 t1062, .int .i64 t1063, .int .i64 t1064, .int .i64 t1065, .int .i64 t1066, .int .i64 t1067] 79 (0, 0)) (by (with_reducible repeat (first | refine blk_drewN ?_ _ | refine blk_drew ?_ | refine blk_alloc ?_ _)); exact BK1069.out)) : gb1089 ≠ gb1069)); have n11_ := Aside0.mk ((by rw [hg]; exact Nat.ne_of_lt (blk_lt (g := gb1078) (o := .cells #[.int .i64 t1070, .int .i64 t1071, .int .i64 t1072, .int .i64 t1073, .int .i64 t1074, .int .i64 t1075, .int .i64 t1076] 79 (0, 0)) (by (with_reducible repeat (first | refine blk_drewN ?_ _ | refine blk_drew ?_ | refine blk_alloc ?_ _)); exact BK1078.out)) : gb1078 ≠ gb1089)); have n12_ := Aside0.mk ((by rw [hg]; exact Nat.ne_of_gt (blk_lt (g := gb1078) (o := .cells #[.int .i64 t1070, .int .i64 t1071, .int .i64 t1072, .int .i64 t1073, .int .i64 t1074, .int .i64 t1075, .int .i64 t1076] 79 (0, 0)) (by (with_reducible repeat (first | refine blk_drewN ?_ _ | refine blk_drew ?_ | refine blk_alloc ?_ _)); exact BK1078.out)) : gb1089 ≠ gb1078)); have n13_ := Aside0.mk ((by rw [hg]; exact Nat.ne_of_lt (blk_lt (g := gb1085) (o := .cells #[.int .i64 t1082, .int .i64 t1083] 71 (0, 0)) (by (with_reducible repeat (first | refine blk_drewN ?_ _ | refine blk_drew ?_ | refine blk_alloc ?_ _)); exact BK1085.out)) : gb1085 ≠ gb1089)); have n14_ := Aside0.mk ((by rw [hg]; exact Nat.ne_of_gt (blk_lt (g := gb1085) (o := .cells #[.int .i64 t1082, .int .i64 t1083] 71 (0, 0)) (by (with_reducible repeat (first | refine blk_drewN ?_ _ | refine blk_drew ?_ | refine blk_alloc ?_ _)); exact BK1085.out)) : gb1089 ≠ gb1085)); clear HO1060; clear HO1081; clear BK1069; clear BK1078; clear BK1085; clear HB; have HO1060 := n0_; have HO1081 := n1_; have BK1069 := n2_; have BK1078 := n3_; have BK1085 := n4_; have HB := n5_; have BK1089 := n6_; have GW1089 := n7_; have GE1089 := n8_; have NB1069_1089 := n9_; have NB1089_1069 := n10_; have NB1078_1089 := n11_; have NB1089_1078 := n12_; have NB1085_1089 := n13_; have NB1089_1085 := n14_; clear n0_ n1_ n2_ n3_ n4_ n5_ n6_ n7_ n8_ n9_ n10_ n11_ n12_ n13_ n14_; clear hb hbox hg; have hnb90 := NB1089_1069.out; have hnc90 := NB1069_1089.out; have hnb91 := NB1089_1078.out; have hnc91 := NB1078_1089.out; have hnb92 := NB1089_1085.out; have hnc92 := NB1085_1089.out; have hcz93_0 : w89.cell? ⟨gb1089, 0, none⟩ = some (.int .i64 0) := (blk_cell BK1089.out 0).trans rfl; have hcz93_1 : w89.cell? ⟨gb1089, 1, none⟩ = some (.int .i64 0) := (blk_cell BK1089.out 1).trans rfl; have hfz93_0 := blk_frozen BK1089.out 0; have hfz93_1 := blk_frozen BK1089.out 1; have hcz94_0 : w89.cell? ⟨gb1069, 0, none⟩ = some (.int .i64 t1061) := (blk_cell BK1069.out 0).trans rfl; have hcz94_1 : w89.cell? ⟨gb1069, 1, none⟩ = some (.int .i64 t1062) := (blk_cell BK1069.out 1).trans rfl; have hcz94_2 : w89.cell? ⟨gb1069, 2, none⟩ = some (.int .i64 t1063) := (blk_cell BK1069.out 2).trans rfl; have hcz94_3 : w89.cell? ⟨gb1069, 3, none⟩ = some (.int .i64 t1064) := (blk_cell BK1069.out 3).trans rfl; have hcz94_4 : w89.cell? ⟨gb1069, 4, none⟩ = some (.int .i64 t1065) := (blk_cell BK1069.out 4).trans rfl; have hcz94_5 : w89.cell? ⟨gb1069, 5, none⟩ = some (.int .i64 t1066) := (blk_cell BK1069.out 5).trans rfl; have hcz94_6 : w89.cell? ⟨gb1069, 6, none⟩ = some (.int .i64 t1067) := (blk_cell BK1069.out 6).trans rfl; have hfz94_0 := blk_frozen BK1069.out 0; have hfz94_1 := blk_frozen BK1069.out 1; have hfz94_2 := blk_frozen BK1069.out 2; have hfz94_3 := blk_frozen BK1069.out 3; have hfz94_4 := blk_frozen BK1069.out 4; have hfz94_5 := blk_frozen BK1069.out 5; have hfz94_6 := blk_frozen BK1069.out 6; have hcz95_0 : w89.cell? ⟨gb1078, 0, none⟩ = some (.int .i64 t1070) := (blk_cell BK1078.out 0).trans rfl; have hcz95_1 : w89.cell? ⟨gb1078, 1, none⟩ = some (.int .i64 t1071) := (blk_cell BK1078.out 1).trans rfl; have hcz95_2 : w89.cell? ⟨gb1078, 2, none⟩ = some (.int .i64 t1072) := (blk_cell BK1078.out 2).trans rfl; have hcz95_3 : w89.cell? ⟨gb1078, 3, none⟩ = some (.int .i64 t1073) := (blk_cell BK1078.out 3).trans rfl; have hcz95_4 : w89.cell? ⟨gb1078, 4, none⟩ = some (.int .i64 t1074) := (blk_cell BK1078.out 4).trans rfl; have hcz95_5 : w89.cell? ⟨gb1078, 5, none⟩ = some (.int .i64 t1075) := (blk_cell BK1078.out 5).trans rfl; have hcz95_6 : w89.cell? ⟨gb1078, 6, none⟩ = some (.int .i64 t1076) := (blk_cell BK1078.out 6).trans rfl; have hfz95_0 := blk_frozen BK1078.out 0; have hfz95_1 := blk_frozen BK1078.out 1; have hfz95_2 := blk_frozen BK1078.out 2; have hfz95_3 := blk_frozen BK1078.out 3; have hfz95_4 := blk_frozen BK1078.out 4; have hfz95_5 := blk_frozen BK1078.out 5; have hfz95_6 := blk_frozen BK1078.out 6; have hcz96_0 : w89.cell? ⟨gb1085, 0, none⟩ = some (.int .i64 t1082) := (blk_cell BK1085.out 0).trans rfl; have hcz96_1 : w89.cell? ⟨gb1085, 1, none⟩ = some (.int .i64 t1083) := (blk_cell BK1085.out 1).trans rfl; have hfz96_0 := blk_frozen BK1085.out 0; have hfz96_1 := blk_frozen BK1085.out 1))
            go_roundg kj10
            case measure => have := HK1.out; have := HJ10.out; omega
            case rel => exact ⟨(wrap64 (x7_1 + 1)), (by first | rfl | (simp; done) | (simp [*]; done)), H', ⟨by have := HK1.out; have := HJ10.out; omega⟩, ⟨by repeat (first | (with_reducible first | exact HB.out | apply below_alloc | apply pw_below_drewN | apply below_drew1 | refine below_set ?_ GE1069.out | refine below_set ?_ GE1078.out | refine below_set ?_ GE1085.out | refine below_set ?_ GE1089.out) | exact HB.out)⟩⟩
           ·
            rw [if_neg c71] at H
            exact absurd H (by simp)
         ·
          rw [if_neg c44] at H
          exact absurd H (by simp)
     ·
      rw [if_neg c10] at H
      have c10b0 : decide (x7_1 ≤ (wrap64 ((l0.length : Int) + 1))) = false := decide_eq_false c10
      clear c10
      skip
      go_wp2
      go_ret
      exact ⟨by first | rfl | (simp [errW_none, errW_some] <;> rfl) | (simp [*, errW_none, errW_some] <;> rfl), by repeat (first | (with_reducible first | exact HB.out | apply below_alloc | apply pw_below_drewN | apply below_drew1) | exact HB.out)⟩
 ·
  replace c5 := Bool.eq_false_iff.mpr c5
  subst c5
  have H1 : (some false) = some true := by rw [if_neg (show ¬ (false = true) by decide)] at H; exact H
  exact absurd H1 (by simp)
end
end Go.Proofs.YtbomhpfckplgaaaDoor.P
namespace Go.Proofs.YtbomhpfckplgaaaDoor.P
open Go Go.RowKit Go.Proofs.YtbomhpfckplgaaaDoorW.PrintWords Go.Proofs.YtbomhpfckplgaaaDoorW.PrintMore Utf
set_option linter.unusedVariables false
set_option linter.unusedSimpArgs false
theorem flr_index {l : List Int} (hl : Bytes l) (hs : Small l) (p : Nat) (hp : p ≤ l.length) : ∃ K, ∃ hK : K < (placesL l).length, (placesL l)[K] = (flr l p : Int) ∧ (∀ j (hj : j < (placesL l).length), j ≤ K → (placesL l)[j] ≤ (p : Int)) ∧ (∀ j (hj : j < (placesL l).length), K < j → (p : Int) < (placesL l)[j]) := by
  have hfl := flr_le l p
  have hT : tabL l 1 = placesL l := tab_bytes hl hs.wide
  have hris : (placesL l).Pairwise (· < ·) := hT ▸ (tab_rises hl hs.wide 1 (by omega) (by omega)).1
  obtain ⟨i, hi, hv⟩ := tab_cut hl (flr l p) (by omega) (flr_edge l p)
  have e1 := hv 1 (by omega) (by omega)
  rw [last_bytes (hl.take _) (hs.wide.take _), List.length_take, Nat.min_eq_left (by omega)] at e1
  have hi' : i < (placesL l).length := by rw [← hT]; simpa [tabL] using hi
  have ei : (placesL l)[i] = (flr l p : Int) := by
    rw [← e1]
    simp only [← hT, tabL, List.getElem_map]
  refine ⟨i, hi', ei, fun j hj h => ?_, fun j hj h => ?_⟩
  · rcases Nat.eq_or_lt_of_le h with c | c
    · subst c
      omega
    · have := List.pairwise_iff_getElem.1 hris j i hj hi' c
      omega
  · have hlt := List.pairwise_iff_getElem.1 hris i j hi' hj h
    rcases Int.lt_or_le (p : Int) (placesL l)[j] with c | c
    · exact c
    · exfalso
      obtain ⟨e, ee, e2, e3⟩ := byte_edge hl hs.wide (y := (placesL l)[j]) (by rw [hT]; exact List.getElem_mem hj)
      have := flr_mid l p e (by omega) (by omega) (fun h0 => by unfold flr at hfl ei; omega)
      rw [e3] at this
      cases this
theorem floor7_loop (L : List Int) (hL : L.length < 4611686018427387904) (p : Int) (K : Nat) (hK : K < L.length) (h1 : ∀ j (hj : j < L.length), j ≤ K → L[j] ≤ p) (h2 : ∀ j (hj : j < L.length), K < j → p < L[j]) : ∀ (d i : Nat) (out : Int), L.length - i ≤ d → i ≤ L.length → (K < i → out = L[K]) → Ev (fun k => galleyref07_Floor.l0 k p L out (i : Int)) L[K]
  | 0, i, out, hd, hi, ho => by
    rw [← ho (by omega)]
    refine Ev.step (G := fun _ => some out) (fun k => ?_) (Ev.pure _)
    conv => lhs; unfold galleyref07_Floor.l0
    rw [if_neg (by omega)]
  | d + 1, i, out, hd, hi, ho => by
    by_cases c : i < L.length
    · by_cases g : i ≤ K
      · refine Ev.step (fun k => ?_) (floor7_loop L hL p K hK h1 h2 d (i + 1) L[i] (by omega) (by omega) (fun h => by
          have : i = K := by omega
          subst this
          rfl))
        conv => lhs; unfold galleyref07_Floor.l0
        rw [if_pos (by omega), if_pos (by omega), rd_nat L i c, if_pos (h1 i c g), w64 (n := (i : Int) + 1) (by omega) (by omega)]
        rfl
      · refine Ev.step (fun k => ?_) (floor7_loop L hL p K hK h1 h2 d (i + 1) out (by omega) (by omega) (fun h => ho (by omega)))
        have := h2 i c (by omega)
        conv => lhs; unfold galleyref07_Floor.l0
        rw [if_pos (by omega), if_pos (by omega), rd_nat L i c, if_neg (by omega), w64 (n := (i : Int) + 1) (by omega) (by omega)]
        rfl
    · rw [← ho (by omega)]
      refine Ev.step (G := fun _ => some out) (fun k => ?_) (Ev.pure _)
      conv => lhs; unfold galleyref07_Floor.l0
      rw [if_neg (by omega)]
theorem ev_floor7 {l : List Int} (hl : Bytes l) (hs : Small l) (p : Nat) (hp : p ≤ l.length) : Ev (fun k => galleyref07_Floor.f k l (p : Int)) (flr l p : Int) := by
  obtain ⟨K, hK, e, h1, h2⟩ := flr_index hl hs p hp
  have hpl := placesL_length l
  have hsl := stepsL_length l
  rw [← e]
  unfold galleyref07_Floor.f
  have hs' := hs
  unfold Small at hs'
  exact Ev.bind (ev_edges4 hl hs) (floor7_loop (placesL l) (by omega) p K hK h1 h2 _ 0 0 (Nat.le_refl _) (Nat.zero_le _) (fun h => absurd h (by omega)))
theorem line7_loop (L : List S144) (hL : L.length < 4611686018427387904) (q : Int) (K : Nat) (hK : K < L.length) (h1 : ∀ j, j ≤ K → (rd_T144 L (j : Int)).f0 ≤ q) (h2 : ∀ j : Nat, j < L.length → K < j → q < (rd_T144 L (j : Int)).f0) : ∀ (d i : Nat) (out : Int), L.length - i ≤ d → i ≤ L.length → (K < i → out = (K : Int)) → Ev (fun k => galleyref07_line.l0 k (L.map toRow) q out (i : Int)) (K : Int)
  | 0, i, out, hd, hi, ho => by
    rw [← ho (by omega)]
    refine Ev.step (G := fun _ => some out) (fun k => ?_) (Ev.pure _)
    conv => lhs; unfold galleyref07_line.l0
    rw [if_neg (by rw [List.length_map]; omega)]
  | d + 1, i, out, hd, hi, ho => by
    by_cases c : i < L.length
    · have e := rd88_row L (i : Int) (by omega) (by omega)
      by_cases g : i ≤ K
      · refine Ev.step (fun k => ?_) (line7_loop L hL q K hK h1 h2 d (i + 1) (i : Int) (by omega) (by omega) (fun h => by omega))
        have := h1 i g
        conv => lhs; unfold galleyref07_line.l0
        rw [if_pos (by rw [List.length_map]; omega), if_pos (by omega), e, if_pos (show (toRow (rd_T144 L i)).f0 ≤ q from this), w64 (n := (i : Int) + 1) (by omega) (by omega)]
        rfl
      · refine Ev.step (fun k => ?_) (line7_loop L hL q K hK h1 h2 d (i + 1) out (by omega) (by omega) (fun h => ho (by omega)))
        have := h2 i c (by omega)
        conv => lhs; unfold galleyref07_line.l0
        rw [if_pos (by rw [List.length_map]; omega), if_pos (by omega), e, if_neg (show ¬ (toRow (rd_T144 L i)).f0 ≤ q from by show ¬ (rd_T144 L i).f0 ≤ q; omega), w64 (n := (i : Int) + 1) (by omega) (by omega)]
        rfl
    · rw [← ho (by omega)]
      refine Ev.step (G := fun _ => some out) (fun k => ?_) (Ev.pure _)
      conv => lhs; unfold galleyref07_line.l0
      rw [if_neg (by rw [List.length_map]; omega)]
theorem where_doc {l : List Int} (hl : Bytes l) (hs : Small l) (a : Int) : ∃ v, Ev (fun k => lines_Where.f k l a) v ∧ Ev (fun k => galleyref07_Where.f k l a) v := by
  by_cases c : a < 0 ∨ a > (l.length : Int)
  · refine ⟨_, where_out l a c, ?_⟩
    have tt : Ev (fun k => galleyref07_Where.j0 k l a true) (0, 0, 0, 0, 0, 0, 0, 2) := Ev.step (G := fun _ => some (0, 0, 0, 0, 0, 0, 0, 2)) (fun k => by unfold galleyref07_Where.j0; simp) (Ev.pure _)
    unfold galleyref07_Where.f
    by_cases c1 : a < 0
    · exact Ev.ite_pos c1 tt
    · rw [decide_eq_true (by omega)]
      exact Ev.ite_neg c1 tt
  obtain ⟨p, rfl⟩ : ∃ p : Nat, a = p := ⟨a.toNat, by omega⟩
  have hp : p ≤ l.length := by omega
  obtain ⟨j, g1, g2, g3, g4, g5⟩ := where_in hl hs p hp
  refine ⟨_, g5, ?_⟩
  have hfl := flr_le l p
  have hll := linesL_length l
  have hs' := hs
  unfold Small at hs'
  have e88 := rd88_row (linesL l) (j : Int) (by omega) (by omega)
  have z1 := ev_size7 (hl.take (flr l p)) (small_take hs _) 2 (by omega) (by omega)
  have z2 := ev_size7 (hl.take (flr l p)) (small_take hs _) 3 (by omega) (by omega)
  have z3 := ev_size7 ((hl.take (flr l p)).drop (rd_T144 (linesL l) j).f0.toNat) (small_drop (small_take hs _) _) 2 (by omega) (by omega)
  have z4 := ev_size7 ((hl.take (flr l p)).drop (rd_T144 (linesL l) j).f0.toNat) (small_drop (small_take hs _) _) 3 (by omega) (by omega)
  have hline := line7_loop (linesL l) (by omega) (flr l p : Int) j g1 (fun i hi => by
    rcases Nat.eq_or_lt_of_le hi with h | h
    · subst h
      exact g3
    · have := starts_rise l i j h g1
      omega) (fun i hi h => by
    have a1 := g4 (by omega)
    rcases Nat.eq_or_lt_of_le (show j + 1 ≤ i by omega) with h' | h'
    · subst h'
      exact a1
    · have := starts_rise l (j + 1) i h' hi
      omega) _ 0 0 (Nat.le_refl _) (Nat.zero_le _) (fun h => absurd h (by omega))
  have e : ((((l.take (flr l p)).drop (rd_T144 (linesL l) j).f0.toNat).length : Nat) : Int) = (flr l p : Int) - (rd_T144 (linesL l) j).f0 := by
    rw [List.length_drop, List.length_take]
    omega
  unfold galleyref07_Where.f
  refine Ev.ite_neg (by omega) ?_
  rw [decide_eq_false (by omega)]
  refine Ev.step (fun k => by unfold galleyref07_Where.j0; simp only [Bool.false_eq_true, if_false]; rfl) (Ev.bind (ev_floor7 hl hs p hp) (Ev.bind (ev_rows hs) (Ev.bind (G := fun k t1035 => _) hline ?_)))
  rw [e88]
  refine Ev.ite_pos (by omega) (Ev.ite_pos (by rw [List.length_map]; omega) (Ev.ite_pos g2 (Ev.ite_pos g3 (Ev.ite_pos (by omega) (Ev.ite_pos (by omega) ?_)))))
  rw [Int.toNat_natCast, show (toRow (rd_T144 (linesL l) j)).f0 = (rd_T144 (linesL l) j).f0 from rfl]
  refine Ev.bind z1 (Ev.bind z2 (Ev.bind z3 (Ev.bind z4 ?_)))
  rw [e]
  exact Ev.pure _
theorem spot_doc {l : List Int} (hl : Bytes l) (hs : Small l) (a r : Int) : ∃ v, lines_Spot.f l a r = some v ∧ Ev (fun k => galleyref07_Spot.f k l a r) v := by
  by_cases c : 1 ≤ r ∧ r ≤ 3
  · obtain ⟨t, h1, h2⟩ := where_doc hl hs a
    have hd : ∀ v, Ev (fun k => galleyref07_Spot.j0 k l a r false) v → Ev (fun k => galleyref07_Spot.f k l a r) v := fun v hv => by
      unfold galleyref07_Spot.f
      refine Ev.ite_neg (by omega) ?_
      rw [decide_eq_false (by omega)]
      exact hv
    by_cases c2 : t.2.2.2.2.2.2.2 = 0
    · refine ⟨(t.2.2.2.1, (if r = 1 then t.2.2.2.2.1 else if r = 2 then t.2.2.2.2.2.1 else t.2.2.2.2.2.2.1), 0), spot_of ?_, hd _ ?_⟩
      · unfold lines_Spot.k
        exact Ev.ite_pos c (Ev.bind h1 (Ev.ite_pos c2 (Ev.pure _)))
      · refine Ev.step (fun k => by unfold galleyref07_Spot.j0; simp only [Bool.false_eq_true, if_false]; rfl) (Ev.bind h2 (Ev.ite_pos c2 (Ev.of ?_)))
        unfold galleyref07_Column.f
        by_cases d1 : r = 1
        · rw [if_pos d1, if_pos d1]
          rfl
        · rw [if_neg d1, if_neg d1]
          by_cases d2 : r = 2
          · rw [if_pos d2, if_pos d2]
            rfl
          · rw [if_neg d2, if_neg d2]
            rfl
    · refine ⟨(0, 0, t.2.2.2.2.2.2.2), spot_of ?_, hd _ ?_⟩
      · unfold lines_Spot.k
        exact Ev.ite_pos c (Ev.bind h1 (Ev.ite_neg c2 (Ev.pure _)))
      · exact Ev.step (fun k => by unfold galleyref07_Spot.j0; simp only [Bool.false_eq_true, if_false]; rfl) (Ev.bind h2 (Ev.ite_neg c2 (Ev.pure _)))
  · refine ⟨(0, 0, 3), spot_of ?_, ?_⟩
    · unfold lines_Spot.k
      exact Ev.ite_neg c (Ev.pure _)
    · have tt : Ev (fun k => galleyref07_Spot.j0 k l a r true) (0, 0, 3) := Ev.step (G := fun _ => some (0, 0, 3)) (fun k => by unfold galleyref07_Spot.j0; simp) (Ev.pure _)
      unfold galleyref07_Spot.f
      by_cases c1 : r < 1
      · exact Ev.ite_pos c1 tt
      · rw [decide_eq_true (by omega)]
        exact Ev.ite_neg c1 tt
theorem lwhere_round {l : List Int} (hl : Bytes l) (hs : Small l) (a1 r x7 x8 : Int) (h : Ev (fun k => lw.l0 k l a1 r (wrap64 (x7 + 1))) true) : Ev (fun k => lw.j1 k l a1 r x7 x8) true := by
  have hs' := hs
  unfold Small at hs'
  obtain ⟨v, h1, h2⟩ := where_doc hl hs x8
  obtain ⟨u, h3, h4⟩ := spot_doc hl hs x8 r
  refine Ev.step (fun k => by unfold lw.j1; rw [own07_eq l (by omega), Option.bind_some]) (Ev.bind h1 (Ev.bind h2 ?_))
  simp only [own07_eq l (show l.length < 140737488355328 by omega), Option.bind_some, h3]
  refine Ev.bind h4 ?_
  refine Ev.ite_neg (by simp) (Ev.ite_pos (by trivial) (Ev.ite_neg (by simp) (Ev.ite_pos (by trivial) h)))
theorem lwhere_loop {l : List Int} (hl : Bytes l) (hs : Small l) (a1 r : Int) : ∀ (d : Nat) (x : Int), (l.length : Int) + 2 - x ≤ (d : Int) → -1 ≤ x → x ≤ (l.length : Int) + 2 → Ev (fun k => lw.l0 k l a1 r x) true
  | 0, x, hd, h0, h1 => by
    have hs' := hs
    unfold Small at hs'
    refine Ev.step (G := fun _ => some true) (fun k => ?_) (Ev.pure _)
    conv => lhs; unfold lw.l0
    rw [w64 (n := (l.length : Int) + 1) (by omega) (by omega), if_neg (by omega)]
  | d + 1, x, hd, h0, h1 => by
    have hs' := hs
    unfold Small at hs'
    by_cases c : x ≤ (l.length : Int) + 1
    · have ih := lwhere_loop hl hs a1 r d (x + 1) (by omega) (by omega) (by omega)
      have e : wrap64 (x + 1) = x + 1 := w64 (by omega) (by omega)
      rw [← e] at ih
      by_cases c2 : x = (l.length : Int) + 1
      · refine Ev.step (fun k => ?_) (lwhere_round hl hs a1 r x a1 ih)
        conv => lhs; unfold lw.l0
        rw [w64 (n := (l.length : Int) + 1) (by omega) (by omega), if_pos c, if_pos c2]
      · refine Ev.step (fun k => ?_) (lwhere_round hl hs a1 r x x ih)
        conv => lhs; unfold lw.l0
        rw [w64 (n := (l.length : Int) + 1) (by omega) (by omega), if_pos c, if_neg c2]
    · refine Ev.step (G := fun _ => some true) (fun k => ?_) (Ev.pure _)
      conv => lhs; unfold lw.l0
      rw [w64 (n := (l.length : Int) + 1) (by omega) (by omega), if_neg c]
theorem linesWhere_law {l : List Int} (hl : Bytes l) (hw : Wide l) (a1 r : Int) : ∃ k, lw.f k l a1 r = some true := by
  refine Ev.get ?_
  unfold lw.f
  simp only [show ∀ k, galleylaw07_awake.f k = some true from fun _ => rfl, Option.bind_some, if_true]
  by_cases hbig : l.length > 600
  · have : galleylaw07_Large.f l = some true := by unfold galleylaw07_Large.f; rw [decide_eq_true (by omega)]
    simp only [this, Option.bind_some, if_true]
    exact Ev.pure _
  have hs : Small l := by unfold Small; omega
  have : galleylaw07_Large.f l = some false := by unfold galleylaw07_Large.f; rw [decide_eq_false (by omega)]
  simp only [this, Option.bind_some, Bool.false_eq_true, if_false]
  exact lwhere_loop hl hs a1 r (l.length + 3) (-1) (by omega) (by omega) (by omega)
end Go.Proofs.YtbomhpfckplgaaaDoor.P
