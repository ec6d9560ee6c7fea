-- Written by a program (the kit's print, turned so that hand-proved contracts are taken as given).
import Derived.Test.YtbomhpfckplgaaaDoorPx0
import Derived.Test.YtbomhpfckplgaaaDoorPx1
import Derived.Test.YtbomhpfckplgaaaDoorPx18
import Derived.Test.YtbomhpfckplgaaaDoorPx23
import Derived.Test.YtbomhpfckplgaaaDoorPx53
import Derived.Test.YtbomhpfckplgaaaDoorPx54
import Derived.Test.YtbomhpfckplgaaaDoorHSpot
import Derived.Test.YtbomhpfckplgaaaDoorHAwake
namespace Go.Proofs.YtbomhpfckplgaaaDoor.P
open Go.RowKit Go.Proofs.YtbomhpfckplgaaaDoorW.PrintWords Go.Proofs.YtbomhpfckplgaaaDoorW.PrintLast Go.Proofs.YtbomhpfckplgaaaDoorW.PrintMore
attribute [local go_sem] max2_int min2_int max_two min_two max_three min_three max_four min_four   -- for this text's walks alone
set_option linter.unusedVariables false
set_option linter.unusedSimpArgs false

attribute [local go_sem high] eqA71
noncomputable section
/-! ### lb: function 19 -/
mutual
def lb.j0 : Nat → List Int → Int → Bool → Option (Bool)
 | 0, _, _, _ => none
 | k + 1, x0, x1, x25 => if x25 = true then (some true) else ((galleyref04_Edges.f k x0).bind fun t1092 => (lb.l0 k x0 x1 t1092 0 0))
def lb.l0 : Nat → List Int → Int → List Int → Int → Int → Option (Bool)
 | 0, _, _, _, _, _ => none
 | k + 1, x0, x1, x5, x6, x7 => if x7 ≤ (x0.length : Int) then (lb.l1 k x0 x1 x5 x6 x7) else (some true)
def lb.j3 : Nat → List Int → Int → List Int → Int → Int → Option (Bool)
 | 0, _, _, _, _, _ => none
 | k + 1, x0, x1, x5, x6, x7 => (galleylaw07_own.f x0).bind fun t1096 => ((lines_Spot.f t1096 x7 x1).bind fun bt1099 => (if bt1099.2.2 = 0 then (lb.l2 k x0 x1 x5 x6 x7 1 bt1099.1 bt1099.2.1) else (some false)))
def lb.l2 : Nat → List Int → Int → List Int → Int → Int → Int → Int → Int → Option (Bool)
 | 0, _, _, _, _, _, _, _, _ => none
 | k + 1, x0, x1, x5, x6, x7, x10, x1103000, x1103001 => if x10 ≤ 3 then ((galleylaw07_own.f x0).bind fun t1103 => ((lines_At.f k t1103 x1103000 x1103001 x1 x10).bind fun bt1106 => (if bt1106.2 = 0 then (if 0 ≤ x6 then (if x6 < (x5.length : Int) then (if bt1106.1 = (rd x5 x6) then (lb.l2 k x0 x1 x5 x6 x7 (wrap64 (x10 + 1)) x1103000 x1103001) else (some false)) else (none)) else (none)) else (some false)))) else ((galleylaw07_own.f x0).bind fun t1109 => (if 0 ≤ x6 then (if x6 < (x5.length : Int) then ((lines_Spot.f t1109 (rd x5 x6) x1).bind fun bt1113 => (if bt1113.2.2 = 0 then (if (!(bt1113.1 == x1103000) || (!(bt1113.2.1 == x1103001))) = true then (some false) else (lb.l0 k x0 x1 x5 x6 (wrap64 (x7 + 1)))) else (some false))) else (none)) else (none)))
def lb.l1 : Nat → List Int → Int → List Int → Int → Int → Option (Bool)
 | 0, _, _, _, _, _ => none
 | k + 1, x0, x1, x5, x6, x7 => if (wrap64 (x6 + 1)) < (x5.length : Int) then (if 0 ≤ (wrap64 (x6 + 1)) then (if (rd x5 (wrap64 (x6 + 1))) ≤ x7 then (lb.l1 k x0 x1 x5 (wrap64 (x6 + 1)) x7) else (lb.j3 k x0 x1 x5 x6 x7)) else (none)) else (lb.j3 k x0 x1 x5 x6 x7)
end
def lb.f (k : Nat) (l0 : List Int) (a1 : Int) : Option (Bool) := (galleylaw07_awake.f k).bind fun t1090 => (if t1090 = true then ((galleylaw07_Large.f l0).bind fun t1091 => (if t1091 = true then (lb.j0 k l0 a1 true) else (if a1 < 1 then (lb.j0 k l0 a1 true) else (lb.j0 k l0 a1 (decide (a1 > 3)))))) else (some false))
def lb.T18 : Bool × List (List Nat × List Nat) := (true, [([], []), ([0], [0]), ([], []), ([], []), ([], []), ([1, 2, 3, 4, 1], [1, 2, 3, 4]), ([5], [5]), ([6], [6]), ([6], [6]), ([7, 5, 0, 1, 2, 3, 4, 5, 6, 7], [7]), ([8, 9, 0, 1, 2, 3, 4, 5, 6, 7, 8, 9], [8])])
def lb.B18 : List Nat := [0, 1, 0, 0, 0, 31, 63, 127, 127, 255, 1023]
theorem lb.tab18 : rtab .any (opsOf Tryd.f19 18) = lb.T18 := by kernel_rfl
theorem lb.bits18 : waitsOk lb.T18.2 lb.B18 = true := by kernel_rfl
def lb.T21 : Bool × List (List Nat × List Nat) := (true, [([], []), ([0], [0]), ([], []), ([], []), ([2, 3], [2, 3]), ([4], [4]), ([], []), ([1, 5, 6, 1], [1, 5, 6]), ([7], [7]), ([8], [8]), ([8], [8]), ([], []), ([11, 9, 7, 0, 1, 2, 3, 4, 5, 6, 7, 8, 9, 11], [9, 11]), ([10, 12, 0, 1, 2, 3, 4, 5, 6, 7, 8, 9, 10, 11, 12], [10])])
def lb.B21 : List Nat := [0, 1, 0, 0, 12, 28, 0, 127, 255, 511, 511, 0, 3071, 8191]
theorem lb.tab21 : rtab .any (opsOf Tryd.f19 21) = lb.T21 := by kernel_rfl
theorem lb.bits21 : waitsOk lb.T21.2 lb.B21 = true := by kernel_rfl
set_option maxHeartbeats 8000000 in
set_option maxRecDepth 100000 in
theorem lb.calls (k : Nat) (A0 : Option Addr) (c0 : Nat) (l0 : List Int) (a1 : Int) (w : World) (hr0 : Kd.C (Kd.int .u8) w A0 l0.length l0) (hc0 : l0.length ≤ c0) (hG : Laid w) (h : lb.f k l0 a1 = some true) :
  Calls Tryd.prog 19 #[.slice A0 l0.length c0, .int .i64 a1] w fun e w' => e = .returned (.bool true) ∧ Below w.heap.size w w' := by
 have hu71 := Tryd.underlying71
 have HG := Aside0.mk hG
 clear hG
 have HR0 := Aside0.mk hr0
 have HC0 := Aside0.mk hc0
 clear hr0 hc0
 have HB := Aside0.mk (Below.refl w.heap.size w)
 have H : ((galleylaw07_awake.f k).bind fun t1090 => (if t1090 = true then ((galleylaw07_Large.f l0).bind fun t1091 => (if t1091 = true then (lb.j0 k l0 a1 true) else (if a1 < 1 then (lb.j0 k l0 a1 true) else (lb.j0 k l0 a1 (decide (a1 > 3)))))) else (some false))) = some true := h
 clear h
 replace H := Option.bind_eq_some_iff.mp H
 obtain ⟨t1090, A30, H⟩ := H
 replace H : (if t1090 = true then ((galleylaw07_Large.f l0).bind fun t1091 => (if t1091 = true then (lb.j0 k l0 a1 true) else (if a1 < 1 then (lb.j0 k l0 a1 true) else (lb.j0 k l0 a1 (decide (a1 > 3)))))) else (some false)) = some true := H
 have A3 := Aside0.mk A30
 clear A30
 by_cases c4 : t1090 = true
 ·
  subst c4
  have H1 : ((galleylaw07_Large.f l0).bind fun t1091 => (if t1091 = true then (lb.j0 k l0 a1 true) else (if a1 < 1 then (lb.j0 k l0 a1 true) else (lb.j0 k l0 a1 (decide (a1 > 3)))))) = some true := by rw [if_pos rfl] at H; exact H
  clear H
  have H := H1
  clear H1
  have HC5 := Aside0.mk H
  clear H
  go_enter Tryd.func19, Tryd.ntmps19
  go_upto_region 3 with (first | ((with_reducible refine gate_callee (f := 56) rfl ?_); refine goesL_ (some 14) rfl rfl Tryd.func56 (by kernel_rfl) rfl #[] rfl (by (try simp only [List.map_toArray, List.map_cons, List.map_nil]); first | done | rfl | (simp only [List.length_drop, List.length_take]; rfl)) ?_; (with_reducible refine (galleylaw07_awake.calls k  true _ ?side1 A3.out).mono ?_); (case side1 => repeat (first | exact HG.out | exact Laid.below HG.out HB.out | (with_reducible refine Laid.alloc ?_ _) | (with_reducible refine Laid.drewN ?_ _) | (with_reducible refine Laid.drew ?_))); rintro e w6 ⟨rfl, hb⟩; refine ⟨_, rfl, ?_⟩; have n0_ := Aside0.mk (below_step (by repeat (first | (with_reducible first | exact HB.out | apply below_alloc | apply pw_below_drewN | apply below_drew1) | exact HB.out)) hb); clear HB; have HB := n0_; clear n0_; (try clear hb); (try clear hb2); (try clear hk); (try clear hi)))
  (try simp only [Act.put, List.setIfInBounds_toArray, List.set_cons_zero, List.set_cons_succ])
  go_cut [25] (fun v25 wc => ∃ (kq : Nat) (x25_4 : Bool), v25 = .bool x25_4 ∧ Aside0 (lb.j0 kq l0 a1 x25_4 = some true) ∧ Aside0 (kq ≤ k) ∧ Aside0 (Below w.heap.size w wc))
  case first =>
   have H := HC5.out
   clear HC5
   replace H := Option.bind_eq_some_iff.mp H
   obtain ⟨t1091, A70, H⟩ := H
   replace H : (if t1091 = true then (lb.j0 k l0 a1 true) else (if a1 < 1 then (lb.j0 k l0 a1 true) else (lb.j0 k l0 a1 (decide (a1 > 3))))) = some true := H
   have A7 := Aside0.mk A70
   clear A70
   by_cases c8 : t1091 = true
   ·
    subst c8
    have H1 : (lb.j0 k l0 a1 true) = some true := by rw [if_pos rfl] at H; exact H
    clear H
    have H := H1
    clear H1
    have H' := Aside0.mk H
    clear H
    go_wp2_with (first | ((with_reducible refine gate_callee (f := 57) rfl ?_); refine goesL_ (some 17) rfl rfl Tryd.func57 (by kernel_rfl) rfl #[.slice A0 l0.length c0] rfl (by (try simp only [List.map_toArray, List.map_cons, List.map_nil]); first | done | rfl | (simp only [List.length_drop, List.length_take]; rfl)) ?_; (with_reducible refine (galleylaw07_Large.calls _ _ l0 true _ ?side1 ?side2 A7.out).mono ?_); (case side1 => repeat (first | exact (Kd.C_below HR0.out HB.out) | (with_reducible refine Kd.C_alloc ?_ _) | (with_reducible refine Kd.C_drewN ?_ _) | (with_reducible refine Kd.C_drew ?_))); (case side2 => exact HC0.out); rintro e w' ⟨rfl, ⟨nd, rfl⟩⟩; refine ⟨_, rfl, ?_⟩))
    go_meet
    case rel => exact ⟨_, (true), (by first | rfl | (simp; done) | (simp [*]; done)), H', ⟨by first | omega | exact Nat.le_refl _⟩, ⟨by repeat (first | (with_reducible first | exact HB.out | apply below_alloc | apply pw_below_drewN | apply below_drew1) | exact HB.out)⟩⟩
   ·
    replace c8 := Bool.eq_false_iff.mpr c8
    subst c8
    have H1 : (if a1 < 1 then (lb.j0 k l0 a1 true) else (lb.j0 k l0 a1 (decide (a1 > 3)))) = some true := by rw [if_neg (show ¬ (false = true) by decide)] at H; exact H
    clear H
    have H := H1
    clear H1
    by_cases c9 : a1 < 1
    ·
     rw [if_pos c9] at H
     have c9b0 : decide (a1 < 1) = true := decide_eq_true c9
     clear c9
     (first | rw [c9b0] | (simp only [i64_w, i32_w]; rw [c9b0]) | skip)
     have H' := Aside0.mk H
     clear H
     go_wp2_with (first | ((with_reducible refine gate_callee (f := 57) rfl ?_); refine goesL_ (some 17) rfl rfl Tryd.func57 (by kernel_rfl) rfl #[.slice A0 l0.length c0] rfl (by (try simp only [List.map_toArray, List.map_cons, List.map_nil]); first | done | rfl | (simp only [List.length_drop, List.length_take]; rfl)) ?_; (with_reducible refine (galleylaw07_Large.calls _ _ l0 false _ ?side1 ?side2 A7.out).mono ?_); (case side1 => repeat (first | exact (Kd.C_below HR0.out HB.out) | (with_reducible refine Kd.C_alloc ?_ _) | (with_reducible refine Kd.C_drewN ?_ _) | (with_reducible refine Kd.C_drew ?_))); (case side2 => exact HC0.out); rintro e w' ⟨rfl, ⟨nd, rfl⟩⟩; refine ⟨_, rfl, ?_⟩))
     go_meet
     case rel => exact ⟨_, (true), (by first | rfl | (simp; done) | (simp [*]; done)), H', ⟨by first | omega | exact Nat.le_refl _⟩, ⟨by repeat (first | (with_reducible first | exact HB.out | apply below_alloc | apply pw_below_drewN | apply below_drew1) | exact HB.out)⟩⟩
    ·
     rw [if_neg c9] at H
     have c9b0 : decide (a1 < 1) = false := decide_eq_false c9
     clear c9
     (first | rw [c9b0] | (simp only [i64_w, i32_w]; rw [c9b0]) | skip)
     have H' := Aside0.mk H
     clear H
     go_wp2_with (first | ((with_reducible refine gate_callee (f := 57) rfl ?_); refine goesL_ (some 17) rfl rfl Tryd.func57 (by kernel_rfl) rfl #[.slice A0 l0.length c0] rfl (by (try simp only [List.map_toArray, List.map_cons, List.map_nil]); first | done | rfl | (simp only [List.length_drop, List.length_take]; rfl)) ?_; (with_reducible refine (galleylaw07_Large.calls _ _ l0 false _ ?side1 ?side2 A7.out).mono ?_); (case side1 => repeat (first | exact (Kd.C_below HR0.out HB.out) | (with_reducible refine Kd.C_alloc ?_ _) | (with_reducible refine Kd.C_drewN ?_ _) | (with_reducible refine Kd.C_drew ?_))); (case side2 => exact HC0.out); rintro e w' ⟨rfl, ⟨nd, rfl⟩⟩; refine ⟨_, rfl, ?_⟩))
     go_meet
     case rel => exact ⟨_, (decide (a1 > 3)), (by first | rfl | (simp; done) | (simp [*]; done)), H', ⟨by first | omega | exact Nat.le_refl _⟩, ⟨by repeat (first | (with_reducible first | exact HB.out | apply below_alloc | apply pw_below_drewN | apply below_drew1) | exact HB.out)⟩⟩
  case rest =>
   clear HC5
   (try clear c1); (try clear p2); (try clear c4); (try clear c5); (try clear c8); (try clear c9); (try clear c9b0)
   obtain ⟨kq, x25_4, rfl, HA, HJ4, HB⟩ := hcut
   cases kq with
   | zero => exact absurd HA.out (by simp [lb.j0])
   | succ kj4 =>
    have H := HA.out
    clear HA
    simp only [lb.j0] at H
    by_cases c10 : x25_4 = true
    ·
     subst c10
     have H1 : some true = some true := rfl
     clear H
     have H := H1
     clear H1
     skip
     go_wp2
     go_ret
     exact ⟨by first | rfl | (simp [errW_none, errW_some] <;> rfl) | (simp [*, errW_none, errW_some] <;> rfl), by repeat (first | (with_reducible first | exact HB.out | apply below_alloc | apply pw_below_drewN | apply below_drew1) | exact HB.out)⟩
    ·
     replace c10 := Bool.eq_false_iff.mpr c10
     subst c10
     have H1 : ((galleyref04_Edges.f kj4 l0).bind fun t1092 => (lb.l0 kj4 l0 a1 t1092 0 0)) = some true := by rw [if_neg (show ¬ (false = true) by decide)] at H; exact H
     clear H
     have H := H1
     clear H1
     replace H := Option.bind_eq_some_iff.mp H
     obtain ⟨t1092, A110, H⟩ := H
     replace H : (lb.l0 kj4 l0 a1 t1092 0 0) = some true := H
     have A11 := Aside0.mk A110
     clear A110
     have H' := Aside0.mk H
     clear H
     go_wp2_with (first | ((with_reducible refine gate_callee (f := 69) rfl ?_); refine goesL_ (some 27) rfl rfl Tryd.func69 (by kernel_rfl) rfl #[.slice A0 l0.length c0] rfl (by (try simp only [List.map_toArray, List.map_cons, List.map_nil]); first | done | rfl | (simp only [List.length_drop, List.length_take]; rfl)) ?_; (with_reducible refine (galleyref04_Edges.calls kj4 _ _ l0 t1092 _ ?side1 ?side2 A11.out).mono ?_); (case side1 => repeat (first | exact (Kd.C_below HR0.out HB.out) | (with_reducible refine Kd.C_alloc ?_ _) | (with_reducible refine Kd.C_drewN ?_ _) | (with_reducible refine Kd.C_drew ?_))); (case side2 => exact HC0.out); rintro e w12 ⟨v1093, rfl, ho0, hb⟩; refine ⟨_, rfl, ?_⟩; have n0_ := Aside0.mk (Kd.R_lower ho0 (below_size (by repeat (first | (with_reducible first | exact HB.out | apply below_alloc | apply pw_below_drewN | apply below_drew1) | exact HB.out)))); have n1_ := Aside0.mk (below_step (by repeat (first | (with_reducible first | exact HB.out | apply below_alloc | apply pw_below_drewN | apply below_drew1) | exact HB.out)) hb); clear HB; have HO1094 := n0_; have HB := n1_; clear n0_ n1_; (try clear hb); (try clear hb2); (try clear hk); (try clear hi); (try clear ho0)))
     go_loopg [6, 7] kj4 (fun kq v6 v7 w' => ∃ (x6_2 : Int) (x7_2 : Int), v6 = .int .i64 x6_2 ∧ v7 = .int .i64 x7_2 ∧ Aside0 (lb.l0 kq l0 a1 t1092 x6_2 x7_2 = some true) ∧ Aside0 (kq ≤ kj4) ∧ Aside0 (Kd.R (Kd.int .i64) 3 w' w.heap.size (fun _ => True) v1093 t1092) ∧ Aside0 (Below w.heap.size w w'))
     case atStart => exact ⟨(0), (0), (by first | rfl | (simp; done) | (simp [*]; done)), (by first | rfl | (simp; done) | (simp [*]; done)), H', ⟨Nat.le_refl _⟩, ⟨by (with_reducible repeat (first | apply Kd.R_alloc | apply Kd.R_drewN | apply Kd.R_drew)); exact HO1094.out⟩, ⟨by repeat (first | (with_reducible first | exact HB.out | apply below_alloc | apply pw_below_drewN | apply below_drew1) | exact HB.out)⟩⟩
     case round =>
      clear H'
      (try clear c1); (try clear p2); (try clear c4); (try clear c5); (try clear c6); (try clear c8); (try clear c9); (try clear c9b0); (try clear c10)
      obtain ⟨x6_2, x7_2, rfl, rfl, HA, HK2, HO_5, HB⟩ := hrel
      cases gk with
      | zero => exact absurd HA.out (by simp [lb.l0])
      | succ k2 =>
       have H := HA.out
       clear HA
       simp only [lb.l0] at H
       by_cases c13 : x7_2 ≤ (l0.length : Int)
       ·
        rw [if_pos c13] at H
        have c13b0 : decide (x7_2 ≤ (l0.length : Int)) = true := decide_eq_true c13
        clear c13
        have HC14 := Aside0.mk H
        clear H
        go_upto_block 2 with (fail)
        go_cut [6] (fun v6 wc => ∃ (kq : Nat) (x6_13 : Int), v6 = .int .i64 x6_13 ∧ Aside0 (lb.j3 kq l0 a1 t1092 x6_13 x7_2 = some true) ∧ Aside0 (kq ≤ k2) ∧ Aside0 (Kd.R (Kd.int .i64) 3 wc w.heap.size (fun _ => True) v1093 t1092) ∧ Aside0 (Below w.heap.size w wc))
        case first =>
         have H := HC14.out
         clear HC14
         have H' := Aside0.mk H
         clear H
         go_wp2
         go_loopg [6] k2 (fun kq v6 w' => ∃ (x6_3 : Int), v6 = .int .i64 x6_3 ∧ Aside0 (lb.l1 kq l0 a1 t1092 x6_3 x7_2 = some true) ∧ Aside0 (kq ≤ k2) ∧ Aside0 (Kd.R (Kd.int .i64) 3 w' w.heap.size (fun _ => True) v1093 t1092) ∧ Aside0 (Below w.heap.size w w'))
         case atStart => exact ⟨(x6_2), (by first | rfl | (simp; done) | (simp [*]; done)), H', ⟨Nat.le_refl _⟩, ⟨by (with_reducible repeat (first | apply Kd.R_alloc | apply Kd.R_drewN | apply Kd.R_drew)); exact HO_5.out⟩, ⟨by repeat (first | (with_reducible first | exact HB.out | apply below_alloc | apply pw_below_drewN | apply below_drew1) | exact HB.out)⟩⟩
         case round =>
          clear H'
          (try clear c1); (try clear p2); (try clear c4); (try clear c5); (try clear c6); (try clear c8); (try clear c9); (try clear c9b0); (try clear c10); (try clear c13); (try clear c13b0)
          obtain ⟨x6_3, rfl, HA, HK3, HO_5, HB⟩ := hrel
          cases gk with
          | zero => exact absurd HA.out (by simp [lb.l1])
          | succ k3 =>
           have H := HA.out
           clear HA
           simp only [lb.l1] at H
           by_cases c15 : (wrap64 (x6_3 + 1)) < (t1092.length : Int)
           ·
            rw [if_pos c15] at H
            have c15b0 : decide ((wrap64 (x6_3 + 1)) < (t1092.length : Int)) = true := decide_eq_true c15
            clear c15
            (first | rw [c15b0] | (simp only [i64_w, i32_w]; rw [c15b0]) | skip)
            obtain ⟨ji16, hji16⟩ : ∃ j_ : Int, (wrap64 (x6_3 + 1)) = j_ := ⟨_, rfl⟩
            replace H : (if 0 ≤ (ji16) then (if (rd t1092 (ji16)) ≤ x7_2 then (lb.l1 k3 l0 a1 t1092 ji16 x7_2) else (lb.j3 k3 l0 a1 t1092 x6_3 x7_2)) else (none)) = some true := by first | (rw [hji16] at H; exact H) | (simp only [hji16] at H ⊢; exact H)
            (try rw [hji16] at c15b0)
            have hji16w : (IntKind.i64.wrap (x6_3 + 1)) = ji16 := (i64_w _).trans hji16
            by_cases c17 : 0 ≤ (ji16)
            ·
             rw [if_pos c17] at H
             have c17b0 : decide (0 ≤ (ji16)) = true := decide_eq_true c17
             clear c17
             by_cases c18 : (rd t1092 (ji16)) ≤ x7_2
             ·
              rw [if_pos c18] at H
              have c18b0 : decide ((rd t1092 (ji16)) ≤ x7_2) = true := decide_eq_true c18
              clear c18
              have H' := Aside0.mk H
              clear H
              obtain ⟨Ao19, co19, eo19⟩ := Kd.R_slice HO_5.out
              subst eo19
              have p1095 : 0 ≤ ((ji16) : Int) := of_decide_eq_true (by first | (with_reducible assumption) | assumption)
              have q1095 : (ji16) < (t1092.length : Int) := of_decide_eq_true (by first | (with_reducible assumption) | assumption)
              obtain ⟨ad1095, e1095, hx1095_0⟩ := Kd.at_int (Kd.R_reads' HO_5.out).2.2 (ji16) p1095 q1095
              cases e1095
              replace p1095 := eq_true p1095
              replace q1095 := eq_true q1095
              go_wp2
              go_roundg k3
              case measure => have := HJ4.out; have := HK2.out; have := HK3.out; omega
              case rel => exact ⟨(ji16), (by first | rfl | (simp; done) | (simp only [← hji16] <;> (first | rfl | simp)) | (simp [*]; done)), H', ⟨by have := HJ4.out; have := HK2.out; have := HK3.out; omega⟩, ⟨by (with_reducible repeat (first | apply Kd.R_alloc | apply Kd.R_drewN | apply Kd.R_drew)); exact HO_5.out⟩, ⟨by repeat (first | (with_reducible first | exact HB.out | apply below_alloc | apply pw_below_drewN | apply below_drew1) | exact HB.out)⟩⟩
             ·
              rw [if_neg c18] at H
              have c18b0 : decide ((rd t1092 (ji16)) ≤ x7_2) = false := decide_eq_false c18
              clear c18
              have H' := Aside0.mk H
              clear H
              obtain ⟨Ao20, co20, eo20⟩ := Kd.R_slice HO_5.out
              subst eo20
              have p1095 : 0 ≤ ((ji16) : Int) := of_decide_eq_true (by first | (with_reducible assumption) | assumption)
              have q1095 : (ji16) < (t1092.length : Int) := of_decide_eq_true (by first | (with_reducible assumption) | assumption)
              obtain ⟨ad1095, e1095, hx1095_0⟩ := Kd.at_int (Kd.R_reads' HO_5.out).2.2 (ji16) p1095 q1095
              cases e1095
              replace p1095 := eq_true p1095
              replace q1095 := eq_true q1095
              go_wp2
              go_meet
              case rel => exact ⟨_, (x6_3), (by first | rfl | (simp; done) | (simp [*]; done)), H', ⟨by have := HJ4.out; have := HK2.out; have := HK3.out; first | omega | exact Nat.le_refl _⟩, ⟨by (with_reducible repeat (first | apply Kd.R_alloc | apply Kd.R_drewN | apply Kd.R_drew)); exact HO_5.out⟩, ⟨by repeat (first | (with_reducible first | exact HB.out | apply below_alloc | apply pw_below_drewN | apply below_drew1) | exact HB.out)⟩⟩
            ·
             rw [if_neg c17] at H
             exact absurd H (by simp)
           ·
            rw [if_neg c15] at H
            have c15b0 : decide ((wrap64 (x6_3 + 1)) < (t1092.length : Int)) = false := decide_eq_false c15
            clear c15
            (first | rw [c15b0] | (simp only [i64_w, i32_w]; rw [c15b0]) | skip)
            have H' := Aside0.mk H
            clear H
            obtain ⟨Ao21, co21, eo21⟩ := Kd.R_slice HO_5.out
            subst eo21
            go_wp2
            go_meet
            case rel => exact ⟨_, (x6_3), (by first | rfl | (simp; done) | (simp [*]; done)), H', ⟨by have := HJ4.out; have := HK2.out; have := HK3.out; first | omega | exact Nat.le_refl _⟩, ⟨by (with_reducible repeat (first | apply Kd.R_alloc | apply Kd.R_drewN | apply Kd.R_drew)); exact HO_5.out⟩, ⟨by repeat (first | (with_reducible first | exact HB.out | apply below_alloc | apply pw_below_drewN | apply below_drew1) | exact HB.out)⟩⟩
        case rest =>
         clear HC14
         (try clear c1); (try clear p1); (try clear q1); (try clear hx1); (try clear p2); (try clear c4); (try clear c5); (try clear c6); (try clear p6); (try clear c8); (try clear c9); (try clear c9b0); (try clear c10); (try clear p10); (try clear q10); (try clear hx10); (try clear c13); (try clear c13b0); (try clear c15); (try clear c15b0); (try clear c17); (try clear c17b0); (try clear c18); (try clear c18b0); (try clear c19); (try clear hx1095_0); (try clear p1095); (try clear q1095)
         obtain ⟨kq, x6_13, rfl, HA, HJ13, HO_5, HB⟩ := hcut
         cases kq with
         | zero => exact absurd HA.out (by simp [lb.j3])
         | succ kj13 =>
          have H := HA.out
          clear HA
          simp only [lb.j3] at H
          replace H := Option.bind_eq_some_iff.mp H
          obtain ⟨t1096, A220, H⟩ := H
          replace H : ((lines_Spot.f t1096 x7_2 a1).bind fun bt1099 => (if bt1099.2.2 = 0 then (lb.l2 kj13 l0 a1 t1092 x6_13 x7_2 1 bt1099.1 bt1099.2.1) else (some false))) = some true := H
          have A22 := Aside0.mk A220
          clear A220
          replace H := Option.bind_eq_some_iff.mp H
          obtain ⟨⟨t1099, t1100, t1101⟩, A230, H⟩ := H
          replace H : (if t1101 = 0 then (lb.l2 kj13 l0 a1 t1092 x6_13 x7_2 1 t1099 t1100) else (some false)) = some true := H
          have A23 := Aside0.mk A230
          clear A230
          by_cases c24 : t1101 = 0
          ·
           rw [if_pos c24] at H
           have c24b0 : (t1101 == 0) = true := beq_iff_eq.mpr c24
           have c24b1 : (t1101 != 0) = false := bne_eq_false_iff_eq.mpr c24
           clear c24
           have H' := Aside0.mk H
           clear H
           go_wp2_with (first | ((with_reducible refine gate_callee (f := 59) rfl ?_); refine goesL_ (some 52) rfl rfl Tryd.func59 (by kernel_rfl) rfl #[.slice A0 l0.length c0] rfl (by (try simp only [List.map_toArray, List.map_cons, List.map_nil]); first | done | rfl | (simp only [List.length_drop, List.length_take]; rfl)) ?_; (with_reducible refine (galleylaw07_own.calls _ _ l0 t1096 _ ?side1 ?side2 A22.out).mono ?_); (case side1 => repeat (first | exact (Kd.C_below HR0.out HB.out) | (with_reducible refine Kd.C_alloc ?_ _) | (with_reducible refine Kd.C_drewN ?_ _) | (with_reducible refine Kd.C_drew ?_))); (case side2 => exact HC0.out); rintro e w25 ⟨v1097, rfl, ho0, hb⟩; refine ⟨_, rfl, ?_⟩; have n0_ := Aside0.mk (Kd.R_below (by (with_reducible repeat (first | apply Kd.R_alloc | apply Kd.R_drewN | apply Kd.R_drew)); exact HO_5.out) hb); have n1_ := Aside0.mk (Kd.R_lower ho0 (below_size (by repeat (first | (with_reducible first | exact HB.out | apply below_alloc | apply pw_below_drewN | apply below_drew1) | exact HB.out)))); have n2_ := Aside0.mk (below_step (by repeat (first | (with_reducible first | exact HB.out | apply below_alloc | apply pw_below_drewN | apply below_drew1) | exact HB.out)) hb); clear HO_5; clear HB; have HO_5 := n0_; have HO1098 := n1_; have HB := n2_; clear n0_ n1_ n2_; (try clear hb); (try clear hb2); (try clear hk); (try clear hi); (try clear ho0); obtain ⟨Ao26, co26, eo26⟩ := Kd.R_slice HO1098.out; subst eo26) | ((with_reducible refine gate_callee (f := 67) rfl ?_); refine goesL_ (some 55) rfl rfl Tryd.func67 (by kernel_rfl) rfl #[.slice Ao26 t1096.length co26, .int .i64 x7_2, .int .i64 a1] rfl (by (try simp only [List.map_toArray, List.map_cons, List.map_nil]); first | done | rfl | (simp only [List.length_drop, List.length_take]; rfl)) ?_; (with_reducible refine (lines_Spot.calls _ _ t1096 x7_2 a1 t1099 t1100 t1101 _ ?side1 ?side2 ?side3 A23.out).mono ?_); (case side1 => repeat (first | exact (Kd.R_reads' HO1098.out).2.2 | (with_reducible refine Kd.C_alloc ?_ _) | (with_reducible refine Kd.C_drewN ?_ _) | (with_reducible refine Kd.C_drew ?_))); (case side2 => exact (Kd.R_reads' HO1098.out).2.1); (case side3 => repeat (first | exact HG.out | exact Laid.below HG.out HB.out | (with_reducible refine Laid.alloc ?_ _) | (with_reducible refine Laid.drewN ?_ _) | (with_reducible refine Laid.drew ?_))); rintro e w27 ⟨rfl, hb⟩; refine ⟨_, rfl, ?_⟩; have n0_ := Aside0.mk (Kd.R_below (by (with_reducible repeat (first | apply Kd.R_alloc | apply Kd.R_drewN | apply Kd.R_drew)); exact HO_5.out) hb); have n1_ := Aside0.mk (Kd.R_below (by (with_reducible repeat (first | apply Kd.R_alloc | apply Kd.R_drewN | apply Kd.R_drew)); exact HO1098.out) hb); have n2_ := Aside0.mk (below_step (by repeat (first | (with_reducible first | exact HB.out | apply below_alloc | apply pw_below_drewN | apply below_drew1) | exact HB.out)) hb); clear HO_5; clear HO1098; clear HB; have HO_5 := n0_; have HO1098 := n1_; have HB := n2_; clear n0_ n1_ n2_; (try clear hb); (try clear hb2); (try clear hk); (try clear hi)) | ((with_reducible refine gate_dst (N := 8) rfl ?_); refine box_event ?hg (N := 8) ?hd (cs := #[.int .i64 0, .int .i64 0]) (t := 71) ?hr ?_; (case hd => rfl); (case hg => rfl); (case hr => first | (go_simp; done) | (go_simp; rfl)); intro gb1102 hg w28 hbox hb; have n0_ := Aside0.mk (Kd.R_below (by (with_reducible repeat (first | apply Kd.R_alloc | apply Kd.R_drewN | apply Kd.R_drew)); exact HO_5.out) hb); have n1_ := Aside0.mk (Kd.R_below (by (with_reducible repeat (first | apply Kd.R_alloc | apply Kd.R_drewN | apply Kd.R_drew)); exact HO1098.out) hb); have n2_ := Aside0.mk (below_step (by repeat (first | (with_reducible first | exact HB.out | apply below_alloc | apply pw_below_drewN | apply below_drew1) | exact HB.out)) hb); have n3_ := Aside0.mk (hbox); have n4_ := Aside0.mk ((by rw [hg]; exact (below_size (by repeat (first | (with_reducible first | exact HB.out | apply below_alloc | apply pw_below_drewN | apply below_drew1) | exact HB.out))) : w.heap.size ≤ gb1102)); have n5_ := Aside0.mk ((by rw [hg]; exact (below_size (by repeat (first | (with_reducible first | exact HB.out | apply below_alloc | apply pw_below_drewN | apply below_drew1) | exact HB.out))) : w.heap.size ≤ gb1102)); clear HO_5; clear HO1098; clear HB; have HO_5 := n0_; have HO1098 := n1_; have HB := n2_; have BK1102 := n3_; have GW1102 := n4_; have GE1102 := n5_; clear n0_ n1_ n2_ n3_ n4_ n5_; clear hb hbox hg; have hcz29_0 : w28.cell? ⟨gb1102, 0, none⟩ = some (.int .i64 0) := (blk_cell BK1102.out 0).trans rfl; have hcz29_1 : w28.cell? ⟨gb1102, 1, none⟩ = some (.int .i64 0) := (blk_cell BK1102.out 1).trans rfl; have hfz29_0 := blk_frozen BK1102.out 0; have hfz29_1 := blk_frozen BK1102.out 1))
           go_loopg [10] kj13 (fun kq v10 w' => ∃ (x10_4 : Int), v10 = .int .i64 x10_4 ∧ Aside0 (lb.l2 kq l0 a1 t1092 x6_13 x7_2 x10_4 t1099 t1100 = some true) ∧ Aside0 (kq ≤ kj13) ∧ Aside0 (Kd.R (Kd.int .i64) 3 w' w.heap.size (fun _ => True) v1093 t1092) ∧ Aside0 (w'.heap[gb1102]? = some (.cells #[.int .i64 t1099, .int .i64 t1100] 71 (0, 0))) ∧ Aside0 (Below w.heap.size w w'))
           case atStart => exact ⟨(1), (by first | rfl | (simp; done) | (simp [*]; done)), H', ⟨Nat.le_refl _⟩, ⟨by (with_reducible repeat (first | apply Kd.R_alloc | apply Kd.R_drewN | apply Kd.R_drew)); exact Kd.R_mono (Kd.R_far (p := ⟨gb1102, 1, none⟩) (Kd.R_far (p := ⟨gb1102, 0, none⟩) (Kd.R_types HO_5.out BK1102.out (by decide)) (fun _ hk => hk.2) (.int .i64 t1099)) (fun _ hk => hk.2) (.int .i64 t1100)) (fun _ hk => trivial)⟩, ⟨by (with_reducible repeat (first | refine blk_drewN ?_ _ | refine blk_drew ?_ | refine blk_alloc ?_ _)); refine blk_put (cs := #[.int .i64 t1099, .int .i64 0]) ?_ 1 _ rfl; (with_reducible repeat (first | refine blk_drewN ?_ _ | refine blk_drew ?_ | refine blk_alloc ?_ _)); refine blk_put (cs := #[.int .i64 0, .int .i64 0]) ?_ 0 _ rfl; (with_reducible repeat (first | refine blk_drewN ?_ _ | refine blk_drew ?_ | refine blk_alloc ?_ _)); exact BK1102.out⟩, ⟨by repeat (first | (with_reducible first | exact HB.out | apply below_alloc | apply pw_below_drewN | apply below_drew1 | refine below_set ?_ GE1102.out) | exact HB.out)⟩⟩
           case round =>
            clear H'
            (try clear c1); (try clear p1); (try clear q1); (try clear hx1); (try clear c2); (try clear p2); (try clear c4); (try clear c5); (try clear c6); (try clear p6); (try clear c8); (try clear c9); (try clear c9b0); (try clear c10); (try clear p10); (try clear q10); (try clear hx10); (try clear c13); (try clear c13b0); (try clear c15); (try clear c15b0); (try clear c17); (try clear c17b0); (try clear c18); (try clear c18b0); (try clear c19); (try clear c24); (try clear c24b0); (try clear c24b1); (try clear hcz29_0); (try clear hcz29_1); (try clear hfz29_0); (try clear hfz29_1); (try clear hx1095_0); (try clear p1095); (try clear q1095)
            obtain ⟨x10_4, rfl, HA, HK4, HO_5, BK1102, HB⟩ := hrel
            cases gk with
            | zero => exact absurd HA.out (by simp [lb.l2])
            | succ k4 =>
             have H := HA.out
             clear HA
             simp only [lb.l2] at H
             by_cases c30 : x10_4 ≤ 3
             ·
              rw [if_pos c30] at H
              have c30b0 : decide (x10_4 ≤ 3) = true := decide_eq_true c30
              clear c30
              replace H := Option.bind_eq_some_iff.mp H
              obtain ⟨t1103, A310, H⟩ := H
              replace H : ((lines_At.f k4 t1103 t1099 t1100 a1 x10_4).bind fun bt1106 => (if bt1106.2 = 0 then (if 0 ≤ x6_13 then (if x6_13 < (t1092.length : Int) then (if bt1106.1 = (rd t1092 x6_13) then (lb.l2 k4 l0 a1 t1092 x6_13 x7_2 (wrap64 (x10_4 + 1)) t1099 t1100) else (some false)) else (none)) else (none)) else (some false))) = some true := H
              have A31 := Aside0.mk A310
              clear A310
              replace H := Option.bind_eq_some_iff.mp H
              obtain ⟨⟨t1106, t1107⟩, A320, H⟩ := H
              replace H : (if t1107 = 0 then (if 0 ≤ x6_13 then (if x6_13 < (t1092.length : Int) then (if t1106 = (rd t1092 x6_13) then (lb.l2 k4 l0 a1 t1092 x6_13 x7_2 (wrap64 (x10_4 + 1)) t1099 t1100) else (some false)) else (none)) else (none)) else (some false)) = some true := H
              have A32 := Aside0.mk A320
              clear A320
              by_cases c33 : t1107 = 0
              ·
               rw [if_pos c33] at H
               have c33b0 : (t1107 == 0) = true := beq_iff_eq.mpr c33
               have c33b1 : (t1107 != 0) = false := bne_eq_false_iff_eq.mpr c33
               clear c33
               by_cases c34 : 0 ≤ x6_13
               ·
                rw [if_pos c34] at H
                have c34b0 : decide (0 ≤ x6_13) = true := decide_eq_true c34
                clear c34
                by_cases c35 : x6_13 < (t1092.length : Int)
                ·
                 rw [if_pos c35] at H
                 have c35b0 : decide (x6_13 < (t1092.length : Int)) = true := decide_eq_true c35
                 clear c35
                 by_cases c36 : t1106 = (rd t1092 x6_13)
                 ·
                  rw [if_pos c36] at H
                  have c36b0 : (t1106 == (rd t1092 x6_13)) = true := beq_iff_eq.mpr c36
                  have c36b1 : (t1106 != (rd t1092 x6_13)) = false := bne_eq_false_iff_eq.mpr c36
                  clear c36
                  have H' := Aside0.mk H
                  clear H
                  try go_wp2
                  have n0_ := Aside0.mk (Kd.R_drew HO_5.out)
                  have n1_ := Aside0.mk (blk_drew BK1102.out)
                  have n2_ := Aside0.mk (below_drew1 HB.out)
                  clear HO_5
                  clear BK1102
                  clear HB
                  have HO_5 := n0_
                  have BK1102 := n1_
                  have HB := n2_
                  clear n0_ n1_ n2_
                  refine start_ (n := 11) (S := fun w' => w'.cell? ⟨gb1102, 0, none⟩ = some (.int .i64 t1099) ∧ w'.cell? ⟨gb1102, 1, none⟩ = some (.int .i64 t1100)) (ds := []) #[false, false, false, false, false, false, false, false, false, false, false] (by kernel_rfl) rfl rfl ⟨(blk_cell BK1102.out 0).trans rfl, (blk_cell BK1102.out 1).trans rfl⟩ (fun hHeld => ?_); refine with_tabW lb.tab18 lb.bits18 (fun HT_ HW_ => ?_)
                  generalize wr.drew = w37 at HO_5 BK1102 HB hHeld ⊢
                  refine pure_ (i := 0) (N := some 65) (v := ?_) (a' := ?_) #[true, false, false, false, false, false, false, false, false, false, false] rfl rfl (any_of HT_.out (by kernel_rfl)) (fun _ _ _ h => h) (Or.inl ⟨by rfl, ?_⟩) ?_ ?_
                  rotate_left
                  ·
                   intro w'
                   go_simp
                   with_reducible rfl
                  rotate_left
                  ·
                   simp only [Act.put, List.setIfInBounds_toArray, List.set_cons_zero, List.set_cons_succ, i64_w, i32_w]
                   rfl
                  refine pure_ (i := 3) (N := some 68) (v := ?_) (a' := ?_) #[true, false, false, true, false, false, false, false, false, false, false] rfl rfl (any_of HT_.out (by kernel_rfl)) (fun _ _ _ h => h) (Or.inl ⟨by rfl, ?_⟩) ?_ ?_
                  rotate_left
                  ·
                   intro w'
                   go_simp
                   with_reducible rfl
                  rotate_left
                  ·
                   simp only [Act.put, List.setIfInBounds_toArray, List.set_cons_zero, List.set_cons_succ, i64_w, i32_w]
                   rfl
                  refine pure_ (i := 4) (N := some 69) (v := ?_) (a' := ?_) #[true, false, false, true, true, false, false, false, false, false, false] rfl rfl (any_of HT_.out (by kernel_rfl)) (fun _ _ _ h => h) (Or.inl ⟨by rfl, ?_⟩) ?_ ?_
                  rotate_left
                  ·
                   intro w'
                   go_simp
                   with_reducible rfl
                  rotate_left
                  ·
                   simp only [Act.put, List.setIfInBounds_toArray, List.set_cons_zero, List.set_cons_succ, i64_w, i32_w]
                   rfl
                  refine take_ (i := 2) (N := some 67) (v := ?_) (a' := ?_) #[true, false, true, true, true, false, false, false, false, false, false] rfl rfl (take_ofW HT_.out HW_.out (by kernel_rfl)) (fun _ _ _ h => h) (Or.inl ⟨by rfl, ?_⟩) hHeld ?_ ?_
                  rotate_left
                  ·
                   rintro w' ⟨s0, s1⟩
                   go_simp
                   with_reducible rfl
                  rotate_left
                  ·
                   simp only [Act.put, List.setIfInBounds_toArray, List.set_cons_zero, List.set_cons_succ, i64_w, i32_w]
                   rfl
                  refine one_ (i := 1) (N := some 66) #[true, true, true, true, true, false, false, false, false, false, false] rfl rfl (one_of HT_.out (by kernel_rfl)) (by decide) (fun K hK => ?_)
                  refine goes_ Tryd.func59 (by kernel_rfl) rfl #[.slice A0 l0.length c0] (by rfl) rfl rfl (by (try simp only [List.map_toArray, List.map_cons, List.map_nil]); first | done | rfl | (simp only [List.length_drop, List.length_take]; rfl)) ?_
                  with_reducible refine (galleylaw07_own.calls _ _ l0 t1103 _ ?side1 ?side2 A31.out).mono ?_
                  (case side1 => repeat (first | exact (Kd.C_below HR0.out HB.out) | (with_reducible refine Kd.C_alloc ?_ _) | (with_reducible refine Kd.C_drewN ?_ _) | (with_reducible refine Kd.C_drew ?_)))
                  (case side2 => exact HC0.out)
                  rintro e w38 ⟨v1104, rfl, ho0, hb⟩
                  refine ⟨_, rfl, ?_⟩
                  have n0_ := Aside0.mk (Kd.R_below (by (with_reducible repeat (first | apply Kd.R_alloc | apply Kd.R_drewN | apply Kd.R_drew)); exact HO_5.out) hb)
                  have n1_ := Aside0.mk (Kd.R_lower ho0 (below_size (by repeat (first | (with_reducible first | exact HB.out | apply below_alloc | apply pw_below_drewN | apply below_drew1 | refine below_set ?_ GE1102.out) | exact HB.out))))
                  have n2_ := Aside0.mk (blk_below (g := gb1102) (o := .cells #[.int .i64 t1099, .int .i64 t1100] 71 (0, 0)) (by (with_reducible repeat (first | refine blk_drewN ?_ _ | refine blk_drew ?_ | refine blk_alloc ?_ _)); exact BK1102.out) hb)
                  have n3_ := Aside0.mk (below_step (by repeat (first | (with_reducible first | exact HB.out | apply below_alloc | apply pw_below_drewN | apply below_drew1 | refine below_set ?_ GE1102.out) | exact HB.out)) hb)
                  clear HO_5
                  clear BK1102
                  clear HB
                  have HO_5 := n0_
                  have HO1105 := n1_
                  have BK1102 := n2_
                  have HB := n3_
                  clear n0_ n1_ n2_ n3_
                  (try clear hb)
                  (try clear hb2)
                  (try clear hk)
                  (try clear hi)
                  (try clear ho0)
                  obtain ⟨Ao39, co39, eo39⟩ := Kd.R_slice HO1105.out
                  (first | subst eo39 | (injection eo39 with f1_ f2_ f3_; have f4_ := f1_.symm; have f5_ := f3_.symm; clear f1_ f2_ f3_; subst f4_; subst f5_))
                  refine hK.out _ _ ⟨(blk_cell BK1102.out 0).trans rfl, (blk_cell BK1102.out 1).trans rfl⟩ (fun hHeld => ?_)
                  clear hK K
                  refine norm_ (a' := ?_) ?_ ?_
                  rotate_left
                  ·
                   show Act.put _ (some 66) _ = _
                   simp only [Act.put, List.setIfInBounds_toArray, List.set_cons_zero, List.set_cons_succ, i64_w, i32_w]
                   rfl
                  refine one_ (i := 5) (N := some 70) #[true, true, true, true, true, true, false, false, false, false, false] rfl rfl (one_of HT_.out (by kernel_rfl)) (by decide) (fun K hK => ?_)
                  refine goes_ Tryd.func58 (by kernel_rfl) rfl #[.slice Ao39 t1103.length co39, .agg #[.int .i64 t1099, .int .i64 t1100], .int .i64 a1, .int .i64 x10_4] (by rfl) rfl rfl (by (try simp only [List.map_toArray, List.map_cons, List.map_nil]); first | done | rfl | (simp only [List.length_drop, List.length_take]; rfl)) ?_
                  with_reducible refine (lines_At.calls k4 _ _ t1103 t1099 t1100 a1 x10_4 t1106 t1107 _ ?side1 ?side2 ?side3 A32.out).mono ?_
                  (case side1 => repeat (first | exact (Kd.R_reads' HO1105.out).2.2 | (with_reducible refine Kd.C_alloc ?_ _) | (with_reducible refine Kd.C_drewN ?_ _) | (with_reducible refine Kd.C_drew ?_)))
                  (case side2 => exact (Kd.R_reads' HO1105.out).2.1)
                  (case side3 => repeat (first | exact HG.out | exact Laid.below HG.out HB.out | (with_reducible refine Laid.alloc ?_ _) | (with_reducible refine Laid.drewN ?_ _) | (with_reducible refine Laid.drew ?_)))
                  rintro e w40 ⟨rfl, hb⟩
                  refine ⟨_, rfl, ?_⟩
                  have n0_ := Aside0.mk (Kd.R_below (by (with_reducible repeat (first | apply Kd.R_alloc | apply Kd.R_drewN | apply Kd.R_drew)); exact HO_5.out) hb)
                  have n1_ := Aside0.mk (Kd.R_below (by (with_reducible repeat (first | apply Kd.R_alloc | apply Kd.R_drewN | apply Kd.R_drew)); exact HO1105.out) hb)
                  have n2_ := Aside0.mk (blk_below (g := gb1102) (o := .cells #[.int .i64 t1099, .int .i64 t1100] 71 (0, 0)) (by (with_reducible repeat (first | refine blk_drewN ?_ _ | refine blk_drew ?_ | refine blk_alloc ?_ _)); exact BK1102.out) hb)
                  have n3_ := Aside0.mk (below_step (by repeat (first | (with_reducible first | exact HB.out | apply below_alloc | apply pw_below_drewN | apply below_drew1 | refine below_set ?_ GE1102.out) | exact HB.out)) hb)
                  clear HO_5
                  clear HO1105
                  clear BK1102
                  clear HB
                  have HO_5 := n0_
                  have HO1105 := n1_
                  have BK1102 := n2_
                  have HB := n3_
                  clear n0_ n1_ n2_ n3_
                  (try clear hb)
                  (try clear hb2)
                  (try clear hk)
                  (try clear hi)
                  refine hK.out _ _ ⟨(blk_cell BK1102.out 0).trans rfl, (blk_cell BK1102.out 1).trans rfl⟩ (fun hHeld => ?_)
                  clear hK K
                  refine norm_ (a' := ?_) ?_ ?_
                  rotate_left
                  ·
                   show Act.put _ (some 70) _ = _
                   simp only [Act.put, List.setIfInBounds_toArray, List.set_cons_zero, List.set_cons_succ, i64_w, i32_w]
                   rfl
                  refine pure_ (i := 6) (N := some 64) (v := ?_) (a' := ?_) #[true, true, true, true, true, true, true, false, false, false, false] rfl rfl (any_of HT_.out (by kernel_rfl)) (fun _ _ _ h => h) (Or.inl ⟨by rfl, ?_⟩) ?_ ?_
                  rotate_left
                  ·
                   intro w'
                   go_simp
                   with_reducible rfl
                  rotate_left
                  ·
                   simp only [Act.put, List.setIfInBounds_toArray, List.set_cons_zero, List.set_cons_succ, i64_w, i32_w]
                   rfl
                  refine pure_ (i := 7) (N := some 71) (v := ?_) (a' := ?_) #[true, true, true, true, true, true, true, true, false, false, false] rfl rfl (any_of HT_.out (by kernel_rfl)) (fun _ _ _ h => h) (Or.inl ⟨by rfl, ?_⟩) ?_ ?_
                  rotate_left
                  ·
                   intro w'
                   go_simp
                   with_reducible rfl
                  rotate_left
                  ·
                   simp only [Act.put, List.setIfInBounds_toArray, List.set_cons_zero, List.set_cons_succ, i64_w, i32_w]
                   rfl
                  refine pure_ (i := 8) (N := some 72) (v := ?_) (a' := ?_) #[true, true, true, true, true, true, true, true, true, false, false] rfl rfl (any_of HT_.out (by kernel_rfl)) (fun _ _ _ h => h) (Or.inl ⟨by rfl, ?_⟩) ?_ ?_
                  rotate_left
                  ·
                   intro w'
                   go_simp
                   with_reducible rfl
                  rotate_left
                  ·
                   simp only [Act.put, List.setIfInBounds_toArray, List.set_cons_zero, List.set_cons_succ, i64_w, i32_w]
                   rfl
                  refine pure_ (i := 9) (N := some 11) (v := ?_) (a' := ?_) #[true, true, true, true, true, true, true, true, true, true, false] rfl rfl (any_of HT_.out (by kernel_rfl)) (fun _ _ _ h => h) (Or.inl ⟨by rfl, ?_⟩) ?_ ?_
                  rotate_left
                  ·
                   intro w'
                   go_simp
                   with_reducible rfl
                  rotate_left
                  ·
                   simp only [Act.put, List.setIfInBounds_toArray, List.set_cons_zero, List.set_cons_succ, i64_w, i32_w]
                   rfl
                  refine pure_ (i := 10) (N := some 12) (v := ?_) (a' := ?_) #[true, true, true, true, true, true, true, true, true, true, true] rfl rfl (any_of HT_.out (by kernel_rfl)) (fun _ _ _ h => h) (Or.inl ⟨by rfl, ?_⟩) ?_ ?_
                  rotate_left
                  ·
                   intro w'
                   go_simp
                   with_reducible rfl
                  rotate_left
                  ·
                   simp only [Act.put, List.setIfInBounds_toArray, List.set_cons_zero, List.set_cons_succ, i64_w, i32_w]
                   rfl
                  refine done_ (done_of HT_.out (by kernel_rfl)) ?_
                  obtain ⟨Ao41, co41, eo41⟩ := Kd.R_slice HO_5.out
                  subst eo41
                  have p1108 : 0 ≤ (x6_13 : Int) := of_decide_eq_true (by first | (with_reducible assumption) | assumption)
                  have q1108 : x6_13 < (t1092.length : Int) := of_decide_eq_true (by first | (with_reducible assumption) | assumption)
                  obtain ⟨ad1108, e1108, hx1108_0⟩ := Kd.at_int (Kd.R_reads' HO_5.out).2.2 x6_13 p1108 q1108
                  cases e1108
                  replace p1108 := eq_true p1108
                  replace q1108 := eq_true q1108
                  try go_wp2
                  go_roundg k4
                  case measure => have := HJ4.out; have := HK2.out; have := HJ13.out; have := HK4.out; omega
                  case rel => exact ⟨(wrap64 (x10_4 + 1)), (by first | rfl | (simp; done) | (simp [*]; done)), H', ⟨by have := HJ4.out; have := HK2.out; have := HJ13.out; have := HK4.out; omega⟩, ⟨by (with_reducible repeat (first | apply Kd.R_alloc | apply Kd.R_drewN | apply Kd.R_drew)); exact HO_5.out⟩, ⟨by (with_reducible repeat (first | refine blk_drewN ?_ _ | refine blk_drew ?_ | refine blk_alloc ?_ _)); exact BK1102.out⟩, ⟨by repeat (first | (with_reducible first | exact HB.out | apply below_alloc | apply pw_below_drewN | apply below_drew1 | refine below_set ?_ GE1102.out) | exact HB.out)⟩⟩
                 ·
                  rw [if_neg c36] at H
                  exact absurd H (by simp)
                ·
                 rw [if_neg c35] at H
                 exact absurd H (by simp)
               ·
                rw [if_neg c34] at H
                exact absurd H (by simp)
              ·
               rw [if_neg c33] at H
               exact absurd H (by simp)
             ·
              rw [if_neg c30] at H
              have c30b0 : decide (x10_4 ≤ 3) = false := decide_eq_false c30
              clear c30
              replace H := Option.bind_eq_some_iff.mp H
              obtain ⟨t1109, A510, H⟩ := H
              replace H : (if 0 ≤ x6_13 then (if x6_13 < (t1092.length : Int) then ((lines_Spot.f t1109 (rd t1092 x6_13) a1).bind fun bt1113 => (if bt1113.2.2 = 0 then (if (!(bt1113.1 == t1099) || (!(bt1113.2.1 == t1100))) = true then (some false) else (lb.l0 k4 l0 a1 t1092 x6_13 (wrap64 (x7_2 + 1)))) else (some false))) else (none)) else (none)) = some true := H
              have A51 := Aside0.mk A510
              clear A510
              by_cases c52 : 0 ≤ x6_13
              ·
               rw [if_pos c52] at H
               have c52b0 : decide (0 ≤ x6_13) = true := decide_eq_true c52
               clear c52
               by_cases c53 : x6_13 < (t1092.length : Int)
               ·
                rw [if_pos c53] at H
                have c53b0 : decide (x6_13 < (t1092.length : Int)) = true := decide_eq_true c53
                clear c53
                replace H := Option.bind_eq_some_iff.mp H
                obtain ⟨⟨t1113, t1114, t1115⟩, A540, H⟩ := H
                replace H : (if t1115 = 0 then (if (!(t1113 == t1099) || (!(t1114 == t1100))) = true then (some false) else (lb.l0 k4 l0 a1 t1092 x6_13 (wrap64 (x7_2 + 1)))) else (some false)) = some true := H
                have A54 := Aside0.mk A540
                clear A540
                by_cases c55 : t1115 = 0
                ·
                 rw [if_pos c55] at H
                 have c55b0 : (t1115 == 0) = true := beq_iff_eq.mpr c55
                 have c55b1 : (t1115 != 0) = false := bne_eq_false_iff_eq.mpr c55
                 clear c55
                 by_cases c56 : (!(t1113 == t1099) || (!(t1114 == t1100))) = true
                 ·
                  rw [if_pos c56] at H
                  exact absurd H (by simp)
                 ·
                  rw [if_neg c56] at H
                  have c56b0 : (!(t1113 == t1099) || (!(t1114 == t1100))) = false := by simpa using c56
                  clear c56
                  have H' := Aside0.mk H
                  clear H
                  try go_wp2
                  have n0_ := Aside0.mk (Kd.R_drew HO_5.out)
                  have n1_ := Aside0.mk (blk_drew BK1102.out)
                  have n2_ := Aside0.mk (below_drew1 HB.out)
                  clear HO_5
                  clear BK1102
                  clear HB
                  have HO_5 := n0_
                  have BK1102 := n1_
                  have HB := n2_
                  clear n0_ n1_ n2_
                  obtain ⟨Ao70, co70, eo70⟩ := Kd.R_slice HO_5.out
                  (first | subst eo70 | (injection eo70 with f1_ f2_ f3_; have f4_ := f1_.symm; have f5_ := f3_.symm; clear f1_ f2_ f3_; subst f4_; subst f5_))
                  have p1112 : 0 ≤ (x6_13 : Int) := of_decide_eq_true (by first | (with_reducible assumption) | assumption)
                  have q1112 : x6_13 < (t1092.length : Int) := of_decide_eq_true (by first | (with_reducible assumption) | assumption)
                  obtain ⟨ad1112, e1112, hx1112_0⟩ := Kd.at_int (Kd.R_reads' HO_5.out).2.2 x6_13 p1112 q1112
                  cases e1112
                  replace p1112 := eq_true p1112
                  replace q1112 := eq_true q1112
                  refine start_ (n := 14) (S := fun w' => w'.cell? (ad1112.add (x6_13).toNat) = some (.int .i64 (rd t1092 x6_13))) (ds := []) #[false, false, false, false, false, false, false, false, false, false, false, false, false, false] (by kernel_rfl) rfl rfl (hx1112_0) (fun hHeld => ?_); refine with_tabW lb.tab21 lb.bits21 (fun HT_ HW_ => ?_)
                  generalize wr.drew = w69 at HO_5 BK1102 HB hx1112_0 hHeld ⊢
                  refine pure_ (i := 0) (N := some 84) (v := ?_) (a' := ?_) #[true, false, false, false, false, false, false, false, false, false, false, false, false, false] rfl rfl (any_of HT_.out (by kernel_rfl)) (fun _ _ _ h => h) (Or.inl ⟨by rfl, ?_⟩) ?_ ?_
                  rotate_left
                  ·
                   intro w'
                   go_simp
                   with_reducible rfl
                  rotate_left
                  ·
                   simp only [Act.put, List.setIfInBounds_toArray, List.set_cons_zero, List.set_cons_succ, i64_w, i32_w]
                   rfl
                  refine pure_ (i := 2) (N := some 86) (v := ?_) (a' := ?_) #[true, false, true, false, false, false, false, false, false, false, false, false, false, false] rfl rfl (any_of HT_.out (by kernel_rfl)) (fun _ _ _ h => h) (Or.inl ⟨by rfl, ?_⟩) ?_ ?_
                  rotate_left
                  ·
                   intro w'
                   go_simp
                   with_reducible rfl
                  rotate_left
                  ·
                   simp only [Act.put, List.setIfInBounds_toArray, List.set_cons_zero, List.set_cons_succ, i64_w, i32_w]
                   rfl
                  refine pure_ (i := 3) (N := some 87) (v := ?_) (a' := ?_) #[true, false, true, true, false, false, false, false, false, false, false, false, false, false] rfl rfl (any_of HT_.out (by kernel_rfl)) (fun _ _ _ h => h) (Or.inl ⟨by rfl, ?_⟩) ?_ ?_
                  rotate_left
                  ·
                   intro w'
                   go_simp
                   with_reducible rfl
                  rotate_left
                  ·
                   simp only [Act.put, List.setIfInBounds_toArray, List.set_cons_zero, List.set_cons_succ, i64_w, i32_w]
                   rfl
                  refine pure_ (i := 4) (N := some 88) (v := ?_) (a' := ?_) #[true, false, true, true, true, false, false, false, false, false, false, false, false, false] rfl rfl (any_of HT_.out (by kernel_rfl)) (fun _ _ _ h => h) (Or.inl ⟨by rfl, ?_⟩) ?_ ?_
                  rotate_left
                  ·
                   intro w'
                   go_simp
                   with_reducible rfl
                  rotate_left
                  ·
                   simp only [Act.put, List.setIfInBounds_toArray, List.set_cons_zero, List.set_cons_succ, i64_w, i32_w]
                   rfl
                  refine pure_ (i := 6) (N := some 90) (v := ?_) (a' := ?_) #[true, false, true, true, true, false, true, false, false, false, false, false, false, false] rfl rfl (any_of HT_.out (by kernel_rfl)) (fun _ _ _ h => h) (Or.inl ⟨by rfl, ?_⟩) ?_ ?_
                  rotate_left
                  ·
                   intro w'
                   go_simp
                   with_reducible rfl
                  rotate_left
                  ·
                   simp only [Act.put, List.setIfInBounds_toArray, List.set_cons_zero, List.set_cons_succ, i64_w, i32_w]
                   rfl
                  refine take_ (i := 5) (N := some 89) (v := ?_) (a' := ?_) #[true, false, true, true, true, true, true, false, false, false, false, false, false, false] rfl rfl (take_ofW HT_.out HW_.out (by kernel_rfl)) (fun _ _ _ h => h) (Or.inl ⟨by rfl, ?_⟩) hHeld ?_ ?_
                  rotate_left
                  ·
                   intro w' s0
                   go_simp
                   with_reducible rfl
                  rotate_left
                  ·
                   simp only [Act.put, List.setIfInBounds_toArray, List.set_cons_zero, List.set_cons_succ, i64_w, i32_w]
                   rfl
                  refine join_ (σ := Value × Nat) 2 #[true, true, true, true, true, true, true, true, true, true, true, true, false, false] (fun s_ => [(85, s_.1), (91, .tuple #[.agg #[.int .i64 t1113, .int .i64 t1114], .int .i64 t1115]), (13, .pointer (some ⟨s_.2, 0, none⟩)), (83, .tuple #[.agg #[.int .i64 t1113, .int .i64 t1114], .int .i64 t1115]), (92, .agg #[.int .i64 t1113, .int .i64 t1114]), (93, .int .i64 t1115)]) (fun s_ w' => (w'.cell? (ad1112.add (x6_13).toNat) = some (.int .i64 (rd t1092 x6_13))) ∧ (Kd.R (Kd.int .u8) 5 w' w.heap.size (fun _ => True) s_.1 t1109) ∧ (Kd.R (Kd.int .i64) 3 w' w.heap.size (fun _ => True) (.slice (some ad1112) t1092.length co70) t1092) ∧ (w'.heap[gb1102]? = some (.cells #[.int .i64 t1099, .int .i64 t1100] 71 (0, 0))) ∧ (w'.heap[s_.2]? = some (.cells #[.int .i64 0, .int .i64 0] 71 (0, 0))) ∧ (w.heap.size ≤ s_.2) ∧ (w.heap.size ≤ s_.2) ∧ (gb1102 ≠ s_.2) ∧ (s_.2 ≠ gb1102) ∧ (Below w.heap.size w w')) ?_ ?_
                  rotate_left
                  ·
                   intro hCont
                   refine two_ (i := 1) (j := 11) (Ni := some 85) (Nj := some 13) #[true, true, true, true, true, true, true, false, false, false, false, false, false, false] #[true, false, true, true, true, true, true, false, false, false, false, true, false, false] rfl rfl rfl rfl (two_of HT_.out (by kernel_rfl)) (by decide) (by decide) (fun K hK => ?_) (fun K hK => ?_)
                   ·
                    skip
                    refine goes_ Tryd.func59 (by kernel_rfl) rfl #[.slice A0 l0.length c0] (by rfl) rfl rfl (by (try simp only [List.map_toArray, List.map_cons, List.map_nil]); first | done | rfl | (simp only [List.length_drop, List.length_take]; rfl)) ?_
                    with_reducible refine (galleylaw07_own.calls _ _ l0 t1109 _ ?side1 ?side2 A51.out).mono ?_
                    (case side1 => repeat (first | exact (Kd.C_below HR0.out HB.out) | (with_reducible refine Kd.C_alloc ?_ _) | (with_reducible refine Kd.C_drewN ?_ _) | (with_reducible refine Kd.C_drew ?_)))
                    (case side2 => exact HC0.out)
                    rintro e w71 ⟨v1110, rfl, ho0, hb⟩
                    have HS0_ := (hb.cell (World.block_lt_of_cell? _ _ (hHeld))).trans (hHeld)
                    refine ⟨_, rfl, ?_⟩
                    have n0_ := Aside0.mk (Kd.R_below (by (with_reducible repeat (first | apply Kd.R_alloc | apply Kd.R_drewN | apply Kd.R_drew)); exact HO_5.out) hb)
                    have n1_ := Aside0.mk (Kd.R_lower ho0 (below_size (by repeat (first | (with_reducible first | exact HB.out | apply below_alloc | apply pw_below_drewN | apply below_drew1 | refine below_set ?_ GE1102.out) | exact HB.out))))
                    have n2_ := Aside0.mk (blk_below (g := gb1102) (o := .cells #[.int .i64 t1099, .int .i64 t1100] 71 (0, 0)) (by (with_reducible repeat (first | refine blk_drewN ?_ _ | refine blk_drew ?_ | refine blk_alloc ?_ _)); exact BK1102.out) hb)
                    have n3_ := Aside0.mk (below_step (by repeat (first | (with_reducible first | exact HB.out | apply below_alloc | apply pw_below_drewN | apply below_drew1 | refine below_set ?_ GE1102.out) | exact HB.out)) hb)
                    clear HO_5
                    clear BK1102
                    clear HB
                    have HO_5 := n0_
                    have HO1111 := n1_
                    have BK1102 := n2_
                    have HB := n3_
                    clear n0_ n1_ n2_ n3_
                    (try clear hb)
                    (try clear hb2)
                    (try clear hk)
                    (try clear hi)
                    (try clear ho0)
                    obtain ⟨Ao72, co72, eo72⟩ := Kd.R_slice HO1111.out
                    (first | subst eo72 | (injection eo72 with f1_ f2_ f3_; have f4_ := f1_.symm; have f5_ := f3_.symm; clear f1_ f2_ f3_; subst f4_; subst f5_))
                    refine hK.out _ _ (HS0_) (fun hHeld => ?_)
                    clear hK K
                    refine norm_ (a' := ?_) ?_ ?_
                    rotate_left
                    ·
                     show Act.put _ (some 85) _ = _
                     simp only [Act.put, List.setIfInBounds_toArray, List.set_cons_zero, List.set_cons_succ, i64_w, i32_w]
                     rfl
                    refine two_ (i := 7) (j := 11) (Ni := some 91) (Nj := some 13) #[true, true, true, true, true, true, true, true, false, false, false, false, false, false] #[true, true, true, true, true, true, true, false, false, false, false, true, false, false] rfl rfl rfl rfl (two_of HT_.out (by kernel_rfl)) (by decide) (by decide) (fun K hK => ?_) (fun K hK => ?_)
                    ·
                     skip
                     refine goes_ Tryd.func67 (by kernel_rfl) rfl #[.slice Ao72 t1109.length co72, .int .i64 (rd t1092 x6_13), .int .i64 a1] (by rfl) rfl rfl (by (try simp only [List.map_toArray, List.map_cons, List.map_nil]); first | done | rfl | (simp only [List.length_drop, List.length_take]; rfl)) ?_
                     with_reducible refine (lines_Spot.calls _ _ t1109 (rd t1092 x6_13) a1 t1113 t1114 t1115 _ ?side1 ?side2 ?side3 A54.out).mono ?_
                     (case side1 => repeat (first | exact (Kd.R_reads' HO1111.out).2.2 | (with_reducible refine Kd.C_alloc ?_ _) | (with_reducible refine Kd.C_drewN ?_ _) | (with_reducible refine Kd.C_drew ?_)))
                     (case side2 => exact (Kd.R_reads' HO1111.out).2.1)
                     (case side3 => repeat (first | exact HG.out | exact Laid.below HG.out HB.out | (with_reducible refine Laid.alloc ?_ _) | (with_reducible refine Laid.drewN ?_ _) | (with_reducible refine Laid.drew ?_)))
                     rintro e w73 ⟨rfl, hb⟩
                     have HS0_ := (hb.cell (World.block_lt_of_cell? _ _ (hHeld))).trans (hHeld)
                     refine ⟨_, rfl, ?_⟩
                     have n0_ := Aside0.mk (Kd.R_below (by (with_reducible repeat (first | apply Kd.R_alloc | apply Kd.R_drewN | apply Kd.R_drew)); exact HO_5.out) hb)
                     have n1_ := Aside0.mk (Kd.R_below (by (with_reducible repeat (first | apply Kd.R_alloc | apply Kd.R_drewN | apply Kd.R_drew)); exact HO1111.out) hb)
                     have n2_ := Aside0.mk (blk_below (g := gb1102) (o := .cells #[.int .i64 t1099, .int .i64 t1100] 71 (0, 0)) (by (with_reducible repeat (first | refine blk_drewN ?_ _ | refine blk_drew ?_ | refine blk_alloc ?_ _)); exact BK1102.out) hb)
                     have n3_ := Aside0.mk (below_step (by repeat (first | (with_reducible first | exact HB.out | apply below_alloc | apply pw_below_drewN | apply below_drew1 | refine below_set ?_ GE1102.out) | exact HB.out)) hb)
                     clear HO_5
                     clear HO1111
                     clear BK1102
                     clear HB
                     have HO_5 := n0_
                     have HO1111 := n1_
                     have BK1102 := n2_
                     have HB := n3_
                     clear n0_ n1_ n2_ n3_
                     (try clear hb)
                     (try clear hb2)
                     (try clear hk)
                     (try clear hi)
                     refine hK.out _ _ (HS0_) (fun hHeld => ?_)
                     clear hK K
                     refine norm_ (a' := ?_) ?_ ?_
                     rotate_left
                     ·
                      show Act.put _ (some 91) _ = _
                      simp only [Act.put, List.setIfInBounds_toArray, List.set_cons_zero, List.set_cons_succ, i64_w, i32_w]
                      rfl
                     refine pure_ (i := 8) (N := some 83) (v := ?_) (a' := ?_) #[true, true, true, true, true, true, true, true, true, false, false, false, false, false] rfl rfl (any_of HT_.out (by kernel_rfl)) (fun _ _ _ h => h) (Or.inl ⟨by rfl, ?_⟩) ?_ ?_
                     rotate_left
                     ·
                      intro w'
                      go_simp
                      with_reducible rfl
                     rotate_left
                     ·
                      simp only [Act.put, List.setIfInBounds_toArray, List.set_cons_zero, List.set_cons_succ, i64_w, i32_w]
                      rfl
                     refine pure_ (i := 9) (N := some 92) (v := ?_) (a' := ?_) #[true, true, true, true, true, true, true, true, true, true, false, false, false, false] rfl rfl (any_of HT_.out (by kernel_rfl)) (fun _ _ _ h => h) (Or.inl ⟨by rfl, ?_⟩) ?_ ?_
                     rotate_left
                     ·
                      intro w'
                      go_simp
                      with_reducible rfl
                     rotate_left
                     ·
                      simp only [Act.put, List.setIfInBounds_toArray, List.set_cons_zero, List.set_cons_succ, i64_w, i32_w]
                      rfl
                     refine pure_ (i := 10) (N := some 93) (v := ?_) (a' := ?_) #[true, true, true, true, true, true, true, true, true, true, true, false, false, false] rfl rfl (any_of HT_.out (by kernel_rfl)) (fun _ _ _ h => h) (Or.inl ⟨by rfl, ?_⟩) ?_ ?_
                     rotate_left
                     ·
                      intro w'
                      go_simp
                      with_reducible rfl
                     rotate_left
                     ·
                      simp only [Act.put, List.setIfInBounds_toArray, List.set_cons_zero, List.set_cons_succ, i64_w, i32_w]
                      rfl
                     refine one_ (i := 11) (N := some 13) #[true, true, true, true, true, true, true, true, true, true, true, true, false, false] rfl rfl (one_of HT_.out (by kernel_rfl)) (by decide) (fun K hK => ?_)
                     refine box_step ?hg (N := 13) ?hd (cs := #[.int .i64 0, .int .i64 0]) (t := 71) ?hr ?_; (case hd => rfl); (case hg => rfl); (case hr => first | (go_simp; done) | (go_simp; rfl))
                     intro gb1116 hg w74 hbox hb
                     have HS0_ := (hb.cell (World.block_lt_of_cell? _ _ (hHeld))).trans (hHeld)
                     have n0_ := Aside0.mk (Kd.R_below (by (with_reducible repeat (first | apply Kd.R_alloc | apply Kd.R_drewN | apply Kd.R_drew)); exact HO_5.out) hb)
                     have n1_ := Aside0.mk (Kd.R_below (by (with_reducible repeat (first | apply Kd.R_alloc | apply Kd.R_drewN | apply Kd.R_drew)); exact HO1111.out) hb)
                     have n2_ := Aside0.mk (blk_below (g := gb1102) (o := .cells #[.int .i64 t1099, .int .i64 t1100] 71 (0, 0)) (by (with_reducible repeat (first | refine blk_drewN ?_ _ | refine blk_drew ?_ | refine blk_alloc ?_ _)); exact BK1102.out) hb)
                     have n3_ := Aside0.mk (below_step (by repeat (first | (with_reducible first | exact HB.out | apply below_alloc | apply pw_below_drewN | apply below_drew1 | refine below_set ?_ GE1102.out) | exact HB.out)) hb)
                     have n4_ := Aside0.mk (hbox)
                     have n5_ := Aside0.mk ((by rw [hg]; exact (below_size (by repeat (first | (with_reducible first | exact HB.out | apply below_alloc | apply pw_below_drewN | apply below_drew1 | refine below_set ?_ GE1102.out) | exact HB.out))) : w.heap.size ≤ gb1116))
                     have n6_ := Aside0.mk ((by rw [hg]; exact (below_size (by repeat (first | (with_reducible first | exact HB.out | apply below_alloc | apply pw_below_drewN | apply below_drew1 | refine below_set ?_ GE1102.out) | exact HB.out))) : w.heap.size ≤ gb1116))
                     have n7_ := Aside0.mk ((by rw [hg]; exact Nat.ne_of_lt (blk_lt (g := gb1102) (o := .cells #[.int .i64 t1099, .int .i64 t1100] 71 (0, 0)) (by (with_reducible repeat (first | refine blk_drewN ?_ _ | refine blk_drew ?_ | refine blk_alloc ?_ _)); exact BK1102.out)) : gb1102 ≠ gb1116))
                     have n8_ := Aside0.mk ((by rw [hg]; exact Nat.ne_of_gt (blk_lt (g := gb1102) (o := .cells #[.int .i64 t1099, .int .i64 t1100] 71 (0, 0)) (by (with_reducible repeat (first | refine blk_drewN ?_ _ | refine blk_drew ?_ | refine blk_alloc ?_ _)); exact BK1102.out)) : gb1116 ≠ gb1102))
                     clear HO_5
                     clear HO1111
                     clear BK1102
                     clear HB
                     have HO_5 := n0_
                     have HO1111 := n1_
                     have BK1102 := n2_
                     have HB := n3_
                     have BK1116 := n4_
                     have GW1116 := n5_
                     have GE1116 := n6_
                     have NB1102_1116 := n7_
                     have NB1116_1102 := n8_
                     clear n0_ n1_ n2_ n3_ n4_ n5_ n6_ n7_ n8_
                     clear hb hbox hg
                     refine hK.out _ _ (HS0_) (fun hHeld => ?_)
                     clear hK K
                     refine norm_ (a' := ?_) ?_ ?_
                     rotate_left
                     ·
                      show Act.put _ (some 13) _ = _
                      simp only [Act.put, List.setIfInBounds_toArray, List.set_cons_zero, List.set_cons_succ, i64_w, i32_w]
                      rfl
                     exact norm_ (by simp only [putAll, Act.put, List.setIfInBounds_toArray, List.set_cons_zero, List.set_cons_succ]) (hCont (.slice Ao72 t1109.length co72, gb1116) _ ⟨hHeld, (by (with_reducible repeat (first | apply Kd.R_alloc | apply Kd.R_drewN | apply Kd.R_drew)); exact HO1111.out), (by (with_reducible repeat (first | apply Kd.R_alloc | apply Kd.R_drewN | apply Kd.R_drew)); exact HO_5.out), (by (with_reducible repeat (first | refine blk_drewN ?_ _ | refine blk_drew ?_ | refine blk_alloc ?_ _)); exact BK1102.out), (by (with_reducible repeat (first | refine blk_drewN ?_ _ | refine blk_drew ?_ | refine blk_alloc ?_ _)); exact BK1116.out), GW1116.out, GE1116.out, NB1102_1116.out, NB1116_1102.out, (by repeat (first | (with_reducible first | exact HB.out | apply below_alloc | apply pw_below_drewN | apply below_drew1 | refine below_set ?_ GE1102.out | refine below_set ?_ GE1116.out) | exact HB.out))⟩)
                    ·
                     skip
                     refine box_step ?hg (N := 13) ?hd (cs := #[.int .i64 0, .int .i64 0]) (t := 71) ?hr ?_; (case hd => rfl); (case hg => rfl); (case hr => first | (go_simp; done) | (go_simp; rfl))
                     intro gb1116 hg w72 hbox hb
                     have HS0_ := (hb.cell (World.block_lt_of_cell? _ _ (hHeld))).trans (hHeld)
                     have n0_ := Aside0.mk (Kd.R_below (by (with_reducible repeat (first | apply Kd.R_alloc | apply Kd.R_drewN | apply Kd.R_drew)); exact HO_5.out) hb)
                     have n1_ := Aside0.mk (Kd.R_below (by (with_reducible repeat (first | apply Kd.R_alloc | apply Kd.R_drewN | apply Kd.R_drew)); exact HO1111.out) hb)
                     have n2_ := Aside0.mk (blk_below (g := gb1102) (o := .cells #[.int .i64 t1099, .int .i64 t1100] 71 (0, 0)) (by (with_reducible repeat (first | refine blk_drewN ?_ _ | refine blk_drew ?_ | refine blk_alloc ?_ _)); exact BK1102.out) hb)
                     have n3_ := Aside0.mk (below_step (by repeat (first | (with_reducible first | exact HB.out | apply below_alloc | apply pw_below_drewN | apply below_drew1 | refine below_set ?_ GE1102.out) | exact HB.out)) hb)
                     have n4_ := Aside0.mk (hbox)
                     have n5_ := Aside0.mk ((by rw [hg]; exact (below_size (by repeat (first | (with_reducible first | exact HB.out | apply below_alloc | apply pw_below_drewN | apply below_drew1 | refine below_set ?_ GE1102.out) | exact HB.out))) : w.heap.size ≤ gb1116))
                     have n6_ := Aside0.mk ((by rw [hg]; exact (below_size (by repeat (first | (with_reducible first | exact HB.out | apply below_alloc | apply pw_below_drewN | apply below_drew1 | refine below_set ?_ GE1102.out) | exact HB.out))) : w.heap.size ≤ gb1116))
                     have n7_ := Aside0.mk ((by rw [hg]; exact Nat.ne_of_lt (blk_lt (g := gb1102) (o := .cells #[.int .i64 t1099, .int .i64 t1100] 71 (0, 0)) (by (with_reducible repeat (first | refine blk_drewN ?_ _ | refine blk_drew ?_ | refine blk_alloc ?_ _)); exact BK1102.out)) : gb1102 ≠ gb1116))
                     have n8_ := Aside0.mk ((by rw [hg]; exact Nat.ne_of_gt (blk_lt (g := gb1102) (o := .cells #[.int .i64 t1099, .int .i64 t1100] 71 (0, 0)) (by (with_reducible repeat (first | refine blk_drewN ?_ _ | refine blk_drew ?_ | refine blk_alloc ?_ _)); exact BK1102.out)) : gb1116 ≠ gb1102))
                     clear HO_5
                     clear HO1111
                     clear BK1102
                     clear HB
                     have HO_5 := n0_
                     have HO1111 := n1_
                     have BK1102 := n2_
                     have HB := n3_
                     have BK1116 := n4_
                     have GW1116 := n5_
                     have GE1116 := n6_
                     have NB1102_1116 := n7_
                     have NB1116_1102 := n8_
                     clear n0_ n1_ n2_ n3_ n4_ n5_ n6_ n7_ n8_
                     clear hb hbox hg
                     obtain ⟨Ao73, co73, eo73⟩ := Kd.R_slice HO1111.out
                     (first | subst eo73 | (injection eo73 with f1_ f2_ f3_; have f4_ := f1_.symm; have f5_ := f3_.symm; clear f1_ f2_ f3_; subst f4_; subst f5_))
                     refine hK.out _ _ (HS0_) (fun hHeld => ?_)
                     clear hK K
                     refine norm_ (a' := ?_) ?_ ?_
                     rotate_left
                     ·
                      show Act.put _ (some 13) _ = _
                      simp only [Act.put, List.setIfInBounds_toArray, List.set_cons_zero, List.set_cons_succ, i64_w, i32_w]
                      rfl
                     refine one_ (i := 7) (N := some 91) #[true, true, true, true, true, true, true, true, false, false, false, true, false, false] rfl rfl (one_of HT_.out (by kernel_rfl)) (by decide) (fun K hK => ?_)
                     refine goes_ Tryd.func67 (by kernel_rfl) rfl #[.slice Ao73 t1109.length co73, .int .i64 (rd t1092 x6_13), .int .i64 a1] (by rfl) rfl rfl (by (try simp only [List.map_toArray, List.map_cons, List.map_nil]); first | done | rfl | (simp only [List.length_drop, List.length_take]; rfl)) ?_
                     with_reducible refine (lines_Spot.calls _ _ t1109 (rd t1092 x6_13) a1 t1113 t1114 t1115 _ ?side1 ?side2 ?side3 A54.out).mono ?_
                     (case side1 => repeat (first | exact (Kd.R_reads' HO1111.out).2.2 | (with_reducible refine Kd.C_alloc ?_ _) | (with_reducible refine Kd.C_drewN ?_ _) | (with_reducible refine Kd.C_drew ?_)))
                     (case side2 => exact (Kd.R_reads' HO1111.out).2.1)
                     (case side3 => repeat (first | exact HG.out | exact Laid.below HG.out HB.out | (with_reducible refine Laid.alloc ?_ _) | (with_reducible refine Laid.drewN ?_ _) | (with_reducible refine Laid.drew ?_)))
                     rintro e w74 ⟨rfl, hb⟩
                     have HS0_ := (hb.cell (World.block_lt_of_cell? _ _ (hHeld))).trans (hHeld)
                     refine ⟨_, rfl, ?_⟩
                     have n0_ := Aside0.mk (Kd.R_below (by (with_reducible repeat (first | apply Kd.R_alloc | apply Kd.R_drewN | apply Kd.R_drew)); exact HO_5.out) hb)
                     have n1_ := Aside0.mk (Kd.R_below (by (with_reducible repeat (first | apply Kd.R_alloc | apply Kd.R_drewN | apply Kd.R_drew)); exact HO1111.out) hb)
                     have n2_ := Aside0.mk (blk_below (g := gb1102) (o := .cells #[.int .i64 t1099, .int .i64 t1100] 71 (0, 0)) (by (with_reducible repeat (first | refine blk_drewN ?_ _ | refine blk_drew ?_ | refine blk_alloc ?_ _)); exact BK1102.out) hb)
                     have n3_ := Aside0.mk (blk_below (g := gb1116) (o := .cells #[.int .i64 0, .int .i64 0] 71 (0, 0)) (by (with_reducible repeat (first | refine blk_drewN ?_ _ | refine blk_drew ?_ | refine blk_alloc ?_ _)); exact BK1116.out) hb)
                     have n4_ := Aside0.mk (below_step (by repeat (first | (with_reducible first | exact HB.out | apply below_alloc | apply pw_below_drewN | apply below_drew1 | refine below_set ?_ GE1102.out | refine below_set ?_ GE1116.out) | exact HB.out)) hb)
                     clear HO_5
                     clear HO1111
                     clear BK1102
                     clear BK1116
                     clear HB
                     have HO_5 := n0_
                     have HO1111 := n1_
                     have BK1102 := n2_
                     have BK1116 := n3_
                     have HB := n4_
                     clear n0_ n1_ n2_ n3_ n4_
                     (try clear hb)
                     (try clear hb2)
                     (try clear hk)
                     (try clear hi)
                     refine hK.out _ _ (HS0_) (fun hHeld => ?_)
                     clear hK K
                     refine norm_ (a' := ?_) ?_ ?_
                     rotate_left
                     ·
                      show Act.put _ (some 91) _ = _
                      simp only [Act.put, List.setIfInBounds_toArray, List.set_cons_zero, List.set_cons_succ, i64_w, i32_w]
                      rfl
                     refine pure_ (i := 8) (N := some 83) (v := ?_) (a' := ?_) #[true, true, true, true, true, true, true, true, true, false, false, true, false, false] rfl rfl (any_of HT_.out (by kernel_rfl)) (fun _ _ _ h => h) (Or.inl ⟨by rfl, ?_⟩) ?_ ?_
                     rotate_left
                     ·
                      intro w'
                      go_simp
                      with_reducible rfl
                     rotate_left
                     ·
                      simp only [Act.put, List.setIfInBounds_toArray, List.set_cons_zero, List.set_cons_succ, i64_w, i32_w]
                      rfl
                     refine pure_ (i := 9) (N := some 92) (v := ?_) (a' := ?_) #[true, true, true, true, true, true, true, true, true, true, false, true, false, false] rfl rfl (any_of HT_.out (by kernel_rfl)) (fun _ _ _ h => h) (Or.inl ⟨by rfl, ?_⟩) ?_ ?_
                     rotate_left
                     ·
                      intro w'
                      go_simp
                      with_reducible rfl
                     rotate_left
                     ·
                      simp only [Act.put, List.setIfInBounds_toArray, List.set_cons_zero, List.set_cons_succ, i64_w, i32_w]
                      rfl
                     refine pure_ (i := 10) (N := some 93) (v := ?_) (a' := ?_) #[true, true, true, true, true, true, true, true, true, true, true, true, false, false] rfl rfl (any_of HT_.out (by kernel_rfl)) (fun _ _ _ h => h) (Or.inl ⟨by rfl, ?_⟩) ?_ ?_
                     rotate_left
                     ·
                      intro w'
                      go_simp
                      with_reducible rfl
                     rotate_left
                     ·
                      simp only [Act.put, List.setIfInBounds_toArray, List.set_cons_zero, List.set_cons_succ, i64_w, i32_w]
                      rfl
                     exact norm_ (by simp only [putAll, Act.put, List.setIfInBounds_toArray, List.set_cons_zero, List.set_cons_succ]) (hCont (.slice Ao73 t1109.length co73, gb1116) _ ⟨hHeld, (by (with_reducible repeat (first | apply Kd.R_alloc | apply Kd.R_drewN | apply Kd.R_drew)); exact HO1111.out), (by (with_reducible repeat (first | apply Kd.R_alloc | apply Kd.R_drewN | apply Kd.R_drew)); exact HO_5.out), (by (with_reducible repeat (first | refine blk_drewN ?_ _ | refine blk_drew ?_ | refine blk_alloc ?_ _)); exact BK1102.out), (by (with_reducible repeat (first | refine blk_drewN ?_ _ | refine blk_drew ?_ | refine blk_alloc ?_ _)); exact BK1116.out), GW1116.out, GE1116.out, NB1102_1116.out, NB1116_1102.out, (by repeat (first | (with_reducible first | exact HB.out | apply below_alloc | apply pw_below_drewN | apply below_drew1 | refine below_set ?_ GE1102.out | refine below_set ?_ GE1116.out) | exact HB.out))⟩)
                   ·
                    skip
                    refine box_step ?hg (N := 13) ?hd (cs := #[.int .i64 0, .int .i64 0]) (t := 71) ?hr ?_; (case hd => rfl); (case hg => rfl); (case hr => first | (go_simp; done) | (go_simp; rfl))
                    intro gb1116 hg w71 hbox hb
                    have HS0_ := (hb.cell (World.block_lt_of_cell? _ _ (hHeld))).trans (hHeld)
                    have n0_ := Aside0.mk (Kd.R_below (by (with_reducible repeat (first | apply Kd.R_alloc | apply Kd.R_drewN | apply Kd.R_drew)); exact HO_5.out) hb)
                    have n1_ := Aside0.mk (blk_below (g := gb1102) (o := .cells #[.int .i64 t1099, .int .i64 t1100] 71 (0, 0)) (by (with_reducible repeat (first | refine blk_drewN ?_ _ | refine blk_drew ?_ | refine blk_alloc ?_ _)); exact BK1102.out) hb)
                    have n2_ := Aside0.mk (below_step (by repeat (first | (with_reducible first | exact HB.out | apply below_alloc | apply pw_below_drewN | apply below_drew1 | refine below_set ?_ GE1102.out) | exact HB.out)) hb)
                    have n3_ := Aside0.mk (hbox)
                    have n4_ := Aside0.mk ((by rw [hg]; exact (below_size (by repeat (first | (with_reducible first | exact HB.out | apply below_alloc | apply pw_below_drewN | apply below_drew1 | refine below_set ?_ GE1102.out) | exact HB.out))) : w.heap.size ≤ gb1116))
                    have n5_ := Aside0.mk ((by rw [hg]; exact (below_size (by repeat (first | (with_reducible first | exact HB.out | apply below_alloc | apply pw_below_drewN | apply below_drew1 | refine below_set ?_ GE1102.out) | exact HB.out))) : w.heap.size ≤ gb1116))
                    have n6_ := Aside0.mk ((by rw [hg]; exact Nat.ne_of_lt (blk_lt (g := gb1102) (o := .cells #[.int .i64 t1099, .int .i64 t1100] 71 (0, 0)) (by (with_reducible repeat (first | refine blk_drewN ?_ _ | refine blk_drew ?_ | refine blk_alloc ?_ _)); exact BK1102.out)) : gb1102 ≠ gb1116))
                    have n7_ := Aside0.mk ((by rw [hg]; exact Nat.ne_of_gt (blk_lt (g := gb1102) (o := .cells #[.int .i64 t1099, .int .i64 t1100] 71 (0, 0)) (by (with_reducible repeat (first | refine blk_drewN ?_ _ | refine blk_drew ?_ | refine blk_alloc ?_ _)); exact BK1102.out)) : gb1116 ≠ gb1102))
                    clear HO_5
                    clear BK1102
                    clear HB
                    have HO_5 := n0_
                    have BK1102 := n1_
                    have HB := n2_
                    have BK1116 := n3_
                    have GW1116 := n4_
                    have GE1116 := n5_
                    have NB1102_1116 := n6_
                    have NB1116_1102 := n7_
                    clear n0_ n1_ n2_ n3_ n4_ n5_ n6_ n7_
                    clear hb hbox hg
                    refine hK.out _ _ (HS0_) (fun hHeld => ?_)
                    clear hK K
                    refine norm_ (a' := ?_) ?_ ?_
                    rotate_left
                    ·
                     show Act.put _ (some 13) _ = _
                     simp only [Act.put, List.setIfInBounds_toArray, List.set_cons_zero, List.set_cons_succ, i64_w, i32_w]
                     rfl
                    refine one_ (i := 1) (N := some 85) #[true, true, true, true, true, true, true, false, false, false, false, true, false, false] rfl rfl (one_of HT_.out (by kernel_rfl)) (by decide) (fun K hK => ?_)
                    refine goes_ Tryd.func59 (by kernel_rfl) rfl #[.slice A0 l0.length c0] (by rfl) rfl rfl (by (try simp only [List.map_toArray, List.map_cons, List.map_nil]); first | done | rfl | (simp only [List.length_drop, List.length_take]; rfl)) ?_
                    with_reducible refine (galleylaw07_own.calls _ _ l0 t1109 _ ?side1 ?side2 A51.out).mono ?_
                    (case side1 => repeat (first | exact (Kd.C_below HR0.out HB.out) | (with_reducible refine Kd.C_alloc ?_ _) | (with_reducible refine Kd.C_drewN ?_ _) | (with_reducible refine Kd.C_drew ?_)))
                    (case side2 => exact HC0.out)
                    rintro e w72 ⟨v1110, rfl, ho0, hb⟩
                    have HS0_ := (hb.cell (World.block_lt_of_cell? _ _ (hHeld))).trans (hHeld)
                    refine ⟨_, rfl, ?_⟩
                    have n0_ := Aside0.mk (Kd.R_below (by (with_reducible repeat (first | apply Kd.R_alloc | apply Kd.R_drewN | apply Kd.R_drew)); exact HO_5.out) hb)
                    have n1_ := Aside0.mk (Kd.R_lower ho0 (below_size (by repeat (first | (with_reducible first | exact HB.out | apply below_alloc | apply pw_below_drewN | apply below_drew1 | refine below_set ?_ GE1102.out | refine below_set ?_ GE1116.out) | exact HB.out))))
                    have n2_ := Aside0.mk (blk_below (g := gb1102) (o := .cells #[.int .i64 t1099, .int .i64 t1100] 71 (0, 0)) (by (with_reducible repeat (first | refine blk_drewN ?_ _ | refine blk_drew ?_ | refine blk_alloc ?_ _)); exact BK1102.out) hb)
                    have n3_ := Aside0.mk (blk_below (g := gb1116) (o := .cells #[.int .i64 0, .int .i64 0] 71 (0, 0)) (by (with_reducible repeat (first | refine blk_drewN ?_ _ | refine blk_drew ?_ | refine blk_alloc ?_ _)); exact BK1116.out) hb)
                    have n4_ := Aside0.mk (below_step (by repeat (first | (with_reducible first | exact HB.out | apply below_alloc | apply pw_below_drewN | apply below_drew1 | refine below_set ?_ GE1102.out | refine below_set ?_ GE1116.out) | exact HB.out)) hb)
                    clear HO_5
                    clear BK1102
                    clear BK1116
                    clear HB
                    have HO_5 := n0_
                    have HO1111 := n1_
                    have BK1102 := n2_
                    have BK1116 := n3_
                    have HB := n4_
                    clear n0_ n1_ n2_ n3_ n4_
                    (try clear hb)
                    (try clear hb2)
                    (try clear hk)
                    (try clear hi)
                    (try clear ho0)
                    obtain ⟨Ao73, co73, eo73⟩ := Kd.R_slice HO1111.out
                    (first | subst eo73 | (injection eo73 with f1_ f2_ f3_; have f4_ := f1_.symm; have f5_ := f3_.symm; clear f1_ f2_ f3_; subst f4_; subst f5_))
                    refine hK.out _ _ (HS0_) (fun hHeld => ?_)
                    clear hK K
                    refine norm_ (a' := ?_) ?_ ?_
                    rotate_left
                    ·
                     show Act.put _ (some 85) _ = _
                     simp only [Act.put, List.setIfInBounds_toArray, List.set_cons_zero, List.set_cons_succ, i64_w, i32_w]
                     rfl
                    refine one_ (i := 7) (N := some 91) #[true, true, true, true, true, true, true, true, false, false, false, true, false, false] rfl rfl (one_of HT_.out (by kernel_rfl)) (by decide) (fun K hK => ?_)
                    refine goes_ Tryd.func67 (by kernel_rfl) rfl #[.slice Ao73 t1109.length co73, .int .i64 (rd t1092 x6_13), .int .i64 a1] (by rfl) rfl rfl (by (try simp only [List.map_toArray, List.map_cons, List.map_nil]); first | done | rfl | (simp only [List.length_drop, List.length_take]; rfl)) ?_
                    with_reducible refine (lines_Spot.calls _ _ t1109 (rd t1092 x6_13) a1 t1113 t1114 t1115 _ ?side1 ?side2 ?side3 A54.out).mono ?_
                    (case side1 => repeat (first | exact (Kd.R_reads' HO1111.out).2.2 | (with_reducible refine Kd.C_alloc ?_ _) | (with_reducible refine Kd.C_drewN ?_ _) | (with_reducible refine Kd.C_drew ?_)))
                    (case side2 => exact (Kd.R_reads' HO1111.out).2.1)
                    (case side3 => repeat (first | exact HG.out | exact Laid.below HG.out HB.out | (with_reducible refine Laid.alloc ?_ _) | (with_reducible refine Laid.drewN ?_ _) | (with_reducible refine Laid.drew ?_)))
                    rintro e w74 ⟨rfl, hb⟩
                    have HS0_ := (hb.cell (World.block_lt_of_cell? _ _ (hHeld))).trans (hHeld)
                    refine ⟨_, rfl, ?_⟩
                    have n0_ := Aside0.mk (Kd.R_below (by (with_reducible repeat (first | apply Kd.R_alloc | apply Kd.R_drewN | apply Kd.R_drew)); exact HO_5.out) hb)
                    have n1_ := Aside0.mk (Kd.R_below (by (with_reducible repeat (first | apply Kd.R_alloc | apply Kd.R_drewN | apply Kd.R_drew)); exact HO1111.out) hb)
                    have n2_ := Aside0.mk (blk_below (g := gb1102) (o := .cells #[.int .i64 t1099, .int .i64 t1100] 71 (0, 0)) (by (with_reducible repeat (first | refine blk_drewN ?_ _ | refine blk_drew ?_ | refine blk_alloc ?_ _)); exact BK1102.out) hb)
                    have n3_ := Aside0.mk (blk_below (g := gb1116) (o := .cells #[.int .i64 0, .int .i64 0] 71 (0, 0)) (by (with_reducible repeat (first | refine blk_drewN ?_ _ | refine blk_drew ?_ | refine blk_alloc ?_ _)); exact BK1116.out) hb)
                    have n4_ := Aside0.mk (below_step (by repeat (first | (with_reducible first | exact HB.out | apply below_alloc | apply pw_below_drewN | apply below_drew1 | refine below_set ?_ GE1102.out | refine below_set ?_ GE1116.out) | exact HB.out)) hb)
                    clear HO_5
                    clear HO1111
                    clear BK1102
                    clear BK1116
                    clear HB
                    have HO_5 := n0_
                    have HO1111 := n1_
                    have BK1102 := n2_
                    have BK1116 := n3_
                    have HB := n4_
                    clear n0_ n1_ n2_ n3_ n4_
                    (try clear hb)
                    (try clear hb2)
                    (try clear hk)
                    (try clear hi)
                    refine hK.out _ _ (HS0_) (fun hHeld => ?_)
                    clear hK K
                    refine norm_ (a' := ?_) ?_ ?_
                    rotate_left
                    ·
                     show Act.put _ (some 91) _ = _
                     simp only [Act.put, List.setIfInBounds_toArray, List.set_cons_zero, List.set_cons_succ, i64_w, i32_w]
                     rfl
                    refine pure_ (i := 8) (N := some 83) (v := ?_) (a' := ?_) #[true, true, true, true, true, true, true, true, true, false, false, true, false, false] rfl rfl (any_of HT_.out (by kernel_rfl)) (fun _ _ _ h => h) (Or.inl ⟨by rfl, ?_⟩) ?_ ?_
                    rotate_left
                    ·
                     intro w'
                     go_simp
                     with_reducible rfl
                    rotate_left
                    ·
                     simp only [Act.put, List.setIfInBounds_toArray, List.set_cons_zero, List.set_cons_succ, i64_w, i32_w]
                     rfl
                    refine pure_ (i := 9) (N := some 92) (v := ?_) (a' := ?_) #[true, true, true, true, true, true, true, true, true, true, false, true, false, false] rfl rfl (any_of HT_.out (by kernel_rfl)) (fun _ _ _ h => h) (Or.inl ⟨by rfl, ?_⟩) ?_ ?_
                    rotate_left
                    ·
                     intro w'
                     go_simp
                     with_reducible rfl
                    rotate_left
                    ·
                     simp only [Act.put, List.setIfInBounds_toArray, List.set_cons_zero, List.set_cons_succ, i64_w, i32_w]
                     rfl
                    refine pure_ (i := 10) (N := some 93) (v := ?_) (a' := ?_) #[true, true, true, true, true, true, true, true, true, true, true, true, false, false] rfl rfl (any_of HT_.out (by kernel_rfl)) (fun _ _ _ h => h) (Or.inl ⟨by rfl, ?_⟩) ?_ ?_
                    rotate_left
                    ·
                     intro w'
                     go_simp
                     with_reducible rfl
                    rotate_left
                    ·
                     simp only [Act.put, List.setIfInBounds_toArray, List.set_cons_zero, List.set_cons_succ, i64_w, i32_w]
                     rfl
                    exact norm_ (by simp only [putAll, Act.put, List.setIfInBounds_toArray, List.set_cons_zero, List.set_cons_succ]) (hCont (.slice Ao73 t1109.length co73, gb1116) _ ⟨hHeld, (by (with_reducible repeat (first | apply Kd.R_alloc | apply Kd.R_drewN | apply Kd.R_drew)); exact HO1111.out), (by (with_reducible repeat (first | apply Kd.R_alloc | apply Kd.R_drewN | apply Kd.R_drew)); exact HO_5.out), (by (with_reducible repeat (first | refine blk_drewN ?_ _ | refine blk_drew ?_ | refine blk_alloc ?_ _)); exact BK1102.out), (by (with_reducible repeat (first | refine blk_drewN ?_ _ | refine blk_drew ?_ | refine blk_alloc ?_ _)); exact BK1116.out), GW1116.out, GE1116.out, NB1102_1116.out, NB1116_1102.out, (by repeat (first | (with_reducible first | exact HB.out | apply below_alloc | apply pw_below_drewN | apply below_drew1 | refine below_set ?_ GE1102.out | refine below_set ?_ GE1116.out) | exact HB.out))⟩)
                  rintro ⟨v1110, gb1116⟩ w75 ⟨hS_, h0_, h1_, h2_, h3_, h4_, h5_, h6_, h7_, h8_⟩
                  have n0_ : Aside0 (Kd.R (Kd.int .u8) 5 w75 w.heap.size (fun _ => True) v1110 t1109) := ⟨h0_⟩
                  have n1_ : Aside0 (Kd.R (Kd.int .i64) 3 w75 w.heap.size (fun _ => True) (.slice (some ad1112) t1092.length co70) t1092) := ⟨h1_⟩
                  have n2_ : Aside0 (w75.heap[gb1102]? = some (.cells #[.int .i64 t1099, .int .i64 t1100] 71 (0, 0))) := ⟨h2_⟩
                  have n3_ : Aside0 (w75.heap[gb1116]? = some (.cells #[.int .i64 0, .int .i64 0] 71 (0, 0))) := ⟨h3_⟩
                  have n4_ : Aside0 (w.heap.size ≤ gb1116) := ⟨h4_⟩
                  have n5_ : Aside0 (w.heap.size ≤ gb1116) := ⟨h5_⟩
                  have n6_ : Aside0 (gb1102 ≠ gb1116) := ⟨h6_⟩
                  have n7_ : Aside0 (gb1116 ≠ gb1102) := ⟨h7_⟩
                  have n8_ : Aside0 (Below w.heap.size w w75) := ⟨h8_⟩
                  clear HO_5
                  clear BK1102
                  clear HB
                  clear h0_ h1_ h2_ h3_ h4_ h5_ h6_ h7_ h8_
                  have HO1111 := n0_
                  have HO_5 := n1_
                  have BK1102 := n2_
                  have BK1116 := n3_
                  have GW1116 := n4_
                  have GE1116 := n5_
                  have NB1102_1116 := n6_
                  have NB1116_1102 := n7_
                  have HB := n8_
                  clear n0_ n1_ n2_ n3_ n4_ n5_ n6_ n7_ n8_
                  have hHeld : w75.cell? (ad1112.add (x6_13).toNat) = some (.int .i64 (rd t1092 x6_13)) := hS_
                  refine norm_ (a' := ?_) ?_ ?_
                  rotate_left
                  ·
                   simp only [putAll, Act.put, List.setIfInBounds_toArray, List.set_cons_zero, List.set_cons_succ]
                   rfl
                  refine one_ (i := 12) (N := none) #[true, true, true, true, true, true, true, true, true, true, true, true, true, false] rfl rfl (one_of HT_.out (by kernel_rfl)) (by decide) (fun K hK => ?_)
                  have hs76 : w75.cell? ⟨gb1116, 0, none⟩ = some (.int .i64 0) := (blk_cell BK1116.out 0).trans rfl
                  have hfs76 := blk_frozen BK1116.out 0
                  have hns76_0 := NB1102_1116.out
                  have hms76_0 := NB1116_1102.out
                  have hs77 : w75.cell? ⟨gb1116, 1, none⟩ = some (.int .i64 0) := (blk_cell BK1116.out 1).trans rfl
                  have hfs77 := blk_frozen BK1116.out 1
                  have hns77_0 := NB1102_1116.out
                  have hms77_0 := NB1116_1102.out
                  refine skip_ (w1 := ?_) (by rfl) rfl ?_ ?_
                  rotate_left
                  ·
                   go_simp
                   rfl
                  refine hK.out _ _ (((cell_far (p := ⟨gb1116, _, none⟩) (by first | exact Kd.own_blk (Kd.R_ne HO_5.out BK1116.out (by decide)) | (rw [add_block]; exact Kd.own_blk (Kd.R_ne HO_5.out BK1116.out (by decide))) | (show (Addr.add _ _).block ≠ _; rw [add_block]; exact Kd.own_blk (Kd.R_ne HO_5.out BK1116.out (by decide))) | (dsimp only; exact Kd.own_blk (Kd.R_ne HO_5.out BK1116.out (by decide)))) _).trans (((cell_far (p := ⟨gb1116, _, none⟩) (by first | exact Kd.own_blk (Kd.R_ne HO_5.out BK1116.out (by decide)) | (rw [add_block]; exact Kd.own_blk (Kd.R_ne HO_5.out BK1116.out (by decide))) | (show (Addr.add _ _).block ≠ _; rw [add_block]; exact Kd.own_blk (Kd.R_ne HO_5.out BK1116.out (by decide))) | (dsimp only; exact Kd.own_blk (Kd.R_ne HO_5.out BK1116.out (by decide)))) _).trans (hHeld))))) (fun hHeld => ?_)
                  clear hK K
                  refine pure_ (i := 13) (N := some 9) (v := ?_) (a' := ?_) #[true, true, true, true, true, true, true, true, true, true, true, true, true, true] rfl rfl (any_of HT_.out (by kernel_rfl)) (fun _ _ _ h => h) (Or.inl ⟨by rfl, ?_⟩) ?_ ?_
                  rotate_left
                  ·
                   intro w'
                   go_simp
                   with_reducible rfl
                  rotate_left
                  ·
                   simp only [Act.put, List.setIfInBounds_toArray, List.set_cons_zero, List.set_cons_succ, i64_w, i32_w]
                   rfl
                  refine done_ (done_of HT_.out (by kernel_rfl)) ?_
                  have hnb78 := NB1116_1102.out
                  have hnc78 := NB1102_1116.out
                  have hcz79_0 : w75.cell? ⟨gb1116, 0, none⟩ = some (.int .i64 0) := (blk_cell BK1116.out 0).trans rfl
                  have hcz79_1 : w75.cell? ⟨gb1116, 1, none⟩ = some (.int .i64 0) := (blk_cell BK1116.out 1).trans rfl
                  have hfz79_0 := blk_frozen BK1116.out 0
                  have hfz79_1 := blk_frozen BK1116.out 1
                  have hcz80_0 : w75.cell? ⟨gb1102, 0, none⟩ = some (.int .i64 t1099) := (blk_cell BK1102.out 0).trans rfl
                  have hcz80_1 : w75.cell? ⟨gb1102, 1, none⟩ = some (.int .i64 t1100) := (blk_cell BK1102.out 1).trans rfl
                  have hfz80_0 := blk_frozen BK1102.out 0
                  have hfz80_1 := blk_frozen BK1102.out 1
                  try go_wp2
                  go_roundg k4
                  case measure => have := HJ4.out; have := HK2.out; have := HJ13.out; have := HK4.out; omega
                  case rel => exact ⟨(x6_13), (wrap64 (x7_2 + 1)), (by first | rfl | (simp; done) | (simp [*]; done)), (by first | rfl | (simp; done) | (simp [*]; done)), H', ⟨by have := HJ4.out; have := HK2.out; have := HJ13.out; have := HK4.out; omega⟩, ⟨by (with_reducible repeat (first | apply Kd.R_alloc | apply Kd.R_drewN | apply Kd.R_drew)); exact Kd.R_mono (Kd.R_far (p := ⟨gb1116, 1, none⟩) (Kd.R_far (p := ⟨gb1116, 0, none⟩) (Kd.R_types HO_5.out BK1116.out (by decide)) (fun _ hk => hk.2) (.int .i64 t1113)) (fun _ hk => hk.2) (.int .i64 t1114)) (fun _ hk => trivial)⟩, ⟨by repeat (first | (with_reducible first | exact HB.out | apply below_alloc | apply pw_below_drewN | apply below_drew1 | refine below_set ?_ GE1102.out | refine below_set ?_ GE1116.out) | exact HB.out)⟩⟩
                ·
                 rw [if_neg c55] at H
                 exact absurd H (by simp)
               ·
                rw [if_neg c53] at H
                exact absurd H (by simp)
              ·
               rw [if_neg c52] at H
               exact absurd H (by simp)
          ·
           rw [if_neg c24] at H
           exact absurd H (by simp)
       ·
        rw [if_neg c13] at H
        have c13b0 : decide (x7_2 ≤ (l0.length : Int)) = false := decide_eq_false c13
        clear c13
        skip
        go_wp2
        go_ret
        exact ⟨by first | rfl | (simp [errW_none, errW_some] <;> rfl) | (simp [*, errW_none, errW_some] <;> rfl), by repeat (first | (with_reducible first | exact HB.out | apply below_alloc | apply pw_below_drewN | apply below_drew1) | exact HB.out)⟩
 ·
  replace c4 := Bool.eq_false_iff.mpr c4
  subst c4
  have H1 : (some false) = some true := by rw [if_neg (show ¬ (false = true) by decide)] at H; exact H
  exact absurd H1 (by simp)
end
end Go.Proofs.YtbomhpfckplgaaaDoor.P
