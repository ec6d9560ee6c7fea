/- Texts of this claim, put together: Px32, Px33, UD, Px14. -/
import Derived.Test.YtbomhpfckplgaaaDoorT1
import Derived.Test.YtbomhpfckplgaaaDoorT3
namespace Go.Proofs.YtbomhpfckplgaaaDoor.P
open Go.RowKit Go.Proofs.YtbomhpfckplgaaaDoorW.PrintWords Go.Proofs.YtbomhpfckplgaaaDoorW.PrintLast Go.Proofs.YtbomhpfckplgaaaDoorW.PrintMore
attribute [local go_sem] max2_int min2_int max_two min_two max_three min_three max_four min_four   -- for this text's walks alone
set_option linter.unusedVariables false
set_option linter.unusedSimpArgs false
mutual
def galleyref19_Common.l0 : Nat → List ByteArray → List ByteArray → List Int → Int → Option (Int)
 | 0, _, _, _, _ => none
 | k + 1, x0, x1, x5, x6 => if x6 < (x0.length : Int) then (if 0 ≤ (wrap64 ((x1.length : Int) + 1)) then (if (wrap64 ((x1.length : Int) + 1) : Int).toNat ≤ 35184372088832 then (galleyref19_Common.l1 k x0 x1 x5 x6 (List.replicate (wrap64 ((x1.length : Int) + 1) : Int).toNat 0) 0) else (none)) else (none)) else (if 0 ≤ (x1.length : Int) then (if (x1.length : Int) < (x5.length : Int) then (some (rd x5 (x1.length : Int))) else (none)) else (none))
def galleyref19_Common.l1 : Nat → List ByteArray → List ByteArray → List Int → Int → List Int → Int → Option (Int)
 | 0, _, _, _, _, _, _ => none
 | k + 1, x0, x1, x5, x6, x7, x8 => if x8 < (x1.length : Int) then (if 0 ≤ x8 then (if x8 < (x7.length : Int) then (if 0 ≤ (wrap64 (x8 + 1)) then (if (wrap64 (x8 + 1)) < (x5.length : Int) then (if (wrap64 (x8 + 1)) < (x7.length : Int) then ((some (x7.set ((wrap64 (x8 + 1)) : Int).toNat (mx (rd x7 x8) (rd x5 (wrap64 (x8 + 1)))) : List Int)).bind fun y1190 => (if 0 ≤ x6 then (if x6 < (x0.length : Int) then (if (rdOf ByteArray.empty x0 x6).toList = (rdOf ByteArray.empty x1 x8).toList then (if x8 < (x5.length : Int) then (galleyref19_Common.l1 k x0 x1 x5 x6 (y1190.set ((wrap64 (x8 + 1)) : Int).toNat (mx (rd y1190 (wrap64 (x8 + 1))) (wrap64 ((rd x5 x8) + 1)))) (wrap64 (x8 + 1))) else (none)) else (galleyref19_Common.l1 k x0 x1 x5 x6 y1190 (wrap64 (x8 + 1)))) else (none)) else (none))) else (none)) else (none)) else (none)) else (none)) else (none)) else (galleyref19_Common.l0 k x0 x1 x7 (wrap64 (x6 + 1)))
end
def galleyref19_Common.f (k : Nat) (l0 : List ByteArray) (l1 : List ByteArray) : Option (Int) := if 0 ≤ (wrap64 ((l1.length : Int) + 1)) then (if (wrap64 ((l1.length : Int) + 1) : Int).toNat ≤ 35184372088832 then (galleyref19_Common.l0 k l0 l1 (List.replicate (wrap64 ((l1.length : Int) + 1) : Int).toNat 0) 0) else (none)) else (none)
def galleyref19_Common.T9 : Bool × List (List Nat × List Nat) := (true, [([], []), ([], []), ([1], [1]), ([], []), ([], []), ([3, 4], [3, 4]), ([5], [5]), ([], []), ([], []), ([8], [8]), ([7, 9], [7, 9]), ([10], [10]), ([6, 11], [6, 11]), ([0, 2, 0, 1, 2, 3, 4, 5, 6, 7, 8, 9, 10, 11, 12], [0, 2]), ([13, 12, 0, 1, 2, 3, 4, 5, 6, 7, 8, 9, 10, 11, 12], [12, 13])])
def galleyref19_Common.B9 : List Nat := [0, 0, 2, 0, 0, 24, 56, 0, 0, 256, 896, 1920, 4088, 8191, 16383]
theorem galleyref19_Common.tab9 : rtab .any (opsOf Tryd.f111 9) = galleyref19_Common.T9 := by kernel_rfl
theorem galleyref19_Common.bits9 : waitsOk galleyref19_Common.T9.2 galleyref19_Common.B9 = true := by kernel_rfl
def galleyref19_Common.T10 : Bool × List (List Nat × List Nat) := (true, [([], []), ([], []), ([0, 1], [0, 1]), ([2], [2]), ([], []), ([], []), ([4, 5], [4, 5]), ([6], [6]), ([3, 7], [3, 7])])
def galleyref19_Common.B10 : List Nat := [0, 0, 3, 7, 0, 0, 48, 112, 255]
theorem galleyref19_Common.tab10 : rtab .any (opsOf Tryd.f111 10) = galleyref19_Common.T10 := by kernel_rfl
theorem galleyref19_Common.bits10 : waitsOk galleyref19_Common.T10.2 galleyref19_Common.B10 = true := by kernel_rfl
def galleyref19_Common.T11 : Bool × List (List Nat × List Nat) := (true, [([], []), ([], []), ([1], [1]), ([], []), ([], []), ([4], [4]), ([3, 5], [3, 5]), ([6], [6]), ([], []), ([], []), ([8, 9], [8, 9]), ([10], [10]), ([11], [11]), ([7, 12], [7, 12]), ([0, 2, 0, 1, 2, 3, 4, 5, 6, 7, 8, 9, 10, 11, 12, 13], [0, 2]), ([14, 13, 0, 1, 2, 3, 4, 5, 6, 7, 8, 9, 10, 11, 12, 13], [13, 14])])
def galleyref19_Common.B11 : List Nat := [0, 0, 2, 0, 0, 16, 56, 120, 0, 0, 768, 1792, 3840, 8184, 16383, 32767]
theorem galleyref19_Common.tab11 : rtab .any (opsOf Tryd.f111 11) = galleyref19_Common.T11 := by kernel_rfl
theorem galleyref19_Common.bits11 : waitsOk galleyref19_Common.T11.2 galleyref19_Common.B11 = true := by kernel_rfl
set_option maxHeartbeats 8000000 in
set_option maxRecDepth 100000 in
theorem galleyref19_Common.calls (k : Nat) (A0 : Option Addr) (c0 : Nat) (l0 : List ByteArray) (A1 : Option Addr) (c1 : Nat) (l1 : List ByteArray) (r : Int) (w : World) (hr0 : Kd.C Kd.string w A0 l0.length l0) (hc0 : l0.length ≤ c0) (hr1 : Kd.C Kd.string w A1 l1.length l1) (hc1 : l1.length ≤ c1) (h : galleyref19_Common.f k l0 l1 = some r) :
  Calls Tryd.prog 111 #[.slice A0 l0.length c0, .slice A1 l1.length c1] w fun e w' => e = .returned (.int .i64 r) ∧ Below w.heap.size w w' := by
 have HR0 := Aside0.mk hr0
 have HC0 := Aside0.mk hc0
 clear hr0 hc0
 have HR1 := Aside0.mk hr1
 have HC1 := Aside0.mk hc1
 clear hr1 hc1
 have HB := Aside0.mk (Below.refl w.heap.size w)
 have H : (if 0 ≤ (wrap64 ((l1.length : Int) + 1)) then (if (wrap64 ((l1.length : Int) + 1) : Int).toNat ≤ 35184372088832 then (galleyref19_Common.l0 k l0 l1 (List.replicate (wrap64 ((l1.length : Int) + 1) : Int).toNat 0) 0) else (none)) else (none)) = some r := h
 clear h
 obtain ⟨ji3, hji3⟩ : ∃ j_ : Int, (wrap64 ((l1.length : Int) + 1)) = j_ := ⟨_, rfl⟩
 replace H : (if 0 ≤ (ji3) then (if (ji3 : Int).toNat ≤ 35184372088832 then (galleyref19_Common.l0 k l0 l1 (List.replicate (ji3 : Int).toNat 0) 0) else (none)) else (none)) = some r := by first | (rw [hji3] at H; exact H) | (simp only [hji3] at H ⊢; exact H)
 have hji3w : (IntKind.i64.wrap ((l1.length : Int) + 1)) = ji3 := (i64_w _).trans hji3
 by_cases c4 : 0 ≤ (ji3)
 ·
  rw [if_pos c4] at H
  have c4b0 := eq_true c4
  have c4b1 : decide (0 ≤ (ji3)) = true := decide_eq_true c4
  clear c4
  by_cases c5 : (ji3 : Int).toNat ≤ 35184372088832
  ·
   rw [if_pos c5] at H
   have c5b0 := eq_true c5
   have c5b1 : decide ((ji3 : Int).toNat ≤ 35184372088832) = true := decide_eq_true c5
   clear c5
   obtain ⟨y1181, hy1181⟩ : ∃ y_ : List Int, y_ = (List.replicate (ji3 : Int).toNat 0) := ⟨_, rfl⟩
   replace H : (galleyref19_Common.l0 k l0 l1 y1181 0) = some r := by first | (rw [hy1181]; with_reducible exact H) | (have H2_ := (Option.bind_some _ _).symm.trans H; rw [hy1181]; with_reducible exact H2_) | (have H2_ := (Option.bind_some _ _).symm.trans H; with_reducible exact H2_) | with_reducible exact H | (rw [hy1181]; exact H) | exact H
   have Ny1181 := Aside0.mk hy1181
   clear hy1181
   have H' := Aside0.mk H
   clear H
   go_enter Tryd.func111, Tryd.ntmps111
   go_wp2_with (first | ((with_reducible refine gate_dst (N := 12) rfl ?_); refine Kd.R_make (Kd.int .i64) _ 3 rfl (N := 12) rfl 29 _ _ rfl ji3 rfl rfl Tryd.underlying29 (.int .i64 0) 8 info3 rfl (by decide) (by omega) 0 (ok := fun _ => True) (okp := fun _ => True) rfl (fun _ hk => hk) trivial (of_decide_eq_true (by first | (with_reducible assumption) | assumption)) (Nat.le_trans (Nat.mul_le_mul_right _ (of_decide_eq_true (by first | (with_reducible assumption) | assumption) : ji3.toNat ≤ 35184372088832)) (by omega)) (Below.refl _ _) (Nat.le_refl _) ?_; intro v1182 w6 ho7 hb hg_ hnew_; clear hg_ hnew_; (first | rw [← Ny1181.out] at ho7 | (simp only [Int.reduceToNat] at ho7; rw [← Ny1181.out] at ho7)); have n0_ := Aside0.mk (Kd.R_lower ho7 (below_size (by repeat (first | (with_reducible first | exact HB.out | apply below_alloc | apply pw_below_drewN | apply below_drew1) | exact HB.out)))); have n1_ := Aside0.mk (below_step (by repeat (first | (with_reducible first | exact HB.out | apply below_alloc | apply pw_below_drewN | apply below_drew1) | exact HB.out)) hb); clear HB; have HO1183 := n0_; have HB := n1_; clear n0_ n1_; clear hb ho7))
   go_loopg [5, 6] k (fun kq v5 v6 w' => ∃ (x5_1 : List Int) (x6_1 : Int), v6 = .int .i64 x6_1 ∧ Aside0 (galleyref19_Common.l0 kq l0 l1 x5_1 x6_1 = some r) ∧ Aside0 (kq ≤ k) ∧ Aside0 (Kd.R (Kd.int .i64) 3 w' w.heap.size (fun _ => True) v5 x5_1) ∧ Aside0 (Below w.heap.size w w'))
   case atStart => exact ⟨(y1181), (0), (by first | rfl | (simp; done) | (simp [*]; done)), H', ⟨Nat.le_refl _⟩, ⟨by (with_reducible repeat (first | apply Kd.R_alloc | apply Kd.R_drewN | apply Kd.R_drew)); exact HO1183.out⟩, ⟨by repeat (first | (with_reducible first | exact HB.out | apply below_alloc | apply pw_below_drewN | apply below_drew1) | exact HB.out)⟩⟩
   case round =>
    clear H'
    (try clear c1); (try clear p2); (try clear c4); (try clear c4b0); (try clear c4b1); (try clear c5); (try clear c5b0); (try clear c5b1); (try clear p6)
    obtain ⟨x5_1, x6_1, rfl, HA, HK1, HO_5, HB⟩ := hrel
    cases gk with
    | zero => exact absurd HA.out (by simp [galleyref19_Common.l0])
    | succ k1 =>
     have H := HA.out
     clear HA
     simp only [galleyref19_Common.l0] at H
     by_cases c8 : x6_1 < (l0.length : Int)
     ·
      rw [if_pos c8] at H
      have c8b0 : decide (x6_1 < (l0.length : Int)) = true := decide_eq_true c8
      clear c8
      obtain ⟨ji9, hji9⟩ : ∃ j_ : Int, (wrap64 ((l1.length : Int) + 1)) = j_ := ⟨_, rfl⟩
      replace H : (if 0 ≤ (ji9) then (if (ji9 : Int).toNat ≤ 35184372088832 then (galleyref19_Common.l1 k1 l0 l1 x5_1 x6_1 (List.replicate (ji9 : Int).toNat 0) 0) else (none)) else (none)) = some r := by first | (rw [hji9] at H; exact H) | (simp only [hji9] at H ⊢; exact H)
      have hji9w : (IntKind.i64.wrap ((l1.length : Int) + 1)) = ji9 := (i64_w _).trans hji9
      clear hji3w
      by_cases c10 : 0 ≤ (ji9)
      ·
       rw [if_pos c10] at H
       have c10b0 := eq_true c10
       have c10b1 : decide (0 ≤ (ji9)) = true := decide_eq_true c10
       clear c10
       by_cases c11 : (ji9 : Int).toNat ≤ 35184372088832
       ·
        rw [if_pos c11] at H
        have c11b0 := eq_true c11
        have c11b1 : decide ((ji9 : Int).toNat ≤ 35184372088832) = true := decide_eq_true c11
        clear c11
        obtain ⟨y1185, hy1185⟩ : ∃ y_ : List Int, y_ = (List.replicate (ji9 : Int).toNat 0) := ⟨_, rfl⟩
        replace H : (galleyref19_Common.l1 k1 l0 l1 x5_1 x6_1 y1185 0) = some r := by first | (rw [hy1185]; with_reducible exact H) | (have H2_ := (Option.bind_some _ _).symm.trans H; rw [hy1185]; with_reducible exact H2_) | (have H2_ := (Option.bind_some _ _).symm.trans H; with_reducible exact H2_) | with_reducible exact H | (rw [hy1185]; exact H) | exact H
        have Ny1185 := Aside0.mk hy1185
        clear hy1185
        have H' := Aside0.mk H
        clear H
        go_wp2_with (first | ((with_reducible refine gate_dst (N := 22) rfl ?_); refine Kd.R_make (Kd.int .i64) _ 3 rfl (N := 22) rfl 29 _ _ rfl ji9 rfl rfl Tryd.underlying29 (.int .i64 0) 8 info3 rfl (by decide) (by omega) 0 (ok := fun _ => True) (okp := fun _ => True) rfl (fun _ hk => hk) trivial (of_decide_eq_true (by first | (with_reducible assumption) | assumption)) (Nat.le_trans (Nat.mul_le_mul_right _ (of_decide_eq_true (by first | (with_reducible assumption) | assumption) : ji9.toNat ≤ 35184372088832)) (by omega)) (Below.refl _ _) (Nat.le_refl _) ?_; intro v1186 w12 ho13 hb hg_ hnew_; clear hg_ hnew_; (first | rw [← Ny1185.out] at ho13 | (simp only [Int.reduceToNat] at ho13; rw [← Ny1185.out] at ho13)); have n0_ := Aside0.mk (Kd.R_elder' (by (with_reducible repeat (first | apply Kd.R_alloc | apply Kd.R_drewN | apply Kd.R_drew)); exact HO_5.out) (Kd.R_base ho13) hb); have n1_ := Aside0.mk (Kd.R_lower (Kd.R_new' ho13 (Kd.R_lt (by (with_reducible repeat (first | apply Kd.R_alloc | apply Kd.R_drewN | apply Kd.R_drew)); exact HO_5.out))) (below_size (by repeat (first | (with_reducible first | exact HB.out | apply below_alloc | apply pw_below_drewN | apply below_drew1) | exact HB.out)))); have n2_ := Aside0.mk (below_step (by repeat (first | (with_reducible first | exact HB.out | apply below_alloc | apply pw_below_drewN | apply below_drew1) | exact HB.out)) hb); clear HO_5; clear HB; have HO_5 := n0_; have HO1187 := n1_; have HB := n2_; clear n0_ n1_ n2_; clear hb ho13))
        go_loopg [8] k1 (fun kq v8 w' => ∃ (x7_2 : List Int) (x8_2 : Int), v8 = .int .i64 x8_2 ∧ Aside0 (galleyref19_Common.l1 kq l0 l1 x5_1 x6_1 x7_2 x8_2 = some r) ∧ Aside0 (kq ≤ k1) ∧ Aside0 (Kd.R (Kd.int .i64) 3 w' w.heap.size (fun k_ => some k_ ≠ (v1186 : Value).ownBlock) u5 x5_1) ∧ Aside0 (Kd.R (Kd.int .i64) 3 w' w.heap.size (fun k_ => some k_ ≠ (u5 : Value).ownBlock) v1186 x7_2) ∧ Aside0 (Below w.heap.size w w'))
        case atStart => exact ⟨(y1185), (0), (by first | rfl | (simp; done) | (simp [*]; done)), H', ⟨Nat.le_refl _⟩, ⟨by (with_reducible repeat (first | apply Kd.R_alloc | apply Kd.R_drewN | apply Kd.R_drew)); exact Kd.R_mono HO_5.out (fun _ hk => hk.2)⟩, ⟨by (with_reducible repeat (first | apply Kd.R_alloc | apply Kd.R_drewN | apply Kd.R_drew)); exact Kd.R_mono HO1187.out (fun _ hk => hk.2)⟩, ⟨by repeat (first | (with_reducible first | exact HB.out | apply below_alloc | apply pw_below_drewN | apply below_drew1) | exact HB.out)⟩⟩
        case round =>
         clear H'
         (try clear c1); (try clear p2); (try clear c4); (try clear c4b0); (try clear c4b1); (try clear c5); (try clear c5b0); (try clear c5b1); (try clear p6); (try clear c8); (try clear c8b0); (try clear c10); (try clear c10b0); (try clear c10b1); (try clear c11); (try clear c11b0); (try clear c11b1)
         obtain ⟨x7_2, x8_2, rfl, HA, HK2, HO_5, HO_7, HB⟩ := hrel
         cases gk with
         | zero => exact absurd HA.out (by simp [galleyref19_Common.l1])
         | succ k2 =>
          have H := HA.out
          clear HA
          simp only [galleyref19_Common.l1] at H
          by_cases c14 : x8_2 < (l1.length : Int)
          ·
           rw [if_pos c14] at H
           have c14b0 : decide (x8_2 < (l1.length : Int)) = true := decide_eq_true c14
           clear c14
           by_cases c15 : 0 ≤ x8_2
           ·
            rw [if_pos c15] at H
            have c15b0 : decide (0 ≤ x8_2) = true := decide_eq_true c15
            clear c15
            by_cases c16 : x8_2 < (x7_2.length : Int)
            ·
             rw [if_pos c16] at H
             have c16b0 : decide (x8_2 < (x7_2.length : Int)) = true := decide_eq_true c16
             clear c16
             obtain ⟨ji17, hji17⟩ : ∃ j_ : Int, (wrap64 (x8_2 + 1)) = j_ := ⟨_, rfl⟩
             replace H : (if 0 ≤ (ji17) then (if (ji17) < (x5_1.length : Int) then (if (ji17) < (x7_2.length : Int) then ((some (x7_2.set ((ji17) : Int).toNat (mx (rd x7_2 x8_2) (rd x5_1 (ji17))) : List Int)).bind fun y1190 => (if 0 ≤ x6_1 then (if x6_1 < (l0.length : Int) then (if (rdOf ByteArray.empty l0 x6_1).toList = (rdOf ByteArray.empty l1 x8_2).toList then (if x8_2 < (x5_1.length : Int) then (galleyref19_Common.l1 k2 l0 l1 x5_1 x6_1 (y1190.set ((ji17) : Int).toNat (mx (rd y1190 (ji17)) (wrap64 ((rd x5_1 x8_2) + 1)))) ji17) else (none)) else (galleyref19_Common.l1 k2 l0 l1 x5_1 x6_1 y1190 ji17)) else (none)) else (none))) else (none)) else (none)) else (none)) = some r := by first | (rw [hji17] at H; exact H) | (simp only [hji17] at H ⊢; exact H)
             have hji17w : (IntKind.i64.wrap (x8_2 + 1)) = ji17 := (i64_w _).trans hji17
             by_cases c18 : 0 ≤ (ji17)
             ·
              rw [if_pos c18] at H
              have c18b0 : decide (0 ≤ (ji17)) = true := decide_eq_true c18
              clear c18
              by_cases c19 : (ji17) < (x5_1.length : Int)
              ·
               rw [if_pos c19] at H
               have c19b0 : decide ((ji17) < (x5_1.length : Int)) = true := decide_eq_true c19
               clear c19
               obtain ⟨ji20, hji20⟩ : ∃ j_ : Int, (mx (rd x7_2 x8_2) (rd x5_1 (ji17))) = j_ := ⟨_, rfl⟩
               replace H : (if (ji17) < (x7_2.length : Int) then ((some (x7_2.set ((ji17) : Int).toNat (ji20) : List Int)).bind fun y1190 => (if 0 ≤ x6_1 then (if x6_1 < (l0.length : Int) then (if (rdOf ByteArray.empty l0 x6_1).toList = (rdOf ByteArray.empty l1 x8_2).toList then (if x8_2 < (x5_1.length : Int) then (galleyref19_Common.l1 k2 l0 l1 x5_1 x6_1 (y1190.set ((ji17) : Int).toNat (mx (rd y1190 (ji17)) (wrap64 ((rd x5_1 x8_2) + 1)))) ji17) else (none)) else (galleyref19_Common.l1 k2 l0 l1 x5_1 x6_1 y1190 ji17)) else (none)) else (none))) else (none)) = some r := by first | (rw [hji20] at H; exact H) | (simp only [hji20] at H ⊢; exact H)
               have hji20_ : (if (rd x7_2 x8_2) < (rd x5_1 (ji17)) then (rd x5_1 (ji17)) else (rd x7_2 x8_2)) = ji20 := hji20
               by_cases c21 : (ji17) < (x7_2.length : Int)
               ·
                rw [if_pos c21] at H
                have c21b0 : decide ((ji17) < (x7_2.length : Int)) = true := decide_eq_true c21
                clear c21
                obtain ⟨y1190, hy1190⟩ : ∃ y_ : List Int, y_ = (x7_2.set ((ji17) : Int).toNat (ji20)) := ⟨_, rfl⟩
                replace H : (if 0 ≤ x6_1 then (if x6_1 < (l0.length : Int) then (if (rdOf ByteArray.empty l0 x6_1).toList = (rdOf ByteArray.empty l1 x8_2).toList then (if x8_2 < (x5_1.length : Int) then (galleyref19_Common.l1 k2 l0 l1 x5_1 x6_1 (y1190.set ((ji17) : Int).toNat (mx (rd y1190 (ji17)) (wrap64 ((rd x5_1 x8_2) + 1)))) ji17) else (none)) else (galleyref19_Common.l1 k2 l0 l1 x5_1 x6_1 y1190 ji17)) else (none)) else (none)) = some r := by first | (rw [hy1190]; with_reducible exact H) | (have H2_ := (Option.bind_some _ _).symm.trans H; rw [hy1190]; with_reducible exact H2_) | (have H2_ := (Option.bind_some _ _).symm.trans H; with_reducible exact H2_) | with_reducible exact H | (rw [hy1190]; exact H) | exact H
                have Ny1190 := Aside0.mk hy1190
                clear hy1190
                by_cases c23 : 0 ≤ x6_1
                ·
                 rw [if_pos c23] at H
                 have c23b0 : decide (0 ≤ x6_1) = true := decide_eq_true c23
                 clear c23
                 by_cases c24 : x6_1 < (l0.length : Int)
                 ·
                  rw [if_pos c24] at H
                  have c24b0 : decide (x6_1 < (l0.length : Int)) = true := decide_eq_true c24
                  clear c24
                  by_cases c25 : (rdOf ByteArray.empty l0 x6_1).toList = (rdOf ByteArray.empty l1 x8_2).toList
                  ·
                   rw [if_pos c25] at H
                   have c25b0 : ((rdOf ByteArray.empty l0 x6_1).toList == (rdOf ByteArray.empty l1 x8_2).toList) = true := beq_iff_eq.mpr c25
                   have c25b1 : ((rdOf ByteArray.empty l0 x6_1).toList != (rdOf ByteArray.empty l1 x8_2).toList) = false := bne_eq_false_iff_eq.mpr c25
                   clear c25
                   by_cases c26 : x8_2 < (x5_1.length : Int)
                   ·
                    rw [if_pos c26] at H
                    have c26b0 : decide (x8_2 < (x5_1.length : Int)) = true := decide_eq_true c26
                    clear c26
                    obtain ⟨ji27, hji27⟩ : ∃ j_ : Int, (mx (rd y1190 (ji17)) (wrap64 ((rd x5_1 x8_2) + 1))) = j_ := ⟨_, rfl⟩
                    replace H : (galleyref19_Common.l1 k2 l0 l1 x5_1 x6_1 (y1190.set ((ji17) : Int).toNat (ji27)) ji17) = some r := by first | (rw [hji27] at H; exact H) | (simp only [hji27] at H ⊢; exact H)
                    have hji27_ : (if (rd y1190 (ji17)) < (wrap64 ((rd x5_1 x8_2) + 1)) then (wrap64 ((rd x5_1 x8_2) + 1)) else (rd y1190 (ji17))) = ji27 := hji27
                    obtain ⟨y1195, hy1195⟩ : ∃ y_ : List Int, y_ = (y1190.set ((ji17) : Int).toNat (ji27)) := ⟨_, rfl⟩
                    replace H : (galleyref19_Common.l1 k2 l0 l1 x5_1 x6_1 y1195 ji17) = some r := by first | (rw [hy1195]; with_reducible exact H) | (have H2_ := (Option.bind_some _ _).symm.trans H; rw [hy1195]; with_reducible exact H2_) | (have H2_ := (Option.bind_some _ _).symm.trans H; with_reducible exact H2_) | with_reducible exact H | (rw [hy1195]; exact H) | exact H
                    have Ny1195 := Aside0.mk hy1195
                    clear hy1195
                    have H' := Aside0.mk H
                    clear H
                    try go_wp2
                    have n0_ := Aside0.mk (Kd.R_drew HO_5.out)
                    have n1_ := Aside0.mk (Kd.R_drew HO_7.out)
                    have n2_ := Aside0.mk (below_drew1 HB.out)
                    clear HO_5
                    clear HO_7
                    clear HB
                    have HO_5 := n0_
                    have HO_7 := n1_
                    have HB := n2_
                    clear n0_ n1_ n2_
                    obtain ⟨Ao30, co30, eo30⟩ := Kd.R_slice HO_7.out
                    (first | subst eo30 | (injection eo30 with f1_ f2_ f3_; have f4_ := f1_.symm; have f5_ := f3_.symm; clear f1_ f2_ f3_; subst f4_; subst f5_))
                    have p1188 : 0 ≤ (x8_2 : Int) := of_decide_eq_true (by first | (with_reducible assumption) | assumption)
                    have q1188 : x8_2 < (x7_2.length : Int) := of_decide_eq_true (by first | (with_reducible assumption) | assumption)
                    obtain ⟨ad1188, e1188, hx1188_0⟩ := Kd.at_int (Kd.R_reads' HO_7.out).2.2 x8_2 p1188 q1188
                    cases e1188
                    replace p1188 := eq_true p1188
                    replace q1188 := eq_true q1188
                    obtain ⟨Ao31, co31, eo31⟩ := Kd.R_slice HO_5.out
                    (first | subst eo31 | (injection eo31 with f1_ f2_ f3_; have f4_ := f1_.symm; have f5_ := f3_.symm; clear f1_ f2_ f3_; subst f4_; subst f5_))
                    have p1189 : 0 ≤ ((ji17) : Int) := of_decide_eq_true (by first | (with_reducible assumption) | assumption)
                    have q1189 : (ji17) < (x5_1.length : Int) := of_decide_eq_true (by first | (with_reducible assumption) | assumption)
                    obtain ⟨ad1189, e1189, hx1189_0⟩ := Kd.at_int (Kd.R_reads' HO_5.out).2.2 (ji17) p1189 q1189
                    cases e1189
                    replace p1189 := eq_true p1189
                    replace q1189 := eq_true q1189
                    have p22 : 0 ≤ ((ji17) : Int) := of_decide_eq_true (by first | (with_reducible assumption) | assumption)
                    have q22 : ((ji17) : Int) < ((x7_2.length : Int) : Int) := of_decide_eq_true (by first | (with_reducible assumption) | assumption)
                    obtain ⟨go22, co22, eo22, gb22, gl22, cl22, HG22⟩ := Kd.R_form HO_7.out (by omega)
                    (first | cases eo22 | (injection eo22 with ea_ en_ ec_; (first | subst ea_ | (injection ea_ with ea_; subst ea_)); subst ec_; clear en_))
                    have GB22 := Aside0.mk gb22
                    have GG22 := Aside0.mk HG22
                    clear gb22 gl22 HG22
                    (first | simp only [add_plain] at hx1188_0 | skip)
                    obtain ⟨hx22_0, hf22_0⟩ := Kd.R_celln 0 HO_7.out ((ji17) : Int) p22 q22
                    replace p22 := eq_true p22
                    replace q22 := eq_true q22
                    have HP32 := Kd.R_putn HO_7.out ((ji17) : Int) ji20
                    rw [← Ny1190.out] at HP32
                    have HQ32 := Aside0.mk HP32
                    clear HP32
                    refine start_ (n := 15) (S := fun w' => w'.cell? ⟨go22, (x8_2).toNat, none⟩ = some (.int .i64 (rd x7_2 x8_2)) ∧ w'.cell? (ad1189.add ((ji17)).toNat) = some (.int .i64 (rd x5_1 (ji17)))) (ds := [14]) #[false, false, false, false, false, false, false, false, false, false, false, false, false, false, false] (by kernel_rfl) rfl rfl ⟨hx1188_0, hx1189_0⟩ (fun hHeld => ?_); refine with_tabW galleyref19_Common.tab9 galleyref19_Common.bits9 (fun HT_ HW_ => ?_)
                    generalize wr.drew = w29 at HO_5 HO_7 HB GG22 HQ32 hf22_0 hx1188_0 hx1189_0 hx22_0 hHeld ⊢
                    refine pure_ (i := 0) (N := some 29) (v := ?_) (a' := ?_) #[true, false, false, false, false, false, false, false, false, false, false, false, false, false, false] rfl rfl (any_of HT_.out (by kernel_rfl)) (fun _ _ _ h => h) (Or.inl ⟨by rfl, ?_⟩) ?_ ?_
                    rotate_left
                    ·
                     intro w'
                     go_simp
                     with_reducible rfl
                    rotate_left
                    ·
                     simp only [Act.put, List.setIfInBounds_toArray, List.set_cons_zero, List.set_cons_succ, i64_w, i32_w]
                     rfl
                    refine pure_ (i := 1) (N := some 30) (v := ?_) (a' := ?_) #[true, true, false, false, false, false, false, false, false, false, false, false, false, false, false] rfl rfl (any_of HT_.out (by kernel_rfl)) (fun _ _ _ h => h) (Or.inl ⟨by rfl, ?_⟩) ?_ ?_
                    rotate_left
                    ·
                     intro w'
                     go_simp
                     with_reducible rfl
                    rotate_left
                    ·
                     simp only [Act.put, List.setIfInBounds_toArray, List.set_cons_zero, List.set_cons_succ, i64_w, i32_w]
                     rfl
                    refine pure_ (i := 2) (N := some 31) (v := ?_) (a' := ?_) #[true, true, true, false, false, false, false, false, false, false, false, false, false, false, false] rfl rfl (any_of HT_.out (by kernel_rfl)) (fun _ _ _ h => h) (Or.inl ⟨by rfl, ?_⟩) ?_ ?_
                    rotate_left
                    ·
                     intro w'
                     go_simp
                     with_reducible rfl
                    rotate_left
                    ·
                     simp only [Act.put, List.setIfInBounds_toArray, List.set_cons_zero, List.set_cons_succ, i64_w, i32_w]
                     rfl
                    refine pure_ (i := 3) (N := some 32) (v := ?_) (a' := ?_) #[true, true, true, true, false, false, false, false, false, false, false, false, false, false, false] rfl rfl (any_of HT_.out (by kernel_rfl)) (fun _ _ _ h => h) (Or.inl ⟨by rfl, ?_⟩) ?_ ?_
                    rotate_left
                    ·
                     intro w'
                     go_simp
                     with_reducible rfl
                    rotate_left
                    ·
                     simp only [Act.put, List.setIfInBounds_toArray, List.set_cons_zero, List.set_cons_succ, i64_w, i32_w]
                     rfl
                    refine pure_ (i := 4) (N := some 33) (v := ?_) (a' := ?_) #[true, true, true, true, true, false, false, false, false, false, false, false, false, false, false] rfl rfl (any_of HT_.out (by kernel_rfl)) (fun _ _ _ h => h) (Or.inl ⟨by rfl, ?_⟩) ?_ ?_
                    rotate_left
                    ·
                     intro w'
                     go_simp
                     with_reducible rfl
                    rotate_left
                    ·
                     simp only [Act.put, List.setIfInBounds_toArray, List.set_cons_zero, List.set_cons_succ, i64_w, i32_w]
                     rfl
                    refine pure_ (i := 5) (N := some 34) (v := ?_) (a' := ?_) #[true, true, true, true, true, true, false, false, false, false, false, false, false, false, false] rfl rfl (any_of HT_.out (by kernel_rfl)) (fun _ _ _ h => h) (Or.inl ⟨by rfl, ?_⟩) ?_ ?_
                    rotate_left
                    ·
                     intro w'
                     go_simp
                     with_reducible rfl
                    rotate_left
                    ·
                     simp only [Act.put, List.setIfInBounds_toArray, List.set_cons_zero, List.set_cons_succ, i64_w, i32_w]
                     rfl
                    refine pure_ (i := 7) (N := some 36) (v := ?_) (a' := ?_) #[true, true, true, true, true, true, false, true, false, false, false, false, false, false, false] rfl rfl (any_of HT_.out (by kernel_rfl)) (fun _ _ _ h => h) (Or.inl ⟨by rfl, ?_⟩) ?_ ?_
                    rotate_left
                    ·
                     intro w'
                     go_simp
                     with_reducible rfl
                    rotate_left
                    ·
                     simp only [Act.put, List.setIfInBounds_toArray, List.set_cons_zero, List.set_cons_succ, i64_w, i32_w]
                     rfl
                    refine pure_ (i := 8) (N := some 37) (v := ?_) (a' := ?_) #[true, true, true, true, true, true, false, true, true, false, false, false, false, false, false] rfl rfl (any_of HT_.out (by kernel_rfl)) (fun _ _ _ h => h) (Or.inl ⟨by rfl, ?_⟩) ?_ ?_
                    rotate_left
                    ·
                     intro w'
                     go_simp
                     with_reducible rfl
                    rotate_left
                    ·
                     simp only [Act.put, List.setIfInBounds_toArray, List.set_cons_zero, List.set_cons_succ, i64_w, i32_w]
                     rfl
                    refine pure_ (i := 9) (N := some 38) (v := ?_) (a' := ?_) #[true, true, true, true, true, true, false, true, true, true, false, false, false, false, false] rfl rfl (any_of HT_.out (by kernel_rfl)) (fun _ _ _ h => h) (Or.inl ⟨by rfl, ?_⟩) ?_ ?_
                    rotate_left
                    ·
                     intro w'
                     go_simp
                     with_reducible rfl
                    rotate_left
                    ·
                     simp only [Act.put, List.setIfInBounds_toArray, List.set_cons_zero, List.set_cons_succ, i64_w, i32_w]
                     rfl
                    refine pure_ (i := 10) (N := some 39) (v := ?_) (a' := ?_) #[true, true, true, true, true, true, false, true, true, true, true, false, false, false, false] rfl rfl (any_of HT_.out (by kernel_rfl)) (fun _ _ _ h => h) (Or.inl ⟨by rfl, ?_⟩) ?_ ?_
                    rotate_left
                    ·
                     intro w'
                     go_simp
                     with_reducible rfl
                    rotate_left
                    ·
                     simp only [Act.put, List.setIfInBounds_toArray, List.set_cons_zero, List.set_cons_succ, i64_w, i32_w]
                     rfl
                    refine take_ (i := 6) (N := some 35) (v := ?_) (a' := ?_) #[true, true, true, true, true, true, true, true, true, true, true, false, false, false, false] rfl rfl (take_ofW HT_.out HW_.out (by kernel_rfl)) (fun _ _ _ h => h) (Or.inl ⟨by rfl, ?_⟩) hHeld ?_ ?_
                    rotate_left
                    ·
                     rintro w' ⟨s0, s1⟩
                     go_simp
                     with_reducible rfl
                    rotate_left
                    ·
                     simp only [Act.put, List.setIfInBounds_toArray, List.set_cons_zero, List.set_cons_succ, i64_w, i32_w]
                     rfl
                    refine take_ (i := 11) (N := some 40) (v := ?_) (a' := ?_) #[true, true, true, true, true, true, true, true, true, true, true, true, false, false, false] rfl rfl (take_ofW HT_.out HW_.out (by kernel_rfl)) (fun _ _ _ h => h) (Or.inl ⟨by rfl, ?_⟩) hHeld ?_ ?_
                    rotate_left
                    ·
                     rintro w' ⟨s0, s1⟩
                     go_simp
                     with_reducible rfl
                    rotate_left
                    ·
                     simp only [Act.put, List.setIfInBounds_toArray, List.set_cons_zero, List.set_cons_succ, i64_w, i32_w]
                     rfl
                    refine pure_ (i := 12) (N := some 41) (v := ?_) (a' := ?_) #[true, true, true, true, true, true, true, true, true, true, true, true, true, false, false] rfl rfl (any_of HT_.out (by kernel_rfl)) (fun _ _ _ h => h) (Or.inl ⟨by rfl, ?_⟩) ?_ ?_
                    rotate_left
                    ·
                     intro w'
                     go_simp
                     with_reducible rfl
                    rotate_left
                    ·
                     simp only [Act.put, List.setIfInBounds_toArray, List.set_cons_zero, List.set_cons_succ, i64_w, i32_w]
                     rfl
                    refine pure_ (i := 13) (N := some 42) (v := ?_) (a' := ?_) #[true, true, true, true, true, true, true, true, true, true, true, true, true, true, false] rfl rfl (any_of HT_.out (by kernel_rfl)) (fun _ _ _ h => h) (Or.inl ⟨by rfl, ?_⟩) ?_ ?_
                    rotate_left
                    ·
                     intro w'
                     go_simp
                     with_reducible rfl
                    rotate_left
                    ·
                     simp only [Act.put, List.setIfInBounds_toArray, List.set_cons_zero, List.set_cons_succ, i64_w, i32_w]
                     rfl
                    refine last_ (i := 14) (N := none) #[true, true, true, true, true, true, true, true, true, true, true, true, true, true, true] rfl rfl (one_of HT_.out (by kernel_rfl)) (by decide) (fun K hK => ?_)
                    refine skip_ (w1 := ?_) (by rfl) rfl ?_ ?_
                    rotate_left
                    ·
                     go_simp
                     rfl
                    refine hK.out _ _ ?_
                    clear hK K
                    refine done_ (done_of HT_.out (by kernel_rfl)) ?_
                    try go_wp2
                    have n0_ : Aside0 (Kd.R (Kd.int .i64) 3 (w29.setCell ⟨go22, ((ji17) : Int).toNat, none⟩ (.int .i64 ji20)) w.heap.size (fun k_ => some k_ ≠ (.slice (some ⟨go22, 0, none⟩) x7_2.length co30 : Value).ownBlock) (.slice (some ad1189) x5_1.length co31) x5_1) := ⟨by (with_reducible repeat (first | apply Kd.R_alloc | apply Kd.R_drewN | apply Kd.R_drew)); exact Kd.R_mono (Kd.R_far (p := ⟨go22, ((ji17) : Int).toNat, none⟩) (Kd.R_mono HO_5.out (fun k_ hk => (⟨hk, fun e_ => hk (by rw [e_]; rfl)⟩ : _ ∧ k_ ≠ go22))) (fun _ hk => hk.2) (.int .i64 ji20)) (fun _ hk => hk.1)⟩
                    have n1_ : Aside0 (Kd.R (Kd.int .i64) 3 (w29.setCell ⟨go22, ((ji17) : Int).toNat, none⟩ (.int .i64 ji20)) w.heap.size (fun k_ => some k_ ≠ (.slice (some ad1189) x5_1.length co31 : Value).ownBlock) (.slice (some ⟨go22, 0, none⟩) x7_2.length co30) y1190) := ⟨by (with_reducible repeat (first | apply Kd.R_alloc | apply Kd.R_drewN | apply Kd.R_drew)); exact HQ32.out⟩
                    have n2_ : Aside0 (Below w.heap.size w (w29.setCell ⟨go22, ((ji17) : Int).toNat, none⟩ (.int .i64 ji20))) := ⟨by repeat (first | (with_reducible first | exact HB.out | apply below_alloc | apply pw_below_drewN | apply below_drew1 | refine below_set ?_ GB22.out) | exact HB.out)⟩
                    (try clear HO_5)
                    (try clear HO_7)
                    (try clear HB)
                    generalize (w29.setCell ⟨go22, ((ji17) : Int).toNat, none⟩ (.int .i64 ji20)) = w33 at n0_ n1_ n2_ ⊢
                    have HO_5 := n0_
                    have HO_7 := n1_
                    have HB := n2_
                    clear n0_ n1_ n2_
                    have n0_ := Aside0.mk (Kd.R_drew HO_5.out)
                    have n1_ := Aside0.mk (Kd.R_drew HO_7.out)
                    have n2_ := Aside0.mk (below_drew1 HB.out)
                    clear HO_5
                    clear HO_7
                    clear HB
                    have HO_5 := n0_
                    have HO_7 := n1_
                    have HB := n2_
                    clear n0_ n1_ n2_
                    have p1191 : 0 ≤ (x6_1 : Int) := of_decide_eq_true (by first | (with_reducible assumption) | assumption)
                    have q1191 : x6_1 < (l0.length : Int) := of_decide_eq_true (by first | (with_reducible assumption) | assumption)
                    obtain ⟨ad1191, e1191, hx1191_0⟩ := Kd.at_string HR0.out x6_1 p1191 q1191
                    have hw1191_0 := hx1191_0
                    cases e1191
                    replace hx1191_0 := (HB.out.cell (World.block_lt_of_cell? w _ hx1191_0)).trans hx1191_0
                    replace p1191 := eq_true p1191
                    replace q1191 := eq_true q1191
                    have p1192 : 0 ≤ (x8_2 : Int) := of_decide_eq_true (by first | (with_reducible assumption) | assumption)
                    have q1192 : x8_2 < (l1.length : Int) := of_decide_eq_true (by first | (with_reducible assumption) | assumption)
                    obtain ⟨ad1192, e1192, hx1192_0⟩ := Kd.at_string HR1.out x8_2 p1192 q1192
                    have hw1192_0 := hx1192_0
                    cases e1192
                    replace hx1192_0 := (HB.out.cell (World.block_lt_of_cell? w _ hx1192_0)).trans hx1192_0
                    replace p1192 := eq_true p1192
                    replace q1192 := eq_true q1192
                    refine start_ (n := 9) (S := fun w' => w'.cell? (ad1191.add (x6_1).toNat) = some (.string (rdOf ByteArray.empty l0 x6_1)) ∧ w'.cell? (ad1192.add (x8_2).toNat) = some (.string (rdOf ByteArray.empty l1 x8_2))) (ds := []) #[false, false, false, false, false, false, false, false, false] (by kernel_rfl) rfl rfl ⟨((HB.out.cell (World.block_lt_of_cell? w _ hw1191_0)).trans hw1191_0), ((HB.out.cell (World.block_lt_of_cell? w _ hw1192_0)).trans hw1192_0)⟩ (fun hHeld => ?_); refine with_tabW galleyref19_Common.tab10 galleyref19_Common.bits10 (fun HT_ HW_ => ?_)
                    generalize w33.drew = w34 at HO_5 HO_7 HB HQ32 hx1191_0 hx1192_0 hHeld ⊢
                    refine pure_ (i := 0) (N := some 43) (v := ?_) (a' := ?_) #[true, false, false, false, false, false, false, false, false] rfl rfl (any_of HT_.out (by kernel_rfl)) (fun _ _ _ h => h) (Or.inl ⟨by rfl, ?_⟩) ?_ ?_
                    rotate_left
                    ·
                     intro w'
                     go_simp
                     with_reducible rfl
                    rotate_left
                    ·
                     simp only [Act.put, List.setIfInBounds_toArray, List.set_cons_zero, List.set_cons_succ, i64_w, i32_w]
                     rfl
                    refine pure_ (i := 1) (N := some 44) (v := ?_) (a' := ?_) #[true, true, false, false, false, false, false, false, false] rfl rfl (any_of HT_.out (by kernel_rfl)) (fun _ _ _ h => h) (Or.inl ⟨by rfl, ?_⟩) ?_ ?_
                    rotate_left
                    ·
                     intro w'
                     go_simp
                     with_reducible rfl
                    rotate_left
                    ·
                     simp only [Act.put, List.setIfInBounds_toArray, List.set_cons_zero, List.set_cons_succ, i64_w, i32_w]
                     rfl
                    refine pure_ (i := 2) (N := some 45) (v := ?_) (a' := ?_) #[true, true, true, false, false, false, false, false, false] rfl rfl (any_of HT_.out (by kernel_rfl)) (fun _ _ _ h => h) (Or.inl ⟨by rfl, ?_⟩) ?_ ?_
                    rotate_left
                    ·
                     intro w'
                     go_simp
                     with_reducible rfl
                    rotate_left
                    ·
                     simp only [Act.put, List.setIfInBounds_toArray, List.set_cons_zero, List.set_cons_succ, i64_w, i32_w]
                     rfl
                    refine pure_ (i := 4) (N := some 47) (v := ?_) (a' := ?_) #[true, true, true, false, true, false, false, false, false] rfl rfl (any_of HT_.out (by kernel_rfl)) (fun _ _ _ h => h) (Or.inl ⟨by rfl, ?_⟩) ?_ ?_
                    rotate_left
                    ·
                     intro w'
                     go_simp
                     with_reducible rfl
                    rotate_left
                    ·
                     simp only [Act.put, List.setIfInBounds_toArray, List.set_cons_zero, List.set_cons_succ, i64_w, i32_w]
                     rfl
                    refine pure_ (i := 5) (N := some 48) (v := ?_) (a' := ?_) #[true, true, true, false, true, true, false, false, false] rfl rfl (any_of HT_.out (by kernel_rfl)) (fun _ _ _ h => h) (Or.inl ⟨by rfl, ?_⟩) ?_ ?_
                    rotate_left
                    ·
                     intro w'
                     go_simp
                     with_reducible rfl
                    rotate_left
                    ·
                     simp only [Act.put, List.setIfInBounds_toArray, List.set_cons_zero, List.set_cons_succ, i64_w, i32_w]
                     rfl
                    refine pure_ (i := 6) (N := some 49) (v := ?_) (a' := ?_) #[true, true, true, false, true, true, true, false, false] rfl rfl (any_of HT_.out (by kernel_rfl)) (fun _ _ _ h => h) (Or.inl ⟨by rfl, ?_⟩) ?_ ?_
                    rotate_left
                    ·
                     intro w'
                     go_simp
                     with_reducible rfl
                    rotate_left
                    ·
                     simp only [Act.put, List.setIfInBounds_toArray, List.set_cons_zero, List.set_cons_succ, i64_w, i32_w]
                     rfl
                    refine take_ (i := 3) (N := some 46) (v := ?_) (a' := ?_) #[true, true, true, true, true, true, true, false, false] rfl rfl (take_ofW HT_.out HW_.out (by kernel_rfl)) (fun _ _ _ h => h) (Or.inl ⟨by rfl, ?_⟩) hHeld ?_ ?_
                    rotate_left
                    ·
                     rintro w' ⟨s0, s1⟩
                     go_simp
                     with_reducible rfl
                    rotate_left
                    ·
                     simp only [Act.put, List.setIfInBounds_toArray, List.set_cons_zero, List.set_cons_succ, i64_w, i32_w]
                     rfl
                    refine take_ (i := 7) (N := some 50) (v := ?_) (a' := ?_) #[true, true, true, true, true, true, true, true, false] rfl rfl (take_ofW HT_.out HW_.out (by kernel_rfl)) (fun _ _ _ h => h) (Or.inl ⟨by rfl, ?_⟩) hHeld ?_ ?_
                    rotate_left
                    ·
                     rintro w' ⟨s0, s1⟩
                     go_simp
                     with_reducible rfl
                    rotate_left
                    ·
                     simp only [Act.put, List.setIfInBounds_toArray, List.set_cons_zero, List.set_cons_succ, i64_w, i32_w]
                     rfl
                    refine pure_ (i := 8) (N := some 51) (v := ?_) (a' := ?_) #[true, true, true, true, true, true, true, true, true] rfl rfl (any_of HT_.out (by kernel_rfl)) (fun _ _ _ h => h) (Or.inl ⟨by rfl, ?_⟩) ?_ ?_
                    rotate_left
                    ·
                     intro w'
                     go_simp
                     with_reducible rfl
                    rotate_left
                    ·
                     simp only [Act.put, List.setIfInBounds_toArray, List.set_cons_zero, List.set_cons_succ, i64_w, i32_w]
                     rfl
                    refine done_ (done_of HT_.out (by kernel_rfl)) ?_
                    try go_wp2
                    have n0_ := Aside0.mk (Kd.R_drew HO_5.out)
                    have n1_ := Aside0.mk (Kd.R_drew HO_7.out)
                    have n2_ := Aside0.mk (below_drew1 HB.out)
                    clear HO_5
                    clear HO_7
                    clear HB
                    have HO_5 := n0_
                    have HO_7 := n1_
                    have HB := n2_
                    clear n0_ n1_ n2_
                    have p1193 : 0 ≤ ((ji17) : Int) := of_decide_eq_true (by first | (with_reducible assumption) | assumption)
                    have q1193 : (ji17) < (y1190.length : Int) := (by have h_ : ((ji17) : Int) < ((x7_2.length : Int) : Int) := of_decide_eq_true (by first | (with_reducible assumption) | assumption); first | (have e_ := (Kd.R_reads' HO_7.out).1; omega) | simpa only [Ny1190.out, List.length_set] using h_)
                    have ql1193 : (((ji17) : Int) < ((x7_2.length : Int) : Int)) = True := eq_true (of_decide_eq_true (by first | (with_reducible assumption) | assumption))
                    obtain ⟨ad1193, e1193, hx1193_0⟩ := Kd.at_int (Kd.R_reads' HO_7.out).2.2 (ji17) p1193 q1193
                    obtain rfl : (⟨go22, 0, none⟩ : Addr) = ad1193 := (by injection e1193)
                    (first | simp only [add_plain] at hx1193_0 | simp only [add_at] at hx1193_0 | simp only [Addr.add, Nat.zero_add] at hx1193_0 | skip)
                    replace p1193 := eq_true p1193
                    replace q1193 := eq_true q1193
                    have p1194 : 0 ≤ (x8_2 : Int) := of_decide_eq_true (by first | (with_reducible assumption) | assumption)
                    have q1194 : x8_2 < (x5_1.length : Int) := of_decide_eq_true (by first | (with_reducible assumption) | assumption)
                    obtain ⟨ad1194, e1194, hx1194_0⟩ := Kd.at_int (Kd.R_reads' HO_5.out).2.2 x8_2 p1194 q1194
                    obtain rfl : ad1189 = ad1194 := (by injection e1194)
                    replace p1194 := eq_true p1194
                    replace q1194 := eq_true q1194
                    have p28 : 0 ≤ ((ji17) : Int) := of_decide_eq_true (by first | (with_reducible assumption) | assumption)
                    have q28 : ((ji17) : Int) < ((x7_2.length : Int) : Int) := of_decide_eq_true (by first | (with_reducible assumption) | assumption)
                    obtain ⟨hx28_0, hf28_0⟩ := Kd.R_celln 0 HO_7.out ((ji17) : Int) p28 q28
                    replace p28 := eq_true p28
                    replace q28 := eq_true q28
                    have HP36 := Kd.R_putn HO_7.out ((ji17) : Int) ji27
                    rw [← Ny1195.out] at HP36
                    have HQ36 := Aside0.mk HP36
                    clear HP36
                    refine start_ (n := 16) (S := fun w' => w'.cell? ⟨go22, ((ji17)).toNat, none⟩ = some (.int .i64 (rd y1190 (ji17))) ∧ w'.cell? (ad1189.add (x8_2).toNat) = some (.int .i64 (rd x5_1 x8_2))) (ds := [15]) #[false, false, false, false, false, false, false, false, false, false, false, false, false, false, false, false] (by kernel_rfl) rfl rfl ⟨hx1193_0, hx1194_0⟩ (fun hHeld => ?_); refine with_tabW galleyref19_Common.tab11 galleyref19_Common.bits11 (fun HT_ HW_ => ?_)
                    generalize w34.drew = w35 at HO_5 HO_7 HB HQ36 hf28_0 hx1193_0 hx1194_0 hx28_0 hHeld ⊢
                    refine pure_ (i := 0) (N := some 52) (v := ?_) (a' := ?_) #[true, false, false, false, false, false, false, false, false, false, false, false, false, false, false, false] rfl rfl (any_of HT_.out (by kernel_rfl)) (fun _ _ _ h => h) (Or.inl ⟨by rfl, ?_⟩) ?_ ?_
                    rotate_left
                    ·
                     intro w'
                     go_simp
                     with_reducible rfl
                    rotate_left
                    ·
                     simp only [Act.put, List.setIfInBounds_toArray, List.set_cons_zero, List.set_cons_succ, i64_w, i32_w]
                     rfl
                    refine pure_ (i := 1) (N := some 53) (v := ?_) (a' := ?_) #[true, true, false, false, false, false, false, false, false, false, false, false, false, false, false, false] rfl rfl (any_of HT_.out (by kernel_rfl)) (fun _ _ _ h => h) (Or.inl ⟨by rfl, ?_⟩) ?_ ?_
                    rotate_left
                    ·
                     intro w'
                     go_simp
                     with_reducible rfl
                    rotate_left
                    ·
                     simp only [Act.put, List.setIfInBounds_toArray, List.set_cons_zero, List.set_cons_succ, i64_w, i32_w]
                     rfl
                    refine pure_ (i := 2) (N := some 54) (v := ?_) (a' := ?_) #[true, true, true, false, false, false, false, false, false, false, false, false, false, false, false, false] rfl rfl (any_of HT_.out (by kernel_rfl)) (fun _ _ _ h => h) (Or.inl ⟨by rfl, ?_⟩) ?_ ?_
                    rotate_left
                    ·
                     intro w'
                     go_simp
                     with_reducible rfl
                    rotate_left
                    ·
                     simp only [Act.put, List.setIfInBounds_toArray, List.set_cons_zero, List.set_cons_succ, i64_w, i32_w]
                     rfl
                    refine pure_ (i := 3) (N := some 55) (v := ?_) (a' := ?_) #[true, true, true, true, false, false, false, false, false, false, false, false, false, false, false, false] rfl rfl (any_of HT_.out (by kernel_rfl)) (fun _ _ _ h => h) (Or.inl ⟨by rfl, ?_⟩) ?_ ?_
                    rotate_left
                    ·
                     intro w'
                     go_simp
                     with_reducible rfl
                    rotate_left
                    ·
                     simp only [Act.put, List.setIfInBounds_toArray, List.set_cons_zero, List.set_cons_succ, i64_w, i32_w]
                     rfl
                    refine pure_ (i := 4) (N := some 56) (v := ?_) (a' := ?_) #[true, true, true, true, true, false, false, false, false, false, false, false, false, false, false, false] rfl rfl (any_of HT_.out (by kernel_rfl)) (fun _ _ _ h => h) (Or.inl ⟨by rfl, ?_⟩) ?_ ?_
                    rotate_left
                    ·
                     intro w'
                     go_simp
                     with_reducible rfl
                    rotate_left
                    ·
                     simp only [Act.put, List.setIfInBounds_toArray, List.set_cons_zero, List.set_cons_succ, i64_w, i32_w]
                     rfl
                    refine pure_ (i := 5) (N := some 57) (v := ?_) (a' := ?_) #[true, true, true, true, true, true, false, false, false, false, false, false, false, false, false, false] rfl rfl (any_of HT_.out (by kernel_rfl)) (fun _ _ _ h => h) (Or.inl ⟨by rfl, ?_⟩) ?_ ?_
                    rotate_left
                    ·
                     intro w'
                     go_simp
                     with_reducible rfl
                    rotate_left
                    ·
                     simp only [Act.put, List.setIfInBounds_toArray, List.set_cons_zero, List.set_cons_succ, i64_w, i32_w]
                     rfl
                    refine pure_ (i := 6) (N := some 58) (v := ?_) (a' := ?_) #[true, true, true, true, true, true, true, false, false, false, false, false, false, false, false, false] rfl rfl (any_of HT_.out (by kernel_rfl)) (fun _ _ _ h => h) (Or.inl ⟨by rfl, ?_⟩) ?_ ?_
                    rotate_left
                    ·
                     intro w'
                     go_simp
                     with_reducible rfl
                    rotate_left
                    ·
                     simp only [Act.put, List.setIfInBounds_toArray, List.set_cons_zero, List.set_cons_succ, i64_w, i32_w]
                     rfl
                    refine pure_ (i := 8) (N := some 60) (v := ?_) (a' := ?_) #[true, true, true, true, true, true, true, false, true, false, false, false, false, false, false, false] rfl rfl (any_of HT_.out (by kernel_rfl)) (fun _ _ _ h => h) (Or.inl ⟨by rfl, ?_⟩) ?_ ?_
                    rotate_left
                    ·
                     intro w'
                     go_simp
                     with_reducible rfl
                    rotate_left
                    ·
                     simp only [Act.put, List.setIfInBounds_toArray, List.set_cons_zero, List.set_cons_succ, i64_w, i32_w]
                     rfl
                    refine pure_ (i := 9) (N := some 61) (v := ?_) (a' := ?_) #[true, true, true, true, true, true, true, false, true, true, false, false, false, false, false, false] rfl rfl (any_of HT_.out (by kernel_rfl)) (fun _ _ _ h => h) (Or.inl ⟨by rfl, ?_⟩) ?_ ?_
                    rotate_left
                    ·
                     intro w'
                     go_simp
                     with_reducible rfl
                    rotate_left
                    ·
                     simp only [Act.put, List.setIfInBounds_toArray, List.set_cons_zero, List.set_cons_succ, i64_w, i32_w]
                     rfl
                    refine pure_ (i := 10) (N := some 62) (v := ?_) (a' := ?_) #[true, true, true, true, true, true, true, false, true, true, true, false, false, false, false, false] rfl rfl (any_of HT_.out (by kernel_rfl)) (fun _ _ _ h => h) (Or.inl ⟨by rfl, ?_⟩) ?_ ?_
                    rotate_left
                    ·
                     intro w'
                     go_simp
                     with_reducible rfl
                    rotate_left
                    ·
                     simp only [Act.put, List.setIfInBounds_toArray, List.set_cons_zero, List.set_cons_succ, i64_w, i32_w]
                     rfl
                    refine take_ (i := 7) (N := some 59) (v := ?_) (a' := ?_) #[true, true, true, true, true, true, true, true, true, true, true, false, false, false, false, false] rfl rfl (take_ofW HT_.out HW_.out (by kernel_rfl)) (fun _ _ _ h => h) (Or.inl ⟨by rfl, ?_⟩) hHeld ?_ ?_
                    rotate_left
                    ·
                     rintro w' ⟨s0, s1⟩
                     go_simp
                     with_reducible rfl
                    rotate_left
                    ·
                     simp only [Act.put, List.setIfInBounds_toArray, List.set_cons_zero, List.set_cons_succ, i64_w, i32_w]
                     rfl
                    refine take_ (i := 11) (N := some 63) (v := ?_) (a' := ?_) #[true, true, true, true, true, true, true, true, true, true, true, true, false, false, false, false] rfl rfl (take_ofW HT_.out HW_.out (by kernel_rfl)) (fun _ _ _ h => h) (Or.inl ⟨by rfl, ?_⟩) hHeld ?_ ?_
                    rotate_left
                    ·
                     rintro w' ⟨s0, s1⟩
                     go_simp
                     with_reducible rfl
                    rotate_left
                    ·
                     simp only [Act.put, List.setIfInBounds_toArray, List.set_cons_zero, List.set_cons_succ, i64_w, i32_w]
                     rfl
                    refine pure_ (i := 12) (N := some 64) (v := ?_) (a' := ?_) #[true, true, true, true, true, true, true, true, true, true, true, true, true, false, false, false] rfl rfl (any_of HT_.out (by kernel_rfl)) (fun _ _ _ h => h) (Or.inl ⟨by rfl, ?_⟩) ?_ ?_
                    rotate_left
                    ·
                     intro w'
                     go_simp
                     with_reducible rfl
                    rotate_left
                    ·
                     simp only [Act.put, List.setIfInBounds_toArray, List.set_cons_zero, List.set_cons_succ, i64_w, i32_w]
                     rfl
                    refine pure_ (i := 13) (N := some 65) (v := ?_) (a' := ?_) #[true, true, true, true, true, true, true, true, true, true, true, true, true, true, false, false] rfl rfl (any_of HT_.out (by kernel_rfl)) (fun _ _ _ h => h) (Or.inl ⟨by rfl, ?_⟩) ?_ ?_
                    rotate_left
                    ·
                     intro w'
                     go_simp
                     with_reducible rfl
                    rotate_left
                    ·
                     simp only [Act.put, List.setIfInBounds_toArray, List.set_cons_zero, List.set_cons_succ, i64_w, i32_w]
                     rfl
                    refine pure_ (i := 14) (N := some 66) (v := ?_) (a' := ?_) #[true, true, true, true, true, true, true, true, true, true, true, true, true, true, true, false] rfl rfl (any_of HT_.out (by kernel_rfl)) (fun _ _ _ h => h) (Or.inl ⟨by rfl, ?_⟩) ?_ ?_
                    rotate_left
                    ·
                     intro w'
                     go_simp
                     with_reducible rfl
                    rotate_left
                    ·
                     simp only [Act.put, List.setIfInBounds_toArray, List.set_cons_zero, List.set_cons_succ, i64_w, i32_w]
                     rfl
                    refine last_ (i := 15) (N := none) #[true, true, true, true, true, true, true, true, true, true, true, true, true, true, true, true] rfl rfl (one_of HT_.out (by kernel_rfl)) (by decide) (fun K hK => ?_)
                    refine skip_ (w1 := ?_) (by rfl) rfl ?_ ?_
                    rotate_left
                    ·
                     go_simp
                     rfl
                    refine hK.out _ _ ?_
                    clear hK K
                    refine done_ (done_of HT_.out (by kernel_rfl)) ?_
                    try go_wp2
                    go_roundg k2
                    case measure => have := HK1.out; have := HK2.out; omega
                    case rel => exact ⟨(y1195), (ji17), (by first | rfl | (simp; done) | (simp only [← hji17] <;> (first | rfl | simp)) | (simp [*]; done)), H', ⟨by have := HK1.out; have := HK2.out; omega⟩, ⟨by (with_reducible repeat (first | apply Kd.R_alloc | apply Kd.R_drewN | apply Kd.R_drew)); exact Kd.R_mono (Kd.R_far (p := ⟨go22, ((ji17) : Int).toNat, none⟩) (Kd.R_mono HO_5.out (fun k_ hk => (⟨hk, fun e_ => hk (by rw [e_]; rfl)⟩ : _ ∧ k_ ≠ go22))) (fun _ hk => hk.2) (.int .i64 ji27)) (fun _ hk => hk.1)⟩, ⟨by (with_reducible repeat (first | apply Kd.R_alloc | apply Kd.R_drewN | apply Kd.R_drew)); exact HQ36.out⟩, ⟨by repeat (first | (with_reducible first | exact HB.out | apply below_alloc | apply pw_below_drewN | apply below_drew1 | refine below_set ?_ GB22.out) | exact HB.out)⟩⟩
                   ·
                    rw [if_neg c26] at H
                    exact absurd H (by simp)
                  ·
                   rw [if_neg c25] at H
                   have c25b0 : ((rdOf ByteArray.empty l0 x6_1).toList == (rdOf ByteArray.empty l1 x8_2).toList) = false := beq_eq_false_iff_ne.mpr c25
                   have c25b1 : ((rdOf ByteArray.empty l0 x6_1).toList != (rdOf ByteArray.empty l1 x8_2).toList) = true := bne_iff_ne.mpr c25
                   have H' := Aside0.mk H
                   clear H
                   try go_wp2
                   have n0_ := Aside0.mk (Kd.R_drew HO_5.out)
                   have n1_ := Aside0.mk (Kd.R_drew HO_7.out)
                   have n2_ := Aside0.mk (below_drew1 HB.out)
                   clear HO_5
                   clear HO_7
                   clear HB
                   have HO_5 := n0_
                   have HO_7 := n1_
                   have HB := n2_
                   clear n0_ n1_ n2_
                   obtain ⟨Ao38, co38, eo38⟩ := Kd.R_slice HO_7.out
                   (first | subst eo38 | (injection eo38 with f1_ f2_ f3_; have f4_ := f1_.symm; have f5_ := f3_.symm; clear f1_ f2_ f3_; subst f4_; subst f5_))
                   have p1188 : 0 ≤ (x8_2 : Int) := of_decide_eq_true (by first | (with_reducible assumption) | assumption)
                   have q1188 : x8_2 < (x7_2.length : Int) := of_decide_eq_true (by first | (with_reducible assumption) | assumption)
                   obtain ⟨ad1188, e1188, hx1188_0⟩ := Kd.at_int (Kd.R_reads' HO_7.out).2.2 x8_2 p1188 q1188
                   cases e1188
                   replace p1188 := eq_true p1188
                   replace q1188 := eq_true q1188
                   obtain ⟨Ao39, co39, eo39⟩ := Kd.R_slice HO_5.out
                   (first | subst eo39 | (injection eo39 with f1_ f2_ f3_; have f4_ := f1_.symm; have f5_ := f3_.symm; clear f1_ f2_ f3_; subst f4_; subst f5_))
                   have p1189 : 0 ≤ ((ji17) : Int) := of_decide_eq_true (by first | (with_reducible assumption) | assumption)
                   have q1189 : (ji17) < (x5_1.length : Int) := of_decide_eq_true (by first | (with_reducible assumption) | assumption)
                   obtain ⟨ad1189, e1189, hx1189_0⟩ := Kd.at_int (Kd.R_reads' HO_5.out).2.2 (ji17) p1189 q1189
                   cases e1189
                   replace p1189 := eq_true p1189
                   replace q1189 := eq_true q1189
                   have p22 : 0 ≤ ((ji17) : Int) := of_decide_eq_true (by first | (with_reducible assumption) | assumption)
                   have q22 : ((ji17) : Int) < ((x7_2.length : Int) : Int) := of_decide_eq_true (by first | (with_reducible assumption) | assumption)
                   obtain ⟨go22, co22, eo22, gb22, gl22, cl22, HG22⟩ := Kd.R_form HO_7.out (by omega)
                   (first | cases eo22 | (injection eo22 with ea_ en_ ec_; (first | subst ea_ | (injection ea_ with ea_; subst ea_)); subst ec_; clear en_))
                   have GB22 := Aside0.mk gb22
                   have GG22 := Aside0.mk HG22
                   clear gb22 gl22 HG22
                   (first | simp only [add_plain] at hx1188_0 | skip)
                   obtain ⟨hx22_0, hf22_0⟩ := Kd.R_celln 0 HO_7.out ((ji17) : Int) p22 q22
                   replace p22 := eq_true p22
                   replace q22 := eq_true q22
                   have HP40 := Kd.R_putn HO_7.out ((ji17) : Int) ji20
                   rw [← Ny1190.out] at HP40
                   have HQ40 := Aside0.mk HP40
                   clear HP40
                   refine start_ (n := 15) (S := fun w' => w'.cell? ⟨go22, (x8_2).toNat, none⟩ = some (.int .i64 (rd x7_2 x8_2)) ∧ w'.cell? (ad1189.add ((ji17)).toNat) = some (.int .i64 (rd x5_1 (ji17)))) (ds := [14]) #[false, false, false, false, false, false, false, false, false, false, false, false, false, false, false] (by kernel_rfl) rfl rfl ⟨hx1188_0, hx1189_0⟩ (fun hHeld => ?_); refine with_tabW galleyref19_Common.tab9 galleyref19_Common.bits9 (fun HT_ HW_ => ?_)
                   generalize wr.drew = w37 at HO_5 HO_7 HB GG22 HQ40 hf22_0 hx1188_0 hx1189_0 hx22_0 hHeld ⊢
                   refine pure_ (i := 0) (N := some 29) (v := ?_) (a' := ?_) #[true, false, false, false, false, false, false, false, false, false, false, false, false, false, false] rfl rfl (any_of HT_.out (by kernel_rfl)) (fun _ _ _ h => h) (Or.inl ⟨by rfl, ?_⟩) ?_ ?_
                   rotate_left
                   ·
                    intro w'
                    go_simp
                    with_reducible rfl
                   rotate_left
                   ·
                    simp only [Act.put, List.setIfInBounds_toArray, List.set_cons_zero, List.set_cons_succ, i64_w, i32_w]
                    rfl
                   refine pure_ (i := 1) (N := some 30) (v := ?_) (a' := ?_) #[true, true, false, false, false, false, false, false, false, false, false, false, false, false, false] rfl rfl (any_of HT_.out (by kernel_rfl)) (fun _ _ _ h => h) (Or.inl ⟨by rfl, ?_⟩) ?_ ?_
                   rotate_left
                   ·
                    intro w'
                    go_simp
                    with_reducible rfl
                   rotate_left
                   ·
                    simp only [Act.put, List.setIfInBounds_toArray, List.set_cons_zero, List.set_cons_succ, i64_w, i32_w]
                    rfl
                   refine pure_ (i := 2) (N := some 31) (v := ?_) (a' := ?_) #[true, true, true, false, false, false, false, false, false, false, false, false, false, false, false] rfl rfl (any_of HT_.out (by kernel_rfl)) (fun _ _ _ h => h) (Or.inl ⟨by rfl, ?_⟩) ?_ ?_
                   rotate_left
                   ·
                    intro w'
                    go_simp
                    with_reducible rfl
                   rotate_left
                   ·
                    simp only [Act.put, List.setIfInBounds_toArray, List.set_cons_zero, List.set_cons_succ, i64_w, i32_w]
                    rfl
                   refine pure_ (i := 3) (N := some 32) (v := ?_) (a' := ?_) #[true, true, true, true, false, false, false, false, false, false, false, false, false, false, false] rfl rfl (any_of HT_.out (by kernel_rfl)) (fun _ _ _ h => h) (Or.inl ⟨by rfl, ?_⟩) ?_ ?_
                   rotate_left
                   ·
                    intro w'
                    go_simp
                    with_reducible rfl
                   rotate_left
                   ·
                    simp only [Act.put, List.setIfInBounds_toArray, List.set_cons_zero, List.set_cons_succ, i64_w, i32_w]
                    rfl
                   refine pure_ (i := 4) (N := some 33) (v := ?_) (a' := ?_) #[true, true, true, true, true, false, false, false, false, false, false, false, false, false, false] rfl rfl (any_of HT_.out (by kernel_rfl)) (fun _ _ _ h => h) (Or.inl ⟨by rfl, ?_⟩) ?_ ?_
                   rotate_left
                   ·
                    intro w'
                    go_simp
                    with_reducible rfl
                   rotate_left
                   ·
                    simp only [Act.put, List.setIfInBounds_toArray, List.set_cons_zero, List.set_cons_succ, i64_w, i32_w]
                    rfl
                   refine pure_ (i := 5) (N := some 34) (v := ?_) (a' := ?_) #[true, true, true, true, true, true, false, false, false, false, false, false, false, false, false] rfl rfl (any_of HT_.out (by kernel_rfl)) (fun _ _ _ h => h) (Or.inl ⟨by rfl, ?_⟩) ?_ ?_
                   rotate_left
                   ·
                    intro w'
                    go_simp
                    with_reducible rfl
                   rotate_left
                   ·
                    simp only [Act.put, List.setIfInBounds_toArray, List.set_cons_zero, List.set_cons_succ, i64_w, i32_w]
                    rfl
                   refine pure_ (i := 7) (N := some 36) (v := ?_) (a' := ?_) #[true, true, true, true, true, true, false, true, false, false, false, false, false, false, false] rfl rfl (any_of HT_.out (by kernel_rfl)) (fun _ _ _ h => h) (Or.inl ⟨by rfl, ?_⟩) ?_ ?_
                   rotate_left
                   ·
                    intro w'
                    go_simp
                    with_reducible rfl
                   rotate_left
                   ·
                    simp only [Act.put, List.setIfInBounds_toArray, List.set_cons_zero, List.set_cons_succ, i64_w, i32_w]
                    rfl
                   refine pure_ (i := 8) (N := some 37) (v := ?_) (a' := ?_) #[true, true, true, true, true, true, false, true, true, false, false, false, false, false, false] rfl rfl (any_of HT_.out (by kernel_rfl)) (fun _ _ _ h => h) (Or.inl ⟨by rfl, ?_⟩) ?_ ?_
                   rotate_left
                   ·
                    intro w'
                    go_simp
                    with_reducible rfl
                   rotate_left
                   ·
                    simp only [Act.put, List.setIfInBounds_toArray, List.set_cons_zero, List.set_cons_succ, i64_w, i32_w]
                    rfl
                   refine pure_ (i := 9) (N := some 38) (v := ?_) (a' := ?_) #[true, true, true, true, true, true, false, true, true, true, false, false, false, false, false] rfl rfl (any_of HT_.out (by kernel_rfl)) (fun _ _ _ h => h) (Or.inl ⟨by rfl, ?_⟩) ?_ ?_
                   rotate_left
                   ·
                    intro w'
                    go_simp
                    with_reducible rfl
                   rotate_left
                   ·
                    simp only [Act.put, List.setIfInBounds_toArray, List.set_cons_zero, List.set_cons_succ, i64_w, i32_w]
                    rfl
                   refine pure_ (i := 10) (N := some 39) (v := ?_) (a' := ?_) #[true, true, true, true, true, true, false, true, true, true, true, false, false, false, false] rfl rfl (any_of HT_.out (by kernel_rfl)) (fun _ _ _ h => h) (Or.inl ⟨by rfl, ?_⟩) ?_ ?_
                   rotate_left
                   ·
                    intro w'
                    go_simp
                    with_reducible rfl
                   rotate_left
                   ·
                    simp only [Act.put, List.setIfInBounds_toArray, List.set_cons_zero, List.set_cons_succ, i64_w, i32_w]
                    rfl
                   refine take_ (i := 6) (N := some 35) (v := ?_) (a' := ?_) #[true, true, true, true, true, true, true, true, true, true, true, false, false, false, false] rfl rfl (take_ofW HT_.out HW_.out (by kernel_rfl)) (fun _ _ _ h => h) (Or.inl ⟨by rfl, ?_⟩) hHeld ?_ ?_
                   rotate_left
                   ·
                    rintro w' ⟨s0, s1⟩
                    go_simp
                    with_reducible rfl
                   rotate_left
                   ·
                    simp only [Act.put, List.setIfInBounds_toArray, List.set_cons_zero, List.set_cons_succ, i64_w, i32_w]
                    rfl
                   refine take_ (i := 11) (N := some 40) (v := ?_) (a' := ?_) #[true, true, true, true, true, true, true, true, true, true, true, true, false, false, false] rfl rfl (take_ofW HT_.out HW_.out (by kernel_rfl)) (fun _ _ _ h => h) (Or.inl ⟨by rfl, ?_⟩) hHeld ?_ ?_
                   rotate_left
                   ·
                    rintro w' ⟨s0, s1⟩
                    go_simp
                    with_reducible rfl
                   rotate_left
                   ·
                    simp only [Act.put, List.setIfInBounds_toArray, List.set_cons_zero, List.set_cons_succ, i64_w, i32_w]
                    rfl
                   refine pure_ (i := 12) (N := some 41) (v := ?_) (a' := ?_) #[true, true, true, true, true, true, true, true, true, true, true, true, true, false, false] rfl rfl (any_of HT_.out (by kernel_rfl)) (fun _ _ _ h => h) (Or.inl ⟨by rfl, ?_⟩) ?_ ?_
                   rotate_left
                   ·
                    intro w'
                    go_simp
                    with_reducible rfl
                   rotate_left
                   ·
                    simp only [Act.put, List.setIfInBounds_toArray, List.set_cons_zero, List.set_cons_succ, i64_w, i32_w]
                    rfl
                   refine pure_ (i := 13) (N := some 42) (v := ?_) (a' := ?_) #[true, true, true, true, true, true, true, true, true, true, true, true, true, true, false] rfl rfl (any_of HT_.out (by kernel_rfl)) (fun _ _ _ h => h) (Or.inl ⟨by rfl, ?_⟩) ?_ ?_
                   rotate_left
                   ·
                    intro w'
                    go_simp
                    with_reducible rfl
                   rotate_left
                   ·
                    simp only [Act.put, List.setIfInBounds_toArray, List.set_cons_zero, List.set_cons_succ, i64_w, i32_w]
                    rfl
                   refine last_ (i := 14) (N := none) #[true, true, true, true, true, true, true, true, true, true, true, true, true, true, true] rfl rfl (one_of HT_.out (by kernel_rfl)) (by decide) (fun K hK => ?_)
                   refine skip_ (w1 := ?_) (by rfl) rfl ?_ ?_
                   rotate_left
                   ·
                    go_simp
                    rfl
                   refine hK.out _ _ ?_
                   clear hK K
                   refine done_ (done_of HT_.out (by kernel_rfl)) ?_
                   try go_wp2
                   have n0_ : Aside0 (Kd.R (Kd.int .i64) 3 (w37.setCell ⟨go22, ((ji17) : Int).toNat, none⟩ (.int .i64 ji20)) w.heap.size (fun k_ => some k_ ≠ (.slice (some ⟨go22, 0, none⟩) x7_2.length co38 : Value).ownBlock) (.slice (some ad1189) x5_1.length co39) x5_1) := ⟨by (with_reducible repeat (first | apply Kd.R_alloc | apply Kd.R_drewN | apply Kd.R_drew)); exact Kd.R_mono (Kd.R_far (p := ⟨go22, ((ji17) : Int).toNat, none⟩) (Kd.R_mono HO_5.out (fun k_ hk => (⟨hk, fun e_ => hk (by rw [e_]; rfl)⟩ : _ ∧ k_ ≠ go22))) (fun _ hk => hk.2) (.int .i64 ji20)) (fun _ hk => hk.1)⟩
                   have n1_ : Aside0 (Kd.R (Kd.int .i64) 3 (w37.setCell ⟨go22, ((ji17) : Int).toNat, none⟩ (.int .i64 ji20)) w.heap.size (fun k_ => some k_ ≠ (.slice (some ad1189) x5_1.length co39 : Value).ownBlock) (.slice (some ⟨go22, 0, none⟩) x7_2.length co38) y1190) := ⟨by (with_reducible repeat (first | apply Kd.R_alloc | apply Kd.R_drewN | apply Kd.R_drew)); exact HQ40.out⟩
                   have n2_ : Aside0 (Below w.heap.size w (w37.setCell ⟨go22, ((ji17) : Int).toNat, none⟩ (.int .i64 ji20))) := ⟨by repeat (first | (with_reducible first | exact HB.out | apply below_alloc | apply pw_below_drewN | apply below_drew1 | refine below_set ?_ GB22.out) | exact HB.out)⟩
                   (try clear HO_5)
                   (try clear HO_7)
                   (try clear HB)
                   generalize (w37.setCell ⟨go22, ((ji17) : Int).toNat, none⟩ (.int .i64 ji20)) = w41 at n0_ n1_ n2_ ⊢
                   have HO_5 := n0_
                   have HO_7 := n1_
                   have HB := n2_
                   clear n0_ n1_ n2_
                   have n0_ := Aside0.mk (Kd.R_drew HO_5.out)
                   have n1_ := Aside0.mk (Kd.R_drew HO_7.out)
                   have n2_ := Aside0.mk (below_drew1 HB.out)
                   clear HO_5
                   clear HO_7
                   clear HB
                   have HO_5 := n0_
                   have HO_7 := n1_
                   have HB := n2_
                   clear n0_ n1_ n2_
                   have p1191 : 0 ≤ (x6_1 : Int) := of_decide_eq_true (by first | (with_reducible assumption) | assumption)
                   have q1191 : x6_1 < (l0.length : Int) := of_decide_eq_true (by first | (with_reducible assumption) | assumption)
                   obtain ⟨ad1191, e1191, hx1191_0⟩ := Kd.at_string HR0.out x6_1 p1191 q1191
                   have hw1191_0 := hx1191_0
                   cases e1191
                   replace hx1191_0 := (HB.out.cell (World.block_lt_of_cell? w _ hx1191_0)).trans hx1191_0
                   replace p1191 := eq_true p1191
                   replace q1191 := eq_true q1191
                   have p1192 : 0 ≤ (x8_2 : Int) := of_decide_eq_true (by first | (with_reducible assumption) | assumption)
                   have q1192 : x8_2 < (l1.length : Int) := of_decide_eq_true (by first | (with_reducible assumption) | assumption)
                   obtain ⟨ad1192, e1192, hx1192_0⟩ := Kd.at_string HR1.out x8_2 p1192 q1192
                   have hw1192_0 := hx1192_0
                   cases e1192
                   replace hx1192_0 := (HB.out.cell (World.block_lt_of_cell? w _ hx1192_0)).trans hx1192_0
                   replace p1192 := eq_true p1192
                   replace q1192 := eq_true q1192
                   refine start_ (n := 9) (S := fun w' => w'.cell? (ad1191.add (x6_1).toNat) = some (.string (rdOf ByteArray.empty l0 x6_1)) ∧ w'.cell? (ad1192.add (x8_2).toNat) = some (.string (rdOf ByteArray.empty l1 x8_2))) (ds := []) #[false, false, false, false, false, false, false, false, false] (by kernel_rfl) rfl rfl ⟨((HB.out.cell (World.block_lt_of_cell? w _ hw1191_0)).trans hw1191_0), ((HB.out.cell (World.block_lt_of_cell? w _ hw1192_0)).trans hw1192_0)⟩ (fun hHeld => ?_); refine with_tabW galleyref19_Common.tab10 galleyref19_Common.bits10 (fun HT_ HW_ => ?_)
                   generalize w41.drew = w42 at HO_5 HO_7 HB HQ40 hx1191_0 hx1192_0 hHeld ⊢
                   refine pure_ (i := 0) (N := some 43) (v := ?_) (a' := ?_) #[true, false, false, false, false, false, false, false, false] rfl rfl (any_of HT_.out (by kernel_rfl)) (fun _ _ _ h => h) (Or.inl ⟨by rfl, ?_⟩) ?_ ?_
                   rotate_left
                   ·
                    intro w'
                    go_simp
                    with_reducible rfl
                   rotate_left
                   ·
                    simp only [Act.put, List.setIfInBounds_toArray, List.set_cons_zero, List.set_cons_succ, i64_w, i32_w]
                    rfl
                   refine pure_ (i := 1) (N := some 44) (v := ?_) (a' := ?_) #[true, true, false, false, false, false, false, false, false] rfl rfl (any_of HT_.out (by kernel_rfl)) (fun _ _ _ h => h) (Or.inl ⟨by rfl, ?_⟩) ?_ ?_
                   rotate_left
                   ·
                    intro w'
                    go_simp
                    with_reducible rfl
                   rotate_left
                   ·
                    simp only [Act.put, List.setIfInBounds_toArray, List.set_cons_zero, List.set_cons_succ, i64_w, i32_w]
                    rfl
                   refine pure_ (i := 2) (N := some 45) (v := ?_) (a' := ?_) #[true, true, true, false, false, false, false, false, false] rfl rfl (any_of HT_.out (by kernel_rfl)) (fun _ _ _ h => h) (Or.inl ⟨by rfl, ?_⟩) ?_ ?_
                   rotate_left
                   ·
                    intro w'
                    go_simp
                    with_reducible rfl
                   rotate_left
                   ·
                    simp only [Act.put, List.setIfInBounds_toArray, List.set_cons_zero, List.set_cons_succ, i64_w, i32_w]
                    rfl
                   refine pure_ (i := 4) (N := some 47) (v := ?_) (a' := ?_) #[true, true, true, false, true, false, false, false, false] rfl rfl (any_of HT_.out (by kernel_rfl)) (fun _ _ _ h => h) (Or.inl ⟨by rfl, ?_⟩) ?_ ?_
                   rotate_left
                   ·
                    intro w'
                    go_simp
                    with_reducible rfl
                   rotate_left
                   ·
                    simp only [Act.put, List.setIfInBounds_toArray, List.set_cons_zero, List.set_cons_succ, i64_w, i32_w]
                    rfl
                   refine pure_ (i := 5) (N := some 48) (v := ?_) (a' := ?_) #[true, true, true, false, true, true, false, false, false] rfl rfl (any_of HT_.out (by kernel_rfl)) (fun _ _ _ h => h) (Or.inl ⟨by rfl, ?_⟩) ?_ ?_
                   rotate_left
                   ·
                    intro w'
                    go_simp
                    with_reducible rfl
                   rotate_left
                   ·
                    simp only [Act.put, List.setIfInBounds_toArray, List.set_cons_zero, List.set_cons_succ, i64_w, i32_w]
                    rfl
                   refine pure_ (i := 6) (N := some 49) (v := ?_) (a' := ?_) #[true, true, true, false, true, true, true, false, false] rfl rfl (any_of HT_.out (by kernel_rfl)) (fun _ _ _ h => h) (Or.inl ⟨by rfl, ?_⟩) ?_ ?_
                   rotate_left
                   ·
                    intro w'
                    go_simp
                    with_reducible rfl
                   rotate_left
                   ·
                    simp only [Act.put, List.setIfInBounds_toArray, List.set_cons_zero, List.set_cons_succ, i64_w, i32_w]
                    rfl
                   refine take_ (i := 3) (N := some 46) (v := ?_) (a' := ?_) #[true, true, true, true, true, true, true, false, false] rfl rfl (take_ofW HT_.out HW_.out (by kernel_rfl)) (fun _ _ _ h => h) (Or.inl ⟨by rfl, ?_⟩) hHeld ?_ ?_
                   rotate_left
                   ·
                    rintro w' ⟨s0, s1⟩
                    go_simp
                    with_reducible rfl
                   rotate_left
                   ·
                    simp only [Act.put, List.setIfInBounds_toArray, List.set_cons_zero, List.set_cons_succ, i64_w, i32_w]
                    rfl
                   refine take_ (i := 7) (N := some 50) (v := ?_) (a' := ?_) #[true, true, true, true, true, true, true, true, false] rfl rfl (take_ofW HT_.out HW_.out (by kernel_rfl)) (fun _ _ _ h => h) (Or.inl ⟨by rfl, ?_⟩) hHeld ?_ ?_
                   rotate_left
                   ·
                    rintro w' ⟨s0, s1⟩
                    go_simp
                    with_reducible rfl
                   rotate_left
                   ·
                    simp only [Act.put, List.setIfInBounds_toArray, List.set_cons_zero, List.set_cons_succ, i64_w, i32_w]
                    rfl
                   refine pure_ (i := 8) (N := some 51) (v := ?_) (a' := ?_) #[true, true, true, true, true, true, true, true, true] rfl rfl (any_of HT_.out (by kernel_rfl)) (fun _ _ _ h => h) (Or.inl ⟨by rfl, ?_⟩) ?_ ?_
                   rotate_left
                   ·
                    intro w'
                    go_simp
                    with_reducible rfl
                   rotate_left
                   ·
                    simp only [Act.put, List.setIfInBounds_toArray, List.set_cons_zero, List.set_cons_succ, i64_w, i32_w]
                    rfl
                   refine done_ (done_of HT_.out (by kernel_rfl)) ?_
                   try go_wp2
                   go_roundg k2
                   case measure => have := HK1.out; have := HK2.out; omega
                   case rel => exact ⟨(y1190), (ji17), (by first | rfl | (simp; done) | (simp only [← hji17] <;> (first | rfl | simp)) | (simp [*]; done)), H', ⟨by have := HK1.out; have := HK2.out; omega⟩, ⟨by (with_reducible repeat (first | apply Kd.R_alloc | apply Kd.R_drewN | apply Kd.R_drew)); exact HO_5.out⟩, ⟨by (with_reducible repeat (first | apply Kd.R_alloc | apply Kd.R_drewN | apply Kd.R_drew)); exact HO_7.out⟩, ⟨by repeat (first | (with_reducible first | exact HB.out | apply below_alloc | apply pw_below_drewN | apply below_drew1) | exact HB.out)⟩⟩
                 ·
                  rw [if_neg c24] at H
                  exact absurd H (by simp)
                ·
                 rw [if_neg c23] at H
                 exact absurd H (by simp)
               ·
                rw [if_neg c21] at H
                exact absurd H (by simp)
              ·
               rw [if_neg c19] at H
               exact absurd H (by simp)
             ·
              rw [if_neg c18] at H
              exact absurd H (by simp)
            ·
             rw [if_neg c16] at H
             exact absurd H (by simp)
           ·
            rw [if_neg c15] at H
            exact absurd H (by simp)
          ·
           rw [if_neg c14] at H
           have c14b0 : decide (x8_2 < (l1.length : Int)) = false := decide_eq_false c14
           clear c14
           have H' := Aside0.mk H
           clear H
           go_wp2
           go_roundg k2
           case measure => have := HK1.out; have := HK2.out; omega
           case rel => exact ⟨(x7_2), (wrap64 (x6_1 + 1)), (by first | rfl | (simp; done) | (simp [*]; done)), H', ⟨by have := HK1.out; have := HK2.out; omega⟩, ⟨by (with_reducible repeat (first | apply Kd.R_alloc | apply Kd.R_drewN | apply Kd.R_drew)); exact Kd.R_mono HO_7.out (fun _ hk => trivial)⟩, ⟨by repeat (first | (with_reducible first | exact HB.out | apply below_alloc | apply pw_below_drewN | apply below_drew1) | exact HB.out)⟩⟩
       ·
        rw [if_neg c11] at H
        exact absurd H (by simp)
      ·
       rw [if_neg c10] at H
       exact absurd H (by simp)
     ·
      rw [if_neg c8] at H
      have c8b0 : decide (x6_1 < (l0.length : Int)) = false := decide_eq_false c8
      clear c8
      by_cases c43 : 0 ≤ (l1.length : Int)
      ·
       rw [if_pos c43] at H
       have c43b0 : decide (0 ≤ (l1.length : Int)) = true := decide_eq_true c43
       have c43b1 : decide (0 ≤ l1.length) = true := decide_eq_true (by omega)
       clear c43
       by_cases c44 : (l1.length : Int) < (x5_1.length : Int)
       ·
        rw [if_pos c44] at H
        have c44b0 : decide ((l1.length : Int) < (x5_1.length : Int)) = true := decide_eq_true c44
        have c44b1 : decide (l1.length < x5_1.length) = true := decide_eq_true (Int.ofNat_lt.mp c44)
        clear c44
        obtain rfl := Option.some.inj H
        obtain ⟨Ao45, co45, eo45⟩ := Kd.R_slice HO_5.out
        subst eo45
        have p1184 : 0 ≤ ((l1.length : Int) : Int) := of_decide_eq_true (by first | (with_reducible assumption) | assumption)
        have q1184 : (l1.length : Int) < (x5_1.length : Int) := of_decide_eq_true (by first | (with_reducible assumption) | assumption)
        obtain ⟨ad1184, e1184, hx1184_0⟩ := Kd.at_int (Kd.R_reads' HO_5.out).2.2 (l1.length : Int) p1184 q1184
        cases e1184
        (try simp only [Go.IntWalk.toNatUp] at hx1184_0)
        replace p1184 := eq_true p1184
        replace q1184 := eq_true q1184
        go_wp2
        go_ret
        exact ⟨by first | rfl | (simp [errW_none, errW_some] <;> rfl) | (simp only [← hji3]; first | rfl | (simp [errW_none, errW_some] <;> rfl)) | (simp [*, errW_none, errW_some] <;> rfl), by repeat (first | (with_reducible first | exact HB.out | apply below_alloc | apply pw_below_drewN | apply below_drew1) | exact HB.out)⟩
       ·
        rw [if_neg c44] at H
        exact absurd H (by simp)
      ·
       rw [if_neg c43] at H
       exact absurd H (by simp)
  ·
   rw [if_neg c5] at H
   exact absurd H (by simp)
 ·
  rw [if_neg c4] at H
  exact absurd H (by simp)
end Go.Proofs.YtbomhpfckplgaaaDoor.P
namespace Go.Proofs.YtbomhpfckplgaaaDoor.P
open Go.RowKit Go.Proofs.YtbomhpfckplgaaaDoorW.PrintWords Go.Proofs.YtbomhpfckplgaaaDoorW.PrintLast Go.Proofs.YtbomhpfckplgaaaDoorW.PrintMore
attribute [local go_sem] max2_int min2_int max_two min_two max_three min_three max_four min_four   -- for this text's walks alone
set_option linter.unusedVariables false
set_option linter.unusedSimpArgs false
def galleyref19_Distance.f (k : Nat) (l0 : List Int) (l1 : List Int) : Option (Int × Int) := (galleyref19_Steps.f k l0).bind fun t1196 => ((galleyref19_Steps.f k l1).bind fun t1199 => (if (t1196.length : Int) > 2048 then (some (0, 190)) else (if (t1199.length : Int) > 2048 then (some (0, 190)) else ((galleyref19_Common.f k t1196 t1199).bind fun t1202 => (some (wrap64 ((wrap64 ((t1196.length : Int) + (t1199.length : Int))) - (wrap64 (2 * t1202))), 0))))))
set_option maxHeartbeats 8000000 in
set_option maxRecDepth 100000 in
theorem galleyref19_Distance.calls (k : Nat) (A0 : Option Addr) (c0 : Nat) (l0 : List Int) (A1 : Option Addr) (c1 : Nat) (l1 : List Int) (r1 : Int) (r2 : Int) (w : World) (hr0 : Kd.C (Kd.int .u8) w A0 l0.length l0) (hc0 : l0.length ≤ c0) (hr1 : Kd.C (Kd.int .u8) w A1 l1.length l1) (hc1 : l1.length ≤ c1) (h : galleyref19_Distance.f k l0 l1 = some (r1, r2)) :
  Calls Tryd.prog 70 #[.slice A0 l0.length c0, .slice A1 l1.length c1] w fun e w' => e = .returned (.tuple #[.int .i64 r1, .int .i64 r2]) ∧ Below w.heap.size w w' := by
 have HR0 := Aside0.mk hr0
 have HC0 := Aside0.mk hc0
 clear hr0 hc0
 have HR1 := Aside0.mk hr1
 have HC1 := Aside0.mk hc1
 clear hr1 hc1
 have HB := Aside0.mk (Below.refl w.heap.size w)
 have H : ((galleyref19_Steps.f k l0).bind fun t1196 => ((galleyref19_Steps.f k l1).bind fun t1199 => (if (t1196.length : Int) > 2048 then (some (0, 190)) else (if (t1199.length : Int) > 2048 then (some (0, 190)) else ((galleyref19_Common.f k t1196 t1199).bind fun t1202 => (some (wrap64 ((wrap64 ((t1196.length : Int) + (t1199.length : Int))) - (wrap64 (2 * t1202))), 0))))))) = some (r1, r2) := h
 clear h
 replace H := Option.bind_eq_some_iff.mp H
 obtain ⟨t1196, A30, H⟩ := H
 replace H : ((galleyref19_Steps.f k l1).bind fun t1199 => (if (t1196.length : Int) > 2048 then (some (0, 190)) else (if (t1199.length : Int) > 2048 then (some (0, 190)) else ((galleyref19_Common.f k t1196 t1199).bind fun t1202 => (some (wrap64 ((wrap64 ((t1196.length : Int) + (t1199.length : Int))) - (wrap64 (2 * t1202))), 0)))))) = some (r1, r2) := H
 have A3 := Aside0.mk A30
 clear A30
 replace H := Option.bind_eq_some_iff.mp H
 obtain ⟨t1199, A40, H⟩ := H
 replace H : (if (t1196.length : Int) > 2048 then (some (0, 190)) else (if (t1199.length : Int) > 2048 then (some (0, 190)) else ((galleyref19_Common.f k t1196 t1199).bind fun t1202 => (some (wrap64 ((wrap64 ((t1196.length : Int) + (t1199.length : Int))) - (wrap64 (2 * t1202))), 0))))) = some (r1, r2) := H
 have A4 := Aside0.mk A40
 clear A40
 by_cases c5 : (t1196.length : Int) > 2048
 ·
  rw [if_pos c5] at H
  have c5b0 : decide (2048 < (t1196.length : Int)) = true := decide_eq_true c5
  have c5b1 : decide (2048 < t1196.length) = true := decide_eq_true (by omega)
  clear c5
  simp only [Option.some.injEq, Prod.mk.injEq] at H
  obtain ⟨rfl, rfl⟩ := H
  go_enter Tryd.func70, Tryd.ntmps70
  go_wp2_with (first | ((with_reducible refine gate_callee (f := 77) rfl ?_); refine goesL_ (some 9) rfl rfl Tryd.func77 (by kernel_rfl) rfl #[.slice A0 l0.length c0] rfl (by (try simp only [List.map_toArray, List.map_cons, List.map_nil]); first | done | rfl | (simp only [List.length_drop, List.length_take]; rfl)) ?_; (with_reducible refine (galleyref19_Steps.calls k _ _ l0 t1196 _ ?side1 ?side2 A3.out).mono ?_); (case side1 => repeat (first | exact HR0.out | (with_reducible refine Kd.C_alloc ?_ _) | (with_reducible refine Kd.C_drewN ?_ _) | (with_reducible refine Kd.C_drew ?_))); (case side2 => exact HC0.out); rintro e w6 ⟨v1197, rfl, ho0, hb⟩; refine ⟨_, rfl, ?_⟩; have n0_ := Aside0.mk (Kd.R_lower ho0 (below_size (by repeat (first | (with_reducible first | exact HB.out | apply below_alloc | apply pw_below_drewN | apply below_drew1) | exact HB.out)))); have n1_ := Aside0.mk (below_step (by repeat (first | (with_reducible first | exact HB.out | apply below_alloc | apply pw_below_drewN | apply below_drew1) | exact HB.out)) hb); clear HB; have HO1198 := n0_; have HB := n1_; clear n0_ n1_; (try clear hb); (try clear hb2); (try clear hk); (try clear hi); (try clear ho0)) | ((with_reducible refine gate_callee (f := 77) rfl ?_); refine goesL_ (some 11) rfl rfl Tryd.func77 (by kernel_rfl) rfl #[.slice A1 l1.length c1] rfl (by (try simp only [List.map_toArray, List.map_cons, List.map_nil]); first | done | rfl | (simp only [List.length_drop, List.length_take]; rfl)) ?_; (with_reducible refine (galleyref19_Steps.calls k _ _ l1 t1199 _ ?side1 ?side2 A4.out).mono ?_); (case side1 => repeat (first | exact (Kd.C_below HR1.out HB.out) | (with_reducible refine Kd.C_alloc ?_ _) | (with_reducible refine Kd.C_drewN ?_ _) | (with_reducible refine Kd.C_drew ?_))); (case side2 => exact HC1.out); rintro e w7 ⟨v1200, rfl, ho0, hb⟩; refine ⟨_, rfl, ?_⟩; have n0_ := Aside0.mk (Kd.R_elder' (by (with_reducible repeat (first | apply Kd.R_alloc | apply Kd.R_drewN | apply Kd.R_drew)); exact HO1198.out) (Kd.R_base ho0) hb); have n1_ := Aside0.mk (Kd.R_lower (Kd.R_new' ho0 (Kd.R_lt (by (with_reducible repeat (first | apply Kd.R_alloc | apply Kd.R_drewN | apply Kd.R_drew)); exact HO1198.out))) (below_size (by repeat (first | (with_reducible first | exact HB.out | apply below_alloc | apply pw_below_drewN | apply below_drew1) | exact HB.out)))); have n2_ := Aside0.mk (below_step (by repeat (first | (with_reducible first | exact HB.out | apply below_alloc | apply pw_below_drewN | apply below_drew1) | exact HB.out)) hb); clear HO1198; clear HB; have HO1198 := n0_; have HO1201 := n1_; have HB := n2_; clear n0_ n1_ n2_; (try clear hb); (try clear hb2); (try clear hk); (try clear hi); (try clear ho0); obtain ⟨Ao8, co8, eo8⟩ := Kd.R_slice HO1198.out; subst eo8))
  go_ret2
  exact ⟨by first | rfl | (simp [errW_none, errW_some] <;> rfl) | (simp [*, errW_none, errW_some] <;> rfl), by repeat (first | (with_reducible first | exact HB.out | apply below_alloc | apply pw_below_drewN | apply below_drew1) | exact HB.out)⟩
 ·
  rw [if_neg c5] at H
  have c5b0 : decide (2048 < (t1196.length : Int)) = false := decide_eq_false c5
  have c5b1 : decide (2048 < t1196.length) = false := decide_eq_false (by omega)
  clear c5
  by_cases c9 : (t1199.length : Int) > 2048
  ·
   rw [if_pos c9] at H
   have c9b0 : decide (2048 < (t1199.length : Int)) = true := decide_eq_true c9
   have c9b1 : decide (2048 < t1199.length) = true := decide_eq_true (by omega)
   clear c9
   simp only [Option.some.injEq, Prod.mk.injEq] at H
   obtain ⟨rfl, rfl⟩ := H
   go_enter Tryd.func70, Tryd.ntmps70
   go_wp2_with (first | ((with_reducible refine gate_callee (f := 77) rfl ?_); refine goesL_ (some 9) rfl rfl Tryd.func77 (by kernel_rfl) rfl #[.slice A0 l0.length c0] rfl (by (try simp only [List.map_toArray, List.map_cons, List.map_nil]); first | done | rfl | (simp only [List.length_drop, List.length_take]; rfl)) ?_; (with_reducible refine (galleyref19_Steps.calls k _ _ l0 t1196 _ ?side1 ?side2 A3.out).mono ?_); (case side1 => repeat (first | exact HR0.out | (with_reducible refine Kd.C_alloc ?_ _) | (with_reducible refine Kd.C_drewN ?_ _) | (with_reducible refine Kd.C_drew ?_))); (case side2 => exact HC0.out); rintro e w10 ⟨v1197, rfl, ho0, hb⟩; refine ⟨_, rfl, ?_⟩; have n0_ := Aside0.mk (Kd.R_lower ho0 (below_size (by repeat (first | (with_reducible first | exact HB.out | apply below_alloc | apply pw_below_drewN | apply below_drew1) | exact HB.out)))); have n1_ := Aside0.mk (below_step (by repeat (first | (with_reducible first | exact HB.out | apply below_alloc | apply pw_below_drewN | apply below_drew1) | exact HB.out)) hb); clear HB; have HO1198 := n0_; have HB := n1_; clear n0_ n1_; (try clear hb); (try clear hb2); (try clear hk); (try clear hi); (try clear ho0)) | ((with_reducible refine gate_callee (f := 77) rfl ?_); refine goesL_ (some 11) rfl rfl Tryd.func77 (by kernel_rfl) rfl #[.slice A1 l1.length c1] rfl (by (try simp only [List.map_toArray, List.map_cons, List.map_nil]); first | done | rfl | (simp only [List.length_drop, List.length_take]; rfl)) ?_; (with_reducible refine (galleyref19_Steps.calls k _ _ l1 t1199 _ ?side1 ?side2 A4.out).mono ?_); (case side1 => repeat (first | exact (Kd.C_below HR1.out HB.out) | (with_reducible refine Kd.C_alloc ?_ _) | (with_reducible refine Kd.C_drewN ?_ _) | (with_reducible refine Kd.C_drew ?_))); (case side2 => exact HC1.out); rintro e w11 ⟨v1200, rfl, ho0, hb⟩; refine ⟨_, rfl, ?_⟩; have n0_ := Aside0.mk (Kd.R_elder' (by (with_reducible repeat (first | apply Kd.R_alloc | apply Kd.R_drewN | apply Kd.R_drew)); exact HO1198.out) (Kd.R_base ho0) hb); have n1_ := Aside0.mk (Kd.R_lower (Kd.R_new' ho0 (Kd.R_lt (by (with_reducible repeat (first | apply Kd.R_alloc | apply Kd.R_drewN | apply Kd.R_drew)); exact HO1198.out))) (below_size (by repeat (first | (with_reducible first | exact HB.out | apply below_alloc | apply pw_below_drewN | apply below_drew1) | exact HB.out)))); have n2_ := Aside0.mk (below_step (by repeat (first | (with_reducible first | exact HB.out | apply below_alloc | apply pw_below_drewN | apply below_drew1) | exact HB.out)) hb); clear HO1198; clear HB; have HO1198 := n0_; have HO1201 := n1_; have HB := n2_; clear n0_ n1_ n2_; (try clear hb); (try clear hb2); (try clear hk); (try clear hi); (try clear ho0); obtain ⟨Ao12, co12, eo12⟩ := Kd.R_slice HO1198.out; subst eo12; obtain ⟨Ao13, co13, eo13⟩ := Kd.R_slice HO1201.out; subst eo13))
   go_ret2
   exact ⟨by first | rfl | (simp [errW_none, errW_some] <;> rfl) | (simp [*, errW_none, errW_some] <;> rfl), by repeat (first | (with_reducible first | exact HB.out | apply below_alloc | apply pw_below_drewN | apply below_drew1) | exact HB.out)⟩
  ·
   rw [if_neg c9] at H
   have c9b0 : decide (2048 < (t1199.length : Int)) = false := decide_eq_false c9
   have c9b1 : decide (2048 < t1199.length) = false := decide_eq_false (by omega)
   clear c9
   replace H := Option.bind_eq_some_iff.mp H
   obtain ⟨t1202, A140, H⟩ := H
   replace H : (some (wrap64 ((wrap64 ((t1196.length : Int) + (t1199.length : Int))) - (wrap64 (2 * t1202))), 0)) = some (r1, r2) := H
   have A14 := Aside0.mk A140
   clear A140
   simp only [Option.some.injEq, Prod.mk.injEq] at H
   obtain ⟨rfl, rfl⟩ := H
   go_enter Tryd.func70, Tryd.ntmps70
   go_wp2_with (first | ((with_reducible refine gate_callee (f := 77) rfl ?_); refine goesL_ (some 9) rfl rfl Tryd.func77 (by kernel_rfl) rfl #[.slice A0 l0.length c0] rfl (by (try simp only [List.map_toArray, List.map_cons, List.map_nil]); first | done | rfl | (simp only [List.length_drop, List.length_take]; rfl)) ?_; (with_reducible refine (galleyref19_Steps.calls k _ _ l0 t1196 _ ?side1 ?side2 A3.out).mono ?_); (case side1 => repeat (first | exact HR0.out | (with_reducible refine Kd.C_alloc ?_ _) | (with_reducible refine Kd.C_drewN ?_ _) | (with_reducible refine Kd.C_drew ?_))); (case side2 => exact HC0.out); rintro e w15 ⟨v1197, rfl, ho0, hb⟩; refine ⟨_, rfl, ?_⟩; have n0_ := Aside0.mk (Kd.R_lower ho0 (below_size (by repeat (first | (with_reducible first | exact HB.out | apply below_alloc | apply pw_below_drewN | apply below_drew1) | exact HB.out)))); have n1_ := Aside0.mk (below_step (by repeat (first | (with_reducible first | exact HB.out | apply below_alloc | apply pw_below_drewN | apply below_drew1) | exact HB.out)) hb); clear HB; have HO1198 := n0_; have HB := n1_; clear n0_ n1_; (try clear hb); (try clear hb2); (try clear hk); (try clear hi); (try clear ho0)) | ((with_reducible refine gate_callee (f := 77) rfl ?_); refine goesL_ (some 11) rfl rfl Tryd.func77 (by kernel_rfl) rfl #[.slice A1 l1.length c1] rfl (by (try simp only [List.map_toArray, List.map_cons, List.map_nil]); first | done | rfl | (simp only [List.length_drop, List.length_take]; rfl)) ?_; (with_reducible refine (galleyref19_Steps.calls k _ _ l1 t1199 _ ?side1 ?side2 A4.out).mono ?_); (case side1 => repeat (first | exact (Kd.C_below HR1.out HB.out) | (with_reducible refine Kd.C_alloc ?_ _) | (with_reducible refine Kd.C_drewN ?_ _) | (with_reducible refine Kd.C_drew ?_))); (case side2 => exact HC1.out); rintro e w16 ⟨v1200, rfl, ho0, hb⟩; refine ⟨_, rfl, ?_⟩; have n0_ := Aside0.mk (Kd.R_elder' (by (with_reducible repeat (first | apply Kd.R_alloc | apply Kd.R_drewN | apply Kd.R_drew)); exact HO1198.out) (Kd.R_base ho0) hb); have n1_ := Aside0.mk (Kd.R_lower (Kd.R_new' ho0 (Kd.R_lt (by (with_reducible repeat (first | apply Kd.R_alloc | apply Kd.R_drewN | apply Kd.R_drew)); exact HO1198.out))) (below_size (by repeat (first | (with_reducible first | exact HB.out | apply below_alloc | apply pw_below_drewN | apply below_drew1) | exact HB.out)))); have n2_ := Aside0.mk (below_step (by repeat (first | (with_reducible first | exact HB.out | apply below_alloc | apply pw_below_drewN | apply below_drew1) | exact HB.out)) hb); clear HO1198; clear HB; have HO1198 := n0_; have HO1201 := n1_; have HB := n2_; clear n0_ n1_ n2_; (try clear hb); (try clear hb2); (try clear hk); (try clear hi); (try clear ho0); obtain ⟨Ao17, co17, eo17⟩ := Kd.R_slice HO1198.out; subst eo17; obtain ⟨Ao18, co18, eo18⟩ := Kd.R_slice HO1201.out; subst eo18) | ((with_reducible refine gate_callee (f := 111) rfl ?_); refine goesL_ (some 27) rfl rfl Tryd.func111 (by kernel_rfl) rfl #[.slice Ao17 t1196.length co17, .slice Ao18 t1199.length co18] rfl (by (try simp only [List.map_toArray, List.map_cons, List.map_nil]); first | done | rfl | (simp only [List.length_drop, List.length_take]; rfl)) ?_; (with_reducible refine (galleyref19_Common.calls k _ _ t1196 _ _ t1199 t1202 _ ?side1 ?side2 ?side3 ?side4 A14.out).mono ?_); (case side1 => repeat (first | exact (Kd.R_reads' HO1198.out).2.2 | (with_reducible refine Kd.C_alloc ?_ _) | (with_reducible refine Kd.C_drewN ?_ _) | (with_reducible refine Kd.C_drew ?_))); (case side2 => exact (Kd.R_reads' HO1198.out).2.1); (case side3 => repeat (first | exact (Kd.R_reads' HO1201.out).2.2 | (with_reducible refine Kd.C_alloc ?_ _) | (with_reducible refine Kd.C_drewN ?_ _) | (with_reducible refine Kd.C_drew ?_))); (case side4 => exact (Kd.R_reads' HO1201.out).2.1); rintro e w19 ⟨rfl, hb⟩; refine ⟨_, rfl, ?_⟩; have n0_ := Aside0.mk (Kd.R_below (by (with_reducible repeat (first | apply Kd.R_alloc | apply Kd.R_drewN | apply Kd.R_drew)); exact HO1198.out) hb); have n1_ := Aside0.mk (Kd.R_below (by (with_reducible repeat (first | apply Kd.R_alloc | apply Kd.R_drewN | apply Kd.R_drew)); exact HO1201.out) hb); have n2_ := Aside0.mk (below_step (by repeat (first | (with_reducible first | exact HB.out | apply below_alloc | apply pw_below_drewN | apply below_drew1) | exact HB.out)) hb); clear HO1198; clear HO1201; clear HB; have HO1198 := n0_; have HO1201 := n1_; have HB := n2_; clear n0_ n1_ n2_; (try clear hb); (try clear hb2); (try clear hk); (try clear hi)))
   go_ret2
   exact ⟨by first | rfl | (simp [errW_none, errW_some] <;> rfl) | (simp [*, errW_none, errW_some] <;> rfl), by repeat (first | (with_reducible first | exact HB.out | apply below_alloc | apply pw_below_drewN | apply below_drew1) | exact HB.out)⟩
end Go.Proofs.YtbomhpfckplgaaaDoor.P
namespace Go.Proofs.YtbomhpfckplgaaaDoor.P
open Go Go.RowKit Go.Proofs.YtbomhpfckplgaaaDoorW.PrintWords Go.Proofs.YtbomhpfckplgaaaDoorW.PrintLast Go.Proofs.YtbomhpfckplgaaaDoorW.PrintMore Utf
set_option linter.unusedVariables false
set_option linter.unusedSimpArgs false
theorem stepB_eq {l : List Int} {x : Nat × Int × Int × Bool} (h : x ∈ stepsL l) : stepB l x = strOfNums ((l.take (x.1 + width l x.1)).drop x.1) := by
  obtain ⟨h1, h2⟩ := stepsF_mem l _ _ x h
  unfold stepB
  rw [h2, stepN_w]
  rfl
theorem diff_steps_some {l : List Int} (hl : Bytes l) (hs : Small l) : diff_steps.f l = some (stepsB l) := by
  unfold Small at hs
  have hle := stepsL_length l
  unfold diff_steps.f
  rw [if_pos (by omega), items_eq hl, if_pos (by omega), if_pos]
  refine List.all_eq_true.2 fun x hx => ?_
  obtain ⟨h1, h2⟩ := stepsF_mem l _ _ x hx
  unfold lies
  rw [h2, stepN_w]
  have := width_end h1
  exact decide_eq_true (by omega)
theorem stepsB_L {l : List Int} (hl : Bytes l) : stepsB l = (stepsL l).map (stepB l) := by unfold stepsB; rw [items_eq hl]
theorem places_head (l : List Int) (k p : Nat) (hp : p ≤ l.length) (hk : l.length - p ≤ k) : ∃ t, (stepsF l k p).map (fun x => (x.1 : Int)) ++ [(l.length : Int)] = (p : Int) :: t := by
  cases k with
  | zero =>
    obtain rfl : p = l.length := by omega
    exact ⟨[], rfl⟩
  | succ k =>
    unfold stepsF
    by_cases h : p < l.length
    · rw [if_pos h]
      exact ⟨_, rfl⟩
    · rw [if_neg h]
      obtain rfl : p = l.length := by omega
      exact ⟨[], rfl⟩
theorem rd_mid (pre : List Int) (a : Int) (t : List Int) : rd (pre ++ a :: t) (pre.length : Int) = a := by
  rw [rd_nat _ _ (by simp)]
  simp
theorem ev_Steps_from {l : List Int} (hl : Bytes l) (hs : Small l) (P : List Int) : ∀ (k p : Nat) (acc : List ByteArray) (pre : List Int), p ≤ l.length → l.length - p ≤ k → inside l p = false → pre.length ≤ p → acc.length ≤ p →
    P = pre ++ ((stepsF l k p).map (fun x => (x.1 : Int)) ++ [(l.length : Int)]) → Ev (fun n => galleyref19_Steps.l0 n l acc P (pre.length : Int)) (acc ++ (stepsF l k p).map fun x => strOfNums ((l.take (x.1 + width l x.1)).drop x.1))
  | 0, p, acc, pre, hp, hk, hi, hpre, ha, hP => by
    have hs' := hs
    unfold Small at hs'
    have hP' : P.length = pre.length + 1 := by rw [hP]; simp [stepsF]
    refine Ev.step (G := fun _ => some acc) (fun k => ?_) ?_
    · conv => lhs; unfold galleyref19_Steps.l0
      rw [w64 (n := (pre.length : Int) + 1) (by omega) (by omega), if_neg (by omega)]
    · simp only [stepsF, List.map_nil, List.append_nil]
      exact Ev.pure _
  | k + 1, p, acc, pre, hp, hk, hi, hpre, ha, hP => by
    have hs' := hs
    unfold Small at hs'
    by_cases h : p < l.length
    · have hw := width_pos l p
      have he := width_end h
      rw [stepsF, if_pos h] at hP ⊢
      obtain ⟨t, ht⟩ := places_head l k (p + width l p) he (by omega)
      rw [List.map_cons, List.cons_append] at hP
      have ih := ev_Steps_from hl hs P k (p + width l p) (acc ++ [strOfNums ((l.take (p + width l p)).drop p)]) (pre ++ [(p : Int)]) he (by omega) (inside_next hi) (by simp; omega) (by simp; omega) (by rw [hP]; simp)
      have r1 : rd P (pre.length : Int) = p := by rw [hP]; exact rd_mid _ _ _
      have r2 : rd P ((pre.length : Int) + 1) = ((p + width l p : Nat) : Int) := by
        rw [hP, ht]
        have := rd_mid (pre ++ [(p : Int)]) ((p + width l p : Nat) : Int) t
        simp only [List.length_append, List.length_cons, List.length_nil, List.append_assoc, List.cons_append, List.nil_append] at this
        exact this
      have hP' : pre.length + 2 ≤ P.length := by rw [hP, ht]; simp
      refine Ev.step (G := fun k => galleyref19_Steps.l0 k l (acc ++ [strOfNums ((l.take (p + width l p)).drop p)]) P ((pre.length : Int) + 1)) (fun k => ?_) ?_
      · conv => lhs; unfold galleyref19_Steps.l0
        rw [w64 (n := (pre.length : Int) + 1) (by omega) (by omega), if_pos (by omega), if_pos (by omega), if_pos (by omega), if_pos (by omega), r1, r2, if_pos (by omega), if_pos (by omega), if_pos (by omega), if_pos (by omega)]
        rfl
      · simp only [List.length_append, List.length_cons, List.length_nil, List.append_assoc, List.cons_append, List.nil_append] at ih
        rw [List.map_cons]
        exact ih
    · obtain rfl : p = l.length := by omega
      have e0 : stepsF l (k + 1) l.length = [] := by rw [stepsF, if_neg h]
      have hP' : P.length = pre.length + 1 := by rw [hP, e0]; simp
      refine Ev.step (G := fun _ => some acc) (fun k => ?_) ?_
      · conv => lhs; unfold galleyref19_Steps.l0
        rw [w64 (n := (pre.length : Int) + 1) (by omega) (by omega), if_neg (by omega)]
      · rw [e0, List.map_nil, List.append_nil]
        exact Ev.pure _
theorem ev_Steps {l : List Int} (hl : Bytes l) (hs : Small l) : Ev (fun n => galleyref19_Steps.f n l) (stepsB l) := by
  unfold galleyref19_Steps.f
  refine Ev.bind (ev_edges hl hs) ?_
  have h := ev_Steps_from hl hs (placesL l) l.length 0 [] [] (Nat.zero_le _) (by omega) (inside_zero l) (Nat.le_refl _) (Nat.le_refl _) rfl
  rw [stepsB_L hl]
  have e : (stepsL l).map (stepB l) = (stepsF l l.length 0).map fun x => strOfNums ((l.take (x.1 + width l x.1)).drop x.1) := List.map_congr_left fun x hx => stepB_eq hx
  rw [e]
  exact h
def rowZ (m : Nat) (f : Nat → Int) : List Int := (List.range (m + 1)).map f
theorem rowZ_length (m : Nat) (f : Nat → Int) : (rowZ m f).length = m + 1 := by simp [rowZ]
theorem rowZ_rd (m : Nat) (f : Nat → Int) (j : Nat) (h : j ≤ m) : rd (rowZ m f) (j : Int) = f j := by
  rw [rd_nat _ _ (by rw [rowZ_length]; omega)]
  simp [rowZ]
theorem rowZ_set (m : Nat) (f g : Nat → Int) (j : Nat) (v : Int) (hv : g j = v) (hg : ∀ t, t ≤ m → t ≠ j → g t = f t) : (rowZ m f).set j v = rowZ m g := by
  refine List.ext_getElem (by simp [rowZ]) fun t h1 h2 => ?_
  rw [rowZ_length] at h2
  rw [List.getElem_set]
  by_cases h : j = t
  · subst h
    rw [if_pos rfl, ← hv]
    simp [rowZ]
  · rw [if_neg h]
    simp only [rowZ, List.getElem_map, List.getElem_range]
    exact (hg t (by omega) (by omega)).symm
theorem rowZ_congr (m : Nat) (f g : Nat → Int) (h : ∀ t, t ≤ m → f t = g t) : rowZ m f = rowZ m g :=
  List.map_congr_left fun t ht => h t (by have := List.mem_range.1 ht; omega)
theorem rep_row (m : Nat) : List.replicate (m + 1) (0 : Int) = rowZ m fun _ => 0 := by
  refine List.ext_getElem (by simp [rowZ]) fun t h1 h2 => ?_
  simp [rowZ]
section
open LCS
variable (a b : List ByteArray)
def rowI (i : Nat) : List Int := rowZ b.length fun t => (lcs (a.take i) (b.take t) : Nat)
def rowP (i j : Nat) : List Int := rowZ b.length fun t => if t ≤ j then (lcs (a.take (i + 1)) (b.take t) : Nat) else 0
theorem rowI_zero : List.replicate (b.length + 1) (0 : Int) = rowI a b 0 := by
  rw [rep_row]
  exact rowZ_congr _ _ _ fun t _ => by rw [List.take_zero, lcs_nil_left]; rfl
theorem rowP_zero (i : Nat) : List.replicate (b.length + 1) (0 : Int) = rowP a b i 0 := by
  rw [rep_row]
  refine rowZ_congr _ _ _ fun t _ => ?_
  by_cases h : t ≤ 0
  · obtain rfl : t = 0 := by omega
    rw [if_pos h, List.take_zero, lcs_nil_right]
    rfl
  · rw [if_neg h]
theorem rowP_end (i : Nat) : rowP a b i b.length = rowI a b (i + 1) := rowZ_congr _ _ _ fun t h => by rw [if_pos h]
variable {a b}
theorem lcs_at (i j : Nat) (hi : i < a.length) (hj : j < b.length) : lcs (a.take (i + 1)) (b.take (j + 1)) = if a[i] = b[j] then max (max (lcs (a.take (i + 1)) (b.take j)) (lcs (a.take i) (b.take (j + 1)))) (lcs (a.take i) (b.take j) + 1) else max (lcs (a.take (i + 1)) (b.take j)) (lcs (a.take i) (b.take (j + 1))) := by
  rw [List.take_succ_eq_append_getElem hi, List.take_succ_eq_append_getElem hj]
  exact lcs_snoc_ref _ _ _ _
theorem mx_nat (x y : Nat) : mx (x : Int) (y : Int) = ((max x y : Nat) : Int) := by unfold mx; split <;> omega
theorem ev_Common_row (ha : a.length ≤ 2048) (hb : b.length ≤ 2048) (i : Nat) (hi : i < a.length) (v : Int) (hK : Ev (fun k => galleyref19_Common.l0 k a b (rowI a b (i + 1)) ((i + 1 : Nat) : Int)) v) :
    ∀ (n j : Nat), b.length - j ≤ n → j ≤ b.length → Ev (fun k => galleyref19_Common.l1 k a b (rowI a b i) (i : Int) (rowP a b i j) (j : Int)) v := by
  intro n
  induction n with
  | zero =>
    intro j hn hj
    obtain rfl : j = b.length := by omega
    refine Ev.step (G := fun k => galleyref19_Common.l0 k a b (rowI a b (i + 1)) ((i + 1 : Nat) : Int)) (fun k => ?_) hK
    conv => lhs; unfold galleyref19_Common.l1
    rw [if_neg (by omega), w64 (n := (i : Int) + 1) (by omega) (by omega), rowP_end]
    rfl
  | succ n ih =>
    intro j hn hj
    by_cases h : j < b.length
    · refine Ev.step (G := fun k => galleyref19_Common.l1 k a b (rowI a b i) (i : Int) (rowP a b i (j + 1)) ((j + 1 : Nat) : Int)) (fun k => ?_) (ih (j + 1) (by omega) h)
      have e1 : rd (rowP a b i j) (j : Int) = (lcs (a.take (i + 1)) (b.take j) : Nat) := by
        unfold rowP; rw [rowZ_rd _ _ _ hj, if_pos (Nat.le_refl _)]
      have e2 : rd (rowI a b i) ((j + 1 : Nat) : Int) = (lcs (a.take i) (b.take (j + 1)) : Nat) := by
        unfold rowI; rw [rowZ_rd _ _ _ h]
      have e3 : rd (rowI a b i) (j : Int) = (lcs (a.take i) (b.take j) : Nat) := by
        unfold rowI; rw [rowZ_rd _ _ _ hj]
      have l1 : (rowI a b i).length = b.length + 1 := rowZ_length _ _
      have l2 : (rowP a b i j).length = b.length + 1 := rowZ_length _ _
      have hl := lcs_le_left (a.take i) (b.take j)
      have hl' : (a.take i).length ≤ 2048 := by rw [List.length_take]; omega
      have g1 : rdOf ByteArray.empty a (i : Int) = a[i] := by unfold rdOf; simp [hi]
      have g2 : rdOf ByteArray.empty b (j : Int) = b[j] := by unfold rdOf; simp [h]
      conv => lhs; unfold galleyref19_Common.l1
      rw [if_pos (by omega), if_pos (by omega), if_pos (by omega), w64 (n := (j : Int) + 1) (by omega) (by omega), if_pos (by omega), if_pos (by omega), if_pos (by omega), Option.bind_some, if_pos (by omega), if_pos (by omega), g1, g2]
      rw [show ((j : Int) + 1) = ((j + 1 : Nat) : Int) from by omega, e1, e2, e3, mx_nat, Int.toNat_natCast]
      have hL := lcs_at (a := a) (b := b) i j hi h
      have f1 : (rowP a b i j).set (j + 1) ((max (lcs (a.take (i + 1)) (b.take j)) (lcs (a.take i) (b.take (j + 1))) : Nat) : Int) = rowZ b.length fun t => if t = j + 1 then ((max (lcs (a.take (i + 1)) (b.take j)) (lcs (a.take i) (b.take (j + 1))) : Nat) : Int) else if t ≤ j then (lcs (a.take (i + 1)) (b.take t) : Nat) else 0 :=
        rowZ_set _ _ _ _ _ (if_pos rfl) fun t _ ht => if_neg ht
      rw [f1, rowZ_rd _ _ _ h, if_pos rfl]
      by_cases hq : a[i] = b[j]
      · rw [if_pos (by rw [hq]), if_pos (by omega), w64 (by omega) (by omega), show ((lcs (a.take i) (b.take j) : Nat) : Int) + 1 = ((lcs (a.take i) (b.take j) + 1 : Nat) : Int) from by omega, mx_nat]
        rw [if_pos hq] at hL
        congr 1
        unfold rowP
        refine rowZ_set _ _ _ _ _ ?_ fun t _ ht => ?_
        · rw [if_pos (Nat.le_refl _), hL]
        · rw [if_neg ht]
          by_cases hj1 : t ≤ j
          · rw [if_pos hj1, if_pos (by omega)]
          · rw [if_neg hj1, if_neg (by omega)]
      · rw [if_neg (fun e => hq (toList_inj e))]
        rw [if_neg hq] at hL
        congr 1
        unfold rowP
        refine rowZ_congr _ _ _ fun t _ => ?_
        by_cases ht : t = j + 1
        · subst ht
          rw [if_pos rfl, if_pos (Nat.le_refl _), hL]
        · rw [if_neg ht]
          by_cases hj1 : t ≤ j
          · rw [if_pos hj1, if_pos (by omega)]
          · rw [if_neg hj1, if_neg (by omega)]
    · obtain rfl : j = b.length := by omega
      exact ih _ (by omega) hj
theorem ev_Common_from (ha : a.length ≤ 2048) (hb : b.length ≤ 2048) : ∀ (n i : Nat), a.length - i ≤ n → i ≤ a.length → Ev (fun k => galleyref19_Common.l0 k a b (rowI a b i) (i : Int)) (lcs a b : Nat) := by
  have last : Ev (fun k => galleyref19_Common.l0 k a b (rowI a b a.length) (a.length : Int)) (lcs a b : Nat) := by
    refine Ev.step (G := fun _ => some ((lcs a b : Nat) : Int)) (fun k => ?_) (Ev.pure _)
    conv => lhs; unfold galleyref19_Common.l0
    have l1 : (rowI a b a.length).length = b.length + 1 := rowZ_length _ _
    rw [if_neg (by omega), if_pos (by omega), if_pos (by omega)]
    unfold rowI
    rw [rowZ_rd _ _ _ (Nat.le_refl _), List.take_length, List.take_length]
  intro n
  induction n with
  | zero =>
    intro i hn hi
    obtain rfl : i = a.length := by omega
    exact last
  | succ n ih =>
    intro i hn hi
    by_cases h : i < a.length
    · refine Ev.step (G := fun k => galleyref19_Common.l1 k a b (rowI a b i) (i : Int) (rowP a b i 0) ((0 : Nat) : Int)) (fun k => ?_) (ev_Common_row ha hb i h _ (ih (i + 1) (by omega) h) b.length 0 (by omega) (Nat.zero_le _))
      conv => lhs; unfold galleyref19_Common.l0
      rw [if_pos (by omega), w64 (n := (b.length : Int) + 1) (by omega) (by omega), if_pos (by omega), if_pos (by omega), show ((b.length : Int) + 1).toNat = b.length + 1 from by omega, rowP_zero a b i]
      rfl
    · obtain rfl : i = a.length := by omega
      exact last
theorem ev_Common (ha : a.length ≤ 2048) (hb : b.length ≤ 2048) : Ev (fun k => galleyref19_Common.f k a b) (lcs a b : Nat) := by
  have h := ev_Common_from ha hb a.length 0 (by omega) (Nat.zero_le _)
  refine Ev.congr (fun k => ?_) h
  unfold galleyref19_Common.f
  rw [w64 (n := (b.length : Int) + 1) (by omega) (by omega), if_pos (by omega), if_pos (by omega), show ((b.length : Int) + 1).toNat = b.length + 1 from by omega, rowI_zero a b]
  rfl
end
open LCS in
def distB (x y : List ByteArray) : Int × Int := if x.length > 2048 ∨ y.length > 2048 then (0, 190) else ((x.length : Int) + y.length - 2 * (lcsN x y : Nat), 0)
theorem Distance_some {a b : List Int} (ha : Bytes a) (hs : Small a) (hb : Bytes b) (ht : Small b) : diff_Distance.f a b = some (distB (stepsB a) (stepsB b)) := by
  unfold diff_Distance.f distB
  rw [diff_steps_some ha hs, diff_steps_some hb ht, Option.bind_some, Option.bind_some]
  split <;> rfl
theorem ev_Distance {a b : List Int} (ha : Bytes a) (hs : Small a) (hb : Bytes b) (ht : Small b) : Ev (fun k => galleyref19_Distance.f k a b) (distB (stepsB a) (stepsB b)) := by
  unfold galleyref19_Distance.f
  refine Ev.bind (ev_Steps ha hs) (Ev.bind (ev_Steps hb ht) ?_)
  unfold distB
  by_cases h1 : (stepsB a).length > 2048
  · rw [if_pos (.inl h1)]
    exact Ev.ite_pos (by omega) (Ev.pure _)
  · refine Ev.ite_neg (by omega) ?_
    by_cases h2 : (stepsB b).length > 2048
    · rw [if_pos (.inr h2)]
      exact Ev.ite_pos (by omega) (Ev.pure _)
    · rw [if_neg (by omega)]
      refine Ev.ite_neg (by omega) ?_
      refine Ev.bind (ev_Common (by omega) (by omega)) (Ev.of ?_)
      have h3 := LCS.lcs_le_left (stepsB a) (stepsB b)
      rw [LCS.lcsN_is, w64 (n := ((stepsB a).length : Int) + _) (by omega) (by omega), w64 (n := 2 * _) (by omega) (by omega), w64 (by omega) (by omega)]
end Go.Proofs.YtbomhpfckplgaaaDoor.P
namespace Go.Proofs.YtbomhpfckplgaaaDoor.P
open Go.RowKit Go.Proofs.YtbomhpfckplgaaaDoorW.PrintWords Go.Proofs.YtbomhpfckplgaaaDoorW.PrintLast Go.Proofs.YtbomhpfckplgaaaDoorW.PrintMore
attribute [local go_sem] max2_int min2_int max_two min_two max_three min_three max_four min_four   -- for this text's walks alone
set_option linter.unusedVariables false
set_option linter.unusedSimpArgs false
attribute [local go_sem high] eqA102
def galleyref14_Same.l0 : Nat → List (S102) → List (S102) → Int → Option (Bool)
 | 0, _, _, _ => none
 | k + 1, x0, x1, x5 => if x5 < (x0.length : Int) then (if 0 ≤ x5 then (if x5 < (x1.length : Int) then (if (!(((rd_T102 x0 x5).f0) == ((rd_T102 x1 x5).f0)) || (!(((rd_T102 x0 x5).f1) == ((rd_T102 x1 x5).f1)) || (!((((rd_T102 x0 x5).f2).toList) == (((rd_T102 x1 x5).f2).toList))))) = true then (some false) else (galleyref14_Same.l0 k x0 x1 (wrap64 (x5 + 1)))) else (none)) else (none)) else (some true)
def galleyref14_Same.f (k : Nat) (l0 : List (S102)) (l1 : List (S102)) : Option (Bool) := if (l0.length : Int) = (l1.length : Int) then (galleyref14_Same.l0 k l0 l1 0) else (some false)
set_option maxHeartbeats 8000000 in
set_option maxRecDepth 100000 in
theorem galleyref14_Same.calls (k : Nat) (A0 : Option Addr) (c0 : Nat) (l0 : List (S102)) (A1 : Option Addr) (c1 : Nat) (l1 : List (S102)) (r : Bool) (w : World) (hr0 : Kd.C k102 w A0 l0.length l0) (hc0 : l0.length ≤ c0) (hr1 : Kd.C k102 w A1 l1.length l1) (hc1 : l1.length ≤ c1) (h : galleyref14_Same.f k l0 l1 = some r) :
  Calls Tryd.prog 47 #[.slice A0 l0.length c0, .slice A1 l1.length c1] w fun e w' => e = .returned (.bool r) ∧ Drawn0 w w' := by
 have hu102 := Tryd.underlying102
 have HR0 := Aside0.mk hr0
 have HC0 := Aside0.mk hc0
 clear hr0 hc0
 have HR1 := Aside0.mk hr1
 have HC1 := Aside0.mk hc1
 clear hr1 hc1
 have H : (if (l0.length : Int) = (l1.length : Int) then (galleyref14_Same.l0 k l0 l1 0) else (some false)) = some r := h
 clear h
 by_cases c3 : (l0.length : Int) = (l1.length : Int)
 ·
  rw [if_pos c3] at H
  have c3b0 : ((l0.length : Int) == (l1.length : Int)) = true := beq_iff_eq.mpr c3
  have c3b1 : ((l0.length : Int) != (l1.length : Int)) = false := bne_eq_false_iff_eq.mpr c3
  have c3b2 : (l0.length == l1.length) = true := by first | simpa using c3 | (simp at c3 ⊢; omega)
  clear c3
  have H' := Aside0.mk H
  clear H
  go_enter Tryd.func47, Tryd.ntmps47
  go_wp2
  repeat (go_quiet (fail); try go_wp2)
  go_loopg [5] k (fun kq v5 w' => ∃ (x5_1 : Int), v5 = .int .i64 x5_1 ∧ Aside0 (galleyref14_Same.l0 kq l0 l1 x5_1 = some r) ∧ Aside0 (kq ≤ k) ∧ Drawn0 w w')
  case atStart => exact ⟨(0), (by first | rfl | (simp; done) | (simp [*]; done)), H', ⟨Nat.le_refl _⟩, by repeat (first | exact Drawn0.refl _ | apply Drawn0.step)⟩
  case round =>
   clear H'
   (try clear c1); (try clear p2); (try clear c3); (try clear c3b0); (try clear c3b1); (try clear c3b2)
   obtain ⟨x5_1, rfl, HA, HK1, ⟨m1, rfl⟩⟩ := hrel
   cases gk with
   | zero => exact absurd HA.out (by simp [galleyref14_Same.l0])
   | succ k1 =>
    have H := HA.out
    clear HA
    simp only [galleyref14_Same.l0] at H
    by_cases c4 : x5_1 < (l0.length : Int)
    ·
     rw [if_pos c4] at H
     have c4b0 : decide (x5_1 < (l0.length : Int)) = true := decide_eq_true c4
     clear c4
     by_cases c5 : 0 ≤ x5_1
     ·
      rw [if_pos c5] at H
      have c5b0 : decide (0 ≤ x5_1) = true := decide_eq_true c5
      clear c5
      by_cases c6 : x5_1 < (l1.length : Int)
      ·
       rw [if_pos c6] at H
       have c6b0 : decide (x5_1 < (l1.length : Int)) = true := decide_eq_true c6
       clear c6
       by_cases c7 : (!(((rd_T102 l0 x5_1).f0) == ((rd_T102 l1 x5_1).f0)) || (!(((rd_T102 l0 x5_1).f1) == ((rd_T102 l1 x5_1).f1)) || (!((((rd_T102 l0 x5_1).f2).toList) == (((rd_T102 l1 x5_1).f2).toList))))) = true
       ·
        rw [if_pos c7] at H
        have c7b0 : (!(((rd_T102 l0 x5_1).f0) == ((rd_T102 l1 x5_1).f0)) || (!(((rd_T102 l0 x5_1).f1) == ((rd_T102 l1 x5_1).f1)) || (!((((rd_T102 l0 x5_1).f2).toList) == (((rd_T102 l1 x5_1).f2).toList))))) = true := c7
        clear c7
        obtain rfl := Option.some.inj H
        have p368 : 0 ≤ (x5_1 : Int) := of_decide_eq_true (by first | (with_reducible assumption) | assumption)
        have q368 : x5_1 < (l0.length : Int) := of_decide_eq_true (by first | (with_reducible assumption) | assumption)
        obtain ⟨ad368, e368, hx368_0, hx368_1, hx368_2⟩ := at_T102 HR0.out x5_1 p368 q368
        cases e368
        replace p368 := eq_true p368
        replace q368 := eq_true q368
        have p369 : 0 ≤ (x5_1 : Int) := of_decide_eq_true (by first | (with_reducible assumption) | assumption)
        have q369 : x5_1 < (l1.length : Int) := of_decide_eq_true (by first | (with_reducible assumption) | assumption)
        obtain ⟨ad369, e369, hx369_0, hx369_1, hx369_2⟩ := at_T102 HR1.out x5_1 p369 q369
        cases e369
        replace p369 := eq_true p369
        replace q369 := eq_true q369
        go_wp2
        repeat (go_quiet (fail); try go_wp2)
        go_ret
        exact ⟨by first | rfl | (simp; done) | (simp [*]; done), by repeat (first | exact Drawn0.refl _ | apply Drawn0.step)⟩
       ·
        rw [if_neg c7] at H
        have c7b0 : (!(((rd_T102 l0 x5_1).f0) == ((rd_T102 l1 x5_1).f0)) || (!(((rd_T102 l0 x5_1).f1) == ((rd_T102 l1 x5_1).f1)) || (!((((rd_T102 l0 x5_1).f2).toList) == (((rd_T102 l1 x5_1).f2).toList))))) = false := by simpa using c7
        clear c7
        have H' := Aside0.mk H
        clear H
        have p368 : 0 ≤ (x5_1 : Int) := of_decide_eq_true (by first | (with_reducible assumption) | assumption)
        have q368 : x5_1 < (l0.length : Int) := of_decide_eq_true (by first | (with_reducible assumption) | assumption)
        obtain ⟨ad368, e368, hx368_0, hx368_1, hx368_2⟩ := at_T102 HR0.out x5_1 p368 q368
        cases e368
        replace p368 := eq_true p368
        replace q368 := eq_true q368
        have p369 : 0 ≤ (x5_1 : Int) := of_decide_eq_true (by first | (with_reducible assumption) | assumption)
        have q369 : x5_1 < (l1.length : Int) := of_decide_eq_true (by first | (with_reducible assumption) | assumption)
        obtain ⟨ad369, e369, hx369_0, hx369_1, hx369_2⟩ := at_T102 HR1.out x5_1 p369 q369
        cases e369
        replace p369 := eq_true p369
        replace q369 := eq_true q369
        go_wp2
        repeat (go_quiet (fail); try go_wp2)
        go_roundg k1
        case measure => have := HK1.out; omega
        case rel => exact ⟨(wrap64 (x5_1 + 1)), (by first | rfl | (simp; done) | (simp [*]; done)), H', ⟨by have := HK1.out; omega⟩, by repeat (first | exact Drawn0.refl _ | apply Drawn0.step)⟩
      ·
       rw [if_neg c6] at H
       exact absurd H (by simp)
     ·
      rw [if_neg c5] at H
      exact absurd H (by simp)
    ·
     rw [if_neg c4] at H
     have c4b0 : decide (x5_1 < (l0.length : Int)) = false := decide_eq_false c4
     clear c4
     obtain rfl := Option.some.inj H
     go_wp2
     repeat (go_quiet (fail); try go_wp2)
     go_ret
     exact ⟨by first | rfl | (simp; done) | (simp [*]; done), by repeat (first | exact Drawn0.refl _ | apply Drawn0.step)⟩
 ·
  rw [if_neg c3] at H
  have c3b0 : ((l0.length : Int) == (l1.length : Int)) = false := beq_eq_false_iff_ne.mpr c3
  have c3b1 : ((l0.length : Int) != (l1.length : Int)) = true := bne_iff_ne.mpr c3
  have c3b2 : (l0.length == l1.length) = false := by first | simpa using c3 | (simp at c3 ⊢; omega)
  obtain rfl := Option.some.inj H
  go_enter Tryd.func47, Tryd.ntmps47
  go_wp2
  repeat (go_quiet (fail); try go_wp2)
  go_ret
  exact ⟨by first | rfl | (simp; done) | (simp [*]; done), by repeat (first | exact Drawn0.refl _ | apply Drawn0.step)⟩
def galleylaw19_long.f (l0 : List Int) (l1 : List Int) : Option (Bool) := if (l0.length : Int) > 700 then (some true) else (some (decide ((l1.length : Int) > 700)))
set_option maxHeartbeats 8000000 in
set_option maxRecDepth 100000 in
theorem galleylaw19_long.calls (A0 : Option Addr) (c0 : Nat) (l0 : List Int) (A1 : Option Addr) (c1 : Nat) (l1 : List Int) (r : Bool) (w : World) (hr0 : Kd.C (Kd.int .u8) w A0 l0.length l0) (hc0 : l0.length ≤ c0) (hr1 : Kd.C (Kd.int .u8) w A1 l1.length l1) (hc1 : l1.length ≤ c1) (h : galleylaw19_long.f l0 l1 = some r) :
  Calls Tryd.prog 42 #[.slice A0 l0.length c0, .slice A1 l1.length c1] w fun e w' => e = .returned (.bool r) ∧ Drawn0 w w' := by
 have HR0 := Aside0.mk hr0
 have HC0 := Aside0.mk hc0
 clear hr0 hc0
 have HR1 := Aside0.mk hr1
 have HC1 := Aside0.mk hc1
 clear hr1 hc1
 have H : (if (l0.length : Int) > 700 then (some true) else (some (decide ((l1.length : Int) > 700)))) = some r := h
 clear h
 by_cases c3 : (l0.length : Int) > 700
 ·
  rw [if_pos c3] at H
  have c3b0 : decide (700 < (l0.length : Int)) = true := decide_eq_true c3
  have c3b1 : decide (700 < l0.length) = true := decide_eq_true (by omega)
  clear c3
  obtain rfl := Option.some.inj H
  go_enter Tryd.func42, Tryd.ntmps42
  go_wp2
  go_ret
  exact ⟨by first | rfl | (simp; done) | (simp [*]; done), by repeat (first | exact Drawn0.refl _ | apply Drawn0.step)⟩
 ·
  rw [if_neg c3] at H
  have c3b0 : decide (700 < (l0.length : Int)) = false := decide_eq_false c3
  have c3b1 : decide (700 < l0.length) = false := decide_eq_false (by omega)
  clear c3
  obtain rfl := Option.some.inj H
  go_enter Tryd.func42, Tryd.ntmps42
  go_wp2
  go_ret
  exact ⟨by first | rfl | (simp; done) | (simp [*]; done), by repeat (first | exact Drawn0.refl _ | apply Drawn0.step)⟩
def galleylaw19_own.f (l0 : List Int) : Option (List Int) := (some (([] : List Int) : List Int)).bind fun y414 => (if y414.length + l0.length < 140737488355328 then (some (y414 ++ l0)) else (none))
set_option maxHeartbeats 8000000 in
set_option maxRecDepth 100000 in
theorem galleylaw19_own.calls (A0 : Option Addr) (c0 : Nat) (l0 : List Int) (r : List Int) (w : World) (hr0 : Kd.C (Kd.int .u8) w A0 l0.length l0) (hc0 : l0.length ≤ c0) (h : galleylaw19_own.f l0 = some r) :
  Calls Tryd.prog 43 #[.slice A0 l0.length c0] w fun e w' => ∃ v0_ : Value, e = .returned (v0_) ∧ Kd.R (Kd.int .u8) 5 w' w.heap.size (fun _ => True) v0_ r ∧ Below w.heap.size w w' := by
 have HR0 := Aside0.mk hr0
 have HC0 := Aside0.mk hc0
 clear hr0 hc0
 have HB := Aside0.mk (Below.refl w.heap.size w)
 have H : ((some (([] : List Int) : List Int)).bind fun y414 => (if y414.length + l0.length < 140737488355328 then (some (y414 ++ l0)) else (none))) = some r := h
 clear h
 obtain ⟨y414, hy414⟩ : ∃ y_ : List Int, y_ = (([] : List Int)) := ⟨_, rfl⟩
 replace H : (if y414.length + l0.length < 140737488355328 then (some (y414 ++ l0)) else (none)) = some r := by first | (rw [hy414]; with_reducible exact H) | (have H2_ := (Option.bind_some _ _).symm.trans H; rw [hy414]; with_reducible exact H2_) | (have H2_ := (Option.bind_some _ _).symm.trans H; with_reducible exact H2_) | with_reducible exact H | (rw [hy414]; exact H) | exact H
 have Ny414 := Aside0.mk hy414
 clear hy414
 by_cases c2 : y414.length + l0.length < 140737488355328
 ·
  rw [if_pos c2] at H
  have LMc2 := Aside0.mk c2
  clear c2
  obtain ⟨y417, hy417⟩ : ∃ y_ : List Int, y_ = (y414 ++ l0) := ⟨_, rfl⟩
  replace H : (some y417) = some r := by first | (rw [hy417]; with_reducible exact H) | (have H2_ := (Option.bind_some _ _).symm.trans H; rw [hy417]; with_reducible exact H2_) | (have H2_ := (Option.bind_some _ _).symm.trans H; with_reducible exact H2_) | with_reducible exact H | (rw [hy417]; exact H) | exact H
  have Ny417 := Aside0.mk hy417
  clear hy417
  obtain rfl := Option.some.inj H
  go_enter Tryd.func43, Tryd.ntmps43
  go_wp2_with (first | ((with_reducible refine gate_dst (N := 3) rfl ?_); refine Kd.R_lit (Kd.int .u8) _ 5 ?hg (N := 3) ?hd (xs := ([] : List Int)) (inner := []) (ok := fun _ => True) (okp := fun _ => True) ?hr ?hp (fun _ hk => hk) trivial (Below.refl _ _) (Nat.le_refl _) (by simp) ?_; (case hd => rfl); (case hg => rfl); (case hr => first | (go_simp; done) | (go_simp; rfl)); (case hp => exact (Reps.none _ _)); intro v415 w3 ho4 hb hg_ hnew_; clear hg_ hnew_; (first | rw [← Ny414.out] at ho4 | (simp only [Int.reduceToNat] at ho4; rw [← Ny414.out] at ho4)); have n0_ := Aside0.mk (Kd.R_lower ho4 (below_size (by repeat (first | (with_reducible first | exact HB.out | apply below_alloc | apply pw_below_drewN | apply below_drew1) | exact HB.out)))); have n1_ := Aside0.mk (below_step (by repeat (first | (with_reducible first | exact HB.out | apply below_alloc | apply pw_below_drewN | apply below_drew1) | exact HB.out)) hb); clear HB; have HO416 := n0_; have HB := n1_; clear n0_ n1_; clear hb ho4) | ((with_reducible refine gate_builtin (b := .append) (xs := #[.tmp 3, .tmp 4]) rfl ?_); at_builtin; refine Kd.R_append_rows (Kd.int .u8) (w0 := w) w.heap.size rfl (.tmp 3) (.tmp 4) 22 5 (.int .u8 0) 1 rfl Tryd.underlying22 info5 rfl (by decide) (by omega) v415 y414 l0 _ _ _ (fun _ => True) (fun _ => False) rfl rfl ?aO ?aR (fun _ _ h => h) (fun _ h => h.elim) ?aF ?aB ?aS ?aL ?_; (case aR => repeat (first | exact (Kd.C_below HR0.out HB.out) | (with_reducible refine Kd.C_alloc ?_ _) | (with_reducible refine Kd.C_drewN ?_ _) | (with_reducible refine Kd.C_drew ?_))); (case aB => exact (by repeat (first | (with_reducible first | exact HB.out | apply below_alloc | apply pw_below_drewN | apply below_drew1) | exact HB.out))); (case aF => exact (fun _ _ => trivial)); (case aO => exact (by (with_reducible repeat (first | apply Kd.R_alloc | apply Kd.R_drewN | apply Kd.R_drew)); exact HO416.out)); (case aS => exact (below_size (by repeat (first | (with_reducible first | exact HB.out | apply below_alloc | apply pw_below_drewN | apply below_drew1) | exact HB.out)))); (case aL => have := LMc2.out; omega); intro v418 w5 ho hb hg hat; rw [← Ny417.out] at ho; have n0_ := Aside0.mk (hb); have n1_ := Aside0.mk (ho); clear HB; clear HO416; have HB := n0_; have HO419 := n1_; clear n0_ n1_; clear ho hb hg hat))
  go_ret
  exact ⟨_, by first | rfl | (simp [errW_none, errW_some] <;> rfl) | (simp [*, errW_none, errW_some] <;> rfl), by (with_reducible repeat (first | apply Kd.R_alloc | apply Kd.R_drewN | apply Kd.R_drew)); exact HO419.out, by repeat (first | (with_reducible first | exact HB.out | apply below_alloc | apply pw_below_drewN | apply below_drew1) | exact HB.out)⟩
 ·
  rw [if_neg c2] at H
  exact absurd H (by simp)
end Go.Proofs.YtbomhpfckplgaaaDoor.P
