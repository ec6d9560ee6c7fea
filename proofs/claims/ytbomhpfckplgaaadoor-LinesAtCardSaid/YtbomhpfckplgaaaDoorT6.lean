/- Texts of this claim, put together: Px19, Ul. -/
import Derived.Test.YtbomhpfckplgaaaDoorT0
import Derived.Test.YtbomhpfckplgaaaDoorT1
import Derived.Test.YtbomhpfckplgaaaDoorT5
namespace Go.Proofs.YtbomhpfckplgaaaDoor.P
open Go.RowKit Go.Proofs.YtbomhpfckplgaaaDoorW.PrintWords Go.Proofs.YtbomhpfckplgaaaDoorW.PrintLast Go.Proofs.YtbomhpfckplgaaaDoorW.PrintMore
attribute [local go_sem] max2_int min2_int max_two min_two max_three min_three max_four min_four   -- for this text's walks alone
set_option linter.unusedVariables false
set_option linter.unusedSimpArgs false
mutual
def galleyref07_Rows.l0 : Nat → List Int → List (S88) → Int → Int → Option ((List (S88)))
 | 0, _, _, _, _ => none
 | k + 1, x0, x3, x4, x5 => if x5 < (x0.length : Int) then (if 0 ≤ x5 then (if (rd x0 x5) = 13 then (galleyref07_Rows.j1 k x0 x3 x4 x5 false) else (galleyref07_Rows.j1 k x0 x3 x4 x5 ((rd x0 x5) != 10))) else (none)) else (if x3.length < 5864062014805 then (some (x3 ++ [(⟨x4, (x0.length : Int), (x0.length : Int)⟩ : S88)])) else (none))
def galleyref07_Rows.j1 : Nat → List Int → List (S88) → Int → Int → Bool → Option ((List (S88)))
 | 0, _, _, _, _, _ => none
 | k + 1, x0, x3, x4, x5, x24 => if x24 = true then (galleyref07_Rows.l0 k x0 x3 x4 (wrap64 (x5 + 1))) else (if 0 ≤ x5 then (if x5 < (x0.length : Int) then (if (rd x0 x5) = 13 then (if (wrap64 (x5 + 1)) < (x0.length : Int) then (if 0 ≤ (wrap64 (x5 + 1)) then (if (rd x0 (wrap64 (x5 + 1))) = 10 then (if x3.length < 5864062014805 then (galleyref07_Rows.l0 k x0 (x3 ++ [(⟨x4, x5, wrap64 ((wrap64 (x5 + 1)) + 1)⟩ : S88)]) (wrap64 ((wrap64 (x5 + 1)) + 1)) (wrap64 ((wrap64 ((wrap64 ((wrap64 (x5 + 1)) + 1)) - 1)) + 1))) else (none)) else (if x3.length < 5864062014805 then (galleyref07_Rows.l0 k x0 (x3 ++ [(⟨x4, x5, wrap64 (x5 + 1)⟩ : S88)]) (wrap64 (x5 + 1)) (wrap64 ((wrap64 ((wrap64 (x5 + 1)) - 1)) + 1))) else (none))) else (none)) else (if x3.length < 5864062014805 then (galleyref07_Rows.l0 k x0 (x3 ++ [(⟨x4, x5, wrap64 (x5 + 1)⟩ : S88)]) (wrap64 (x5 + 1)) (wrap64 ((wrap64 ((wrap64 (x5 + 1)) - 1)) + 1))) else (none))) else (if x3.length < 5864062014805 then (galleyref07_Rows.l0 k x0 (x3 ++ [(⟨x4, x5, wrap64 (x5 + 1)⟩ : S88)]) (wrap64 (x5 + 1)) (wrap64 ((wrap64 ((wrap64 (x5 + 1)) - 1)) + 1))) else (none))) else (none)) else (none))
end
def galleyref07_Rows.f (k : Nat) (l0 : List Int) : Option ((List (S88))) := galleyref07_Rows.l0 k l0 ([] : List (S88)) 0 0
set_option maxHeartbeats 8000000 in
set_option maxRecDepth 100000 in
theorem galleyref07_Rows.calls (k : Nat) (A0 : Option Addr) (c0 : Nat) (l0 : List Int) (r : List (S88)) (w : World) (hr0 : Kd.C (Kd.int .u8) w A0 l0.length l0) (hc0 : l0.length ≤ c0) (h : galleyref07_Rows.f k l0 = some r) :
  Calls Tryd.prog 63 #[.slice A0 l0.length c0] w fun e w' => ∃ v0_ : Value, e = .returned (v0_) ∧ Kd.R k88 88 w' w.heap.size (fun _ => True) v0_ r ∧ Below w.heap.size w w' := by
 have hu88 := Tryd.underlying88
 have HR0 := Aside0.mk hr0
 have HC0 := Aside0.mk hc0
 clear hr0 hc0
 have HB := Aside0.mk (Below.refl w.heap.size w)
 have H : (galleyref07_Rows.l0 k l0 ([] : List (S88)) 0 0) = some r := h
 clear h
 have H' := Aside0.mk H
 clear H
 go_enter Tryd.func63, Tryd.ntmps63
 go_wp2
 go_loopg [3, 4, 5] k (fun kq v3 v4 v5 w' => ∃ (x3_1 : List (S88)) (x4_1 : Int) (x5_1 : Int), v4 = .int .i64 x4_1 ∧ v5 = .int .i64 x5_1 ∧ Aside0 (galleyref07_Rows.l0 kq l0 x3_1 x4_1 x5_1 = some r) ∧ Aside0 (kq ≤ k) ∧ Aside0 (Kd.R k88 88 w' w.heap.size (fun _ => True) v3 x3_1) ∧ Aside0 (Below w.heap.size w w'))
 case atStart => exact ⟨(([] : List (S88))), (0), (0), (by first | rfl | (simp; done) | (simp [*]; done)), (by first | rfl | (simp; done) | (simp [*]; done)), H', ⟨Nat.le_refl _⟩, ⟨by first | exact Kd.R_nil _ _ _ _ _ | exact Kd.N_nil _ _ _ _ _ | exact Kd.V_nil _ _ _ _ _ | exact Kd.Q_nil _ _ _ _ _ | exact Kd.S_nil _ _ _ _ _⟩, ⟨by repeat (first | (with_reducible first | exact HB.out | apply below_alloc | apply pw_below_drewN | apply below_drew1) | exact HB.out)⟩⟩
 case round =>
  clear H'
  obtain ⟨x3_1, x4_1, x5_1, rfl, rfl, HA, HK1, HO_3, HB⟩ := hrel
  cases gk with
  | zero => exact absurd HA.out (by simp [galleyref07_Rows.l0])
  | succ k1 =>
   have H := HA.out
   clear HA
   simp only [galleyref07_Rows.l0] at H
   by_cases c2 : x5_1 < (l0.length : Int)
   ·
    rw [if_pos c2] at H
    have c2b0 : decide (x5_1 < (l0.length : Int)) = true := decide_eq_true c2
    clear c2
    have HC3 := Aside0.mk H
    clear H
    go_upto_region 6 with (fail)
    go_cut [24] (fun v24 wc => ∃ (kq : Nat) (x24_2 : Bool), v24 = .bool x24_2 ∧ Aside0 (galleyref07_Rows.j1 kq l0 x3_1 x4_1 x5_1 x24_2 = some r) ∧ Aside0 (kq ≤ k1) ∧ Aside0 (Kd.R k88 88 wc w.heap.size (fun _ => True) u3 x3_1) ∧ Aside0 (Below w.heap.size w wc))
    case first =>
     have H := HC3.out
     clear HC3
     by_cases c4 : 0 ≤ x5_1
     ·
      rw [if_pos c4] at H
      have c4b0 : decide (0 ≤ x5_1) = true := decide_eq_true c4
      clear c4
      (first | rw [c4b0] | (simp only [i64_w, i32_w]; rw [c4b0]) | skip)
      by_cases c5 : (rd l0 x5_1) = 13
      ·
       rw [if_pos c5] at H
       have c5b0 : ((rd l0 x5_1) == 13) = true := beq_iff_eq.mpr c5
       have c5b1 : ((rd l0 x5_1) != 13) = false := bne_eq_false_iff_eq.mpr c5
       clear c5
       have H' := Aside0.mk H
       clear H
       have p788 : 0 ≤ (x5_1 : Int) := of_decide_eq_true (by first | (with_reducible assumption) | assumption)
       have q788 : x5_1 < (l0.length : Int) := of_decide_eq_true (by first | (with_reducible assumption) | assumption)
       obtain ⟨ad788, e788, hx788_0⟩ := Kd.at_int HR0.out x5_1 p788 q788
       cases e788
       replace hx788_0 := (HB.out.cell (World.block_lt_of_cell? w _ hx788_0)).trans hx788_0
       replace p788 := eq_true p788
       replace q788 := eq_true q788
       go_wp2
       go_meet
       case rel => exact ⟨_, (false), (by first | rfl | (simp; done) | (simp [*]; done)), H', ⟨by have := HK1.out; first | omega | exact Nat.le_refl _⟩, ⟨by (with_reducible repeat (first | apply Kd.R_alloc | apply Kd.R_drewN | apply Kd.R_drew)); exact HO_3.out⟩, ⟨by repeat (first | (with_reducible first | exact HB.out | apply below_alloc | apply pw_below_drewN | apply below_drew1) | exact HB.out)⟩⟩
      ·
       rw [if_neg c5] at H
       have c5b0 : ((rd l0 x5_1) == 13) = false := beq_eq_false_iff_ne.mpr c5
       have c5b1 : ((rd l0 x5_1) != 13) = true := bne_iff_ne.mpr c5
       have H' := Aside0.mk H
       clear H
       have p788 : 0 ≤ (x5_1 : Int) := of_decide_eq_true (by first | (with_reducible assumption) | assumption)
       have q788 : x5_1 < (l0.length : Int) := of_decide_eq_true (by first | (with_reducible assumption) | assumption)
       obtain ⟨ad788, e788, hx788_0⟩ := Kd.at_int HR0.out x5_1 p788 q788
       cases e788
       replace hx788_0 := (HB.out.cell (World.block_lt_of_cell? w _ hx788_0)).trans hx788_0
       replace p788 := eq_true p788
       replace q788 := eq_true q788
       have p789 : 0 ≤ (x5_1 : Int) := of_decide_eq_true (by first | (with_reducible assumption) | assumption)
       have q789 : x5_1 < (l0.length : Int) := of_decide_eq_true (by first | (with_reducible assumption) | assumption)
       obtain ⟨ad789, e789, hx789_0⟩ := Kd.at_int HR0.out x5_1 p789 q789
       obtain rfl : ad788 = ad789 := (by injection e789)
       replace hx789_0 := (HB.out.cell (World.block_lt_of_cell? w _ hx789_0)).trans hx789_0
       replace p789 := eq_true p789
       replace q789 := eq_true q789
       go_wp2
       go_meet
       case rel => exact ⟨_, (((rd l0 x5_1) != 10)), (by first | rfl | (simp; done) | (simp [*]; done)), H', ⟨by have := HK1.out; first | omega | exact Nat.le_refl _⟩, ⟨by (with_reducible repeat (first | apply Kd.R_alloc | apply Kd.R_drewN | apply Kd.R_drew)); exact HO_3.out⟩, ⟨by repeat (first | (with_reducible first | exact HB.out | apply below_alloc | apply pw_below_drewN | apply below_drew1) | exact HB.out)⟩⟩
     ·
      rw [if_neg c4] at H
      exact absurd H (by simp)
    case rest =>
     clear HC3
     (try clear c2); (try clear c2b0); (try clear p2); (try clear c4); (try clear c4b0); (try clear c5); (try clear c5b0); (try clear c5b1); (try clear hx788_0); (try clear hx789_0); (try clear p788); (try clear p789); (try clear q788); (try clear q789)
     obtain ⟨kq, x24_2, rfl, HA, HJ2, HO_3, HB⟩ := hcut
     cases kq with
     | zero => exact absurd HA.out (by simp [galleyref07_Rows.j1])
     | succ kj2 =>
      have H := HA.out
      clear HA
      simp only [galleyref07_Rows.j1] at H
      by_cases c6 : x24_2 = true
      ·
       subst c6
       have H1 : (galleyref07_Rows.l0 kj2 l0 x3_1 x4_1 (wrap64 (x5_1 + 1))) = some r := by rw [if_pos rfl] at H; exact H
       clear H
       have H := H1
       clear H1
       have H' := Aside0.mk H
       clear H
       go_wp2
       go_roundg kj2
       case measure => have := HK1.out; have := HJ2.out; omega
       case rel => exact ⟨(x3_1), (x4_1), (wrap64 (x5_1 + 1)), (by first | rfl | (simp; done) | (simp [*]; done)), (by first | rfl | (simp; done) | (simp [*]; done)), H', ⟨by have := HK1.out; have := HJ2.out; omega⟩, ⟨by (with_reducible repeat (first | apply Kd.R_alloc | apply Kd.R_drewN | apply Kd.R_drew)); exact HO_3.out⟩, ⟨by repeat (first | (with_reducible first | exact HB.out | apply below_alloc | apply pw_below_drewN | apply below_drew1) | exact HB.out)⟩⟩
      ·
       replace c6 := Bool.eq_false_iff.mpr c6
       subst c6
       have H1 : (if 0 ≤ x5_1 then (if x5_1 < (l0.length : Int) then (if (rd l0 x5_1) = 13 then (if (wrap64 (x5_1 + 1)) < (l0.length : Int) then (if 0 ≤ (wrap64 (x5_1 + 1)) then (if (rd l0 (wrap64 (x5_1 + 1))) = 10 then (if x3_1.length < 5864062014805 then (galleyref07_Rows.l0 kj2 l0 (x3_1 ++ [(⟨x4_1, x5_1, wrap64 ((wrap64 (x5_1 + 1)) + 1)⟩ : S88)]) (wrap64 ((wrap64 (x5_1 + 1)) + 1)) (wrap64 ((wrap64 ((wrap64 ((wrap64 (x5_1 + 1)) + 1)) - 1)) + 1))) else (none)) else (if x3_1.length < 5864062014805 then (galleyref07_Rows.l0 kj2 l0 (x3_1 ++ [(⟨x4_1, x5_1, wrap64 (x5_1 + 1)⟩ : S88)]) (wrap64 (x5_1 + 1)) (wrap64 ((wrap64 ((wrap64 (x5_1 + 1)) - 1)) + 1))) else (none))) else (none)) else (if x3_1.length < 5864062014805 then (galleyref07_Rows.l0 kj2 l0 (x3_1 ++ [(⟨x4_1, x5_1, wrap64 (x5_1 + 1)⟩ : S88)]) (wrap64 (x5_1 + 1)) (wrap64 ((wrap64 ((wrap64 (x5_1 + 1)) - 1)) + 1))) else (none))) else (if x3_1.length < 5864062014805 then (galleyref07_Rows.l0 kj2 l0 (x3_1 ++ [(⟨x4_1, x5_1, wrap64 (x5_1 + 1)⟩ : S88)]) (wrap64 (x5_1 + 1)) (wrap64 ((wrap64 ((wrap64 (x5_1 + 1)) - 1)) + 1))) else (none))) else (none)) else (none)) = some r := by rw [if_neg (show ¬ (false = true) by decide)] at H; exact H
       clear H
       have H := H1
       clear H1
       by_cases c7 : 0 ≤ x5_1
       ·
        rw [if_pos c7] at H
        have c7b0 : decide (0 ≤ x5_1) = true := decide_eq_true c7
        clear c7
        by_cases c8 : x5_1 < (l0.length : Int)
        ·
         rw [if_pos c8] at H
         have c8b0 : decide (x5_1 < (l0.length : Int)) = true := decide_eq_true c8
         clear c8
         by_cases c9 : (rd l0 x5_1) = 13
         ·
          rw [if_pos c9] at H
          have c9b0 : ((rd l0 x5_1) == 13) = true := beq_iff_eq.mpr c9
          have c9b1 : ((rd l0 x5_1) != 13) = false := bne_eq_false_iff_eq.mpr c9
          clear c9
          by_cases c10 : (wrap64 (x5_1 + 1)) < (l0.length : Int)
          ·
           rw [if_pos c10] at H
           have c10b0 : decide ((wrap64 (x5_1 + 1)) < (l0.length : Int)) = true := decide_eq_true c10
           clear c10
           obtain ⟨ji11, hji11⟩ : ∃ j_ : Int, (wrap64 (x5_1 + 1)) = j_ := ⟨_, rfl⟩
           replace H : (if 0 ≤ (ji11) then (if (rd l0 (ji11)) = 10 then (if x3_1.length < 5864062014805 then (galleyref07_Rows.l0 kj2 l0 (x3_1 ++ [(⟨x4_1, x5_1, wrap64 ((ji11) + 1)⟩ : S88)]) (wrap64 ((ji11) + 1)) (wrap64 ((wrap64 ((wrap64 ((ji11) + 1)) - 1)) + 1))) else (none)) else (if x3_1.length < 5864062014805 then (galleyref07_Rows.l0 kj2 l0 (x3_1 ++ [(⟨x4_1, x5_1, ji11⟩ : S88)]) ji11 (wrap64 ((wrap64 ((ji11) - 1)) + 1))) else (none))) else (none)) = some r := by first | (rw [hji11] at H; exact H) | (simp only [hji11] at H ⊢; exact H)
           (try rw [hji11] at c10b0)
           have hji11w : (IntKind.i64.wrap (x5_1 + 1)) = ji11 := (i64_w _).trans hji11
           by_cases c12 : 0 ≤ (ji11)
           ·
            rw [if_pos c12] at H
            have c12b0 : decide (0 ≤ (ji11)) = true := decide_eq_true c12
            clear c12
            by_cases c13 : (rd l0 (ji11)) = 10
            ·
             rw [if_pos c13] at H
             have c13b0 : ((rd l0 (ji11)) == 10) = true := beq_iff_eq.mpr c13
             have c13b1 : ((rd l0 (ji11)) != 10) = false := bne_eq_false_iff_eq.mpr c13
             clear c13
             by_cases c14 : x3_1.length < 5864062014805
             ·
              rw [if_pos c14] at H
              have LMc14 := Aside0.mk c14
              clear c14
              obtain ⟨y792, hy792⟩ : ∃ y_ : List (S88), y_ = (x3_1 ++ [(⟨x4_1, x5_1, wrap64 ((ji11) + 1)⟩ : S88)]) := ⟨_, rfl⟩
              replace H : (galleyref07_Rows.l0 kj2 l0 y792 (wrap64 ((ji11) + 1)) (wrap64 ((wrap64 ((wrap64 ((ji11) + 1)) - 1)) + 1))) = some r := by first | (rw [hy792]; with_reducible exact H) | (have H2_ := (Option.bind_some _ _).symm.trans H; rw [hy792]; with_reducible exact H2_) | (have H2_ := (Option.bind_some _ _).symm.trans H; with_reducible exact H2_) | with_reducible exact H | (rw [hy792]; exact H) | exact H
              have Ny792 := Aside0.mk hy792
              clear hy792
              have H' := Aside0.mk H
              clear H
              have p790 : 0 ≤ (x5_1 : Int) := of_decide_eq_true (by first | (with_reducible assumption) | assumption)
              have q790 : x5_1 < (l0.length : Int) := of_decide_eq_true (by first | (with_reducible assumption) | assumption)
              obtain ⟨ad790, e790, hx790_0⟩ := Kd.at_int HR0.out x5_1 p790 q790
              cases e790
              replace hx790_0 := (HB.out.cell (World.block_lt_of_cell? w _ hx790_0)).trans hx790_0
              replace p790 := eq_true p790
              replace q790 := eq_true q790
              have p791 : 0 ≤ ((ji11) : Int) := of_decide_eq_true (by first | (with_reducible assumption) | assumption)
              have q791 : (ji11) < (l0.length : Int) := of_decide_eq_true (by first | (with_reducible assumption) | assumption)
              obtain ⟨ad791, e791, hx791_0⟩ := Kd.at_int HR0.out (ji11) p791 q791
              obtain rfl : ad790 = ad791 := (by injection e791)
              replace hx791_0 := (HB.out.cell (World.block_lt_of_cell? w _ hx791_0)).trans hx791_0
              replace p791 := eq_true p791
              replace q791 := eq_true q791
              go_wp2_with (first | ((with_reducible refine gate_builtin (b := .append) (xs := #[.tmp 47, .tmp 52]) rfl ?_); (try (refine gate_guard (by rfl) ?_; dsimp only)); at_builtin; refine Kd.R_append k88 (w0 := w) w.heap.size rfl (.tmp 47) (.tmp 52) 82 88 (.agg #[(.int .i64 0), (.int .i64 0), (.int .i64 0)]) 24 rfl Tryd.underlying82 info88 rfl (by decide) (by omega) u3 x3_1 (⟨x4_1, x5_1, wrap64 ((ji11) + 1)⟩ : S88) [.int .i64 x4_1, .int .i64 x5_1, .int .i64 (wrap64 ((ji11) + 1))] (fun _ => True) (fun _ => False) rfl rfl ?aP (fun _ hk => hk.elim) ?aF ?aO ?aB ?aS ?aL ?_; (case aP => exact k88_mkM _ _ _ (⟨x4_1, x5_1, wrap64 ((ji11) + 1)⟩ : S88)); (case aB => exact (by repeat (first | (with_reducible first | exact HB.out | apply below_alloc | apply pw_below_drewN | apply below_drew1) | exact HB.out))); (case aF => exact (fun _ _ => trivial)); (case aO => exact (by (with_reducible repeat (first | apply Kd.R_alloc | apply Kd.R_drewN | apply Kd.R_drew)); exact HO_3.out)); (case aS => exact (below_size (by repeat (first | (with_reducible first | exact HB.out | apply below_alloc | apply pw_below_drewN | apply below_drew1) | exact HB.out)))); (case aL => have := LMc14.out; omega); intro v793 w15 ho hb hg hat; rw [← Ny792.out] at ho; have n0_ := Aside0.mk (hb); have n1_ := Aside0.mk (ho); clear HB; clear HO_3; have HB := n0_; have HO794 := n1_; clear n0_ n1_; clear ho hb hg hat))
              go_roundg kj2
              case measure => have := HK1.out; have := HJ2.out; omega
              case rel => exact ⟨(y792), (wrap64 ((ji11) + 1)), (wrap64 ((wrap64 ((wrap64 ((ji11) + 1)) - 1)) + 1)), (by first | rfl | (simp; done) | (simp only [← hji11] <;> (first | rfl | simp)) | (simp [*]; done)), (by first | rfl | (simp; done) | (simp only [← hji11] <;> (first | rfl | simp)) | (simp [*]; done)), H', ⟨by have := HK1.out; have := HJ2.out; omega⟩, ⟨by (with_reducible repeat (first | apply Kd.R_alloc | apply Kd.R_drewN | apply Kd.R_drew)); exact HO794.out⟩, ⟨by repeat (first | (with_reducible first | exact HB.out | apply below_alloc | apply pw_below_drewN | apply below_drew1) | exact HB.out)⟩⟩
             ·
              rw [if_neg c14] at H
              exact absurd H (by simp)
            ·
             rw [if_neg c13] at H
             have c13b0 : ((rd l0 (ji11)) == 10) = false := beq_eq_false_iff_ne.mpr c13
             have c13b1 : ((rd l0 (ji11)) != 10) = true := bne_iff_ne.mpr c13
             by_cases c16 : x3_1.length < 5864062014805
             ·
              rw [if_pos c16] at H
              have LMc16 := Aside0.mk c16
              clear c16
              obtain ⟨y795, hy795⟩ : ∃ y_ : List (S88), y_ = (x3_1 ++ [(⟨x4_1, x5_1, ji11⟩ : S88)]) := ⟨_, rfl⟩
              replace H : (galleyref07_Rows.l0 kj2 l0 y795 ji11 (wrap64 ((wrap64 ((ji11) - 1)) + 1))) = some r := by first | (rw [hy795]; with_reducible exact H) | (have H2_ := (Option.bind_some _ _).symm.trans H; rw [hy795]; with_reducible exact H2_) | (have H2_ := (Option.bind_some _ _).symm.trans H; with_reducible exact H2_) | with_reducible exact H | (rw [hy795]; exact H) | exact H
              have Ny795 := Aside0.mk hy795
              clear hy795
              have H' := Aside0.mk H
              clear H
              have p790 : 0 ≤ (x5_1 : Int) := of_decide_eq_true (by first | (with_reducible assumption) | assumption)
              have q790 : x5_1 < (l0.length : Int) := of_decide_eq_true (by first | (with_reducible assumption) | assumption)
              obtain ⟨ad790, e790, hx790_0⟩ := Kd.at_int HR0.out x5_1 p790 q790
              cases e790
              replace hx790_0 := (HB.out.cell (World.block_lt_of_cell? w _ hx790_0)).trans hx790_0
              replace p790 := eq_true p790
              replace q790 := eq_true q790
              have p791 : 0 ≤ ((ji11) : Int) := of_decide_eq_true (by first | (with_reducible assumption) | assumption)
              have q791 : (ji11) < (l0.length : Int) := of_decide_eq_true (by first | (with_reducible assumption) | assumption)
              obtain ⟨ad791, e791, hx791_0⟩ := Kd.at_int HR0.out (ji11) p791 q791
              obtain rfl : ad790 = ad791 := (by injection e791)
              replace hx791_0 := (HB.out.cell (World.block_lt_of_cell? w _ hx791_0)).trans hx791_0
              replace p791 := eq_true p791
              replace q791 := eq_true q791
              go_wp2_with (first | ((with_reducible refine gate_builtin (b := .append) (xs := #[.tmp 47, .tmp 52]) rfl ?_); (try (refine gate_guard (by rfl) ?_; dsimp only)); at_builtin; refine Kd.R_append k88 (w0 := w) w.heap.size rfl (.tmp 47) (.tmp 52) 82 88 (.agg #[(.int .i64 0), (.int .i64 0), (.int .i64 0)]) 24 rfl Tryd.underlying82 info88 rfl (by decide) (by omega) u3 x3_1 (⟨x4_1, x5_1, ji11⟩ : S88) [.int .i64 x4_1, .int .i64 x5_1, .int .i64 ji11] (fun _ => True) (fun _ => False) rfl rfl ?aP (fun _ hk => hk.elim) ?aF ?aO ?aB ?aS ?aL ?_; (case aP => exact k88_mkM _ _ _ (⟨x4_1, x5_1, ji11⟩ : S88)); (case aB => exact (by repeat (first | (with_reducible first | exact HB.out | apply below_alloc | apply pw_below_drewN | apply below_drew1) | exact HB.out))); (case aF => exact (fun _ _ => trivial)); (case aO => exact (by (with_reducible repeat (first | apply Kd.R_alloc | apply Kd.R_drewN | apply Kd.R_drew)); exact HO_3.out)); (case aS => exact (below_size (by repeat (first | (with_reducible first | exact HB.out | apply below_alloc | apply pw_below_drewN | apply below_drew1) | exact HB.out)))); (case aL => have := LMc16.out; omega); intro v796 w17 ho hb hg hat; rw [← Ny795.out] at ho; have n0_ := Aside0.mk (hb); have n1_ := Aside0.mk (ho); clear HB; clear HO_3; have HB := n0_; have HO797 := n1_; clear n0_ n1_; clear ho hb hg hat))
              go_roundg kj2
              case measure => have := HK1.out; have := HJ2.out; omega
              case rel => exact ⟨(y795), (ji11), (wrap64 ((wrap64 ((ji11) - 1)) + 1)), (by first | rfl | (simp; done) | (simp only [← hji11] <;> (first | rfl | simp)) | (simp [*]; done)), (by first | rfl | (simp; done) | (simp only [← hji11] <;> (first | rfl | simp)) | (simp [*]; done)), H', ⟨by have := HK1.out; have := HJ2.out; omega⟩, ⟨by (with_reducible repeat (first | apply Kd.R_alloc | apply Kd.R_drewN | apply Kd.R_drew)); exact HO797.out⟩, ⟨by repeat (first | (with_reducible first | exact HB.out | apply below_alloc | apply pw_below_drewN | apply below_drew1) | exact HB.out)⟩⟩
             ·
              rw [if_neg c16] at H
              exact absurd H (by simp)
           ·
            rw [if_neg c12] at H
            exact absurd H (by simp)
          ·
           rw [if_neg c10] at H
           have c10b0 : decide ((wrap64 (x5_1 + 1)) < (l0.length : Int)) = false := decide_eq_false c10
           clear c10
           by_cases c18 : x3_1.length < 5864062014805
           ·
            rw [if_pos c18] at H
            have LMc18 := Aside0.mk c18
            clear c18
            obtain ⟨y798, hy798⟩ : ∃ y_ : List (S88), y_ = (x3_1 ++ [(⟨x4_1, x5_1, wrap64 (x5_1 + 1)⟩ : S88)]) := ⟨_, rfl⟩
            replace H : (galleyref07_Rows.l0 kj2 l0 y798 (wrap64 (x5_1 + 1)) (wrap64 ((wrap64 ((wrap64 (x5_1 + 1)) - 1)) + 1))) = some r := by first | (rw [hy798]; with_reducible exact H) | (have H2_ := (Option.bind_some _ _).symm.trans H; rw [hy798]; with_reducible exact H2_) | (have H2_ := (Option.bind_some _ _).symm.trans H; with_reducible exact H2_) | with_reducible exact H | (rw [hy798]; exact H) | exact H
            have Ny798 := Aside0.mk hy798
            clear hy798
            have H' := Aside0.mk H
            clear H
            have p790 : 0 ≤ (x5_1 : Int) := of_decide_eq_true (by first | (with_reducible assumption) | assumption)
            have q790 : x5_1 < (l0.length : Int) := of_decide_eq_true (by first | (with_reducible assumption) | assumption)
            obtain ⟨ad790, e790, hx790_0⟩ := Kd.at_int HR0.out x5_1 p790 q790
            cases e790
            replace hx790_0 := (HB.out.cell (World.block_lt_of_cell? w _ hx790_0)).trans hx790_0
            replace p790 := eq_true p790
            replace q790 := eq_true q790
            go_wp2_with (first | ((with_reducible refine gate_builtin (b := .append) (xs := #[.tmp 47, .tmp 52]) rfl ?_); (try (refine gate_guard (by rfl) ?_; dsimp only)); at_builtin; refine Kd.R_append k88 (w0 := w) w.heap.size rfl (.tmp 47) (.tmp 52) 82 88 (.agg #[(.int .i64 0), (.int .i64 0), (.int .i64 0)]) 24 rfl Tryd.underlying82 info88 rfl (by decide) (by omega) u3 x3_1 (⟨x4_1, x5_1, wrap64 (x5_1 + 1)⟩ : S88) [.int .i64 x4_1, .int .i64 x5_1, .int .i64 (wrap64 (x5_1 + 1))] (fun _ => True) (fun _ => False) rfl rfl ?aP (fun _ hk => hk.elim) ?aF ?aO ?aB ?aS ?aL ?_; (case aP => exact k88_mkM _ _ _ (⟨x4_1, x5_1, wrap64 (x5_1 + 1)⟩ : S88)); (case aB => exact (by repeat (first | (with_reducible first | exact HB.out | apply below_alloc | apply pw_below_drewN | apply below_drew1) | exact HB.out))); (case aF => exact (fun _ _ => trivial)); (case aO => exact (by (with_reducible repeat (first | apply Kd.R_alloc | apply Kd.R_drewN | apply Kd.R_drew)); exact HO_3.out)); (case aS => exact (below_size (by repeat (first | (with_reducible first | exact HB.out | apply below_alloc | apply pw_below_drewN | apply below_drew1) | exact HB.out)))); (case aL => have := LMc18.out; omega); intro v799 w19 ho hb hg hat; rw [← Ny798.out] at ho; have n0_ := Aside0.mk (hb); have n1_ := Aside0.mk (ho); clear HB; clear HO_3; have HB := n0_; have HO800 := n1_; clear n0_ n1_; clear ho hb hg hat))
            go_roundg kj2
            case measure => have := HK1.out; have := HJ2.out; omega
            case rel => exact ⟨(y798), (wrap64 (x5_1 + 1)), (wrap64 ((wrap64 ((wrap64 (x5_1 + 1)) - 1)) + 1)), (by first | rfl | (simp; done) | (simp [*]; done)), (by first | rfl | (simp; done) | (simp [*]; done)), H', ⟨by have := HK1.out; have := HJ2.out; omega⟩, ⟨by (with_reducible repeat (first | apply Kd.R_alloc | apply Kd.R_drewN | apply Kd.R_drew)); exact HO800.out⟩, ⟨by repeat (first | (with_reducible first | exact HB.out | apply below_alloc | apply pw_below_drewN | apply below_drew1) | exact HB.out)⟩⟩
           ·
            rw [if_neg c18] at H
            exact absurd H (by simp)
         ·
          rw [if_neg c9] at H
          have c9b0 : ((rd l0 x5_1) == 13) = false := beq_eq_false_iff_ne.mpr c9
          have c9b1 : ((rd l0 x5_1) != 13) = true := bne_iff_ne.mpr c9
          by_cases c20 : x3_1.length < 5864062014805
          ·
           rw [if_pos c20] at H
           have LMc20 := Aside0.mk c20
           clear c20
           obtain ⟨y801, hy801⟩ : ∃ y_ : List (S88), y_ = (x3_1 ++ [(⟨x4_1, x5_1, wrap64 (x5_1 + 1)⟩ : S88)]) := ⟨_, rfl⟩
           replace H : (galleyref07_Rows.l0 kj2 l0 y801 (wrap64 (x5_1 + 1)) (wrap64 ((wrap64 ((wrap64 (x5_1 + 1)) - 1)) + 1))) = some r := by first | (rw [hy801]; with_reducible exact H) | (have H2_ := (Option.bind_some _ _).symm.trans H; rw [hy801]; with_reducible exact H2_) | (have H2_ := (Option.bind_some _ _).symm.trans H; with_reducible exact H2_) | with_reducible exact H | (rw [hy801]; exact H) | exact H
           have Ny801 := Aside0.mk hy801
           clear hy801
           have H' := Aside0.mk H
           clear H
           have p790 : 0 ≤ (x5_1 : Int) := of_decide_eq_true (by first | (with_reducible assumption) | assumption)
           have q790 : x5_1 < (l0.length : Int) := of_decide_eq_true (by first | (with_reducible assumption) | assumption)
           obtain ⟨ad790, e790, hx790_0⟩ := Kd.at_int HR0.out x5_1 p790 q790
           cases e790
           replace hx790_0 := (HB.out.cell (World.block_lt_of_cell? w _ hx790_0)).trans hx790_0
           replace p790 := eq_true p790
           replace q790 := eq_true q790
           go_wp2_with (first | ((with_reducible refine gate_builtin (b := .append) (xs := #[.tmp 47, .tmp 52]) rfl ?_); (try (refine gate_guard (by rfl) ?_; dsimp only)); at_builtin; refine Kd.R_append k88 (w0 := w) w.heap.size rfl (.tmp 47) (.tmp 52) 82 88 (.agg #[(.int .i64 0), (.int .i64 0), (.int .i64 0)]) 24 rfl Tryd.underlying82 info88 rfl (by decide) (by omega) u3 x3_1 (⟨x4_1, x5_1, wrap64 (x5_1 + 1)⟩ : S88) [.int .i64 x4_1, .int .i64 x5_1, .int .i64 (wrap64 (x5_1 + 1))] (fun _ => True) (fun _ => False) rfl rfl ?aP (fun _ hk => hk.elim) ?aF ?aO ?aB ?aS ?aL ?_; (case aP => exact k88_mkM _ _ _ (⟨x4_1, x5_1, wrap64 (x5_1 + 1)⟩ : S88)); (case aB => exact (by repeat (first | (with_reducible first | exact HB.out | apply below_alloc | apply pw_below_drewN | apply below_drew1) | exact HB.out))); (case aF => exact (fun _ _ => trivial)); (case aO => exact (by (with_reducible repeat (first | apply Kd.R_alloc | apply Kd.R_drewN | apply Kd.R_drew)); exact HO_3.out)); (case aS => exact (below_size (by repeat (first | (with_reducible first | exact HB.out | apply below_alloc | apply pw_below_drewN | apply below_drew1) | exact HB.out)))); (case aL => have := LMc20.out; omega); intro v802 w21 ho hb hg hat; rw [← Ny801.out] at ho; have n0_ := Aside0.mk (hb); have n1_ := Aside0.mk (ho); clear HB; clear HO_3; have HB := n0_; have HO803 := n1_; clear n0_ n1_; clear ho hb hg hat))
           go_roundg kj2
           case measure => have := HK1.out; have := HJ2.out; omega
           case rel => exact ⟨(y801), (wrap64 (x5_1 + 1)), (wrap64 ((wrap64 ((wrap64 (x5_1 + 1)) - 1)) + 1)), (by first | rfl | (simp; done) | (simp [*]; done)), (by first | rfl | (simp; done) | (simp [*]; done)), H', ⟨by have := HK1.out; have := HJ2.out; omega⟩, ⟨by (with_reducible repeat (first | apply Kd.R_alloc | apply Kd.R_drewN | apply Kd.R_drew)); exact HO803.out⟩, ⟨by repeat (first | (with_reducible first | exact HB.out | apply below_alloc | apply pw_below_drewN | apply below_drew1) | exact HB.out)⟩⟩
          ·
           rw [if_neg c20] at H
           exact absurd H (by simp)
        ·
         rw [if_neg c8] at H
         exact absurd H (by simp)
       ·
        rw [if_neg c7] at H
        exact absurd H (by simp)
   ·
    rw [if_neg c2] at H
    have c2b0 : decide (x5_1 < (l0.length : Int)) = false := decide_eq_false c2
    clear c2
    by_cases c22 : x3_1.length < 5864062014805
    ·
     rw [if_pos c22] at H
     have LMc22 := Aside0.mk c22
     clear c22
     obtain ⟨y785, hy785⟩ : ∃ y_ : List (S88), y_ = (x3_1 ++ [(⟨x4_1, (l0.length : Int), (l0.length : Int)⟩ : S88)]) := ⟨_, rfl⟩
     replace H : (some y785) = some r := by first | (rw [hy785]; with_reducible exact H) | (have H2_ := (Option.bind_some _ _).symm.trans H; rw [hy785]; with_reducible exact H2_) | (have H2_ := (Option.bind_some _ _).symm.trans H; with_reducible exact H2_) | with_reducible exact H | (rw [hy785]; exact H) | exact H
     have Ny785 := Aside0.mk hy785
     clear hy785
     obtain rfl := Option.some.inj H
     go_wp2_with (first | ((with_reducible refine gate_builtin (b := .append) (xs := #[.tmp 57, .tmp 64]) rfl ?_); (try (refine gate_guard (by rfl) ?_; dsimp only)); at_builtin; refine Kd.R_append k88 (w0 := w) w.heap.size rfl (.tmp 57) (.tmp 64) 82 88 (.agg #[(.int .i64 0), (.int .i64 0), (.int .i64 0)]) 24 rfl Tryd.underlying82 info88 rfl (by decide) (by omega) u3 x3_1 (⟨x4_1, (l0.length : Int), (l0.length : Int)⟩ : S88) [.int .i64 x4_1, .int .i64 (l0.length : Int), .int .i64 (l0.length : Int)] (fun _ => True) (fun _ => False) rfl rfl ?aP (fun _ hk => hk.elim) ?aF ?aO ?aB ?aS ?aL ?_; (case aP => exact k88_mkM _ _ _ (⟨x4_1, (l0.length : Int), (l0.length : Int)⟩ : S88)); (case aB => exact (by repeat (first | (with_reducible first | exact HB.out | apply below_alloc | apply pw_below_drewN | apply below_drew1) | exact HB.out))); (case aF => exact (fun _ _ => trivial)); (case aO => exact (by (with_reducible repeat (first | apply Kd.R_alloc | apply Kd.R_drewN | apply Kd.R_drew)); exact HO_3.out)); (case aS => exact (below_size (by repeat (first | (with_reducible first | exact HB.out | apply below_alloc | apply pw_below_drewN | apply below_drew1) | exact HB.out)))); (case aL => have := LMc22.out; omega); intro v786 w23 ho hb hg hat; rw [← Ny785.out] at ho; have n0_ := Aside0.mk (hb); have n1_ := Aside0.mk (ho); clear HB; clear HO_3; have HB := n0_; have HO787 := n1_; clear n0_ n1_; clear ho hb hg hat))
     go_ret
     exact ⟨_, by first | rfl | (simp [errW_none, errW_some] <;> rfl) | (simp [*, errW_none, errW_some] <;> rfl), by (with_reducible repeat (first | apply Kd.R_alloc | apply Kd.R_drewN | apply Kd.R_drew)); exact HO787.out, by repeat (first | (with_reducible first | exact HB.out | apply below_alloc | apply pw_below_drewN | apply below_drew1) | exact HB.out)⟩
    ·
     rw [if_neg c22] at H
     exact absurd H (by simp)
end Go.Proofs.YtbomhpfckplgaaaDoor.P
namespace Go.Proofs.YtbomhpfckplgaaaDoor.P
open Go Go.RowKit Go.Proofs.YtbomhpfckplgaaaDoorW.PrintWords
set_option linter.unusedVariables false
set_option linter.unusedSimpArgs false
def toRow (x : S144) : S88 := ⟨x.f0, x.f1, x.f3⟩
theorem rows_step {l : List Int} (hs : Small l) : ∀ (n : Nat) (i s : Int) (xs : List S88), 0 ≤ i → i ≤ l.length → (l.length : Int) - i < (n : Int) → (xs.length : Int) ≤ i →
    Ev (fun k => galleyref07_Rows.l0 k l xs s i) (xs ++ (linesF l n i s).map toRow)
  | 0, i, s, xs, h0, h1, h2, h3 => by omega
  | n + 1, i, s, xs, h0, h1, h2, h3 => by
    have hs' := hs
    unfold Small at hs'
    have w1 : wrap64 (i + 1) = i + 1 := w64 (by omega) (by omega)
    have w2 : wrap64 (i + 1 + 1) = i + 1 + 1 := w64 (by omega) (by omega)
    have m1 : wrap64 (i + 1 - 1) = i := by rw [Int.add_sub_cancel]; exact w64 (by omega) (by omega)
    have m2 : wrap64 (i + 1 + 1 - 1) = i + 1 := by rw [Int.add_sub_cancel]; exact w1
    by_cases c : i < (l.length : Int)
    · have head : ∀ v b, (if rd l i = 13 then false else (rd l i != 10)) = b → Ev (fun k => galleyref07_Rows.j1 k l xs s i b) v → Ev (fun k => galleyref07_Rows.l0 k l xs s i) v := by
        intro v b hb hv
        refine Ev.step (fun k => ?_) hv
        conv => lhs; unfold galleyref07_Rows.l0
        rw [if_pos c, if_pos h0]
        by_cases c2 : rd l i = 13
        · rw [if_pos c2] at hb ⊢
          rw [hb]
        · rw [if_neg c2] at hb ⊢
          rw [hb]
      unfold linesF
      rw [if_pos c]
      by_cases c1 : rd l i = 10
      · rw [if_pos c1]
        refine head _ false (by rw [if_neg (by omega), c1]; rfl) ?_
        refine Ev.step (G := fun k => galleyref07_Rows.l0 k l (xs ++ [⟨s, i, i + 1⟩]) (i + 1) (i + 1)) (fun k => ?_) ?_
        · conv => lhs; unfold galleyref07_Rows.j1
          rw [if_neg (by simp), if_pos h0, if_pos c, if_neg (by omega), if_pos (by omega), w1, m1, w1]
        · have := rows_step hs n (i + 1) (i + 1) (xs ++ [⟨s, i, i + 1⟩]) (by omega) (by omega) (by omega) (by simp; omega)
          simpa [toRow] using this
      · rw [if_neg c1]
        by_cases c2 : rd l i = 13
        · rw [if_pos c2]
          refine head _ false (by rw [if_pos c2]) ?_
          by_cases c3 : i + 1 < (l.length : Int)
          · by_cases c4 : rd l (i + 1) = 10
            · rw [if_pos ⟨c3, c4⟩]
              refine Ev.step (G := fun k => galleyref07_Rows.l0 k l (xs ++ [⟨s, i, i + 2⟩]) (i + 2) (i + 2)) (fun k => ?_) ?_
              · conv => lhs; unfold galleyref07_Rows.j1
                rw [if_neg (by simp), if_pos h0, if_pos c, if_pos c2, w1, if_pos c3, if_pos (by omega), if_pos c4, if_pos (by omega), w2, m2, w2]
                rw [show i + 1 + 1 = i + 2 by omega]
              · have := rows_step hs n (i + 2) (i + 2) (xs ++ [⟨s, i, i + 2⟩]) (by omega) (by omega) (by omega) (by simp; omega)
                simpa [toRow] using this
            · rw [if_neg (fun h => c4 h.2)]
              refine Ev.step (G := fun k => galleyref07_Rows.l0 k l (xs ++ [⟨s, i, i + 1⟩]) (i + 1) (i + 1)) (fun k => ?_) ?_
              · conv => lhs; unfold galleyref07_Rows.j1
                rw [if_neg (by simp), if_pos h0, if_pos c, if_pos c2, w1, if_pos c3, if_pos (by omega), if_neg c4, if_pos (by omega), m1, w1]
              · have := rows_step hs n (i + 1) (i + 1) (xs ++ [⟨s, i, i + 1⟩]) (by omega) (by omega) (by omega) (by simp; omega)
                simpa [toRow] using this
          · rw [if_neg (fun h => c3 h.1)]
            refine Ev.step (G := fun k => galleyref07_Rows.l0 k l (xs ++ [⟨s, i, i + 1⟩]) (i + 1) (i + 1)) (fun k => ?_) ?_
            · conv => lhs; unfold galleyref07_Rows.j1
              rw [if_neg (by simp), if_pos h0, if_pos c, if_pos c2, w1, if_neg c3, if_pos (by omega), m1, w1]
            · have := rows_step hs n (i + 1) (i + 1) (xs ++ [⟨s, i, i + 1⟩]) (by omega) (by omega) (by omega) (by simp; omega)
              simpa [toRow] using this
        · rw [if_neg c2]
          refine head _ true (by rw [if_neg c2]; simpa using c1) ?_
          refine Ev.step (G := fun k => galleyref07_Rows.l0 k l xs s (i + 1)) (fun k => ?_) ?_
          · conv => lhs; unfold galleyref07_Rows.j1
            rw [if_pos rfl, w1]
          · exact rows_step hs n (i + 1) s xs (by omega) (by omega) (by omega) (by omega)
    · refine Ev.step (G := fun _ => some (xs ++ (linesF l (n + 1) i s).map toRow)) (fun k => ?_) (Ev.pure _)
      conv => lhs; unfold galleyref07_Rows.l0
      unfold linesF
      rw [if_neg c, if_neg c, if_pos (by omega)]
      rfl
theorem ev_rows {l : List Int} (hs : Small l) : Ev (fun k => galleyref07_Rows.f k l) ((linesL l).map toRow) := by
  have := rows_step hs (l.length + 1) 0 0 [] (by omega) (by omega) (by omega) (by simp)
  simpa [galleyref07_Rows.f, linesL] using this
theorem rd88_row (L : List S144) (i : Int) (h0 : 0 ≤ i) (h1 : i < L.length) : rd_T88 (L.map toRow) i = toRow (rd_T144 L i) := by
  obtain ⟨n, rfl⟩ := Int.eq_ofNat_of_zero_le h0
  have c : n < L.length := by omega
  unfold rd_T88 rd_T144
  simp only [Int.toNat_natCast, List.getD_eq_getElem?_getD]
  rw [List.getElem?_map, List.getElem?_eq_getElem c]
  rfl
end Go.Proofs.YtbomhpfckplgaaaDoor.P
