/- Texts of this claim, put together: Px51, Px52, Px72, Px73, HCost, HW19. -/
import Derived.Lib.SlBytesConst
import Derived.Test.YtbomhpfckplgaaaDoorT1
import Derived.Test.YtbomhpfckplgaaaDoorT3
import Derived.Test.YtbomhpfckplgaaaDoorT4
import Derived.Test.YtbomhpfckplgaaaDoorT5
import Derived.Test.YtbomhpfckplgaaaDoorT6
namespace Go.Proofs.YtbomhpfckplgaaaDoor.P
open Go.RowKit Go.Proofs.YtbomhpfckplgaaaDoorW.PrintWords Go.Proofs.YtbomhpfckplgaaaDoorW.PrintLast Go.Proofs.YtbomhpfckplgaaaDoorW.PrintMore
attribute [local go_sem] max2_int min2_int max_two min_two max_three min_three max_four min_four   -- for this text's walks alone
set_option linter.unusedVariables false
set_option linter.unusedSimpArgs false
def step_at.f (l0 : List Int) (a1 : Int) : Option (Int × Int × Bool) := if 0 ≤ a1 then (if a1 ≤ (mn (wrap64 (a1 + 4)) (l0.length : Int)) then (if (mn (wrap64 (a1 + 4)) (l0.length : Int)) ≤ (l0.length : Int) then ((step_first.f (strOfNums ((l0.take ((mn (wrap64 (a1 + 4)) (l0.length : Int)) : Int).toNat).drop (a1 : Int).toNat))).bind fun bt639 => (some (bt639.1, bt639.2.1, bt639.2.2))) else (none)) else (none)) else (none)
set_option maxHeartbeats 8000000 in
set_option maxRecDepth 100000 in
theorem step_at.calls (A0 : Option Addr) (c0 : Nat) (l0 : List Int) (a1 : Int) (r1 : Int) (r2 : Int) (r3 : Bool) (w : World) (hr0 : Kd.C (Kd.int .u8) w A0 l0.length l0) (hc0 : l0.length ≤ c0) (hG : Laid w) (h : step_at.f l0 a1 = some (r1, r2, r3)) :
  Calls Tryd.prog 135 #[.slice A0 l0.length c0, .int .i64 a1] w fun e w' => e = .returned (.agg #[.int .i32 r1, .int .i64 r2, .bool r3]) ∧ Below w.heap.size w w' := by
 have hu121 := Tryd.underlying121
 have HG := Aside0.mk hG
 clear hG
 have HR0 := Aside0.mk hr0
 have HC0 := Aside0.mk hc0
 clear hr0 hc0
 have HB := Aside0.mk (Below.refl w.heap.size w)
 have H : (if 0 ≤ a1 then (if a1 ≤ (mn (wrap64 (a1 + 4)) (l0.length : Int)) then (if (mn (wrap64 (a1 + 4)) (l0.length : Int)) ≤ (l0.length : Int) then ((step_first.f (strOfNums ((l0.take ((mn (wrap64 (a1 + 4)) (l0.length : Int)) : Int).toNat).drop (a1 : Int).toNat))).bind fun bt639 => (some (bt639.1, bt639.2.1, bt639.2.2))) else (none)) else (none)) else (none)) = some (r1, r2, r3) := h
 clear h
 obtain ⟨ji3, hji3⟩ : ∃ j_ : Int, (mn (wrap64 (a1 + 4)) (l0.length : Int)) = j_ := ⟨_, rfl⟩
 replace H : (if 0 ≤ a1 then (if a1 ≤ (ji3) then (if (ji3) ≤ (l0.length : Int) then ((step_first.f (strOfNums ((l0.take ((ji3) : Int).toNat).drop (a1 : Int).toNat))).bind fun bt639 => (some (bt639.1, bt639.2.1, bt639.2.2))) else (none)) else (none)) else (none)) = some (r1, r2, r3) := by first | (rw [hji3] at H; exact H) | (simp only [hji3] at H ⊢; exact H)
 have hji3_ : (if (l0.length : Int) < (wrap64 (a1 + 4)) then (l0.length : Int) else (wrap64 (a1 + 4))) = ji3 := hji3
 by_cases c4 : 0 ≤ a1
 ·
  rw [if_pos c4] at H
  have c4b0 := eq_true c4
  have c4b1 : decide (0 ≤ a1) = true := decide_eq_true c4
  clear c4
  by_cases c5 : a1 ≤ (ji3)
  ·
   rw [if_pos c5] at H
   have c5b0 := eq_true c5
   have c5b1 : decide (a1 ≤ (ji3)) = true := decide_eq_true c5
   clear c5
   by_cases c6 : (ji3) ≤ (l0.length : Int)
   ·
    rw [if_pos c6] at H
    have c6b0 := eq_true c6
    have c6b1 : decide ((ji3) ≤ (l0.length : Int)) = true := decide_eq_true c6
    clear c6
    replace H := Option.bind_eq_some_iff.mp H
    obtain ⟨⟨t639, t640, t641⟩, A70, H⟩ := H
    replace H : (some (t639, t640, t641)) = some (r1, r2, r3) := H
    have A7 := Aside0.mk A70
    clear A70
    simp only [Option.some.injEq, Prod.mk.injEq] at H
    obtain ⟨rfl, rfl, rfl⟩ := H
    go_enter Tryd.func135, Tryd.ntmps135
    go_wp2_with (first | ((with_reducible refine gate_dst (N := 4) rfl ?_); refine box_event ?hg (N := 4) ?hd (cs := #[.int .i32 0, .int .i64 0, .bool false]) (t := 121) ?hr ?_; (case hd => rfl); (case hg => rfl); (case hr => first | (go_simp; done) | (go_simp; rfl)); intro gb637 hg w8 hbox hb; have n0_ := Aside0.mk (below_step (by repeat (first | (with_reducible first | exact HB.out | apply below_alloc | apply pw_below_drewN | apply below_drew1) | exact HB.out)) hb); have n1_ := Aside0.mk (hbox); have n2_ := Aside0.mk ((by rw [hg]; exact (below_size (by repeat (first | (with_reducible first | exact HB.out | apply below_alloc | apply pw_below_drewN | apply below_drew1) | exact HB.out))) : w.heap.size ≤ gb637)); have n3_ := Aside0.mk ((by rw [hg]; exact (below_size (by repeat (first | (with_reducible first | exact HB.out | apply below_alloc | apply pw_below_drewN | apply below_drew1) | exact HB.out))) : w.heap.size ≤ gb637)); clear HB; have HB := n0_; have BK637 := n1_; have GW637 := n2_; have GE637 := n3_; clear n0_ n1_ n2_ n3_; clear hb hbox hg; obtain ⟨i09, hi09, _, hsz9, _⟩ := info_parts info5; obtain ⟨A9, hcut9, hA9, hC9⟩ := print_mid_of (P := Tryd.prog) (Value.int .u8) 0 22 5 .i64 .i64 Tryd.underlying22 hi09 hsz9 A0 c0 l0 a1 (ji3) (of_decide_eq_true (by first | (with_reducible assumption) | assumption)) (by first | omega | exact of_decide_eq_true (by first | (with_reducible assumption) | assumption)) (of_decide_eq_true (by first | (with_reducible assumption) | assumption)) HC0.out; have HR638 := Aside0.mk (Kd.C_of_reads (h1 := fun _ => rfl) (hA9 _ (Kd.reads_of_C HR0.out))); have HC638 := Aside0.mk hC9; clear hA9 hC9 hi09 hsz9; have hcv10 := Kd.C_string (P := Tryd.prog) (A := A9) (c := (c0 - a1.toNat)) Tryd.underlying22 Tryd.underlying5 Tryd.underlying9 (Kd.C_below HR638.out HB.out)); have hlen10 : ((l0.take ((ji3) : Int).toNat).drop (a1 : Int).toNat).length = ji3.toNat - a1.toNat := (by rw [List.length_drop, List.length_take]; have := of_decide_eq_true c6b1; omega); rw [hlen10] at hcv10 hcut9; clear hlen10 | ((with_reducible refine gate_callee (f := 127) rfl ?_); refine goesL_ (some 14) rfl rfl Tryd.func127 (by kernel_rfl) rfl #[.string (strOfNums ((l0.take ((ji3) : Int).toNat).drop (a1 : Int).toNat))] rfl (by (try simp only [List.map_toArray, List.map_cons, List.map_nil]); first | done | (simp only [hji3]; rfl) | rfl | (simp only [List.length_drop, List.length_take]; rfl)) ?_; (with_reducible refine (step_first.calls (strOfNums ((l0.take ((ji3) : Int).toNat).drop (a1 : Int).toNat)) t639 t640 t641 _ ?side1 A7.out).mono ?_); (case side1 => repeat (first | exact HG.out | exact Laid.below HG.out HB.out | (with_reducible refine Laid.alloc ?_ _) | (with_reducible refine Laid.drewN ?_ _) | (with_reducible refine Laid.drew ?_))); rintro e w11 ⟨rfl, hb⟩; refine ⟨_, rfl, ?_⟩; have n0_ := Aside0.mk (blk_below (g := gb637) (o := .cells #[.int .i32 0, .int .i64 0, .bool false] 121 (0, 0)) (by (with_reducible repeat (first | refine blk_drewN ?_ _ | refine blk_drew ?_ | refine blk_alloc ?_ _)); exact BK637.out) hb); have n1_ := Aside0.mk (below_step (by repeat (first | (with_reducible first | exact HB.out | apply below_alloc | apply pw_below_drewN | apply below_drew1 | refine below_set ?_ GE637.out) | exact HB.out)) hb); clear BK637; clear HB; have BK637 := n0_; have HB := n1_; clear n0_ n1_; (try clear hb); (try clear hb2); (try clear hk); (try clear hi); have hcz12_0 : w11.cell? ⟨gb637, 0, none⟩ = some (.int .i32 0) := (blk_cell BK637.out 0).trans rfl; have hcz12_1 : w11.cell? ⟨gb637, 1, none⟩ = some (.int .i64 0) := (blk_cell BK637.out 1).trans rfl; have hcz12_2 : w11.cell? ⟨gb637, 2, none⟩ = some (.bool false) := (blk_cell BK637.out 2).trans rfl; have hfz12_0 := blk_frozen BK637.out 0; have hfz12_1 := blk_frozen BK637.out 1; have hfz12_2 := blk_frozen BK637.out 2))
    refine bodyPost_ret (results_cell_row rfl _ _ gb637 121 #[.int .i32 t639, .int .i64 t640, .bool t641] (0, 0) _ rfl (by (with_reducible repeat (first | refine blk_drewN ?_ _ | refine blk_drew ?_ | refine blk_alloc ?_ _)); refine blk_put (cs := #[.int .i32 t639, .int .i64 t640, .bool false]) ?_ 2 _ rfl; (with_reducible repeat (first | refine blk_drewN ?_ _ | refine blk_drew ?_ | refine blk_alloc ?_ _)); refine blk_put (cs := #[.int .i32 t639, .int .i64 0, .bool false]) ?_ 1 _ rfl; (with_reducible repeat (first | refine blk_drewN ?_ _ | refine blk_drew ?_ | refine blk_alloc ?_ _)); refine blk_put (cs := #[.int .i32 0, .int .i64 0, .bool false]) ?_ 0 _ rfl; (with_reducible repeat (first | refine blk_drewN ?_ _ | refine blk_drew ?_ | refine blk_alloc ?_ _)); exact BK637.out) Tryd.underlying121 rfl (by kernel_rfl)) rfl ?_
    exact ⟨by first | rfl | (simp [errW_none, errW_some] <;> rfl) | (simp only [← hji3]; first | rfl | (simp [errW_none, errW_some] <;> rfl)) | (simp [*, errW_none, errW_some] <;> rfl), by repeat (first | (with_reducible first | exact HB.out | apply below_alloc | apply pw_below_drewN | apply below_drew1 | refine below_set ?_ GE637.out) | exact HB.out)⟩
   ·
    rw [if_neg c6] at H
    exact absurd H (by simp)
  ·
   rw [if_neg c5] at H
   exact absurd H (by simp)
 ·
  rw [if_neg c4] at H
  exact absurd H (by simp)
theorem run_field121 (W : World) (a b c : Value) : (Instr.field 121 (.agg #[a, b, c]) 1).run Tryd.prog W = .ok b W := by
 have h1 := run_underlying (P := Tryd.prog) (w := W) Tryd.underlying121
 unfold Instr.field
 simp [h1, part, asAgg]
mutual
def step_inside.l0 : Nat → List Int → Int → Int → Option (Int)
 | 0, _, _, _ => none
 | k + 1, x0, x1, x5 => if x5 ≤ 3 then (step_inside.j1 k x0 x1 x5 (decide (x5 ≤ x1))) else (step_inside.j1 k x0 x1 x5 false)
def step_inside.j1 : Nat → List Int → Int → Int → Bool → Option (Int)
 | 0, _, _, _, _ => none
 | k + 1, x0, x1, x5, x12 => if x12 = true then ((step_at.f x0 (wrap64 (x1 - x5))).bind fun bt642 => (if bt642.2.1 > x5 then (some x5) else (step_inside.l0 k x0 x1 (wrap64 (x5 + 1))))) else (some 0)
end
def step_inside.f (k : Nat) (l0 : List Int) (a1 : Int) : Option (Int) := step_inside.l0 k l0 a1 1
set_option maxHeartbeats 8000000 in
set_option maxRecDepth 100000 in
theorem step_inside.calls (k : Nat) (A0 : Option Addr) (c0 : Nat) (l0 : List Int) (a1 : Int) (r : Int) (w : World) (hr0 : Kd.C (Kd.int .u8) w A0 l0.length l0) (hc0 : l0.length ≤ c0) (hG : Laid w) (h : step_inside.f k l0 a1 = some r) :
  Calls Tryd.prog 122 #[.slice A0 l0.length c0, .int .i64 a1] w fun e w' => e = .returned (.int .i64 r) ∧ Below w.heap.size w w' := by
 have hu121 := Tryd.underlying121
 have hfld := run_field121
 have HG := Aside0.mk hG
 clear hG
 have HR0 := Aside0.mk hr0
 have HC0 := Aside0.mk hc0
 clear hr0 hc0
 have HB := Aside0.mk (Below.refl w.heap.size w)
 have H : (step_inside.l0 k l0 a1 1) = some r := h
 clear h
 have H' := Aside0.mk H
 clear H
 go_enter Tryd.func122, Tryd.ntmps122
 go_wp2
 go_loopg [5] k (fun kq v5 w' => ∃ (x5_1 : Int), v5 = .int .i64 x5_1 ∧ Aside0 (step_inside.l0 kq l0 a1 x5_1 = some r) ∧ Aside0 (kq ≤ k) ∧ Aside0 (Below w.heap.size w w'))
 case atStart => exact ⟨(1), (by first | rfl | (simp; done) | (simp [*]; done)), H', ⟨Nat.le_refl _⟩, ⟨by repeat (first | (with_reducible first | exact HB.out | apply below_alloc | apply pw_below_drewN | apply below_drew1) | exact HB.out)⟩⟩
 case round =>
  clear H'
  (try clear c1); (try clear p2)
  obtain ⟨x5_1, rfl, HA, HK1, HB⟩ := hrel
  cases gk with
  | zero => exact absurd HA.out (by simp [step_inside.l0])
  | succ k1 =>
   have H := HA.out
   clear HA
   simp only [step_inside.l0] at H
   have HC3 := Aside0.mk H
   clear H
   go_upto_region 2 with (fail)
   go_cut [12] (fun v12 wc => ∃ (kq : Nat) (x12_2 : Bool), v12 = .bool x12_2 ∧ Aside0 (step_inside.j1 kq l0 a1 x5_1 x12_2 = some r) ∧ Aside0 (kq ≤ k1) ∧ Aside0 (Below w.heap.size w wc))
   case first =>
    have H := HC3.out
    clear HC3
    by_cases c4 : x5_1 ≤ 3
    ·
     rw [if_pos c4] at H
     have c4b0 : decide (x5_1 ≤ 3) = true := decide_eq_true c4
     clear c4
     (first | rw [c4b0] | (simp only [i64_w, i32_w]; rw [c4b0]) | skip)
     have H' := Aside0.mk H
     clear H
     go_wp2
     go_meet
     case rel => exact ⟨_, (decide (x5_1 ≤ a1)), (by first | rfl | (simp; done) | (simp [*]; done)), H', ⟨by have := HK1.out; first | omega | exact Nat.le_refl _⟩, ⟨by repeat (first | (with_reducible first | exact HB.out | apply below_alloc | apply pw_below_drewN | apply below_drew1) | exact HB.out)⟩⟩
    ·
     rw [if_neg c4] at H
     have c4b0 : decide (x5_1 ≤ 3) = false := decide_eq_false c4
     clear c4
     (first | rw [c4b0] | (simp only [i64_w, i32_w]; rw [c4b0]) | skip)
     have H' := Aside0.mk H
     clear H
     go_wp2
     go_meet
     case rel => exact ⟨_, (false), (by first | rfl | (simp; done) | (simp [*]; done)), H', ⟨by have := HK1.out; first | omega | exact Nat.le_refl _⟩, ⟨by repeat (first | (with_reducible first | exact HB.out | apply below_alloc | apply pw_below_drewN | apply below_drew1) | exact HB.out)⟩⟩
   case rest =>
    clear HC3
    (try clear c1); (try clear p2); (try clear c4); (try clear c4b0)
    obtain ⟨kq, x12_2, rfl, HA, HJ2, HB⟩ := hcut
    cases kq with
    | zero => exact absurd HA.out (by simp [step_inside.j1])
    | succ kj2 =>
     have H := HA.out
     clear HA
     simp only [step_inside.j1] at H
     by_cases c5 : x12_2 = true
     ·
      subst c5
      have H1 : ((step_at.f l0 (wrap64 (a1 - x5_1))).bind fun bt642 => (if bt642.2.1 > x5_1 then (some x5_1) else (step_inside.l0 kj2 l0 a1 (wrap64 (x5_1 + 1))))) = some r := by rw [if_pos rfl] at H; exact H
      clear H
      have H := H1
      clear H1
      replace H := Option.bind_eq_some_iff.mp H
      obtain ⟨⟨t642, t643, t644⟩, A60, H⟩ := H
      replace H : (if t643 > x5_1 then (some x5_1) else (step_inside.l0 kj2 l0 a1 (wrap64 (x5_1 + 1)))) = some r := H
      have A6 := Aside0.mk A60
      clear A60
      by_cases c7 : t643 > x5_1
      ·
       rw [if_pos c7] at H
       have c7b0 : decide (x5_1 < t643) = true := decide_eq_true c7
       clear c7
       obtain rfl := Option.some.inj H
       go_wp2_with (first | ((with_reducible refine gate_callee (f := 135) rfl ?_); refine goesL_ (some 19) rfl rfl Tryd.func135 (by kernel_rfl) rfl #[.slice A0 l0.length c0, .int .i64 (wrap64 (a1 - x5_1))] rfl (by (try simp only [List.map_toArray, List.map_cons, List.map_nil]); first | done | rfl | (simp only [List.length_drop, List.length_take]; rfl)) ?_; (with_reducible refine (step_at.calls _ _ l0 (wrap64 (a1 - x5_1)) t642 t643 t644 _ ?side1 ?side2 ?side3 A6.out).mono ?_); (case side1 => repeat (first | exact (Kd.C_below HR0.out HB.out) | (with_reducible refine Kd.C_alloc ?_ _) | (with_reducible refine Kd.C_drewN ?_ _) | (with_reducible refine Kd.C_drew ?_))); (case side2 => exact HC0.out); (case side3 => repeat (first | exact HG.out | exact Laid.below HG.out HB.out | (with_reducible refine Laid.alloc ?_ _) | (with_reducible refine Laid.drewN ?_ _) | (with_reducible refine Laid.drew ?_))); rintro e w8 ⟨rfl, hb⟩; refine ⟨_, rfl, ?_⟩; have n0_ := Aside0.mk (below_step (by repeat (first | (with_reducible first | exact HB.out | apply below_alloc | apply pw_below_drewN | apply below_drew1) | exact HB.out)) hb); clear HB; have HB := n0_; clear n0_; (try clear hb); (try clear hb2); (try clear hk); (try clear hi)))
       go_ret
       exact ⟨by first | rfl | (simp [errW_none, errW_some] <;> rfl) | (simp [*, errW_none, errW_some] <;> rfl), by repeat (first | (with_reducible first | exact HB.out | apply below_alloc | apply pw_below_drewN | apply below_drew1) | exact HB.out)⟩
      ·
       rw [if_neg c7] at H
       have c7b0 : decide (x5_1 < t643) = false := decide_eq_false c7
       clear c7
       have H' := Aside0.mk H
       clear H
       go_wp2_with (first | ((with_reducible refine gate_callee (f := 135) rfl ?_); refine goesL_ (some 19) rfl rfl Tryd.func135 (by kernel_rfl) rfl #[.slice A0 l0.length c0, .int .i64 (wrap64 (a1 - x5_1))] rfl (by (try simp only [List.map_toArray, List.map_cons, List.map_nil]); first | done | rfl | (simp only [List.length_drop, List.length_take]; rfl)) ?_; (with_reducible refine (step_at.calls _ _ l0 (wrap64 (a1 - x5_1)) t642 t643 t644 _ ?side1 ?side2 ?side3 A6.out).mono ?_); (case side1 => repeat (first | exact (Kd.C_below HR0.out HB.out) | (with_reducible refine Kd.C_alloc ?_ _) | (with_reducible refine Kd.C_drewN ?_ _) | (with_reducible refine Kd.C_drew ?_))); (case side2 => exact HC0.out); (case side3 => repeat (first | exact HG.out | exact Laid.below HG.out HB.out | (with_reducible refine Laid.alloc ?_ _) | (with_reducible refine Laid.drewN ?_ _) | (with_reducible refine Laid.drew ?_))); rintro e w9 ⟨rfl, hb⟩; refine ⟨_, rfl, ?_⟩; have n0_ := Aside0.mk (below_step (by repeat (first | (with_reducible first | exact HB.out | apply below_alloc | apply pw_below_drewN | apply below_drew1) | exact HB.out)) hb); clear HB; have HB := n0_; clear n0_; (try clear hb); (try clear hb2); (try clear hk); (try clear hi)))
       go_roundg kj2
       case measure => have := HK1.out; have := HJ2.out; omega
       case rel => exact ⟨(wrap64 (x5_1 + 1)), (by first | rfl | (simp; done) | (simp [*]; done)), H', ⟨by have := HK1.out; have := HJ2.out; omega⟩, ⟨by repeat (first | (with_reducible first | exact HB.out | apply below_alloc | apply pw_below_drewN | apply below_drew1) | exact HB.out)⟩⟩
     ·
      replace c5 := Bool.eq_false_iff.mpr c5
      subst c5
      have H1 : (some 0) = some r := by rw [if_neg (show ¬ (false = true) by decide)] at H; exact H
      clear H
      have H := H1
      clear H1
      obtain rfl := Option.some.inj H
      go_wp2
      go_ret
      exact ⟨by first | rfl | (simp [errW_none, errW_some] <;> rfl) | (simp [*, errW_none, errW_some] <;> rfl), by repeat (first | (with_reducible first | exact HB.out | apply below_alloc | apply pw_below_drewN | apply below_drew1) | exact HB.out)⟩
def step_Floor.f (k : Nat) (l0 : List Int) (a1 : Int) : Option (Int × Int) := if a1 < 0 then (some (0, 2)) else (if a1 > (l0.length : Int) then (some (0, 2)) else ((step_inside.f k l0 a1).bind fun t645 => (some (wrap64 (a1 - t645), 0))))
set_option maxHeartbeats 8000000 in
set_option maxRecDepth 100000 in
theorem step_Floor.calls (k : Nat) (A0 : Option Addr) (c0 : Nat) (l0 : List Int) (a1 : Int) (r1 : Int) (r2 : Int) (w : World) (hr0 : Kd.C (Kd.int .u8) w A0 l0.length l0) (hc0 : l0.length ≤ c0) (hG : Laid w) (h : step_Floor.f k l0 a1 = some (r1, r2)) :
  Calls Tryd.prog 101 #[.slice A0 l0.length c0, .int .i64 a1] w fun e w' => e = .returned (.tuple #[.int .i64 r1, .int .i64 r2]) ∧ Below w.heap.size w w' := by
 have HG := Aside0.mk hG
 clear hG
 have HR0 := Aside0.mk hr0
 have HC0 := Aside0.mk hc0
 clear hr0 hc0
 have HB := Aside0.mk (Below.refl w.heap.size w)
 have H : (if a1 < 0 then (some (0, 2)) else (if a1 > (l0.length : Int) then (some (0, 2)) else ((step_inside.f k l0 a1).bind fun t645 => (some (wrap64 (a1 - t645), 0))))) = some (r1, r2) := h
 clear h
 by_cases c3 : a1 < 0
 ·
  rw [if_pos c3] at H
  have c3b0 : decide (a1 < 0) = true := decide_eq_true c3
  clear c3
  simp only [Option.some.injEq, Prod.mk.injEq] at H
  obtain ⟨rfl, rfl⟩ := H
  go_enter Tryd.func101, Tryd.ntmps101
  go_wp2
  go_ret2
  exact ⟨by first | rfl | (simp [errW_none, errW_some] <;> rfl) | (simp [*, errW_none, errW_some] <;> rfl), by repeat (first | (with_reducible first | exact HB.out | apply below_alloc | apply pw_below_drewN | apply below_drew1) | exact HB.out)⟩
 ·
  rw [if_neg c3] at H
  have c3b0 : decide (a1 < 0) = false := decide_eq_false c3
  clear c3
  by_cases c4 : a1 > (l0.length : Int)
  ·
   rw [if_pos c4] at H
   have c4b0 : decide ((l0.length : Int) < a1) = true := decide_eq_true c4
   clear c4
   simp only [Option.some.injEq, Prod.mk.injEq] at H
   obtain ⟨rfl, rfl⟩ := H
   go_enter Tryd.func101, Tryd.ntmps101
   go_wp2
   go_ret2
   exact ⟨by first | rfl | (simp [errW_none, errW_some] <;> rfl) | (simp [*, errW_none, errW_some] <;> rfl), by repeat (first | (with_reducible first | exact HB.out | apply below_alloc | apply pw_below_drewN | apply below_drew1) | exact HB.out)⟩
  ·
   rw [if_neg c4] at H
   have c4b0 : decide ((l0.length : Int) < a1) = false := decide_eq_false c4
   clear c4
   replace H := Option.bind_eq_some_iff.mp H
   obtain ⟨t645, A50, H⟩ := H
   replace H : (some (wrap64 (a1 - t645), 0)) = some (r1, r2) := H
   have A5 := Aside0.mk A50
   clear A50
   simp only [Option.some.injEq, Prod.mk.injEq] at H
   obtain ⟨rfl, rfl⟩ := H
   go_enter Tryd.func101, Tryd.ntmps101
   go_wp2_with (first | ((with_reducible refine gate_callee (f := 122) rfl ?_); refine goesL_ (some 17) rfl rfl Tryd.func122 (by kernel_rfl) rfl #[.slice A0 l0.length c0, .int .i64 a1] rfl (by (try simp only [List.map_toArray, List.map_cons, List.map_nil]); first | done | rfl | (simp only [List.length_drop, List.length_take]; rfl)) ?_; (with_reducible refine (step_inside.calls k _ _ l0 a1 t645 _ ?side1 ?side2 ?side3 A5.out).mono ?_); (case side1 => repeat (first | exact HR0.out | (with_reducible refine Kd.C_alloc ?_ _) | (with_reducible refine Kd.C_drewN ?_ _) | (with_reducible refine Kd.C_drew ?_))); (case side2 => exact HC0.out); (case side3 => repeat (first | exact HG.out | exact Laid.below HG.out HB.out | (with_reducible refine Laid.alloc ?_ _) | (with_reducible refine Laid.drewN ?_ _) | (with_reducible refine Laid.drew ?_))); rintro e w6 ⟨rfl, hb⟩; refine ⟨_, rfl, ?_⟩; have n0_ := Aside0.mk (below_step (by repeat (first | (with_reducible first | exact HB.out | apply below_alloc | apply pw_below_drewN | apply below_drew1) | exact HB.out)) hb); clear HB; have HB := n0_; clear n0_; (try clear hb); (try clear hb2); (try clear hk); (try clear hi)))
   go_ret2
   exact ⟨by first | rfl | (simp [errW_none, errW_some] <;> rfl) | (simp [*, errW_none, errW_some] <;> rfl), by repeat (first | (with_reducible first | exact HB.out | apply below_alloc | apply pw_below_drewN | apply below_drew1) | exact HB.out)⟩
end Go.Proofs.YtbomhpfckplgaaaDoor.P
namespace Go.Proofs.YtbomhpfckplgaaaDoor.P
open Go.RowKit Go.Proofs.YtbomhpfckplgaaaDoorW.PrintWords Go.Proofs.YtbomhpfckplgaaaDoorW.PrintLast Go.Proofs.YtbomhpfckplgaaaDoorW.PrintMore
attribute [local go_sem] max2_int min2_int max_two min_two max_three min_three max_four min_four   -- for this text's walks alone
set_option linter.unusedVariables false
set_option linter.unusedSimpArgs false
def step_Edge.f (k : Nat) (l0 : List Int) (a1 : Int) : Option (Bool) := (step_Floor.f k l0 a1).bind fun bt646 => (if bt646.2 = 0 then (some (bt646.1 == a1)) else (some false))
set_option maxHeartbeats 8000000 in
set_option maxRecDepth 100000 in
theorem step_Edge.calls (k : Nat) (A0 : Option Addr) (c0 : Nat) (l0 : List Int) (a1 : Int) (r : Bool) (w : World) (hr0 : Kd.C (Kd.int .u8) w A0 l0.length l0) (hc0 : l0.length ≤ c0) (hG : Laid w) (h : step_Edge.f k l0 a1 = some r) :
  Calls Tryd.prog 55 #[.slice A0 l0.length c0, .int .i64 a1] w fun e w' => e = .returned (.bool r) ∧ Below w.heap.size w w' := by
 have HG := Aside0.mk hG
 clear hG
 have HR0 := Aside0.mk hr0
 have HC0 := Aside0.mk hc0
 clear hr0 hc0
 have HB := Aside0.mk (Below.refl w.heap.size w)
 have H : ((step_Floor.f k l0 a1).bind fun bt646 => (if bt646.2 = 0 then (some (bt646.1 == a1)) else (some false))) = some r := h
 clear h
 replace H := Option.bind_eq_some_iff.mp H
 obtain ⟨⟨t646, t647⟩, A30, H⟩ := H
 replace H : (if t647 = 0 then (some (t646 == a1)) else (some false)) = some r := H
 have A3 := Aside0.mk A30
 clear A30
 by_cases c4 : t647 = 0
 ·
  rw [if_pos c4] at H
  have c4b0 : (t647 == 0) = true := beq_iff_eq.mpr c4
  have c4b1 : (t647 != 0) = false := bne_eq_false_iff_eq.mpr c4
  clear c4
  obtain rfl := Option.some.inj H
  go_enter Tryd.func55, Tryd.ntmps55
  go_wp2_with (first | ((with_reducible refine gate_callee (f := 101) rfl ?_); refine goesL_ (some 10) rfl rfl Tryd.func101 (by kernel_rfl) rfl #[.slice A0 l0.length c0, .int .i64 a1] rfl (by (try simp only [List.map_toArray, List.map_cons, List.map_nil]); first | done | rfl | (simp only [List.length_drop, List.length_take]; rfl)) ?_; (with_reducible refine (step_Floor.calls k _ _ l0 a1 t646 t647 _ ?side1 ?side2 ?side3 A3.out).mono ?_); (case side1 => repeat (first | exact HR0.out | (with_reducible refine Kd.C_alloc ?_ _) | (with_reducible refine Kd.C_drewN ?_ _) | (with_reducible refine Kd.C_drew ?_))); (case side2 => exact HC0.out); (case side3 => repeat (first | exact HG.out | exact Laid.below HG.out HB.out | (with_reducible refine Laid.alloc ?_ _) | (with_reducible refine Laid.drewN ?_ _) | (with_reducible refine Laid.drew ?_))); rintro e w5 ⟨rfl, hb⟩; refine ⟨_, rfl, ?_⟩; have n0_ := Aside0.mk (below_step (by repeat (first | (with_reducible first | exact HB.out | apply below_alloc | apply pw_below_drewN | apply below_drew1) | exact HB.out)) hb); clear HB; have HB := n0_; clear n0_; (try clear hb); (try clear hb2); (try clear hk); (try clear hi)))
  go_ret
  exact ⟨by first | rfl | (simp [errW_none, errW_some] <;> rfl) | (simp [*, errW_none, errW_some] <;> rfl), by repeat (first | (with_reducible first | exact HB.out | apply below_alloc | apply pw_below_drewN | apply below_drew1) | exact HB.out)⟩
 ·
  rw [if_neg c4] at H
  have c4b0 : (t647 == 0) = false := beq_eq_false_iff_ne.mpr c4
  have c4b1 : (t647 != 0) = true := bne_iff_ne.mpr c4
  obtain rfl := Option.some.inj H
  go_enter Tryd.func55, Tryd.ntmps55
  go_wp2_with (first | ((with_reducible refine gate_callee (f := 101) rfl ?_); refine goesL_ (some 10) rfl rfl Tryd.func101 (by kernel_rfl) rfl #[.slice A0 l0.length c0, .int .i64 a1] rfl (by (try simp only [List.map_toArray, List.map_cons, List.map_nil]); first | done | rfl | (simp only [List.length_drop, List.length_take]; rfl)) ?_; (with_reducible refine (step_Floor.calls k _ _ l0 a1 t646 t647 _ ?side1 ?side2 ?side3 A3.out).mono ?_); (case side1 => repeat (first | exact HR0.out | (with_reducible refine Kd.C_alloc ?_ _) | (with_reducible refine Kd.C_drewN ?_ _) | (with_reducible refine Kd.C_drew ?_))); (case side2 => exact HC0.out); (case side3 => repeat (first | exact HG.out | exact Laid.below HG.out HB.out | (with_reducible refine Laid.alloc ?_ _) | (with_reducible refine Laid.drewN ?_ _) | (with_reducible refine Laid.drew ?_))); rintro e w6 ⟨rfl, hb⟩; refine ⟨_, rfl, ?_⟩; have n0_ := Aside0.mk (below_step (by repeat (first | (with_reducible first | exact HB.out | apply below_alloc | apply pw_below_drewN | apply below_drew1) | exact HB.out)) hb); clear HB; have HB := n0_; clear n0_; (try clear hb); (try clear hb2); (try clear hk); (try clear hi)))
  go_ret
  exact ⟨by first | rfl | (simp [errW_none, errW_some] <;> rfl) | (simp [*, errW_none, errW_some] <;> rfl), by repeat (first | (with_reducible first | exact HB.out | apply below_alloc | apply pw_below_drewN | apply below_drew1) | exact HB.out)⟩
end Go.Proofs.YtbomhpfckplgaaaDoor.P
namespace Go.Proofs.YtbomhpfckplgaaaDoor.P
open Go.RowKit Go.Proofs.YtbomhpfckplgaaaDoorW.PrintWords Go.Proofs.YtbomhpfckplgaaaDoorW.PrintLast Go.Proofs.YtbomhpfckplgaaaDoorW.PrintMore
attribute [local go_sem] max2_int min2_int max_two min_two max_three min_three max_four min_four   -- for this text's walks alone
set_option linter.unusedVariables false
set_option linter.unusedSimpArgs false
theorem isEmpty_not (l : List UInt8) : l.isEmpty = !(l != []) := by cases l <;> rfl
mutual
def delta_Valid.l0 : Nat → List (S102) → List (S102) → Int → Int → Option (Bool)
 | 0, _, _, _, _ => none
 | k + 1, x0, x8, x9, x10 => if x10 < x9 then (if 0 ≤ x10 then (if x10 < (x8.length : Int) then (if ((rd_T102 x8 x10).f0) = 1 then (delta_Valid.j1 k x0 x10 x8 x9 x10 ((rd_T102 x8 x10).f0) (((rd_T102 x8 x10).f0) == 1) ((rd_T102 x8 x10).f0) ((rd_T102 x8 x10).f1) ((rd_T102 x8 x10).f2)) else (delta_Valid.j1 k x0 x10 x8 x9 x10 ((rd_T102 x8 x10).f0) (((rd_T102 x8 x10).f0) == 3) ((rd_T102 x8 x10).f0) ((rd_T102 x8 x10).f1) ((rd_T102 x8 x10).f2))) else (none)) else (none)) else ((delta_lens.f k x0).bind fun bt103 => (some bt103.2.2))
def delta_Valid.j1 : Nat → List (S102) → Int → List (S102) → Int → Int → Int → Bool → Int → Int → ByteArray → Option (Bool)
 | 0, _, _, _, _, _, _, _, _, _, _ => none
 | k + 1, x0, x3, x8, x9, x10, x16, x17, x108000, x108001, x108002 => if x17 = true then (if x108001 < 1 then (delta_Valid.j2 k x0 x3 x8 x9 x10 true x108000 x108001 x108002) else (delta_Valid.j2 k x0 x3 x8 x9 x10 (x108002.toList != ([] : List UInt8)) x108000 x108001 x108002)) else (if x16 = 2 then (if x108001 = 0 then (delta_Valid.j3 k x0 x3 x8 x9 x10 (x108002.toList == ([] : List UInt8)) x108000 x108001 x108002) else (delta_Valid.j3 k x0 x3 x8 x9 x10 true x108000 x108001 x108002)) else (some false))
def delta_Valid.j2 : Nat → List (S102) → Int → List (S102) → Int → Int → Bool → Int → Int → ByteArray → Option (Bool)
 | 0, _, _, _, _, _, _, _, _, _ => none
 | k + 1, x0, x3, x8, x9, x10, x27, x108000, x108001, x108002 => if x27 = true then (some false) else (if x3 > 0 then (if 0 ≤ (wrap64 (x3 - 1)) then (if (wrap64 (x3 - 1)) < (x0.length : Int) then (if ((rd_T102 x0 (wrap64 (x3 - 1))).f0) = x108000 then (some false) else (if ((rd_T102 x0 (wrap64 (x3 - 1))).f0) = 3 then (if x108000 = 2 then (some false) else (delta_Valid.l0 k x0 x8 x9 (wrap64 (x10 + 1)))) else (delta_Valid.l0 k x0 x8 x9 (wrap64 (x10 + 1))))) else (none)) else (none)) else (delta_Valid.l0 k x0 x8 x9 (wrap64 (x10 + 1))))
def delta_Valid.j3 : Nat → List (S102) → Int → List (S102) → Int → Int → Bool → Int → Int → ByteArray → Option (Bool)
 | 0, _, _, _, _, _, _, _, _, _ => none
 | k + 1, x0, x3, x8, x9, x10, x37, x108000, x108001, x108002 => if x37 = true then (some false) else (if x3 > 0 then (if 0 ≤ (wrap64 (x3 - 1)) then (if (wrap64 (x3 - 1)) < (x0.length : Int) then (if ((rd_T102 x0 (wrap64 (x3 - 1))).f0) = x108000 then (some false) else (if ((rd_T102 x0 (wrap64 (x3 - 1))).f0) = 3 then (if x108000 = 2 then (some false) else (delta_Valid.l0 k x0 x8 x9 (wrap64 (x10 + 1)))) else (delta_Valid.l0 k x0 x8 x9 (wrap64 (x10 + 1))))) else (none)) else (none)) else (delta_Valid.l0 k x0 x8 x9 (wrap64 (x10 + 1))))
end
def delta_Valid.f (k : Nat) (l0 : List (S102)) : Option (Bool) := delta_Valid.l0 k l0 l0 (l0.length : Int) 0
set_option maxHeartbeats 8000000 in
set_option maxRecDepth 100000 in
theorem delta_Valid.calls (k : Nat) (A0 : Option Addr) (c0 : Nat) (l0 : List (S102)) (r : Bool) (w : World) (hr0 : Kd.C k102 w A0 l0.length l0) (hc0 : l0.length ≤ c0) (h : delta_Valid.f k l0 = some r) :
  Calls Tryd.prog 92 #[.slice A0 l0.length c0] w fun e w' => e = .returned (.bool r) ∧ Below w.heap.size w w' := by
 have hu102 := Tryd.underlying102
 have HR0 := Aside0.mk hr0
 have HC0 := Aside0.mk hc0
 clear hr0 hc0
 have HB := Aside0.mk (Below.refl w.heap.size w)
 have H : (delta_Valid.l0 k l0 l0 (l0.length : Int) 0) = some r := h
 clear h
 have H' := Aside0.mk H
 clear H
 go_enter Tryd.func92, Tryd.ntmps92
 go_wp2
 repeat (go_quiet (fail); try go_wp2)
 go_loopg [10] k (fun kq v10 w' => ∃ (x10_1 : Int), v10 = .int .i64 x10_1 ∧ Aside0 (delta_Valid.l0 kq l0 l0 (l0.length : Int) x10_1 = some r) ∧ Aside0 (kq ≤ k) ∧ Aside0 (Below w.heap.size w w'))
 case atStart => exact ⟨(0), (by first | rfl | (simp; done) | (simp [*]; done)), H', ⟨Nat.le_refl _⟩, ⟨by repeat (first | (with_reducible first | exact HB.out | apply below_alloc | apply pw_below_drewN | apply below_drew1) | exact HB.out)⟩⟩
 case round =>
  clear H'
  obtain ⟨x10_1, rfl, HA, HK1, HB⟩ := hrel
  cases gk with
  | zero => exact absurd HA.out (by simp [delta_Valid.l0])
  | succ k1 =>
   have H := HA.out
   clear HA
   simp only [delta_Valid.l0] at H
   by_cases c2 : x10_1 < (l0.length : Int)
   ·
    rw [if_pos c2] at H
    have c2b0 : decide (x10_1 < (l0.length : Int)) = true := decide_eq_true c2
    clear c2
    by_cases c3 : 0 ≤ x10_1
    ·
     rw [if_pos c3] at H
     have c3b0 : decide (0 ≤ x10_1) = true := decide_eq_true c3
     clear c3
     by_cases c4 : x10_1 < (l0.length : Int)
     ·
      rw [if_pos c4] at H
      have c4b0 : decide (x10_1 < (l0.length : Int)) = true := decide_eq_true c4
      clear c4
      have HC5 := Aside0.mk H
      clear H
      have p106 : 0 ≤ (x10_1 : Int) := of_decide_eq_true (by first | (with_reducible assumption) | assumption)
      have q106 : x10_1 < (l0.length : Int) := of_decide_eq_true (by first | (with_reducible assumption) | assumption)
      obtain ⟨ad106, e106, hx106_0, hx106_1, hx106_2⟩ := at_T102 HR0.out x10_1 p106 q106
      cases e106
      replace hx106_0 := (HB.out.cell (World.block_lt_of_cell? w _ hx106_0)).trans hx106_0
      replace hx106_1 := (HB.out.cell (World.block_lt_of_cell? w _ hx106_1)).trans hx106_1
      replace hx106_2 := (HB.out.cell (World.block_lt_of_cell? w _ hx106_2)).trans hx106_2
      replace p106 := eq_true p106
      replace q106 := eq_true q106
      go_upto_if 17 with (first | ((with_reducible refine gate_dst (N := 4) rfl ?_); refine box_event ?hg (N := 4) ?hd (cs := #[.int .i64 0, .int .i64 0, .string (⟨#[]⟩ : ByteArray)]) (t := 102) ?hr ?_; (case hd => rfl); (case hg => rfl); (case hr => first | (go_simp; done) | (go_simp; rfl)); intro gb107 hg w6 hbox hb; have n0_ := Aside0.mk (below_step (by repeat (first | (with_reducible first | exact HB.out | apply below_alloc | apply pw_below_drewN | apply below_drew1) | exact HB.out)) hb); have n1_ := Aside0.mk (hbox); have n2_ := Aside0.mk ((by rw [hg]; exact (below_size (by repeat (first | (with_reducible first | exact HB.out | apply below_alloc | apply pw_below_drewN | apply below_drew1) | exact HB.out))) : w.heap.size ≤ gb107)); have n3_ := Aside0.mk ((by rw [hg]; exact (below_size (by repeat (first | (with_reducible first | exact HB.out | apply below_alloc | apply pw_below_drewN | apply below_drew1) | exact HB.out))) : w.heap.size ≤ gb107)); clear HB; have HB := n0_; have BK107 := n1_; have GW107 := n2_; have GE107 := n3_; clear n0_ n1_ n2_ n3_; clear hb hbox hg; have hcz7_0 : w6.cell? ⟨gb107, 0, none⟩ = some (.int .i64 0) := (blk_cell BK107.out 0).trans rfl; have hcz7_1 : w6.cell? ⟨gb107, 1, none⟩ = some (.int .i64 0) := (blk_cell BK107.out 1).trans rfl; have hcz7_2 : w6.cell? ⟨gb107, 2, none⟩ = some (.string (⟨#[]⟩ : ByteArray)) := (blk_cell BK107.out 2).trans rfl; have hfz7_0 := blk_frozen BK107.out 0; have hfz7_1 := blk_frozen BK107.out 1; have hfz7_2 := blk_frozen BK107.out 2))
      repeat (go_quiet (first | ((with_reducible refine gate_dst (N := 4) rfl ?_); refine box_event ?hg (N := 4) ?hd (cs := #[.int .i64 0, .int .i64 0, .string (⟨#[]⟩ : ByteArray)]) (t := 102) ?hr ?_; (case hd => rfl); (case hg => rfl); (case hr => first | (go_simp; done) | (go_simp; rfl)); intro gb107 hg w6 hbox hb; have n0_ := Aside0.mk (below_step (by repeat (first | (with_reducible first | exact HB.out | apply below_alloc | apply pw_below_drewN | apply below_drew1) | exact HB.out)) hb); have n1_ := Aside0.mk (hbox); have n2_ := Aside0.mk ((by rw [hg]; exact (below_size (by repeat (first | (with_reducible first | exact HB.out | apply below_alloc | apply pw_below_drewN | apply below_drew1) | exact HB.out))) : w.heap.size ≤ gb107)); have n3_ := Aside0.mk ((by rw [hg]; exact (below_size (by repeat (first | (with_reducible first | exact HB.out | apply below_alloc | apply pw_below_drewN | apply below_drew1) | exact HB.out))) : w.heap.size ≤ gb107)); clear HB; have HB := n0_; have BK107 := n1_; have GW107 := n2_; have GE107 := n3_; clear n0_ n1_ n2_ n3_; clear hb hbox hg; have hcz7_0 : w6.cell? ⟨gb107, 0, none⟩ = some (.int .i64 0) := (blk_cell BK107.out 0).trans rfl; have hcz7_1 : w6.cell? ⟨gb107, 1, none⟩ = some (.int .i64 0) := (blk_cell BK107.out 1).trans rfl; have hcz7_2 : w6.cell? ⟨gb107, 2, none⟩ = some (.string (⟨#[]⟩ : ByteArray)) := (blk_cell BK107.out 2).trans rfl; have hfz7_0 := blk_frozen BK107.out 0; have hfz7_1 := blk_frozen BK107.out 1; have hfz7_2 := blk_frozen BK107.out 2)); go_upto_if 17 with (first | ((with_reducible refine gate_dst (N := 4) rfl ?_); refine box_event ?hg (N := 4) ?hd (cs := #[.int .i64 0, .int .i64 0, .string (⟨#[]⟩ : ByteArray)]) (t := 102) ?hr ?_; (case hd => rfl); (case hg => rfl); (case hr => first | (go_simp; done) | (go_simp; rfl)); intro gb107 hg w6 hbox hb; have n0_ := Aside0.mk (below_step (by repeat (first | (with_reducible first | exact HB.out | apply below_alloc | apply pw_below_drewN | apply below_drew1) | exact HB.out)) hb); have n1_ := Aside0.mk (hbox); have n2_ := Aside0.mk ((by rw [hg]; exact (below_size (by repeat (first | (with_reducible first | exact HB.out | apply below_alloc | apply pw_below_drewN | apply below_drew1) | exact HB.out))) : w.heap.size ≤ gb107)); have n3_ := Aside0.mk ((by rw [hg]; exact (below_size (by repeat (first | (with_reducible first | exact HB.out | apply below_alloc | apply pw_below_drewN | apply below_drew1) | exact HB.out))) : w.heap.size ≤ gb107)); clear HB; have HB := n0_; have BK107 := n1_; have GW107 := n2_; have GE107 := n3_; clear n0_ n1_ n2_ n3_; clear hb hbox hg; have hcz7_0 : w6.cell? ⟨gb107, 0, none⟩ = some (.int .i64 0) := (blk_cell BK107.out 0).trans rfl; have hcz7_1 : w6.cell? ⟨gb107, 1, none⟩ = some (.int .i64 0) := (blk_cell BK107.out 1).trans rfl; have hcz7_2 : w6.cell? ⟨gb107, 2, none⟩ = some (.string (⟨#[]⟩ : ByteArray)) := (blk_cell BK107.out 2).trans rfl; have hfz7_0 := blk_frozen BK107.out 0; have hfz7_1 := blk_frozen BK107.out 1; have hfz7_2 := blk_frozen BK107.out 2)))
      (try simp only [Act.put, List.setIfInBounds_toArray, List.set_cons_zero, List.set_cons_succ])
      go_cut [17] (fun v17 wc => ∃ (kq : Nat) (x17_4 : Bool), v17 = .bool x17_4 ∧ Aside0 (delta_Valid.j1 kq l0 x10_1 l0 (l0.length : Int) x10_1 ((rd_T102 l0 x10_1).f0) x17_4 ((rd_T102 l0 x10_1).f0) ((rd_T102 l0 x10_1).f1) ((rd_T102 l0 x10_1).f2) = some r) ∧ Aside0 (kq ≤ k1) ∧ Aside0 (wc.heap[gb107]? = some (.cells #[.int .i64 ((rd_T102 l0 x10_1).f0), .int .i64 ((rd_T102 l0 x10_1).f1), .string ((rd_T102 l0 x10_1).f2)] 102 (0, 0))) ∧ Aside0 (Below w.heap.size w wc))
      case first =>
       have H := HC5.out
       clear HC5
       by_cases c8 : ((rd_T102 l0 x10_1).f0) = 1
       ·
        rw [if_pos c8] at H
        have c8b0 : (((rd_T102 l0 x10_1).f0) == 1) = true := beq_iff_eq.mpr c8
        have c8b1 : (((rd_T102 l0 x10_1).f0) != 1) = false := bne_eq_false_iff_eq.mpr c8
        clear c8
        (first | rw [c8b0] | (simp only [i64_w, i32_w]; rw [c8b0]) | skip)
        have H' := Aside0.mk H
        clear H
        go_wp2
        repeat (go_quiet (fail); try go_wp2)
        go_meet
        case rel => exact ⟨_, ((((rd_T102 l0 x10_1).f0) == 1)), (by first | rfl | (simp; done) | (simp [*]; done)), H', ⟨by have := HK1.out; first | omega | exact Nat.le_refl _⟩, ⟨by (with_reducible repeat (first | refine blk_drewN ?_ _ | refine blk_drew ?_ | refine blk_alloc ?_ _)); refine blk_put (cs := #[.int .i64 ((rd_T102 l0 x10_1).f0), .int .i64 ((rd_T102 l0 x10_1).f1), .string (⟨#[]⟩ : ByteArray)]) ?_ 2 _ rfl; (with_reducible repeat (first | refine blk_drewN ?_ _ | refine blk_drew ?_ | refine blk_alloc ?_ _)); refine blk_put (cs := #[.int .i64 ((rd_T102 l0 x10_1).f0), .int .i64 0, .string (⟨#[]⟩ : ByteArray)]) ?_ 1 _ rfl; (with_reducible repeat (first | refine blk_drewN ?_ _ | refine blk_drew ?_ | refine blk_alloc ?_ _)); refine blk_put (cs := #[.int .i64 0, .int .i64 0, .string (⟨#[]⟩ : ByteArray)]) ?_ 0 _ rfl; (with_reducible repeat (first | refine blk_drewN ?_ _ | refine blk_drew ?_ | refine blk_alloc ?_ _)); exact BK107.out⟩, ⟨by repeat (first | (with_reducible first | exact HB.out | apply below_alloc | apply pw_below_drewN | apply below_drew1 | refine below_set ?_ GE107.out) | exact HB.out)⟩⟩
       ·
        rw [if_neg c8] at H
        have c8b0 : (((rd_T102 l0 x10_1).f0) == 1) = false := beq_eq_false_iff_ne.mpr c8
        have c8b1 : (((rd_T102 l0 x10_1).f0) != 1) = true := bne_iff_ne.mpr c8
        (first | rw [c8b0] | (simp only [i64_w, i32_w]; rw [c8b0]) | skip)
        have H' := Aside0.mk H
        clear H
        go_wp2
        repeat (go_quiet (fail); try go_wp2)
        go_meet
        case rel => exact ⟨_, ((((rd_T102 l0 x10_1).f0) == 3)), (by first | rfl | (simp; done) | (simp [*]; done)), H', ⟨by have := HK1.out; first | omega | exact Nat.le_refl _⟩, ⟨by (with_reducible repeat (first | refine blk_drewN ?_ _ | refine blk_drew ?_ | refine blk_alloc ?_ _)); refine blk_put (cs := #[.int .i64 ((rd_T102 l0 x10_1).f0), .int .i64 ((rd_T102 l0 x10_1).f1), .string (⟨#[]⟩ : ByteArray)]) ?_ 2 _ rfl; (with_reducible repeat (first | refine blk_drewN ?_ _ | refine blk_drew ?_ | refine blk_alloc ?_ _)); refine blk_put (cs := #[.int .i64 ((rd_T102 l0 x10_1).f0), .int .i64 0, .string (⟨#[]⟩ : ByteArray)]) ?_ 1 _ rfl; (with_reducible repeat (first | refine blk_drewN ?_ _ | refine blk_drew ?_ | refine blk_alloc ?_ _)); refine blk_put (cs := #[.int .i64 0, .int .i64 0, .string (⟨#[]⟩ : ByteArray)]) ?_ 0 _ rfl; (with_reducible repeat (first | refine blk_drewN ?_ _ | refine blk_drew ?_ | refine blk_alloc ?_ _)); exact BK107.out⟩, ⟨by repeat (first | (with_reducible first | exact HB.out | apply below_alloc | apply pw_below_drewN | apply below_drew1 | refine below_set ?_ GE107.out) | exact HB.out)⟩⟩
      case rest =>
       clear HC5
       (try clear p1); (try clear q1); (try clear hx1); (try clear c2); (try clear c2b0); (try clear p2); (try clear c3); (try clear c3b0); (try clear c4); (try clear c4b0); (try clear c8); (try clear c8b0); (try clear c8b1); (try clear hcz7_0); (try clear hcz7_1); (try clear hcz7_2); (try clear hfz7_0); (try clear hfz7_1); (try clear hfz7_2); (try clear hx106_0); (try clear hx106_1); (try clear hx106_2); (try clear p106); (try clear q106)
       obtain ⟨kq, x17_4, rfl, HA, HJ4, BK107, HB⟩ := hcut
       cases kq with
       | zero => exact absurd HA.out (by simp [delta_Valid.j1])
       | succ kj4 =>
        have H := HA.out
        clear HA
        simp only [delta_Valid.j1] at H
        by_cases c9 : x17_4 = true
        ·
         subst c9
         have H1 : (if ((rd_T102 l0 x10_1).f1) < 1 then (delta_Valid.j2 kj4 l0 x10_1 l0 (l0.length : Int) x10_1 true ((rd_T102 l0 x10_1).f0) ((rd_T102 l0 x10_1).f1) ((rd_T102 l0 x10_1).f2)) else (delta_Valid.j2 kj4 l0 x10_1 l0 (l0.length : Int) x10_1 (((rd_T102 l0 x10_1).f2).toList != ([] : List UInt8)) ((rd_T102 l0 x10_1).f0) ((rd_T102 l0 x10_1).f1) ((rd_T102 l0 x10_1).f2))) = some r := by rw [if_pos rfl] at H; exact H
         clear H
         have H := H1
         clear H1
         have HC10 := Aside0.mk H
         clear H
         go_upto_region 8 with (fail)
         repeat (go_quiet (fail); go_upto_region 8 with (fail))
         go_cut [27] (fun v27 wc => ∃ (kq : Nat) (x27_9 : Bool), v27 = .bool x27_9 ∧ Aside0 (delta_Valid.j2 kq l0 x10_1 l0 (l0.length : Int) x10_1 x27_9 ((rd_T102 l0 x10_1).f0) ((rd_T102 l0 x10_1).f1) ((rd_T102 l0 x10_1).f2) = some r) ∧ Aside0 (kq ≤ kj4) ∧ Aside0 (wc.heap[gb107]? = some (.cells #[.int .i64 ((rd_T102 l0 x10_1).f0), .int .i64 ((rd_T102 l0 x10_1).f1), .string ((rd_T102 l0 x10_1).f2)] 102 (0, 0))) ∧ Aside0 (Below w.heap.size w wc))
         case first =>
          have H := HC10.out
          clear HC10
          by_cases c11 : ((rd_T102 l0 x10_1).f1) < 1
          ·
           rw [if_pos c11] at H
           have c11b0 : decide (((rd_T102 l0 x10_1).f1) < 1) = true := decide_eq_true c11
           clear c11
           (first | rw [c11b0] | (simp only [i64_w, i32_w]; rw [c11b0]) | skip)
           have H' := Aside0.mk H
           clear H
           have hcz12_0 : wc.cell? ⟨gb107, 0, none⟩ = some (.int .i64 ((rd_T102 l0 x10_1).f0)) := (blk_cell BK107.out 0).trans rfl
           have hcz12_1 : wc.cell? ⟨gb107, 1, none⟩ = some (.int .i64 ((rd_T102 l0 x10_1).f1)) := (blk_cell BK107.out 1).trans rfl
           have hcz12_2 : wc.cell? ⟨gb107, 2, none⟩ = some (.string ((rd_T102 l0 x10_1).f2)) := (blk_cell BK107.out 2).trans rfl
           have hfz12_0 := blk_frozen BK107.out 0
           have hfz12_1 := blk_frozen BK107.out 1
           have hfz12_2 := blk_frozen BK107.out 2
           go_wp2
           repeat (go_quiet (fail); try go_wp2)
           go_meet
           case rel => exact ⟨_, (true), (by first | rfl | (simp; done) | (simp [*]; done)), H', ⟨by have := HK1.out; have := HJ4.out; first | omega | exact Nat.le_refl _⟩, ⟨by (with_reducible repeat (first | refine blk_drewN ?_ _ | refine blk_drew ?_ | refine blk_alloc ?_ _)); exact BK107.out⟩, ⟨by repeat (first | (with_reducible first | exact HB.out | apply below_alloc | apply pw_below_drewN | apply below_drew1 | refine below_set ?_ GE107.out) | exact HB.out)⟩⟩
          ·
           rw [if_neg c11] at H
           have c11b0 : decide (((rd_T102 l0 x10_1).f1) < 1) = false := decide_eq_false c11
           clear c11
           (first | rw [c11b0] | (simp only [i64_w, i32_w]; rw [c11b0]) | skip)
           have H' := Aside0.mk H
           clear H
           have hcz13_0 : wc.cell? ⟨gb107, 0, none⟩ = some (.int .i64 ((rd_T102 l0 x10_1).f0)) := (blk_cell BK107.out 0).trans rfl
           have hcz13_1 : wc.cell? ⟨gb107, 1, none⟩ = some (.int .i64 ((rd_T102 l0 x10_1).f1)) := (blk_cell BK107.out 1).trans rfl
           have hcz13_2 : wc.cell? ⟨gb107, 2, none⟩ = some (.string ((rd_T102 l0 x10_1).f2)) := (blk_cell BK107.out 2).trans rfl
           have hfz13_0 := blk_frozen BK107.out 0
           have hfz13_1 := blk_frozen BK107.out 1
           have hfz13_2 := blk_frozen BK107.out 2
           go_wp2
           repeat (go_quiet (fail); try go_wp2)
           go_meet
           case rel => exact ⟨_, ((((rd_T102 l0 x10_1).f2).toList != ([] : List UInt8))), (by first | rfl | (simp; done) | (simp [*]; done) | (rw [isEmpty_not]; done) | (simp [isEmpty_not]; done)), H', ⟨by have := HK1.out; have := HJ4.out; first | omega | exact Nat.le_refl _⟩, ⟨by (with_reducible repeat (first | refine blk_drewN ?_ _ | refine blk_drew ?_ | refine blk_alloc ?_ _)); exact BK107.out⟩, ⟨by repeat (first | (with_reducible first | exact HB.out | apply below_alloc | apply pw_below_drewN | apply below_drew1 | refine below_set ?_ GE107.out) | exact HB.out)⟩⟩
         case rest =>
          clear HC10
          (try clear c1); (try clear p1); (try clear q1); (try clear hx1); (try clear c2); (try clear c2b0); (try clear p2); (try clear c3); (try clear c3b0); (try clear c4); (try clear c4b0); (try clear c8); (try clear c8b0); (try clear c8b1); (try clear c9); (try clear p10); (try clear q10); (try clear hx10); (try clear c11); (try clear c11b0); (try clear hcz12_0); (try clear hcz12_1); (try clear hcz12_2); (try clear hcz13_0); (try clear hcz13_1); (try clear hcz13_2); (try clear hcz7_0); (try clear hcz7_1); (try clear hcz7_2); (try clear hfz12_0); (try clear hfz12_1); (try clear hfz12_2); (try clear hfz13_0); (try clear hfz13_1); (try clear hfz13_2); (try clear hfz7_0); (try clear hfz7_1); (try clear hfz7_2); (try clear hx106_0); (try clear hx106_1); (try clear hx106_2); (try clear p106); (try clear q106)
          obtain ⟨kq, x27_9, rfl, HA, HJ9, BK107, HB⟩ := hcut
          cases kq with
          | zero => exact absurd HA.out (by simp [delta_Valid.j2])
          | succ kj9 =>
           have H := HA.out
           clear HA
           simp only [delta_Valid.j2] at H
           by_cases c14 : x27_9 = true
           ·
            subst c14
            have H1 : (some false) = some r := by rw [if_pos rfl] at H; exact H
            clear H
            have H := H1
            clear H1
            obtain rfl := Option.some.inj H
            go_wp2
            repeat (go_quiet (fail); try go_wp2)
            go_ret
            exact ⟨by first | rfl | (simp [errW_none, errW_some] <;> rfl) | (simp [*, errW_none, errW_some] <;> rfl), by repeat (first | (with_reducible first | exact HB.out | apply below_alloc | apply pw_below_drewN | apply below_drew1 | refine below_set ?_ GE107.out) | exact HB.out)⟩
           ·
            replace c14 := Bool.eq_false_iff.mpr c14
            subst c14
            have H1 : (if x10_1 > 0 then (if 0 ≤ (wrap64 (x10_1 - 1)) then (if (wrap64 (x10_1 - 1)) < (l0.length : Int) then (if ((rd_T102 l0 (wrap64 (x10_1 - 1))).f0) = ((rd_T102 l0 x10_1).f0) then (some false) else (if ((rd_T102 l0 (wrap64 (x10_1 - 1))).f0) = 3 then (if ((rd_T102 l0 x10_1).f0) = 2 then (some false) else (delta_Valid.l0 kj9 l0 l0 (l0.length : Int) (wrap64 (x10_1 + 1)))) else (delta_Valid.l0 kj9 l0 l0 (l0.length : Int) (wrap64 (x10_1 + 1))))) else (none)) else (none)) else (delta_Valid.l0 kj9 l0 l0 (l0.length : Int) (wrap64 (x10_1 + 1)))) = some r := by rw [if_neg (show ¬ (false = true) by decide)] at H; exact H
            clear H
            have H := H1
            clear H1
            by_cases c15 : x10_1 > 0
            ·
             rw [if_pos c15] at H
             have c15b0 : decide (0 < x10_1) = true := decide_eq_true c15
             clear c15
             obtain ⟨ji16, hji16⟩ : ∃ j_ : Int, (wrap64 (x10_1 - 1)) = j_ := ⟨_, rfl⟩
             replace H : (if 0 ≤ (ji16) then (if (ji16) < (l0.length : Int) then (if ((rd_T102 l0 (ji16)).f0) = ((rd_T102 l0 x10_1).f0) then (some false) else (if ((rd_T102 l0 (ji16)).f0) = 3 then (if ((rd_T102 l0 x10_1).f0) = 2 then (some false) else (delta_Valid.l0 kj9 l0 l0 (l0.length : Int) (wrap64 (x10_1 + 1)))) else (delta_Valid.l0 kj9 l0 l0 (l0.length : Int) (wrap64 (x10_1 + 1))))) else (none)) else (none)) = some r := by first | (rw [hji16] at H; exact H) | (simp only [hji16] at H ⊢; exact H)
             have hji16w : (IntKind.i64.wrap (x10_1 - 1)) = ji16 := (i64_w _).trans hji16
             by_cases c17 : 0 ≤ (ji16)
             ·
              rw [if_pos c17] at H
              have c17b0 : decide (0 ≤ (ji16)) = true := decide_eq_true c17
              clear c17
              by_cases c18 : (ji16) < (l0.length : Int)
              ·
               rw [if_pos c18] at H
               have c18b0 : decide ((ji16) < (l0.length : Int)) = true := decide_eq_true c18
               clear c18
               by_cases c19 : ((rd_T102 l0 (ji16)).f0) = ((rd_T102 l0 x10_1).f0)
               ·
                rw [if_pos c19] at H
                have c19b0 : (((rd_T102 l0 (ji16)).f0) == ((rd_T102 l0 x10_1).f0)) = true := beq_iff_eq.mpr c19
                have c19b1 : (((rd_T102 l0 (ji16)).f0) != ((rd_T102 l0 x10_1).f0)) = false := bne_eq_false_iff_eq.mpr c19
                clear c19
                obtain rfl := Option.some.inj H
                have p108 : 0 ≤ ((ji16) : Int) := of_decide_eq_true (by first | (with_reducible assumption) | assumption)
                have q108 : (ji16) < (l0.length : Int) := of_decide_eq_true (by first | (with_reducible assumption) | assumption)
                obtain ⟨ad108, e108, hx108_0, hx108_1, hx108_2⟩ := at_T102 HR0.out (ji16) p108 q108
                obtain rfl : ad106 = ad108 := (by injection e108)
                replace hx108_0 := (HB.out.cell (World.block_lt_of_cell? w _ hx108_0)).trans hx108_0
                replace hx108_1 := (HB.out.cell (World.block_lt_of_cell? w _ hx108_1)).trans hx108_1
                replace hx108_2 := (HB.out.cell (World.block_lt_of_cell? w _ hx108_2)).trans hx108_2
                replace p108 := eq_true p108
                replace q108 := eq_true q108
                have hcz20_0 : wc.cell? ⟨gb107, 0, none⟩ = some (.int .i64 ((rd_T102 l0 x10_1).f0)) := (blk_cell BK107.out 0).trans rfl
                have hcz20_1 : wc.cell? ⟨gb107, 1, none⟩ = some (.int .i64 ((rd_T102 l0 x10_1).f1)) := (blk_cell BK107.out 1).trans rfl
                have hcz20_2 : wc.cell? ⟨gb107, 2, none⟩ = some (.string ((rd_T102 l0 x10_1).f2)) := (blk_cell BK107.out 2).trans rfl
                have hfz20_0 := blk_frozen BK107.out 0
                have hfz20_1 := blk_frozen BK107.out 1
                have hfz20_2 := blk_frozen BK107.out 2
                go_wp2
                repeat (go_quiet (fail); try go_wp2)
                go_ret
                exact ⟨by first | rfl | (simp [errW_none, errW_some] <;> rfl) | (simp only [← hji16]; first | rfl | (simp [errW_none, errW_some] <;> rfl)) | (simp [*, errW_none, errW_some] <;> rfl), by repeat (first | (with_reducible first | exact HB.out | apply below_alloc | apply pw_below_drewN | apply below_drew1 | refine below_set ?_ GE107.out) | exact HB.out)⟩
               ·
                rw [if_neg c19] at H
                have c19b0 : (((rd_T102 l0 (ji16)).f0) == ((rd_T102 l0 x10_1).f0)) = false := beq_eq_false_iff_ne.mpr c19
                have c19b1 : (((rd_T102 l0 (ji16)).f0) != ((rd_T102 l0 x10_1).f0)) = true := bne_iff_ne.mpr c19
                by_cases c21 : ((rd_T102 l0 (ji16)).f0) = 3
                ·
                 rw [if_pos c21] at H
                 have c21b0 : (((rd_T102 l0 (ji16)).f0) == 3) = true := beq_iff_eq.mpr c21
                 have c21b1 : (((rd_T102 l0 (ji16)).f0) != 3) = false := bne_eq_false_iff_eq.mpr c21
                 clear c21
                 by_cases c22 : ((rd_T102 l0 x10_1).f0) = 2
                 ·
                  rw [if_pos c22] at H
                  have c22b0 : (((rd_T102 l0 x10_1).f0) == 2) = true := beq_iff_eq.mpr c22
                  have c22b1 : (((rd_T102 l0 x10_1).f0) != 2) = false := bne_eq_false_iff_eq.mpr c22
                  clear c22
                  obtain rfl := Option.some.inj H
                  have p108 : 0 ≤ ((ji16) : Int) := of_decide_eq_true (by first | (with_reducible assumption) | assumption)
                  have q108 : (ji16) < (l0.length : Int) := of_decide_eq_true (by first | (with_reducible assumption) | assumption)
                  obtain ⟨ad108, e108, hx108_0, hx108_1, hx108_2⟩ := at_T102 HR0.out (ji16) p108 q108
                  obtain rfl : ad106 = ad108 := (by injection e108)
                  replace hx108_0 := (HB.out.cell (World.block_lt_of_cell? w _ hx108_0)).trans hx108_0
                  replace hx108_1 := (HB.out.cell (World.block_lt_of_cell? w _ hx108_1)).trans hx108_1
                  replace hx108_2 := (HB.out.cell (World.block_lt_of_cell? w _ hx108_2)).trans hx108_2
                  replace p108 := eq_true p108
                  replace q108 := eq_true q108
                  have hcz23_0 : wc.cell? ⟨gb107, 0, none⟩ = some (.int .i64 ((rd_T102 l0 x10_1).f0)) := (blk_cell BK107.out 0).trans rfl
                  have hcz23_1 : wc.cell? ⟨gb107, 1, none⟩ = some (.int .i64 ((rd_T102 l0 x10_1).f1)) := (blk_cell BK107.out 1).trans rfl
                  have hcz23_2 : wc.cell? ⟨gb107, 2, none⟩ = some (.string ((rd_T102 l0 x10_1).f2)) := (blk_cell BK107.out 2).trans rfl
                  have hfz23_0 := blk_frozen BK107.out 0
                  have hfz23_1 := blk_frozen BK107.out 1
                  have hfz23_2 := blk_frozen BK107.out 2
                  have p109 : 0 ≤ ((ji16) : Int) := of_decide_eq_true (by first | (with_reducible assumption) | assumption)
                  have q109 : (ji16) < (l0.length : Int) := of_decide_eq_true (by first | (with_reducible assumption) | assumption)
                  obtain ⟨ad109, e109, hx109_0, hx109_1, hx109_2⟩ := at_T102 HR0.out (ji16) p109 q109
                  obtain rfl : ad106 = ad109 := (by injection e109)
                  replace hx109_0 := (HB.out.cell (World.block_lt_of_cell? w _ hx109_0)).trans hx109_0
                  replace hx109_1 := (HB.out.cell (World.block_lt_of_cell? w _ hx109_1)).trans hx109_1
                  replace hx109_2 := (HB.out.cell (World.block_lt_of_cell? w _ hx109_2)).trans hx109_2
                  replace p109 := eq_true p109
                  replace q109 := eq_true q109
                  go_wp2
                  repeat (go_quiet (fail); try go_wp2)
                  go_ret
                  exact ⟨by first | rfl | (simp [errW_none, errW_some] <;> rfl) | (simp only [← hji16]; first | rfl | (simp [errW_none, errW_some] <;> rfl)) | (simp [*, errW_none, errW_some] <;> rfl), by repeat (first | (with_reducible first | exact HB.out | apply below_alloc | apply pw_below_drewN | apply below_drew1 | refine below_set ?_ GE107.out) | exact HB.out)⟩
                 ·
                  rw [if_neg c22] at H
                  have c22b0 : (((rd_T102 l0 x10_1).f0) == 2) = false := beq_eq_false_iff_ne.mpr c22
                  have c22b1 : (((rd_T102 l0 x10_1).f0) != 2) = true := bne_iff_ne.mpr c22
                  have H' := Aside0.mk H
                  clear H
                  have p108 : 0 ≤ ((ji16) : Int) := of_decide_eq_true (by first | (with_reducible assumption) | assumption)
                  have q108 : (ji16) < (l0.length : Int) := of_decide_eq_true (by first | (with_reducible assumption) | assumption)
                  obtain ⟨ad108, e108, hx108_0, hx108_1, hx108_2⟩ := at_T102 HR0.out (ji16) p108 q108
                  obtain rfl : ad106 = ad108 := (by injection e108)
                  replace hx108_0 := (HB.out.cell (World.block_lt_of_cell? w _ hx108_0)).trans hx108_0
                  replace hx108_1 := (HB.out.cell (World.block_lt_of_cell? w _ hx108_1)).trans hx108_1
                  replace hx108_2 := (HB.out.cell (World.block_lt_of_cell? w _ hx108_2)).trans hx108_2
                  replace p108 := eq_true p108
                  replace q108 := eq_true q108
                  have hcz24_0 : wc.cell? ⟨gb107, 0, none⟩ = some (.int .i64 ((rd_T102 l0 x10_1).f0)) := (blk_cell BK107.out 0).trans rfl
                  have hcz24_1 : wc.cell? ⟨gb107, 1, none⟩ = some (.int .i64 ((rd_T102 l0 x10_1).f1)) := (blk_cell BK107.out 1).trans rfl
                  have hcz24_2 : wc.cell? ⟨gb107, 2, none⟩ = some (.string ((rd_T102 l0 x10_1).f2)) := (blk_cell BK107.out 2).trans rfl
                  have hfz24_0 := blk_frozen BK107.out 0
                  have hfz24_1 := blk_frozen BK107.out 1
                  have hfz24_2 := blk_frozen BK107.out 2
                  have p109 : 0 ≤ ((ji16) : Int) := of_decide_eq_true (by first | (with_reducible assumption) | assumption)
                  have q109 : (ji16) < (l0.length : Int) := of_decide_eq_true (by first | (with_reducible assumption) | assumption)
                  obtain ⟨ad109, e109, hx109_0, hx109_1, hx109_2⟩ := at_T102 HR0.out (ji16) p109 q109
                  obtain rfl : ad106 = ad109 := (by injection e109)
                  replace hx109_0 := (HB.out.cell (World.block_lt_of_cell? w _ hx109_0)).trans hx109_0
                  replace hx109_1 := (HB.out.cell (World.block_lt_of_cell? w _ hx109_1)).trans hx109_1
                  replace hx109_2 := (HB.out.cell (World.block_lt_of_cell? w _ hx109_2)).trans hx109_2
                  replace p109 := eq_true p109
                  replace q109 := eq_true q109
                  go_wp2
                  repeat (go_quiet (fail); try go_wp2)
                  go_roundg kj9
                  case measure => have := HK1.out; have := HJ4.out; have := HJ9.out; omega
                  case rel => exact ⟨(wrap64 (x10_1 + 1)), (by first | rfl | (simp; done) | (simp [*]; done)), H', ⟨by have := HK1.out; have := HJ4.out; have := HJ9.out; omega⟩, ⟨by repeat (first | (with_reducible first | exact HB.out | apply below_alloc | apply pw_below_drewN | apply below_drew1 | refine below_set ?_ GE107.out) | exact HB.out)⟩⟩
                ·
                 rw [if_neg c21] at H
                 have c21b0 : (((rd_T102 l0 (ji16)).f0) == 3) = false := beq_eq_false_iff_ne.mpr c21
                 have c21b1 : (((rd_T102 l0 (ji16)).f0) != 3) = true := bne_iff_ne.mpr c21
                 have H' := Aside0.mk H
                 clear H
                 have p108 : 0 ≤ ((ji16) : Int) := of_decide_eq_true (by first | (with_reducible assumption) | assumption)
                 have q108 : (ji16) < (l0.length : Int) := of_decide_eq_true (by first | (with_reducible assumption) | assumption)
                 obtain ⟨ad108, e108, hx108_0, hx108_1, hx108_2⟩ := at_T102 HR0.out (ji16) p108 q108
                 obtain rfl : ad106 = ad108 := (by injection e108)
                 replace hx108_0 := (HB.out.cell (World.block_lt_of_cell? w _ hx108_0)).trans hx108_0
                 replace hx108_1 := (HB.out.cell (World.block_lt_of_cell? w _ hx108_1)).trans hx108_1
                 replace hx108_2 := (HB.out.cell (World.block_lt_of_cell? w _ hx108_2)).trans hx108_2
                 replace p108 := eq_true p108
                 replace q108 := eq_true q108
                 have hcz25_0 : wc.cell? ⟨gb107, 0, none⟩ = some (.int .i64 ((rd_T102 l0 x10_1).f0)) := (blk_cell BK107.out 0).trans rfl
                 have hcz25_1 : wc.cell? ⟨gb107, 1, none⟩ = some (.int .i64 ((rd_T102 l0 x10_1).f1)) := (blk_cell BK107.out 1).trans rfl
                 have hcz25_2 : wc.cell? ⟨gb107, 2, none⟩ = some (.string ((rd_T102 l0 x10_1).f2)) := (blk_cell BK107.out 2).trans rfl
                 have hfz25_0 := blk_frozen BK107.out 0
                 have hfz25_1 := blk_frozen BK107.out 1
                 have hfz25_2 := blk_frozen BK107.out 2
                 have p109 : 0 ≤ ((ji16) : Int) := of_decide_eq_true (by first | (with_reducible assumption) | assumption)
                 have q109 : (ji16) < (l0.length : Int) := of_decide_eq_true (by first | (with_reducible assumption) | assumption)
                 obtain ⟨ad109, e109, hx109_0, hx109_1, hx109_2⟩ := at_T102 HR0.out (ji16) p109 q109
                 obtain rfl : ad106 = ad109 := (by injection e109)
                 replace hx109_0 := (HB.out.cell (World.block_lt_of_cell? w _ hx109_0)).trans hx109_0
                 replace hx109_1 := (HB.out.cell (World.block_lt_of_cell? w _ hx109_1)).trans hx109_1
                 replace hx109_2 := (HB.out.cell (World.block_lt_of_cell? w _ hx109_2)).trans hx109_2
                 replace p109 := eq_true p109
                 replace q109 := eq_true q109
                 go_wp2
                 repeat (go_quiet (fail); try go_wp2)
                 go_roundg kj9
                 case measure => have := HK1.out; have := HJ4.out; have := HJ9.out; omega
                 case rel => exact ⟨(wrap64 (x10_1 + 1)), (by first | rfl | (simp; done) | (simp [*]; done)), H', ⟨by have := HK1.out; have := HJ4.out; have := HJ9.out; omega⟩, ⟨by repeat (first | (with_reducible first | exact HB.out | apply below_alloc | apply pw_below_drewN | apply below_drew1 | refine below_set ?_ GE107.out) | exact HB.out)⟩⟩
              ·
               rw [if_neg c18] at H
               exact absurd H (by simp)
             ·
              rw [if_neg c17] at H
              exact absurd H (by simp)
            ·
             rw [if_neg c15] at H
             have c15b0 : decide (0 < x10_1) = false := decide_eq_false c15
             clear c15
             have H' := Aside0.mk H
             clear H
             go_wp2
             repeat (go_quiet (fail); try go_wp2)
             go_roundg kj9
             case measure => have := HK1.out; have := HJ4.out; have := HJ9.out; omega
             case rel => exact ⟨(wrap64 (x10_1 + 1)), (by first | rfl | (simp; done) | (simp [*]; done)), H', ⟨by have := HK1.out; have := HJ4.out; have := HJ9.out; omega⟩, ⟨by repeat (first | (with_reducible first | exact HB.out | apply below_alloc | apply pw_below_drewN | apply below_drew1 | refine below_set ?_ GE107.out) | exact HB.out)⟩⟩
        ·
         replace c9 := Bool.eq_false_iff.mpr c9
         subst c9
         have H1 : (if ((rd_T102 l0 x10_1).f0) = 2 then (if ((rd_T102 l0 x10_1).f1) = 0 then (delta_Valid.j3 kj4 l0 x10_1 l0 (l0.length : Int) x10_1 (((rd_T102 l0 x10_1).f2).toList == ([] : List UInt8)) ((rd_T102 l0 x10_1).f0) ((rd_T102 l0 x10_1).f1) ((rd_T102 l0 x10_1).f2)) else (delta_Valid.j3 kj4 l0 x10_1 l0 (l0.length : Int) x10_1 true ((rd_T102 l0 x10_1).f0) ((rd_T102 l0 x10_1).f1) ((rd_T102 l0 x10_1).f2))) else (some false)) = some r := by rw [if_neg (show ¬ (false = true) by decide)] at H; exact H
         clear H
         have H := H1
         clear H1
         by_cases c26 : ((rd_T102 l0 x10_1).f0) = 2
         ·
          rw [if_pos c26] at H
          have c26b0 : (((rd_T102 l0 x10_1).f0) == 2) = true := beq_iff_eq.mpr c26
          have c26b1 : (((rd_T102 l0 x10_1).f0) != 2) = false := bne_eq_false_iff_eq.mpr c26
          clear c26
          have HC27 := Aside0.mk H
          clear H
          go_upto_region 11 with (fail)
          repeat (go_quiet (fail); go_upto_region 11 with (fail))
          go_cut [37] (fun v37 wc => ∃ (kq : Nat) (x37_26 : Bool), v37 = .bool x37_26 ∧ Aside0 (delta_Valid.j3 kq l0 x10_1 l0 (l0.length : Int) x10_1 x37_26 ((rd_T102 l0 x10_1).f0) ((rd_T102 l0 x10_1).f1) ((rd_T102 l0 x10_1).f2) = some r) ∧ Aside0 (kq ≤ kj4) ∧ Aside0 (wc.heap[gb107]? = some (.cells #[.int .i64 ((rd_T102 l0 x10_1).f0), .int .i64 ((rd_T102 l0 x10_1).f1), .string ((rd_T102 l0 x10_1).f2)] 102 (0, 0))) ∧ Aside0 (Below w.heap.size w wc))
          case first =>
           have H := HC27.out
           clear HC27
           by_cases c28 : ((rd_T102 l0 x10_1).f1) = 0
           ·
            rw [if_pos c28] at H
            have c28b0 : (((rd_T102 l0 x10_1).f1) == 0) = true := beq_iff_eq.mpr c28
            have c28b1 : (((rd_T102 l0 x10_1).f1) != 0) = false := bne_eq_false_iff_eq.mpr c28
            clear c28
            (first | rw [c28b0] | (simp only [i64_w, i32_w]; rw [c28b0]) | skip)
            have H' := Aside0.mk H
            clear H
            have hcz29_0 : wc.cell? ⟨gb107, 0, none⟩ = some (.int .i64 ((rd_T102 l0 x10_1).f0)) := (blk_cell BK107.out 0).trans rfl
            have hcz29_1 : wc.cell? ⟨gb107, 1, none⟩ = some (.int .i64 ((rd_T102 l0 x10_1).f1)) := (blk_cell BK107.out 1).trans rfl
            have hcz29_2 : wc.cell? ⟨gb107, 2, none⟩ = some (.string ((rd_T102 l0 x10_1).f2)) := (blk_cell BK107.out 2).trans rfl
            have hfz29_0 := blk_frozen BK107.out 0
            have hfz29_1 := blk_frozen BK107.out 1
            have hfz29_2 := blk_frozen BK107.out 2
            go_wp2
            repeat (go_quiet (fail); try go_wp2)
            go_meet
            case rel => exact ⟨_, ((((rd_T102 l0 x10_1).f2).toList == ([] : List UInt8))), (by first | rfl | (simp; done) | (simp [*]; done)), H', ⟨by have := HK1.out; have := HJ4.out; first | omega | exact Nat.le_refl _⟩, ⟨by (with_reducible repeat (first | refine blk_drewN ?_ _ | refine blk_drew ?_ | refine blk_alloc ?_ _)); exact BK107.out⟩, ⟨by repeat (first | (with_reducible first | exact HB.out | apply below_alloc | apply pw_below_drewN | apply below_drew1 | refine below_set ?_ GE107.out) | exact HB.out)⟩⟩
           ·
            rw [if_neg c28] at H
            have c28b0 : (((rd_T102 l0 x10_1).f1) == 0) = false := beq_eq_false_iff_ne.mpr c28
            have c28b1 : (((rd_T102 l0 x10_1).f1) != 0) = true := bne_iff_ne.mpr c28
            (first | rw [c28b0] | (simp only [i64_w, i32_w]; rw [c28b0]) | skip)
            have H' := Aside0.mk H
            clear H
            have hcz30_0 : wc.cell? ⟨gb107, 0, none⟩ = some (.int .i64 ((rd_T102 l0 x10_1).f0)) := (blk_cell BK107.out 0).trans rfl
            have hcz30_1 : wc.cell? ⟨gb107, 1, none⟩ = some (.int .i64 ((rd_T102 l0 x10_1).f1)) := (blk_cell BK107.out 1).trans rfl
            have hcz30_2 : wc.cell? ⟨gb107, 2, none⟩ = some (.string ((rd_T102 l0 x10_1).f2)) := (blk_cell BK107.out 2).trans rfl
            have hfz30_0 := blk_frozen BK107.out 0
            have hfz30_1 := blk_frozen BK107.out 1
            have hfz30_2 := blk_frozen BK107.out 2
            go_wp2
            repeat (go_quiet (fail); try go_wp2)
            go_meet
            case rel => exact ⟨_, (true), (by first | rfl | (simp; done) | (simp [*]; done)), H', ⟨by have := HK1.out; have := HJ4.out; first | omega | exact Nat.le_refl _⟩, ⟨by (with_reducible repeat (first | refine blk_drewN ?_ _ | refine blk_drew ?_ | refine blk_alloc ?_ _)); exact BK107.out⟩, ⟨by repeat (first | (with_reducible first | exact HB.out | apply below_alloc | apply pw_below_drewN | apply below_drew1 | refine below_set ?_ GE107.out) | exact HB.out)⟩⟩
          case rest =>
           clear HC27
           (try clear c1); (try clear p1); (try clear q1); (try clear hx1); (try clear c2); (try clear c2b0); (try clear p2); (try clear c3); (try clear c3b0); (try clear c4); (try clear c4b0); (try clear p6); (try clear c8); (try clear c8b0); (try clear c8b1); (try clear c9); (try clear p10); (try clear q10); (try clear hx10); (try clear c11); (try clear c11b0); (try clear c14); (try clear c15); (try clear c15b0); (try clear c17); (try clear c17b0); (try clear c18); (try clear c18b0); (try clear c19); (try clear c19b0); (try clear c19b1); (try clear c21); (try clear c21b0); (try clear c21b1); (try clear c22); (try clear c22b0); (try clear c22b1); (try clear c26); (try clear c26b0); (try clear c26b1); (try clear c28); (try clear c28b0); (try clear c28b1); (try clear hcz12_0); (try clear hcz12_1); (try clear hcz12_2); (try clear hcz13_0); (try clear hcz13_1); (try clear hcz13_2); (try clear hcz20_0); (try clear hcz20_1); (try clear hcz20_2); (try clear hcz23_0); (try clear hcz23_1); (try clear hcz23_2); (try clear hcz24_0); (try clear hcz24_1); (try clear hcz24_2); (try clear hcz25_0); (try clear hcz25_1); (try clear hcz25_2); (try clear hcz29_0); (try clear hcz29_1); (try clear hcz29_2); (try clear hcz30_0); (try clear hcz30_1); (try clear hcz30_2); (try clear hcz7_0); (try clear hcz7_1); (try clear hcz7_2); (try clear hfz12_0); (try clear hfz12_1); (try clear hfz12_2); (try clear hfz13_0); (try clear hfz13_1); (try clear hfz13_2); (try clear hfz20_0); (try clear hfz20_1); (try clear hfz20_2); (try clear hfz23_0); (try clear hfz23_1); (try clear hfz23_2); (try clear hfz24_0); (try clear hfz24_1); (try clear hfz24_2); (try clear hfz25_0); (try clear hfz25_1); (try clear hfz25_2); (try clear hfz29_0); (try clear hfz29_1); (try clear hfz29_2); (try clear hfz30_0); (try clear hfz30_1); (try clear hfz30_2); (try clear hfz7_0); (try clear hfz7_1); (try clear hfz7_2); (try clear hx106_0); (try clear hx106_1); (try clear hx106_2); (try clear hx108_0); (try clear hx108_1); (try clear hx108_2); (try clear hx109_0); (try clear hx109_1); (try clear hx109_2); (try clear p106); (try clear p108); (try clear p109); (try clear q106); (try clear q108); (try clear q109)
           obtain ⟨kq, x37_26, rfl, HA, HJ26, BK107, HB⟩ := hcut
           cases kq with
           | zero => exact absurd HA.out (by simp [delta_Valid.j3])
           | succ kj26 =>
            have H := HA.out
            clear HA
            simp only [delta_Valid.j3] at H
            by_cases c31 : x37_26 = true
            ·
             subst c31
             have H1 : (some false) = some r := by rw [if_pos rfl] at H; exact H
             clear H
             have H := H1
             clear H1
             obtain rfl := Option.some.inj H
             go_wp2
             repeat (go_quiet (fail); try go_wp2)
             go_ret
             exact ⟨by first | rfl | (simp [errW_none, errW_some] <;> rfl) | (simp [*, errW_none, errW_some] <;> rfl), by repeat (first | (with_reducible first | exact HB.out | apply below_alloc | apply pw_below_drewN | apply below_drew1 | refine below_set ?_ GE107.out) | exact HB.out)⟩
            ·
             replace c31 := Bool.eq_false_iff.mpr c31
             subst c31
             have H1 : (if x10_1 > 0 then (if 0 ≤ (wrap64 (x10_1 - 1)) then (if (wrap64 (x10_1 - 1)) < (l0.length : Int) then (if ((rd_T102 l0 (wrap64 (x10_1 - 1))).f0) = ((rd_T102 l0 x10_1).f0) then (some false) else (if ((rd_T102 l0 (wrap64 (x10_1 - 1))).f0) = 3 then (if ((rd_T102 l0 x10_1).f0) = 2 then (some false) else (delta_Valid.l0 kj26 l0 l0 (l0.length : Int) (wrap64 (x10_1 + 1)))) else (delta_Valid.l0 kj26 l0 l0 (l0.length : Int) (wrap64 (x10_1 + 1))))) else (none)) else (none)) else (delta_Valid.l0 kj26 l0 l0 (l0.length : Int) (wrap64 (x10_1 + 1)))) = some r := by rw [if_neg (show ¬ (false = true) by decide)] at H; exact H
             clear H
             have H := H1
             clear H1
             by_cases c32 : x10_1 > 0
             ·
              rw [if_pos c32] at H
              have c32b0 : decide (0 < x10_1) = true := decide_eq_true c32
              clear c32
              obtain ⟨ji33, hji33⟩ : ∃ j_ : Int, (wrap64 (x10_1 - 1)) = j_ := ⟨_, rfl⟩
              replace H : (if 0 ≤ (ji33) then (if (ji33) < (l0.length : Int) then (if ((rd_T102 l0 (ji33)).f0) = ((rd_T102 l0 x10_1).f0) then (some false) else (if ((rd_T102 l0 (ji33)).f0) = 3 then (if ((rd_T102 l0 x10_1).f0) = 2 then (some false) else (delta_Valid.l0 kj26 l0 l0 (l0.length : Int) (wrap64 (x10_1 + 1)))) else (delta_Valid.l0 kj26 l0 l0 (l0.length : Int) (wrap64 (x10_1 + 1))))) else (none)) else (none)) = some r := by first | (rw [hji33] at H; exact H) | (simp only [hji33] at H ⊢; exact H)
              have hji33w : (IntKind.i64.wrap (x10_1 - 1)) = ji33 := (i64_w _).trans hji33
              by_cases c34 : 0 ≤ (ji33)
              ·
               rw [if_pos c34] at H
               have c34b0 : decide (0 ≤ (ji33)) = true := decide_eq_true c34
               clear c34
               by_cases c35 : (ji33) < (l0.length : Int)
               ·
                rw [if_pos c35] at H
                have c35b0 : decide ((ji33) < (l0.length : Int)) = true := decide_eq_true c35
                clear c35
                by_cases c36 : ((rd_T102 l0 (ji33)).f0) = ((rd_T102 l0 x10_1).f0)
                ·
                 rw [if_pos c36] at H
                 have c36b0 : (((rd_T102 l0 (ji33)).f0) == ((rd_T102 l0 x10_1).f0)) = true := beq_iff_eq.mpr c36
                 have c36b1 : (((rd_T102 l0 (ji33)).f0) != ((rd_T102 l0 x10_1).f0)) = false := bne_eq_false_iff_eq.mpr c36
                 clear c36
                 obtain rfl := Option.some.inj H
                 have p110 : 0 ≤ ((ji33) : Int) := of_decide_eq_true (by first | (with_reducible assumption) | assumption)
                 have q110 : (ji33) < (l0.length : Int) := of_decide_eq_true (by first | (with_reducible assumption) | assumption)
                 obtain ⟨ad110, e110, hx110_0, hx110_1, hx110_2⟩ := at_T102 HR0.out (ji33) p110 q110
                 obtain rfl : ad106 = ad110 := (by injection e110)
                 replace hx110_0 := (HB.out.cell (World.block_lt_of_cell? w _ hx110_0)).trans hx110_0
                 replace hx110_1 := (HB.out.cell (World.block_lt_of_cell? w _ hx110_1)).trans hx110_1
                 replace hx110_2 := (HB.out.cell (World.block_lt_of_cell? w _ hx110_2)).trans hx110_2
                 replace p110 := eq_true p110
                 replace q110 := eq_true q110
                 have hcz37_0 : wc.cell? ⟨gb107, 0, none⟩ = some (.int .i64 ((rd_T102 l0 x10_1).f0)) := (blk_cell BK107.out 0).trans rfl
                 have hcz37_1 : wc.cell? ⟨gb107, 1, none⟩ = some (.int .i64 ((rd_T102 l0 x10_1).f1)) := (blk_cell BK107.out 1).trans rfl
                 have hcz37_2 : wc.cell? ⟨gb107, 2, none⟩ = some (.string ((rd_T102 l0 x10_1).f2)) := (blk_cell BK107.out 2).trans rfl
                 have hfz37_0 := blk_frozen BK107.out 0
                 have hfz37_1 := blk_frozen BK107.out 1
                 have hfz37_2 := blk_frozen BK107.out 2
                 go_wp2
                 repeat (go_quiet (fail); try go_wp2)
                 go_ret
                 exact ⟨by first | rfl | (simp [errW_none, errW_some] <;> rfl) | (simp only [← hji33]; first | rfl | (simp [errW_none, errW_some] <;> rfl)) | (simp [*, errW_none, errW_some] <;> rfl), by repeat (first | (with_reducible first | exact HB.out | apply below_alloc | apply pw_below_drewN | apply below_drew1 | refine below_set ?_ GE107.out) | exact HB.out)⟩
                ·
                 rw [if_neg c36] at H
                 have c36b0 : (((rd_T102 l0 (ji33)).f0) == ((rd_T102 l0 x10_1).f0)) = false := beq_eq_false_iff_ne.mpr c36
                 have c36b1 : (((rd_T102 l0 (ji33)).f0) != ((rd_T102 l0 x10_1).f0)) = true := bne_iff_ne.mpr c36
                 by_cases c38 : ((rd_T102 l0 (ji33)).f0) = 3
                 ·
                  rw [if_pos c38] at H
                  have c38b0 : (((rd_T102 l0 (ji33)).f0) == 3) = true := beq_iff_eq.mpr c38
                  have c38b1 : (((rd_T102 l0 (ji33)).f0) != 3) = false := bne_eq_false_iff_eq.mpr c38
                  clear c38
                  by_cases c39 : ((rd_T102 l0 x10_1).f0) = 2
                  ·
                   rw [if_pos c39] at H
                   have c39b0 : (((rd_T102 l0 x10_1).f0) == 2) = true := beq_iff_eq.mpr c39
                   have c39b1 : (((rd_T102 l0 x10_1).f0) != 2) = false := bne_eq_false_iff_eq.mpr c39
                   clear c39
                   obtain rfl := Option.some.inj H
                   have p110 : 0 ≤ ((ji33) : Int) := of_decide_eq_true (by first | (with_reducible assumption) | assumption)
                   have q110 : (ji33) < (l0.length : Int) := of_decide_eq_true (by first | (with_reducible assumption) | assumption)
                   obtain ⟨ad110, e110, hx110_0, hx110_1, hx110_2⟩ := at_T102 HR0.out (ji33) p110 q110
                   obtain rfl : ad106 = ad110 := (by injection e110)
                   replace hx110_0 := (HB.out.cell (World.block_lt_of_cell? w _ hx110_0)).trans hx110_0
                   replace hx110_1 := (HB.out.cell (World.block_lt_of_cell? w _ hx110_1)).trans hx110_1
                   replace hx110_2 := (HB.out.cell (World.block_lt_of_cell? w _ hx110_2)).trans hx110_2
                   replace p110 := eq_true p110
                   replace q110 := eq_true q110
                   have hcz40_0 : wc.cell? ⟨gb107, 0, none⟩ = some (.int .i64 ((rd_T102 l0 x10_1).f0)) := (blk_cell BK107.out 0).trans rfl
                   have hcz40_1 : wc.cell? ⟨gb107, 1, none⟩ = some (.int .i64 ((rd_T102 l0 x10_1).f1)) := (blk_cell BK107.out 1).trans rfl
                   have hcz40_2 : wc.cell? ⟨gb107, 2, none⟩ = some (.string ((rd_T102 l0 x10_1).f2)) := (blk_cell BK107.out 2).trans rfl
                   have hfz40_0 := blk_frozen BK107.out 0
                   have hfz40_1 := blk_frozen BK107.out 1
                   have hfz40_2 := blk_frozen BK107.out 2
                   have p111 : 0 ≤ ((ji33) : Int) := of_decide_eq_true (by first | (with_reducible assumption) | assumption)
                   have q111 : (ji33) < (l0.length : Int) := of_decide_eq_true (by first | (with_reducible assumption) | assumption)
                   obtain ⟨ad111, e111, hx111_0, hx111_1, hx111_2⟩ := at_T102 HR0.out (ji33) p111 q111
                   obtain rfl : ad106 = ad111 := (by injection e111)
                   replace hx111_0 := (HB.out.cell (World.block_lt_of_cell? w _ hx111_0)).trans hx111_0
                   replace hx111_1 := (HB.out.cell (World.block_lt_of_cell? w _ hx111_1)).trans hx111_1
                   replace hx111_2 := (HB.out.cell (World.block_lt_of_cell? w _ hx111_2)).trans hx111_2
                   replace p111 := eq_true p111
                   replace q111 := eq_true q111
                   go_wp2
                   repeat (go_quiet (fail); try go_wp2)
                   go_ret
                   exact ⟨by first | rfl | (simp [errW_none, errW_some] <;> rfl) | (simp only [← hji33]; first | rfl | (simp [errW_none, errW_some] <;> rfl)) | (simp [*, errW_none, errW_some] <;> rfl), by repeat (first | (with_reducible first | exact HB.out | apply below_alloc | apply pw_below_drewN | apply below_drew1 | refine below_set ?_ GE107.out) | exact HB.out)⟩
                  ·
                   rw [if_neg c39] at H
                   have c39b0 : (((rd_T102 l0 x10_1).f0) == 2) = false := beq_eq_false_iff_ne.mpr c39
                   have c39b1 : (((rd_T102 l0 x10_1).f0) != 2) = true := bne_iff_ne.mpr c39
                   have H' := Aside0.mk H
                   clear H
                   have p110 : 0 ≤ ((ji33) : Int) := of_decide_eq_true (by first | (with_reducible assumption) | assumption)
                   have q110 : (ji33) < (l0.length : Int) := of_decide_eq_true (by first | (with_reducible assumption) | assumption)
                   obtain ⟨ad110, e110, hx110_0, hx110_1, hx110_2⟩ := at_T102 HR0.out (ji33) p110 q110
                   obtain rfl : ad106 = ad110 := (by injection e110)
                   replace hx110_0 := (HB.out.cell (World.block_lt_of_cell? w _ hx110_0)).trans hx110_0
                   replace hx110_1 := (HB.out.cell (World.block_lt_of_cell? w _ hx110_1)).trans hx110_1
                   replace hx110_2 := (HB.out.cell (World.block_lt_of_cell? w _ hx110_2)).trans hx110_2
                   replace p110 := eq_true p110
                   replace q110 := eq_true q110
                   have hcz41_0 : wc.cell? ⟨gb107, 0, none⟩ = some (.int .i64 ((rd_T102 l0 x10_1).f0)) := (blk_cell BK107.out 0).trans rfl
                   have hcz41_1 : wc.cell? ⟨gb107, 1, none⟩ = some (.int .i64 ((rd_T102 l0 x10_1).f1)) := (blk_cell BK107.out 1).trans rfl
                   have hcz41_2 : wc.cell? ⟨gb107, 2, none⟩ = some (.string ((rd_T102 l0 x10_1).f2)) := (blk_cell BK107.out 2).trans rfl
                   have hfz41_0 := blk_frozen BK107.out 0
                   have hfz41_1 := blk_frozen BK107.out 1
                   have hfz41_2 := blk_frozen BK107.out 2
                   have p111 : 0 ≤ ((ji33) : Int) := of_decide_eq_true (by first | (with_reducible assumption) | assumption)
                   have q111 : (ji33) < (l0.length : Int) := of_decide_eq_true (by first | (with_reducible assumption) | assumption)
                   obtain ⟨ad111, e111, hx111_0, hx111_1, hx111_2⟩ := at_T102 HR0.out (ji33) p111 q111
                   obtain rfl : ad106 = ad111 := (by injection e111)
                   replace hx111_0 := (HB.out.cell (World.block_lt_of_cell? w _ hx111_0)).trans hx111_0
                   replace hx111_1 := (HB.out.cell (World.block_lt_of_cell? w _ hx111_1)).trans hx111_1
                   replace hx111_2 := (HB.out.cell (World.block_lt_of_cell? w _ hx111_2)).trans hx111_2
                   replace p111 := eq_true p111
                   replace q111 := eq_true q111
                   go_wp2
                   repeat (go_quiet (fail); try go_wp2)
                   go_roundg kj26
                   case measure => have := HK1.out; have := HJ4.out; have := HJ26.out; omega
                   case rel => exact ⟨(wrap64 (x10_1 + 1)), (by first | rfl | (simp; done) | (simp [*]; done)), H', ⟨by have := HK1.out; have := HJ4.out; have := HJ26.out; omega⟩, ⟨by repeat (first | (with_reducible first | exact HB.out | apply below_alloc | apply pw_below_drewN | apply below_drew1 | refine below_set ?_ GE107.out) | exact HB.out)⟩⟩
                 ·
                  rw [if_neg c38] at H
                  have c38b0 : (((rd_T102 l0 (ji33)).f0) == 3) = false := beq_eq_false_iff_ne.mpr c38
                  have c38b1 : (((rd_T102 l0 (ji33)).f0) != 3) = true := bne_iff_ne.mpr c38
                  have H' := Aside0.mk H
                  clear H
                  have p110 : 0 ≤ ((ji33) : Int) := of_decide_eq_true (by first | (with_reducible assumption) | assumption)
                  have q110 : (ji33) < (l0.length : Int) := of_decide_eq_true (by first | (with_reducible assumption) | assumption)
                  obtain ⟨ad110, e110, hx110_0, hx110_1, hx110_2⟩ := at_T102 HR0.out (ji33) p110 q110
                  obtain rfl : ad106 = ad110 := (by injection e110)
                  replace hx110_0 := (HB.out.cell (World.block_lt_of_cell? w _ hx110_0)).trans hx110_0
                  replace hx110_1 := (HB.out.cell (World.block_lt_of_cell? w _ hx110_1)).trans hx110_1
                  replace hx110_2 := (HB.out.cell (World.block_lt_of_cell? w _ hx110_2)).trans hx110_2
                  replace p110 := eq_true p110
                  replace q110 := eq_true q110
                  have hcz42_0 : wc.cell? ⟨gb107, 0, none⟩ = some (.int .i64 ((rd_T102 l0 x10_1).f0)) := (blk_cell BK107.out 0).trans rfl
                  have hcz42_1 : wc.cell? ⟨gb107, 1, none⟩ = some (.int .i64 ((rd_T102 l0 x10_1).f1)) := (blk_cell BK107.out 1).trans rfl
                  have hcz42_2 : wc.cell? ⟨gb107, 2, none⟩ = some (.string ((rd_T102 l0 x10_1).f2)) := (blk_cell BK107.out 2).trans rfl
                  have hfz42_0 := blk_frozen BK107.out 0
                  have hfz42_1 := blk_frozen BK107.out 1
                  have hfz42_2 := blk_frozen BK107.out 2
                  have p111 : 0 ≤ ((ji33) : Int) := of_decide_eq_true (by first | (with_reducible assumption) | assumption)
                  have q111 : (ji33) < (l0.length : Int) := of_decide_eq_true (by first | (with_reducible assumption) | assumption)
                  obtain ⟨ad111, e111, hx111_0, hx111_1, hx111_2⟩ := at_T102 HR0.out (ji33) p111 q111
                  obtain rfl : ad106 = ad111 := (by injection e111)
                  replace hx111_0 := (HB.out.cell (World.block_lt_of_cell? w _ hx111_0)).trans hx111_0
                  replace hx111_1 := (HB.out.cell (World.block_lt_of_cell? w _ hx111_1)).trans hx111_1
                  replace hx111_2 := (HB.out.cell (World.block_lt_of_cell? w _ hx111_2)).trans hx111_2
                  replace p111 := eq_true p111
                  replace q111 := eq_true q111
                  go_wp2
                  repeat (go_quiet (fail); try go_wp2)
                  go_roundg kj26
                  case measure => have := HK1.out; have := HJ4.out; have := HJ26.out; omega
                  case rel => exact ⟨(wrap64 (x10_1 + 1)), (by first | rfl | (simp; done) | (simp [*]; done)), H', ⟨by have := HK1.out; have := HJ4.out; have := HJ26.out; omega⟩, ⟨by repeat (first | (with_reducible first | exact HB.out | apply below_alloc | apply pw_below_drewN | apply below_drew1 | refine below_set ?_ GE107.out) | exact HB.out)⟩⟩
               ·
                rw [if_neg c35] at H
                exact absurd H (by simp)
              ·
               rw [if_neg c34] at H
               exact absurd H (by simp)
             ·
              rw [if_neg c32] at H
              have c32b0 : decide (0 < x10_1) = false := decide_eq_false c32
              clear c32
              have H' := Aside0.mk H
              clear H
              go_wp2
              repeat (go_quiet (fail); try go_wp2)
              go_roundg kj26
              case measure => have := HK1.out; have := HJ4.out; have := HJ26.out; omega
              case rel => exact ⟨(wrap64 (x10_1 + 1)), (by first | rfl | (simp; done) | (simp [*]; done)), H', ⟨by have := HK1.out; have := HJ4.out; have := HJ26.out; omega⟩, ⟨by repeat (first | (with_reducible first | exact HB.out | apply below_alloc | apply pw_below_drewN | apply below_drew1 | refine below_set ?_ GE107.out) | exact HB.out)⟩⟩
         ·
          rw [if_neg c26] at H
          have c26b0 : (((rd_T102 l0 x10_1).f0) == 2) = false := beq_eq_false_iff_ne.mpr c26
          have c26b1 : (((rd_T102 l0 x10_1).f0) != 2) = true := bne_iff_ne.mpr c26
          obtain rfl := Option.some.inj H
          go_wp2
          repeat (go_quiet (fail); try go_wp2)
          go_ret
          exact ⟨by first | rfl | (simp [errW_none, errW_some] <;> rfl) | (simp [*, errW_none, errW_some] <;> rfl), by repeat (first | (with_reducible first | exact HB.out | apply below_alloc | apply pw_below_drewN | apply below_drew1 | refine below_set ?_ GE107.out) | exact HB.out)⟩
     ·
      rw [if_neg c4] at H
      exact absurd H (by simp)
    ·
     rw [if_neg c3] at H
     exact absurd H (by simp)
   ·
    rw [if_neg c2] at H
    have c2b0 : decide (x10_1 < (l0.length : Int)) = false := decide_eq_false c2
    clear c2
    replace H := Option.bind_eq_some_iff.mp H
    obtain ⟨⟨t103, t104, t105⟩, A430, H⟩ := H
    replace H : (some t105) = some r := H
    have A43 := Aside0.mk A430
    clear A430
    obtain rfl := Option.some.inj H
    go_wp2_with (first | (go_at_call 93; (with_reducible refine (delta_lens.calls k1 _ _ l0 t103 t104 t105 _ ?side1 ?side2 A43.out).mono ?_); (case side1 => repeat (first | exact (Kd.C_below HR0.out HB.out) | (with_reducible refine Kd.C_alloc ?_ _) | (with_reducible refine Kd.C_drewN ?_ _) | (with_reducible refine Kd.C_drew ?_))); (case side2 => exact HC0.out); rintro e w44 ⟨rfl, hb⟩; have n0_ := Aside0.mk (below_step (by repeat (first | (with_reducible first | exact HB.out | apply below_alloc | apply pw_below_drewN | apply below_drew1) | exact HB.out)) hb); clear HB; have HB := n0_; clear n0_; (try clear hb); (try clear hb2); (try clear hk); (try clear hi)))
    repeat (go_quiet (first | (go_at_call 93; (with_reducible refine (delta_lens.calls k1 _ _ l0 t103 t104 t105 _ ?side1 ?side2 A43.out).mono ?_); (case side1 => repeat (first | exact (Kd.C_below HR0.out HB.out) | (with_reducible refine Kd.C_alloc ?_ _) | (with_reducible refine Kd.C_drewN ?_ _) | (with_reducible refine Kd.C_drew ?_))); (case side2 => exact HC0.out); rintro e w44 ⟨rfl, hb⟩; have n0_ := Aside0.mk (below_step (by repeat (first | (with_reducible first | exact HB.out | apply below_alloc | apply pw_below_drewN | apply below_drew1) | exact HB.out)) hb); clear HB; have HB := n0_; clear n0_; (try clear hb); (try clear hb2); (try clear hk); (try clear hi))); try go_wp2_with (first | (go_at_call 93; (with_reducible refine (delta_lens.calls k1 _ _ l0 t103 t104 t105 _ ?side1 ?side2 A43.out).mono ?_); (case side1 => repeat (first | exact (Kd.C_below HR0.out HB.out) | (with_reducible refine Kd.C_alloc ?_ _) | (with_reducible refine Kd.C_drewN ?_ _) | (with_reducible refine Kd.C_drew ?_))); (case side2 => exact HC0.out); rintro e w44 ⟨rfl, hb⟩; have n0_ := Aside0.mk (below_step (by repeat (first | (with_reducible first | exact HB.out | apply below_alloc | apply pw_below_drewN | apply below_drew1) | exact HB.out)) hb); clear HB; have HB := n0_; clear n0_; (try clear hb); (try clear hb2); (try clear hk); (try clear hi))))
    go_ret
    exact ⟨by first | rfl | (simp [errW_none, errW_some] <;> rfl) | (simp [*, errW_none, errW_some] <;> rfl), by repeat (first | (with_reducible first | exact HB.out | apply below_alloc | apply pw_below_drewN | apply below_drew1) | exact HB.out)⟩
end Go.Proofs.YtbomhpfckplgaaaDoor.P
namespace Go.Proofs.YtbomhpfckplgaaaDoor.P
open Go.RowKit Go.Proofs.YtbomhpfckplgaaaDoorW.PrintWords Go.Proofs.YtbomhpfckplgaaaDoorW.PrintLast Go.Proofs.YtbomhpfckplgaaaDoorW.PrintMore
attribute [local go_sem] max2_int min2_int max_two min_two max_three min_three max_four min_four   -- for this text's walks alone
set_option linter.unusedVariables false
set_option linter.unusedSimpArgs false
def delta_Lens.f (k : Nat) (l0 : List (S102)) : Option (Int × Int × Int) := (delta_Valid.f k l0).bind fun t112 => (if t112 = true then ((delta_lens.f k l0).bind fun bt113 => (some (bt113.1, bt113.2.1, 0))) else (some (0, 0, 130)))
set_option maxHeartbeats 8000000 in
set_option maxRecDepth 100000 in
theorem delta_Lens.calls (k : Nat) (A0 : Option Addr) (c0 : Nat) (l0 : List (S102)) (r1 : Int) (r2 : Int) (r3 : Int) (w : World) (hr0 : Kd.C k102 w A0 l0.length l0) (hc0 : l0.length ≤ c0) (h : delta_Lens.f k l0 = some (r1, r2, r3)) :
  Calls Tryd.prog 98 #[.slice A0 l0.length c0] w fun e w' => e = .returned (.tuple #[.int .i64 r1, .int .i64 r2, .int .i64 r3]) ∧ Below w.heap.size w w' := by
 have HR0 := Aside0.mk hr0
 have HC0 := Aside0.mk hc0
 clear hr0 hc0
 have HB := Aside0.mk (Below.refl w.heap.size w)
 have H : ((delta_Valid.f k l0).bind fun t112 => (if t112 = true then ((delta_lens.f k l0).bind fun bt113 => (some (bt113.1, bt113.2.1, 0))) else (some (0, 0, 130)))) = some (r1, r2, r3) := h
 clear h
 replace H := Option.bind_eq_some_iff.mp H
 obtain ⟨t112, A20, H⟩ := H
 replace H : (if t112 = true then ((delta_lens.f k l0).bind fun bt113 => (some (bt113.1, bt113.2.1, 0))) else (some (0, 0, 130))) = some (r1, r2, r3) := H
 have A2 := Aside0.mk A20
 clear A20
 by_cases c3 : t112 = true
 ·
  subst c3
  have H1 : ((delta_lens.f k l0).bind fun bt113 => (some (bt113.1, bt113.2.1, 0))) = some (r1, r2, r3) := by rw [if_pos rfl] at H; exact H
  clear H
  have H := H1
  clear H1
  replace H := Option.bind_eq_some_iff.mp H
  obtain ⟨⟨t113, t114, t115⟩, A40, H⟩ := H
  replace H : (some (t113, t114, 0)) = some (r1, r2, r3) := H
  have A4 := Aside0.mk A40
  clear A40
  simp only [Option.some.injEq, Prod.mk.injEq] at H
  obtain ⟨rfl, rfl, rfl⟩ := H
  go_enter Tryd.func98, Tryd.ntmps98
  go_wp2_with (first | ((with_reducible refine gate_callee (f := 92) rfl ?_); refine goesL_ (some 6) rfl rfl Tryd.func92 (by kernel_rfl) rfl #[.slice A0 l0.length c0] rfl (by (try simp only [List.map_toArray, List.map_cons, List.map_nil]); first | done | rfl | (simp only [List.length_drop, List.length_take]; rfl)) ?_; (with_reducible refine (delta_Valid.calls k _ _ l0 true _ ?side1 ?side2 A2.out).mono ?_); (case side1 => repeat (first | exact HR0.out | (with_reducible refine Kd.C_alloc ?_ _) | (with_reducible refine Kd.C_drewN ?_ _) | (with_reducible refine Kd.C_drew ?_))); (case side2 => exact HC0.out); rintro e w5 ⟨rfl, hb⟩; refine ⟨_, rfl, ?_⟩; have n0_ := Aside0.mk (below_step (by repeat (first | (with_reducible first | exact HB.out | apply below_alloc | apply pw_below_drewN | apply below_drew1) | exact HB.out)) hb); clear HB; have HB := n0_; clear n0_; (try clear hb); (try clear hb2); (try clear hk); (try clear hi)) | ((with_reducible refine gate_callee (f := 93) rfl ?_); refine goesL_ (some 10) rfl rfl Tryd.func93 (by kernel_rfl) rfl #[.slice A0 l0.length c0] rfl (by (try simp only [List.map_toArray, List.map_cons, List.map_nil]); first | done | rfl | (simp only [List.length_drop, List.length_take]; rfl)) ?_; (with_reducible refine (delta_lens.calls k _ _ l0 t113 t114 t115 _ ?side1 ?side2 A4.out).mono ?_); (case side1 => repeat (first | exact (Kd.C_below HR0.out HB.out) | (with_reducible refine Kd.C_alloc ?_ _) | (with_reducible refine Kd.C_drewN ?_ _) | (with_reducible refine Kd.C_drew ?_))); (case side2 => exact HC0.out); rintro e w6 ⟨rfl, hb⟩; refine ⟨_, rfl, ?_⟩; have n0_ := Aside0.mk (below_step (by repeat (first | (with_reducible first | exact HB.out | apply below_alloc | apply pw_below_drewN | apply below_drew1) | exact HB.out)) hb); clear HB; have HB := n0_; clear n0_; (try clear hb); (try clear hb2); (try clear hk); (try clear hi)))
  go_ret3
  exact ⟨by first | rfl | (simp [errW_none, errW_some] <;> rfl) | (simp [*, errW_none, errW_some] <;> rfl), by repeat (first | (with_reducible first | exact HB.out | apply below_alloc | apply pw_below_drewN | apply below_drew1) | exact HB.out)⟩
 ·
  replace c3 := Bool.eq_false_iff.mpr c3
  subst c3
  have H1 : (some (0, 0, 130)) = some (r1, r2, r3) := by rw [if_neg (show ¬ (false = true) by decide)] at H; exact H
  clear H
  have H := H1
  clear H1
  simp only [Option.some.injEq, Prod.mk.injEq] at H
  obtain ⟨rfl, rfl, rfl⟩ := H
  go_enter Tryd.func98, Tryd.ntmps98
  go_wp2_with (first | ((with_reducible refine gate_callee (f := 92) rfl ?_); refine goesL_ (some 6) rfl rfl Tryd.func92 (by kernel_rfl) rfl #[.slice A0 l0.length c0] rfl (by (try simp only [List.map_toArray, List.map_cons, List.map_nil]); first | done | rfl | (simp only [List.length_drop, List.length_take]; rfl)) ?_; (with_reducible refine (delta_Valid.calls k _ _ l0 false _ ?side1 ?side2 A2.out).mono ?_); (case side1 => repeat (first | exact HR0.out | (with_reducible refine Kd.C_alloc ?_ _) | (with_reducible refine Kd.C_drewN ?_ _) | (with_reducible refine Kd.C_drew ?_))); (case side2 => exact HC0.out); rintro e w7 ⟨rfl, hb⟩; refine ⟨_, rfl, ?_⟩; have n0_ := Aside0.mk (below_step (by repeat (first | (with_reducible first | exact HB.out | apply below_alloc | apply pw_below_drewN | apply below_drew1) | exact HB.out)) hb); clear HB; have HB := n0_; clear n0_; (try clear hb); (try clear hb2); (try clear hk); (try clear hi)))
  go_ret3
  exact ⟨by first | rfl | (simp [errW_none, errW_some] <;> rfl) | (simp [*, errW_none, errW_some] <;> rfl), by repeat (first | (with_reducible first | exact HB.out | apply below_alloc | apply pw_below_drewN | apply below_drew1) | exact HB.out)⟩
end Go.Proofs.YtbomhpfckplgaaaDoor.P
namespace Go.Proofs.YtbomhpfckplgaaaDoor.P
open Go Go.RowKit Go.Proofs.YtbomhpfckplgaaaDoorW.PrintWords Go.Proofs.YtbomhpfckplgaaaDoorW.PrintLast Go.Proofs.YtbomhpfckplgaaaDoorW.PrintMore
set_option linter.unusedVariables false
set_option linter.unusedSimpArgs false
set_option maxRecDepth 100000
attribute [local go_sem] max2_int min2_int max_two min_two max_three min_three max_four min_four
theorem bytes_world (W : World) (s : ByteArray) (hs : s.size ≤ 9223372036854775807) :
    Below W.heap.size W (Go.Lib.bytesWorld W 5 s) ∧ Kd.C (Kd.int .u8) (Go.Lib.bytesWorld W 5 s) (some ⟨W.heap.size, 0, none⟩) s.size (bytesOf s) := by
  refine ⟨⟨rfl, rfl, rfl, by rw [Go.Lib.bytesWorld_size]; omega, fun k hk => Go.Lib.bytesWorld_at_old W 5 s k hk⟩, bytesOf_length s, hs, fun _ => ⟨_, rfl, fun j p hj => ⟨[.int .u8 p], rfl, rfl, fun i u hu => ?_⟩⟩⟩
  obtain ⟨rfl, rfl⟩ : i = 0 ∧ Value.int .u8 p = u := by
    cases i with
    | zero => exact ⟨rfl, by simpa using hu⟩
    | succ i => simp at hu
  have hjl : j < s.size := by
    have := (List.getElem?_eq_some_iff.1 hj).1
    rwa [bytesOf_length] at this
  have h_ := Go.Lib.bytesWorld_cell W 5 s j hjl
  have ha : (⟨W.heap.size, 0, none⟩ : Addr).add (j * (Kd.int .u8).sz + 0) = ⟨W.heap.size, j, none⟩ := by
    have : j * (Kd.int .u8).sz + 0 = j := Nat.mul_one j
    rw [this]
    unfold Addr.add
    split <;> simp_all
  rw [ha, h_]
  unfold bytesOf at hj
  rw [List.getElem?_map] at hj
  obtain ⟨q, hq, rfl⟩ := Option.map_eq_some_iff.1 hj
  rw [List.getD_eq_getElem?_getD, hq]
  rfl
theorem conv_bytes (s : ByteArray) : ∀ W : World, (convert 9 22 (.string s)).run Tryd.prog W = .ok (.slice (some ⟨W.heap.size, 0, none⟩) s.size (grownCap W s.size 0 5)) (Go.Lib.bytesWorld W 5 s) := fun W => Go.Lib.run_convert_string_bytes W 9 22 5 s Tryd.underlying9 Tryd.underlying22 Tryd.underlying5
theorem steps_conv (s : ByteArray) (x : List ByteArray) (hs : s.size ≤ 9223372036854775807) (h : diff_steps.f (bytesOf s) = some x) (W : World) (hG : Laid W) :
    Calls Tryd.prog 87 #[.slice (some ⟨W.heap.size, 0, none⟩) s.size (grownCap W s.size 0 5)] (Go.Lib.bytesWorld W 5 s) fun e w' => ∃ v0_ : Value, e = .returned (v0_) ∧ Kd.R Kd.string 9 w' (Go.Lib.bytesWorld W 5 s).heap.size (fun _ => True) v0_ x ∧ Below W.heap.size W w' := by
  obtain ⟨hb, hC⟩ := bytes_world W s hs
  rw [← bytesOf_length s] at hC
  have h_ := diff_steps.calls (some ⟨W.heap.size, 0, none⟩) (grownCap W s.size 0 5) (bytesOf s) x (Go.Lib.bytesWorld W 5 s) (by rw [bytesOf_length] at hC ⊢; exact hC) (by rw [bytesOf_length]; exact grownCap_ge W s.size 0 5) (hG.below hb) h
  rw [bytesOf_length] at h_
  exact h_.mono fun e w' ⟨v, he, hR, hB⟩ => ⟨v, he, hR, hb.trans (hB.mono hb.size)⟩
def costFrom (k : Nat) (l : List Int) : List S102 → Int → Int → Option (Int × Int)
  | [], _, c => some (c, 0)
  | o :: ds, p, c =>
    if o.f0 = 2 then (if o.f2.size ≤ 9223372036854775807 then (diff_steps.f (bytesOf o.f2)).bind fun x => costFrom k l ds p (wrap64 (c + x.length)) else none)
    else (step_Edge.f k l p).bind fun b1 => if b1 = true then ((step_Edge.f k l (wrap64 (p + o.f1))).bind fun b2 => if b2 = true then
        (if o.f0 = 3 then (if 0 ≤ p then (if p ≤ wrap64 (p + o.f1) then (if wrap64 (p + o.f1) ≤ (l.length : Int) then (diff_steps.f ((l.take (wrap64 (p + o.f1)).toNat).drop p.toNat)).bind fun x => costFrom k l ds (wrap64 (p + o.f1)) (wrap64 (c + x.length)) else none) else none) else none)
          else costFrom k l ds (wrap64 (p + o.f1)) c) else some (0, 4)) else some (0, 4)
def diff_Cost.k (k : Nat) (l : List Int) (d : List S102) : Option (Int × Int) :=
  (delta_Lens.f k d).bind fun q => if q.2.2 = 0 then (if q.1 = (l.length : Int) then costFrom k l d 0 0 else some (0, 131)) else some (0, q.2.2)
set_option maxHeartbeats 16000000 in
theorem diff_Cost.callsK (k : Nat) (A0 : Option Addr) (c0 : Nat) (l0 : List Int) (A1 : Option Addr) (c1 : Nat) (d : List S102) (r1 r2 : Int) (w : World) (hr0 : Kd.C (Kd.int .u8) w A0 l0.length l0) (hc0 : l0.length ≤ c0) (hr1 : Kd.C k102 w A1 d.length d) (hc1 : d.length ≤ c1) (hG : Laid w) (h : diff_Cost.k k l0 d = some (r1, r2)) :
    Calls Tryd.prog 52 #[.slice A0 l0.length c0, .slice A1 d.length c1] w fun e w' => e = .returned (.tuple #[.int .i64 r1, .int .i64 r2]) ∧ Below w.heap.size w w' := by
  unfold diff_Cost.k at h
  obtain ⟨⟨q1, q2, q3⟩, hq, h⟩ := Option.bind_eq_some_iff.1 h
  have hu102 := Tryd.underlying102
  have HG := Aside0.mk hG
  have HR0 := Aside0.mk hr0
  have HR1 := Aside0.mk hr1
  have HC0 := Aside0.mk hc0
  have BB := Aside0.mk (Below.refl w.heap.size w)
  have HLN := Aside0.mk (delta_Lens.calls k A1 c1 d q1 q2 q3 w hr1 hc1 hq)
  obtain ⟨n, hn⟩ : ∃ n, d.length = n := ⟨_, rfl⟩
  rw [hn] at HR1 HLN ⊢
  have HN := Aside0.mk hn
  have HNX : Aside0 (n ≤ 9223372036854775807) := ⟨HR1.out.2.1⟩
  have H := Aside0.mk h
  clear h hq hG hr0 hr1 hc0 hc1 hn
  go_enter Tryd.func52, Tryd.ntmps52
  go_upto_region 2 with (go_at_call 98; refine HLN.out.mono ?_; rintro e w3 ⟨rfl, hb3⟩; replace BB := Aside0.mk hb3; clear hb3)
  clear HLN
  by_cases e3 : q3 = 0
  case neg =>
    have := H.out
    rw [if_neg e3] at this
    obtain ⟨rfl, rfl⟩ := Prod.mk.inj (Option.some.inj this)
    have e3' : (q3 != 0) = true := bne_iff_ne.mpr e3
    clear this H
    go_wp2
    go_ret2
    exact ⟨rfl, BB.out⟩
  subst e3
  by_cases e1 : q1 = (l0.length : Int)
  case neg =>
    have := H.out
    rw [if_pos rfl, if_neg e1] at this
    obtain ⟨rfl, rfl⟩ := Prod.mk.inj (Option.some.inj this)
    have e1' : (q1 != (l0.length : Int)) = true := bne_iff_ne.mpr e1
    clear this H
    go_wp2
    go_ret2
    exact ⟨rfl, BB.out⟩
  subst e1
  have H1 := Aside0.mk H.out
  rw [if_pos rfl, if_pos rfl] at H1
  clear H
  go_wp2
  go_loopg [9, 10, 30] n (fun kq v9 v10 v30 w' => ∃ (i : Nat) (p c : Int), v9 = .int .i64 p ∧ v10 = .int .i64 c ∧ v30 = .int .i64 (i : Int) ∧ Aside0 (i ≤ n ∧ n - i ≤ kq) ∧ Aside0 (costFrom k l0 (d.drop i) p c = some (r1, r2)) ∧ Aside0 (Below w.heap.size w w'))
  case atStart => exact ⟨0, 0, 0, rfl, rfl, rfl, ⟨by omega, by omega⟩, H1, BB⟩
  case round =>
  clear H1 BB
  obtain ⟨i, p, c, rfl, rfl, rfl, HI, H, BB⟩ := hrel
  by_cases ci : i < n
  case neg =>
    have ci' : decide ((i : Int) < (n : Int)) = false := decide_eq_false (by omega)
    have hin : ((i : Int) < (n : Int)) = False := eq_false (by omega)
    have h := H.out
    rw [List.drop_eq_nil_of_le (by have := HN.out; omega)] at h
    obtain ⟨rfl, rfl⟩ := Prod.mk.inj (Option.some.inj h)
    clear h H ci HI
    go_wp2
    go_ret2
    exact ⟨rfl, BB.out⟩
  have CI := Aside0.mk ci
  have ci' : decide ((i : Int) < (n : Int)) = true := decide_eq_true (by omega)
  have hi2 : (i : Int) < (n : Int) := by omega
  have hwi : wrap64 ((i : Int) + 1) = ((i + 1 : Nat) : Int) := by have := HNX.out; unfold wrap64; omega
  cases gk with
  | zero => have := HI.out; omega
  | succ kk =>
  have hlen : i < d.length := by have := HN.out; omega
  clear ci
  obtain ⟨ad, rfl, hx0, hx1, hx2⟩ := at_T102 (Kd.C_below HR1.out BB.out) (i : Int) (by omega) (by omega)
  rw [Int.toNat_natCast] at hx0 hx1 hx2
  have hrd : rd_T102 d (i : Int) = d[i] := by simp [rd_T102, hlen]
  rw [hrd] at hx0 hx1 hx2
  have h := H.out
  rw [List.drop_eq_getElem_cons hlen] at h
  clear hrd H
  generalize d[i] = o at hx0 hx1 hx2 h
  obtain ⟨f0, f1, f2⟩ := o
  unfold costFrom at h
  have H := Aside0.mk h
  clear h hlen
  dsimp only at hx0 hx1 hx2
  go_upto_region 10 with ((with_reducible refine gate_dst (N := 12) rfl ?_); refine box_event ?hg (N := 12) ?hd (cs := #[.int .i64 0, .int .i64 0, .string ⟨#[]⟩]) (t := 102) ?hr ?_; (case hd => rfl); (case hg => rfl); (case hr => first | (go_simp; done) | (go_simp; rfl)); intro gb hgb w6 hbox hb; have BK := Aside0.mk hbox; have HB6 := Aside0.mk hb; have HG6 : Aside0 (wr.heap.size ≤ gb) := ⟨by rw [hgb]; exact Nat.le_refl _⟩; have hcz0 := (blk_cell BK.out 0).trans rfl; have hcz1 := (blk_cell BK.out 1).trans rfl; have hcz2 := (blk_cell BK.out 2).trans rfl; have hfz0 := blk_frozen BK.out 0; have hfz1 := blk_frozen BK.out 1; have hfz2 := blk_frozen BK.out 2; clear hbox hb hgb)
  refine world_ (fun V hV => ?_)
  have Q : Aside0 (V.heap[gb]? = some (.cells #[.int .i64 f0, .int .i64 f1, .string f2] 102 (0, 0))) := ⟨by
    rw [hV]
    refine blk_put (cs := #[.int .i64 f0, .int .i64 f1, .string ⟨#[]⟩]) ?_ 2 _ rfl
    refine blk_put (cs := #[.int .i64 f0, .int .i64 0, .string ⟨#[]⟩]) ?_ 1 _ rfl
    exact blk_put (cs := #[.int .i64 0, .int .i64 0, .string ⟨#[]⟩]) BK.out 0 _ rfl⟩
  have BV : Below wr.heap.size wr V := by
    rw [hV]
    exact ((HB6.out.setCell HG6.out _).setCell HG6.out _).setCell HG6.out _
  replace BB := Aside0.mk (BB.out.trans (BV.mono BB.out.size))
  clear hV BV BK HB6 HG6 hcz0 hcz1 hcz2 hfz0 hfz1 hfz2 hx0 hx1 hx2
  have y0 : V.cell? ⟨gb, 0, none⟩ = some (.int .i64 f0) := (blk_cell Q.out 0).trans rfl
  have y1 : V.cell? ⟨gb, 1, none⟩ = some (.int .i64 f1) := (blk_cell Q.out 1).trans rfl
  have y2 : V.cell? ⟨gb, 2, none⟩ = some (.string f2) := (blk_cell Q.out 2).trans rfl
  by_cases k2 : f0 = 2
  case pos =>
    have h := H.out
    rw [if_pos k2] at h
    by_cases hsz : f2.size ≤ 9223372036854775807
    case neg => rw [if_neg hsz] at h; cases h
    rw [if_pos hsz] at h
    obtain ⟨x, hx, h9⟩ := Option.bind_eq_some_iff.1 h
    subst k2
    have HX := Aside0.mk (And.intro hsz hx)
    have H2 := Aside0.mk h9
    clear h9 h H hx hsz
    have hcv := conv_bytes f2
    go_wp2_with (go_at_call 87; refine (steps_conv f2 x HX.out.1 HX.out.2 V (HG.out.below BB.out)).mono ?_; rintro e w7 ⟨vx, rfl, hR, hB7⟩; obtain ⟨Ax, cx, rfl⟩ := Kd.R_slice hR; replace BB := Aside0.mk (BB.out.trans (hB7.mono BB.out.size)); clear hB7 hR y0 y1 y2)
    go_roundg kk
    case measure => omega
    case rel => exact ⟨i + 1, _, _, rfl, rfl, by first | rfl | rw [hwi], ⟨by have := CI.out; omega, by have := HI.out; omega⟩, H2, BB⟩
  have k2' : (f0 == 2) = false := beq_eq_false_iff_ne.mpr k2
  have h := H.out
  rw [if_neg k2] at h
  obtain ⟨b1, hb1, h⟩ := Option.bind_eq_some_iff.1 h
  have E1 : Aside0 (∀ W, Below w.heap.size w W → Calls Tryd.prog 55 #[.slice A0 l0.length c0, .int .i64 p] W fun e w' => e = .returned (.bool b1) ∧ Below W.heap.size W w') := ⟨fun W hW => step_Edge.calls k A0 c0 l0 p b1 W (Kd.C_below HR0.out hW) HC0.out (HG.out.below hW) hb1⟩
  clear hb1 H
  cases b1 with
  | false =>
    obtain ⟨rfl, rfl⟩ := Prod.mk.inj (Option.some.inj ((if_neg (by simp)).symm.trans h))
    clear h
    go_wp2_with (go_at_call 55; with_reducible refine (E1.out _ BB.out).mono ?_; rintro e w7 ⟨rfl, hB7⟩; replace BB := Aside0.mk (BB.out.trans (hB7.mono BB.out.size)); clear hB7 y0 y1 y2)
    go_ret2
    exact ⟨rfl, BB.out⟩
  | true =>
  rw [if_pos rfl] at h
  obtain ⟨b2, hb2, h⟩ := Option.bind_eq_some_iff.1 h
  obtain ⟨p', hp'⟩ : ∃ p', wrap64 (p + f1) = p' := ⟨_, rfl⟩
  rw [hp'] at hb2 h
  have E2 : Aside0 (∀ W, Below w.heap.size w W → Calls Tryd.prog 55 #[.slice A0 l0.length c0, .int .i64 p'] W fun e w' => e = .returned (.bool b2) ∧ Below W.heap.size W w') := ⟨fun W hW => step_Edge.calls k A0 c0 l0 p' b2 W (Kd.C_below HR0.out hW) HC0.out (HG.out.below hW) hb2⟩
  clear hb2
  cases b2 with
  | false =>
    obtain ⟨rfl, rfl⟩ := Prod.mk.inj (Option.some.inj ((if_neg (by simp)).symm.trans h))
    clear h
    go_wp2_with (first | (go_at_call 55; with_reducible refine (E1.out _ BB.out).mono ?_; rintro e w7 ⟨rfl, hB7⟩; replace BB := Aside0.mk (BB.out.trans (hB7.mono BB.out.size)); replace Q := Aside0.mk (blk_below Q.out hB7); replace y0 := (blk_cell Q.out 0).trans rfl; replace y1 := (blk_cell Q.out 1).trans rfl; replace y2 := (blk_cell Q.out 2).trans rfl; clear hB7; clear E1) | (go_at_call 55; with_reducible refine (E2.out _ BB.out).mono ?_; rintro e w8 ⟨rfl, hB7⟩; replace BB := Aside0.mk (BB.out.trans (hB7.mono BB.out.size)); replace Q := Aside0.mk (blk_below Q.out hB7); replace y0 := (blk_cell Q.out 0).trans rfl; replace y1 := (blk_cell Q.out 1).trans rfl; replace y2 := (blk_cell Q.out 2).trans rfl; clear hB7; clear E2))
    go_ret2
    exact ⟨rfl, BB.out⟩
  | true =>
  rw [if_pos rfl] at h
  by_cases k3 : f0 = 3
  case neg =>
    have k3' : (f0 == 3) = false := beq_eq_false_iff_ne.mpr k3
    rw [if_neg k3] at h
    have H2 := Aside0.mk h
    clear h
    go_wp2_with (first | (go_at_call 55; with_reducible refine (E1.out _ BB.out).mono ?_; rintro e w7 ⟨rfl, hB7⟩; replace BB := Aside0.mk (BB.out.trans (hB7.mono BB.out.size)); replace Q := Aside0.mk (blk_below Q.out hB7); replace y0 := (blk_cell Q.out 0).trans rfl; replace y1 := (blk_cell Q.out 1).trans rfl; replace y2 := (blk_cell Q.out 2).trans rfl; clear hB7; clear E1) | (go_at_call 55; with_reducible refine (E2.out _ BB.out).mono ?_; rintro e w8 ⟨rfl, hB7⟩; replace BB := Aside0.mk (BB.out.trans (hB7.mono BB.out.size)); replace Q := Aside0.mk (blk_below Q.out hB7); replace y0 := (blk_cell Q.out 0).trans rfl; replace y1 := (blk_cell Q.out 1).trans rfl; replace y2 := (blk_cell Q.out 2).trans rfl; clear hB7; clear E2))
    go_roundg kk
    case measure => omega
    case rel => exact ⟨i + 1, _, _, rfl, rfl, by first | rfl | rw [hwi], ⟨by have := CI.out; omega, by have := HI.out; omega⟩, by first | exact H2 | exact ⟨by rw [hp']; exact H2.out⟩, BB⟩
  rw [if_pos k3] at h
  by_cases g1 : 0 ≤ p
  case neg => rw [if_neg g1] at h; cases h
  rw [if_pos g1] at h
  by_cases g2 : p ≤ p'
  case neg => rw [if_neg g2] at h; cases h
  rw [if_pos g2] at h
  by_cases g3 : p' ≤ (l0.length : Int)
  case neg => rw [if_neg g3] at h; cases h
  rw [if_pos g3] at h
  obtain ⟨x, hx, h9⟩ := Option.bind_eq_some_iff.1 h
  subst k3
  obtain ⟨i05, hi05, _, hsz5, _⟩ := info_parts info5
  obtain ⟨A15, hcut15, hA15, hC15⟩ := print_mid_of (P := Tryd.prog) (Value.int .u8) 0 22 5 .i64 .i64 Tryd.underlying22 hi05 hsz5 A0 c0 l0 p p' g1 g2 g3 HC0.out
  have E3 : Aside0 (∀ W, Below w.heap.size w W → Calls Tryd.prog 87 #[.slice A15 ((l0.take p'.toNat).drop p.toNat).length (c0 - p.toNat)] W fun e w' => ∃ v0_ : Value, e = .returned v0_ ∧ Kd.R Kd.string 9 w' W.heap.size (fun _ => True) v0_ x ∧ Below W.heap.size W w') := ⟨fun W hW => diff_steps.calls A15 _ _ x W (Kd.C_of_reads (h1 := fun _ => rfl) (hA15 _ (Kd.reads_of_C (Kd.C_below HR0.out hW)))) hC15 (HG.out.below hW) hx⟩
  obtain ⟨ln, hln⟩ : ∃ ln, ((l0.take p'.toNat).drop p.toNat).length = ln := ⟨_, rfl⟩
  rw [hln] at hcut15 E3
  have H2 := Aside0.mk h9
  clear h h9 hx hi05 hsz5 hA15 hC15 hln g1 g2 g3
  go_wp2_with (first | (go_at_call 55; with_reducible refine (E1.out _ BB.out).mono ?_; rintro e w7 ⟨rfl, hB7⟩; replace BB := Aside0.mk (BB.out.trans (hB7.mono BB.out.size)); replace Q := Aside0.mk (blk_below Q.out hB7); replace y0 := (blk_cell Q.out 0).trans rfl; replace y1 := (blk_cell Q.out 1).trans rfl; replace y2 := (blk_cell Q.out 2).trans rfl; clear hB7; clear E1) | (go_at_call 55; with_reducible refine (E2.out _ BB.out).mono ?_; rintro e w8 ⟨rfl, hB7⟩; replace BB := Aside0.mk (BB.out.trans (hB7.mono BB.out.size)); replace Q := Aside0.mk (blk_below Q.out hB7); replace y0 := (blk_cell Q.out 0).trans rfl; replace y1 := (blk_cell Q.out 1).trans rfl; replace y2 := (blk_cell Q.out 2).trans rfl; clear hB7; clear E2) | (go_at_call 87; with_reducible refine (E3.out _ BB.out).mono ?_; rintro e w9 ⟨vx, rfl, hR, hB7⟩; obtain ⟨Ax, cx, rfl⟩ := Kd.R_slice hR; replace BB := Aside0.mk (BB.out.trans (hB7.mono BB.out.size)); replace Q := Aside0.mk (blk_below Q.out hB7); replace y0 := (blk_cell Q.out 0).trans rfl; replace y1 := (blk_cell Q.out 1).trans rfl; replace y2 := (blk_cell Q.out 2).trans rfl; clear hB7; clear hR E3))
  go_roundg kk
  case measure => omega
  case rel => exact ⟨i + 1, _, _, rfl, rfl, by first | rfl | rw [hwi], ⟨by have := CI.out; omega, by have := HI.out; omega⟩, by first | exact H2 | exact ⟨by rw [hp']; exact H2.out⟩, BB⟩
end Go.Proofs.YtbomhpfckplgaaaDoor.P
namespace Go.Proofs.YtbomhpfckplgaaaDoor.P
open Go Go.RowKit Go.Proofs.YtbomhpfckplgaaaDoorW.PrintWords Go.Proofs.YtbomhpfckplgaaaDoorW.PrintLast Go.Proofs.YtbomhpfckplgaaaDoorW.PrintMore
set_option linter.unusedVariables false
set_option linter.unusedSimpArgs false
set_option maxRecDepth 100000
attribute [local go_sem] max2_int min2_int max_two min_two max_three min_three max_four min_four
open LCS Lead
def rawF : Nat → List ByteArray → List ByteArray → List Raw
  | 0, _, _ => []
  | _ + 1, [], [] => []
  | n + 1, [], b :: bs => .put b :: rawF n [] bs
  | n + 1, a :: xs, [] => .drop a :: rawF n xs []
  | n + 1, a :: xs, b :: bs => if a = b then .keep a :: rawF n xs bs else if lcsN xs (b :: bs) ≤ lcsN (a :: xs) bs then .put b :: rawF n (a :: xs) bs else .drop a :: rawF n xs (b :: bs)
theorem rawF_eq : ∀ (n : Nat) (a b : List ByteArray), a.length + b.length ≤ n → rawF n a b = rawL a b
  | 0, [], [], _ => rawL_nil_nil.symm
  | 0, a :: xs, b, h => by simp at h
  | 0, [], b :: bs, h => by simp at h
  | n + 1, [], [], _ => rawL_nil_nil.symm
  | n + 1, [], b :: bs, h => by rw [rawL_nil, ← rawF_eq n [] bs (by simp at h ⊢; omega)]; rfl
  | n + 1, a :: xs, [], h => by rw [rawL_end, ← rawF_eq n xs [] (by simp at h ⊢; omega)]; rfl
  | n + 1, a :: xs, b :: bs, h => by
    simp at h
    rw [rawL_cons, ← rawF_eq n xs bs (by omega), ← rawF_eq n (a :: xs) bs (by simp; omega), ← rawF_eq n xs (b :: bs) (by simp; omega)]
    rfl
def leadsF (x y : List ByteArray) : Option (List S102 × Int) :=
  if x.length > 2048 ∨ y.length > 2048 then some ([], 190)
  else if (x.all fun s => decide (0 < s.size)) = true ∧ (y.all fun s => decide (0 < s.size)) = true ∧ sizeB x + sizeB y ≤ 268435456 then some (canonR (rawF (x.length + y.length) x y), 0) else none
theorem leadsF_eq : diff_leads.f = leadsF := by
  funext x y
  unfold diff_leads.f leadsF
  rw [rawF_eq _ x y (Nat.le_refl _)]
def kD : List S102 := [⟨1, 1, ⟨#[]⟩⟩, ⟨2, 0, ⟨#[195, 169]⟩⟩, ⟨3, 1, ⟨#[]⟩⟩, ⟨1, 1, ⟨#[]⟩⟩]
def kL : List S102 := [⟨1, 2, ⟨#[]⟩⟩, ⟨2, 0, ⟨#[120]⟩⟩, ⟨1, 1, ⟨#[]⟩⟩]
def kM : List S102 := [⟨1, 2, ⟨#[]⟩⟩, ⟨3, 2, ⟨#[]⟩⟩, ⟨1, 1, ⟨#[]⟩⟩]
theorem w19_dist : diff_Distance.f [107, 105, 116, 116, 101, 110] [115, 105, 116, 116, 105, 110, 103] = some (5, 0) := by kernel_rfl
theorem w19_least : diff_Least.f [97, 98, 99] [97, 98, 120, 99] = some (kL, 0) := by
  unfold diff_Least.f
  rw [leadsF_eq]
  kernel_rfl
theorem w19_lines : diff_Lines.f 40 [97, 10, 98, 10, 99] [97, 10, 99] = some (kM, 0) := by
  unfold diff_Lines.f
  rw [leadsF_eq]
  kernel_rfl
theorem w19_cost : diff_Cost.k 40 [97, 98, 99] kD = some (2, 0) := by kernel_rfl
theorem w19_same1 : galleyref14_Same.f 20 kL kL = some true := by kernel_rfl
theorem w19_same2 : galleyref14_Same.f 20 kM kM = some true := by kernel_rfl
theorem const1 (w : World) (a : List Int) (ha : a.length ≤ 9223372036854775807) : ∃ W1, (convert 22 22 (.slice (some ⟨w.heap.size, 0, none⟩) a.length a.length)).run Tryd.prog (w.alloc (.cells (a.map (Value.int .u8)).toArray 5)) = .ok (.slice (some ⟨w.heap.size, 0, none⟩) a.length a.length) W1 ∧ Below w.heap.size w W1 ∧ Kd.C (Kd.int .u8) W1 (some ⟨w.heap.size, 0, none⟩) a.length a := by
  refine ⟨_, Go.Lib.run_convert_bytes_const (P := Tryd.prog) w 22 5 _ a.length a.length Tryd.underlying22 Tryd.underlying5, (Below.refl _ w).alloc (Nat.le_refl _) _, C_blk (blk_new w _) ha⟩
theorem const2 (w : World) (a b : List Int) (ha : a.length ≤ 9223372036854775807) (hb : b.length ≤ 9223372036854775807) : ∃ W1 W2, (convert 22 22 (.slice (some ⟨w.heap.size, 0, none⟩) a.length a.length)).run Tryd.prog (w.alloc (.cells (a.map (Value.int .u8)).toArray 5)) = .ok (.slice (some ⟨w.heap.size, 0, none⟩) a.length a.length) W1 ∧
    (convert 22 22 (.slice (some ⟨W1.heap.size, 0, none⟩) b.length b.length)).run Tryd.prog (W1.alloc (.cells (b.map (Value.int .u8)).toArray 5)) = .ok (.slice (some ⟨W1.heap.size, 0, none⟩) b.length b.length) W2 ∧ Below w.heap.size w W2 ∧ Kd.C (Kd.int .u8) W2 (some ⟨w.heap.size, 0, none⟩) a.length a ∧ Kd.C (Kd.int .u8) W2 (some ⟨W1.heap.size, 0, none⟩) b.length b := by
  obtain ⟨W1, h1, h2, h3⟩ := const1 w a ha
  obtain ⟨W2, h4, h5, h6⟩ := const1 W1 b hb
  exact ⟨W1, W2, h1, h4, h2.trans (h5.mono h2.size), Kd.C_below h3 h5, h6⟩
def flat102 (l : List S102) : List Value := l.flatMap fun x => [.int .i64 x.f0, .int .i64 x.f1, .string x.f2]
theorem flat102_get : ∀ (l : List S102) (j : Nat) (p : S102), l[j]? = some p → ∀ i u, [Value.int .i64 p.f0, .int .i64 p.f1, .string p.f2][i]? = some u → (flat102 l)[j * 3 + i]? = some u
  | [], j, p, h, _, _, _ => by simp at h
  | x :: l, 0, p, h, i, u, hu => by
    simp at h
    subst h
    match i, hu with
    | 0, hu => simpa [flat102] using hu
    | 1, hu => simpa [flat102] using hu
    | 2, hu => simpa [flat102] using hu
    | i + 3, hu => simp at hu
  | x :: l, j + 1, p, h, i, u, hu => by
    have ih := flat102_get l j p (by simpa using h) i u hu
    have e : (j + 1) * 3 + i = (j * 3 + i) + 3 := by omega
    rw [e]
    show ([Value.int .i64 x.f0, .int .i64 x.f1, .string x.f2] ++ flat102 l)[(j * 3 + i) + 3]? = some u
    rw [List.getElem?_append_right (by simp)]
    simpa using ih
theorem C102_blk {W : World} {g : Nat} {l : List S102} {fz : Nat × Nat} (h : W.heap[g]? = some (.cells (flat102 l).toArray 102 fz)) (hn : l.length ≤ 9223372036854775807) : Kd.C k102 W (some ⟨g, 0, none⟩) l.length l := by
  refine ⟨rfl, hn, fun _ => ⟨_, rfl, fun j p hj => ⟨_, rfl, k102_mk W p, fun i u hu => ?_⟩⟩⟩
  have h1 := flat102_get l j p hj i u hu
  have ha : (⟨g, 0, none⟩ : Addr).add (j * k102.sz + i) = ⟨g, j * 3 + i, none⟩ := by
    show (⟨g, 0, none⟩ : Addr).add (j * 3 + i) = _
    unfold Addr.add
    split
    · next h0 => rw [h0]
    · simp
  rw [ha]
  unfold World.cell?
  rw [h]
  simpa using h1
def galleylaw19_wakes.f (k : Nat) : Option Bool := some true
set_option maxHeartbeats 16000000 in
set_option maxRecDepth 100000 in
theorem wakes19_any (w : World) (hG : Laid w) : Calls Tryd.prog 41 #[] w fun e w' => e = .returned (.bool true) ∧ Below w.heap.size w w' := by
  have hu102 := Tryd.underlying102
  have HG := Aside0.mk hG
  clear hG
  obtain ⟨W1, W2, pa0, pb0, pb, pA, pB⟩ := const2 w [107, 105, 116, 116, 101, 110] [115, 105, 116, 116, 105, 110, 103] (by decide) (by decide)
  have pa : (convert 22 22 (.slice (some ⟨w.heap.size, 0, none⟩) 6 6)).run Tryd.prog (w.alloc (.cells #[.int .u8 107, .int .u8 105, .int .u8 116, .int .u8 116, .int .u8 101, .int .u8 110] 5)) = .ok (.slice (some ⟨w.heap.size, 0, none⟩) 6 6) W1 := pa0
  have pb1 : (convert 22 22 (.slice (some ⟨W1.heap.size, 0, none⟩) 7 7)).run Tryd.prog (W1.alloc (.cells #[.int .u8 115, .int .u8 105, .int .u8 116, .int .u8 116, .int .u8 105, .int .u8 110, .int .u8 103] 5)) = .ok (.slice (some ⟨W1.heap.size, 0, none⟩) 7 7) W2 := pb0
  clear pa0 pb0
  have X1 : Aside0 (Calls Tryd.prog 46 #[.slice (some ⟨w.heap.size, 0, none⟩) 6 6, .slice (some ⟨W1.heap.size, 0, none⟩) 7 7] W2 fun e w' => e = .returned (.tuple #[.int .i64 5, .int .i64 0]) ∧ Below W2.heap.size W2 w') := ⟨diff_Distance.calls _ 6 [107, 105, 116, 116, 101, 110] _ 7 [115, 105, 116, 116, 105, 110, 103] 5 0 W2 pA (by decide) pB (by decide) (HG.out.below pb) w19_dist⟩
  have P2 := Aside0.mk pb
  clear pA pB pb
  go_enter Tryd.func41, Tryd.ntmps41
  go_upto_region 2 with (go_at_call 46; refine X1.out.mono ?_; rintro e w3 ⟨rfl, hb3⟩; have P3 := Aside0.mk (P2.out.trans (hb3.mono P2.out.size)); clear hb3)
  clear pa pb1 X1 P2
  obtain ⟨W4, W5, qa0, qb0, qb, qA, qB⟩ := const2 w3 [97, 98, 99] [97, 98, 120, 99] (by decide) (by decide)
  have qa : (convert 22 22 (.slice (some ⟨w3.heap.size, 0, none⟩) 3 3)).run Tryd.prog (w3.alloc (.cells #[.int .u8 97, .int .u8 98, .int .u8 99] 5)) = .ok (.slice (some ⟨w3.heap.size, 0, none⟩) 3 3) W4 := qa0
  have qb1 : (convert 22 22 (.slice (some ⟨W4.heap.size, 0, none⟩) 4 4)).run Tryd.prog (W4.alloc (.cells #[.int .u8 97, .int .u8 98, .int .u8 120, .int .u8 99] 5)) = .ok (.slice (some ⟨W4.heap.size, 0, none⟩) 4 4) W5 := qb0
  clear qa0 qb0
  have P5 := Aside0.mk (P3.out.trans (qb.mono P3.out.size))
  have X2 : Aside0 (Calls Tryd.prog 44 #[.slice (some ⟨w3.heap.size, 0, none⟩) 3 3, .slice (some ⟨W4.heap.size, 0, none⟩) 4 4] W5 fun e w' => ∃ v0_ : Value, e = .returned (.tuple #[v0_, .int .i64 0]) ∧ Kd.R k102 102 w' W5.heap.size (fun _ => True) v0_ kL ∧ Below W5.heap.size W5 w') := ⟨diff_Least.calls _ 3 [97, 98, 99] _ 4 [97, 98, 120, 99] kL 0 W5 qA (by decide) qB (by decide) (HG.out.below P5.out) w19_least⟩
  clear qA qB qb P3
  go_upto_region 3 with (go_at_call 44; refine X2.out.mono ?_; rintro e w6 ⟨v6, rfl, hR6, hb6⟩; have R6 := Aside0.mk hR6; have P6 := Aside0.mk (P5.out.trans (hb6.mono P5.out.size)); clear hb6 hR6)
  clear qa qb1 X2 P5
  obtain ⟨W7, W8, ra0, rb0, rb, rA, rB⟩ := const2 w6 [97, 10, 98, 10, 99] [97, 10, 99] (by decide) (by decide)
  have ra : (convert 22 22 (.slice (some ⟨w6.heap.size, 0, none⟩) 5 5)).run Tryd.prog (w6.alloc (.cells #[.int .u8 97, .int .u8 10, .int .u8 98, .int .u8 10, .int .u8 99] 5)) = .ok (.slice (some ⟨w6.heap.size, 0, none⟩) 5 5) W7 := ra0
  have rb1 : (convert 22 22 (.slice (some ⟨W7.heap.size, 0, none⟩) 3 3)).run Tryd.prog (W7.alloc (.cells #[.int .u8 97, .int .u8 10, .int .u8 99] 5)) = .ok (.slice (some ⟨W7.heap.size, 0, none⟩) 3 3) W8 := rb0
  clear ra0 rb0
  have P8 := Aside0.mk (P6.out.trans (rb.mono P6.out.size))
  have X3 : Aside0 (Calls Tryd.prog 45 #[.slice (some ⟨w6.heap.size, 0, none⟩) 5 5, .slice (some ⟨W7.heap.size, 0, none⟩) 3 3] W8 fun e w' => ∃ v0_ : Value, e = .returned (.tuple #[v0_, .int .i64 0]) ∧ Kd.R k102 102 w' W8.heap.size (fun _ => True) v0_ kM ∧ Below W8.heap.size W8 w') := ⟨diff_Lines.calls 40 _ 5 [97, 10, 98, 10, 99] _ 3 [97, 10, 99] kM 0 W8 rA (by decide) rB (by decide) w19_lines⟩
  have R8 := Aside0.mk (Kd.R_below R6.out rb)
  clear rA rB rb P6 R6
  go_upto_region 4 with (go_at_call 45; refine X3.out.mono ?_; rintro e w9 ⟨v9, rfl, hR9, hb9⟩; have R9 := Aside0.mk hR9; replace R8 := Aside0.mk (Kd.R_below R8.out hb9); have P9 := Aside0.mk (P8.out.trans (hb9.mono P8.out.size)); clear hb9 hR9)
  clear ra rb1 X3 P8
  obtain ⟨Wa, sa0, sb, sA⟩ := const1 w9 [97, 98, 99] (by decide)
  have sa : (convert 22 22 (.slice (some ⟨w9.heap.size, 0, none⟩) 3 3)).run Tryd.prog (w9.alloc (.cells #[.int .u8 97, .int .u8 98, .int .u8 99] 5)) = .ok (.slice (some ⟨w9.heap.size, 0, none⟩) 3 3) Wa := sa0
  have Pa := Aside0.mk (P9.out.trans (sb.mono P9.out.size))
  have Ra := Aside0.mk (And.intro (Kd.R_below R8.out sb) (Kd.R_below R9.out sb))
  have hb4 : Below Wa.heap.size Wa (Wa.alloc (.cells #[.int .i64 1, .int .i64 1, .string ⟨#[]⟩, .int .i64 2, .int .i64 0, .string ⟨#[195, 169]⟩, .int .i64 3, .int .i64 1, .string ⟨#[]⟩, .int .i64 1, .int .i64 1, .string ⟨#[]⟩] 102)) := (Below.refl _ Wa).alloc (Nat.le_refl _) _
  have Pb := Aside0.mk (Pa.out.trans (hb4.mono Pa.out.size))
  have X4 : Aside0 (Calls Tryd.prog 52 #[.slice (some ⟨w9.heap.size, 0, none⟩) 3 3, .slice (some ⟨Wa.heap.size, 0, none⟩) 4 4] (Wa.alloc (.cells #[.int .i64 1, .int .i64 1, .string ⟨#[]⟩, .int .i64 2, .int .i64 0, .string ⟨#[195, 169]⟩, .int .i64 3, .int .i64 1, .string ⟨#[]⟩, .int .i64 1, .int .i64 1, .string ⟨#[]⟩] 102)) fun e w' => e = .returned (.tuple #[.int .i64 2, .int .i64 0]) ∧ Below (Wa.alloc (.cells #[.int .i64 1, .int .i64 1, .string ⟨#[]⟩, .int .i64 2, .int .i64 0, .string ⟨#[195, 169]⟩, .int .i64 3, .int .i64 1, .string ⟨#[]⟩, .int .i64 1, .int .i64 1, .string ⟨#[]⟩] 102)).heap.size (Wa.alloc (.cells #[.int .i64 1, .int .i64 1, .string ⟨#[]⟩, .int .i64 2, .int .i64 0, .string ⟨#[195, 169]⟩, .int .i64 3, .int .i64 1, .string ⟨#[]⟩, .int .i64 1, .int .i64 1, .string ⟨#[]⟩] 102)) w') := ⟨diff_Cost.callsK 40 _ 3 [97, 98, 99] _ 4 kD 2 0 _ (Kd.C_below sA hb4) (by decide) (C102_blk (l := kD) (blk_new Wa _) (by decide)) (by decide) (HG.out.below Pb.out) w19_cost⟩
  have Rb := Aside0.mk (And.intro (Kd.R_below Ra.out.1 hb4) (Kd.R_below Ra.out.2 hb4))
  clear sA sb sa0 hb4 R8 R9 P9 Ra Pa
  go_upto_region 5 with (go_at_call 52; refine X4.out.mono ?_; rintro e wc ⟨rfl, hbc⟩; have Pc := Aside0.mk (Pb.out.trans (hbc.mono Pb.out.size)); have Rc := Aside0.mk (And.intro (Kd.R_below Rb.out.1 hbc) (Kd.R_below Rb.out.2 hbc)); clear hbc)
  clear sa X4 Pb Rb
  obtain ⟨Av, cv, hv⟩ := Kd.R_slice Rc.out.1
  obtain ⟨Aw, cw, hw⟩ := Kd.R_slice Rc.out.2
  replace hv : v6 = .slice Av 3 cv := hv
  replace hw : v9 = .slice Aw 3 cw := hw
  subst hv
  subst hw
  have S1 : Aside0 (Calls Tryd.prog 47 #[.slice Av 3 cv, .slice (some ⟨wc.heap.size, 0, none⟩) 3 3] (wc.alloc (.cells #[.int .i64 1, .int .i64 2, .string ⟨#[]⟩, .int .i64 2, .int .i64 0, .string ⟨#[120]⟩, .int .i64 1, .int .i64 1, .string ⟨#[]⟩] 102)) fun e w' => e = .returned (.bool true) ∧ Below wc.heap.size wc w') := ⟨by
    have hb : Below wc.heap.size wc (wc.alloc (.cells #[.int .i64 1, .int .i64 2, .string ⟨#[]⟩, .int .i64 2, .int .i64 0, .string ⟨#[120]⟩, .int .i64 1, .int .i64 1, .string ⟨#[]⟩] 102)) := (Below.refl _ wc).alloc (Nat.le_refl _) _
    obtain ⟨-, h2, h3⟩ := Kd.R_reads' Rc.out.1
    exact (galleyref14_Same.calls 20 Av cv kL _ 3 kL true _ (Kd.C_below h3 hb) h2 (C102_blk (l := kL) (blk_new wc _) (by decide)) (by decide) w19_same1).mono fun e w' ⟨he, hd⟩ => ⟨he, hb.trans (hd.below.mono hb.size)⟩⟩
  have S2 : Aside0 (∀ W, Below wc.heap.size wc W → Calls Tryd.prog 47 #[.slice Aw 3 cw, .slice (some ⟨W.heap.size, 0, none⟩) 3 3] (W.alloc (.cells #[.int .i64 1, .int .i64 2, .string ⟨#[]⟩, .int .i64 3, .int .i64 2, .string ⟨#[]⟩, .int .i64 1, .int .i64 1, .string ⟨#[]⟩] 102)) fun e w' => e = .returned (.bool true) ∧ Below W.heap.size W w') := ⟨fun W hW => by
    have hb : Below W.heap.size W (W.alloc (.cells #[.int .i64 1, .int .i64 2, .string ⟨#[]⟩, .int .i64 3, .int .i64 2, .string ⟨#[]⟩, .int .i64 1, .int .i64 1, .string ⟨#[]⟩] 102)) := (Below.refl _ W).alloc (Nat.le_refl _) _
    obtain ⟨-, h2, h3⟩ := Kd.R_reads' Rc.out.2
    exact (galleyref14_Same.calls 20 Aw cw kM _ 3 kM true _ (Kd.C_below (Kd.C_below h3 hW) hb) h2 (C102_blk (l := kM) (blk_new W _) (by decide)) (by decide) w19_same2).mono fun e w' ⟨he, hd⟩ => ⟨he, hb.trans (hd.below.mono hb.size)⟩⟩
  go_wp2_with (first | (go_at_call 47; with_reducible refine S1.out.mono ?_; rintro e wd ⟨rfl, hbd⟩; have Pd := Aside0.mk hbd; clear hbd S1) | (go_at_call 47; with_reducible refine (S2.out wd Pd.out).mono ?_; rintro e we ⟨rfl, hbe⟩; have Pe := Aside0.mk hbe; clear hbe S2))
  go_ret
  exact ⟨rfl, Pc.out.trans ((Pd.out.trans (Pe.out.mono Pd.out.size)).mono Pc.out.size)⟩
theorem galleylaw19_wakes.calls (k : Nat) (r : Bool) (w : World) (hG : Laid w) (h : galleylaw19_wakes.f k = some r) :
    Calls Tryd.prog 41 #[] w fun e w' => e = .returned (.bool r) ∧ Below w.heap.size w w' := by
  obtain rfl := Option.some.inj h
  exact wakes19_any w hG
end Go.Proofs.YtbomhpfckplgaaaDoor.P
