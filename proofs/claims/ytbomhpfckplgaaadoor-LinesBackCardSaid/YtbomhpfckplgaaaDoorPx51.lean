-- Written by a program (the kit's print, turned so that hand-proved contracts are taken as given).
import Derived.Test.YtbomhpfckplgaaaDoorPx0
import Derived.Test.YtbomhpfckplgaaaDoorH
namespace Go.Proofs.YtbomhpfckplgaaaDoor.P
open Go.RowKit Go.Proofs.YtbomhpfckplgaaaDoorW.PrintWords Go.Proofs.YtbomhpfckplgaaaDoorW.PrintLast Go.Proofs.YtbomhpfckplgaaaDoorW.PrintMore
attribute [local go_sem] max2_int min2_int max_two min_two max_three min_three max_four min_four   -- for this text's walks alone
set_option linter.unusedVariables false
set_option linter.unusedSimpArgs false

/-! ### step_at: function 135 -/
def step_at.f (l0 : List Int) (a1 : Int) : Option (Int × Int × Bool) := if 0 ≤ a1 then (if a1 ≤ (mn (wrap64 (a1 + 4)) (l0.length : Int)) then (if (mn (wrap64 (a1 + 4)) (l0.length : Int)) ≤ (l0.length : Int) then ((step_first.f (strOfNums ((l0.take ((mn (wrap64 (a1 + 4)) (l0.length : Int)) : Int).toNat).drop (a1 : Int).toNat))).bind fun bt639 => (some (bt639.1, bt639.2.1, bt639.2.2))) else (none)) else (none)) else (none)
set_option maxHeartbeats 8000000 in
set_option maxRecDepth 100000 in
theorem step_at.calls (A0 : Option Addr) (c0 : Nat) (l0 : List Int) (a1 : Int) (r1 : Int) (r2 : Int) (r3 : Bool) (w : World) (hr0 : Kd.C (Kd.int .u8) w A0 l0.length l0) (hc0 : l0.length ≤ c0) (hG : Laid w) (h : step_at.f l0 a1 = some (r1, r2, r3)) :
    Calls Tryd.prog 135 #[.slice A0 l0.length c0, .int .i64 a1] w fun e w' => e = .returned (.agg #[.int .i32 r1, .int .i64 r2, .bool r3]) ∧ Below w.heap.size w w' := by
  have hu121 := Tryd.underlying121
  have HG := Aside0.mk hG
  clear hG
  have HR0 := Aside0.mk hr0
  have HC0 := Aside0.mk hc0
  clear hr0 hc0
  have HB := Aside0.mk (Below.refl w.heap.size w)
  have H : (if 0 ≤ a1 then (if a1 ≤ (mn (wrap64 (a1 + 4)) (l0.length : Int)) then (if (mn (wrap64 (a1 + 4)) (l0.length : Int)) ≤ (l0.length : Int) then ((step_first.f (strOfNums ((l0.take ((mn (wrap64 (a1 + 4)) (l0.length : Int)) : Int).toNat).drop (a1 : Int).toNat))).bind fun bt639 => (some (bt639.1, bt639.2.1, bt639.2.2))) else (none)) else (none)) else (none)) = some (r1, r2, r3) := h
  clear h
  obtain ⟨ji3, hji3⟩ : ∃ j_ : Int, (mn (wrap64 (a1 + 4)) (l0.length : Int)) = j_ := ⟨_, rfl⟩
  replace H : (if 0 ≤ a1 then (if a1 ≤ (ji3) then (if (ji3) ≤ (l0.length : Int) then ((step_first.f (strOfNums ((l0.take ((ji3) : Int).toNat).drop (a1 : Int).toNat))).bind fun bt639 => (some (bt639.1, bt639.2.1, bt639.2.2))) else (none)) else (none)) else (none)) = some (r1, r2, r3) := by first | (rw [hji3] at H; exact H) | (simp only [hji3] at H ⊢; exact H)
  have hji3_ : (if (l0.length : Int) < (wrap64 (a1 + 4)) then (l0.length : Int) else (wrap64 (a1 + 4))) = ji3 := hji3
  by_cases c4 : 0 ≤ a1
  · rw [if_pos c4] at H
    have c4b0 := eq_true c4
    have c4b1 : decide (0 ≤ a1) = true := decide_eq_true c4
    clear c4
    by_cases c5 : a1 ≤ (ji3)
    · rw [if_pos c5] at H
      have c5b0 := eq_true c5
      have c5b1 : decide (a1 ≤ (ji3)) = true := decide_eq_true c5
      clear c5
      by_cases c6 : (ji3) ≤ (l0.length : Int)
      · rw [if_pos c6] at H
        have c6b0 := eq_true c6
        have c6b1 : decide ((ji3) ≤ (l0.length : Int)) = true := decide_eq_true c6
        clear c6
        replace H := Option.bind_eq_some_iff.mp H
        obtain ⟨⟨t639, t640, t641⟩, A70, H⟩ := H
        replace H : (some (t639, t640, t641)) = some (r1, r2, r3) := H
        have A7 := Aside0.mk A70
        clear A70
        simp only [Option.some.injEq, Prod.mk.injEq] at H
        obtain ⟨rfl, rfl, rfl⟩ := H
        go_enter Tryd.func135, Tryd.ntmps135
        go_wp2_with (first | ((with_reducible refine gate_dst (N := 4) rfl ?_); refine box_event ?hg (N := 4) ?hd (cs := #[.int .i32 0, .int .i64 0, .bool false]) (t := 121) ?hr ?_; (case hd => rfl); (case hg => rfl); (case hr => first | (go_simp; done) | (go_simp; rfl)); intro gb637 hg w8 hbox hb; have n0_ := Aside0.mk (below_step (by repeat (first | (with_reducible first | exact HB.out | apply below_alloc | apply pw_below_drewN | apply below_drew1) | exact HB.out)) hb); have n1_ := Aside0.mk (hbox); have n2_ := Aside0.mk ((by rw [hg]; exact (below_size (by repeat (first | (with_reducible first | exact HB.out | apply below_alloc | apply pw_below_drewN | apply below_drew1) | exact HB.out))) : w.heap.size ≤ gb637)); have n3_ := Aside0.mk ((by rw [hg]; exact (below_size (by repeat (first | (with_reducible first | exact HB.out | apply below_alloc | apply pw_below_drewN | apply below_drew1) | exact HB.out))) : w.heap.size ≤ gb637)); clear HB; have HB := n0_; have BK637 := n1_; have GW637 := n2_; have GE637 := n3_; clear n0_ n1_ n2_ n3_; clear hb hbox hg; obtain ⟨i09, hi09, _, hsz9, _⟩ := info_parts info5; obtain ⟨A9, hcut9, hA9, hC9⟩ := print_mid_of (P := Tryd.prog) (Value.int .u8) 0 22 5 .i64 .i64 Tryd.underlying22 hi09 hsz9 A0 c0 l0 a1 (ji3) (of_decide_eq_true (by first | (with_reducible assumption) | assumption)) (by first | omega | exact of_decide_eq_true (by first | (with_reducible assumption) | assumption)) (of_decide_eq_true (by first | (with_reducible assumption) | assumption)) HC0.out; have HR638 := Aside0.mk (Kd.C_of_reads (h1 := fun _ => rfl) (hA9 _ (Kd.reads_of_C HR0.out))); have HC638 := Aside0.mk hC9; clear hA9 hC9 hi09 hsz9; have hcv10 := Kd.C_string (P := Tryd.prog) (A := A9) (c := (c0 - a1.toNat)) Tryd.underlying22 Tryd.underlying5 Tryd.underlying9 (Kd.C_below HR638.out HB.out)); have hlen10 : ((l0.take ((ji3) : Int).toNat).drop (a1 : Int).toNat).length = ji3.toNat - a1.toNat := (by rw [List.length_drop, List.length_take]; have := of_decide_eq_true c6b1; omega); rw [hlen10] at hcv10 hcut9; clear hlen10 | ((with_reducible refine gate_callee (f := 127) rfl ?_); refine goesL_ (some 14) rfl rfl Tryd.func127 (by kernel_rfl) rfl #[.string (strOfNums ((l0.take ((ji3) : Int).toNat).drop (a1 : Int).toNat))] rfl (by (try simp only [List.map_toArray, List.map_cons, List.map_nil]); first | done | (simp only [hji3]; rfl) | rfl | (simp only [List.length_drop, List.length_take]; rfl)) ?_; (with_reducible refine (step_first.calls (strOfNums ((l0.take ((ji3) : Int).toNat).drop (a1 : Int).toNat)) t639 t640 t641 _ ?side1 A7.out).mono ?_); (case side1 => repeat (first | exact HG.out | exact Laid.below HG.out HB.out | (with_reducible refine Laid.alloc ?_ _) | (with_reducible refine Laid.drewN ?_ _) | (with_reducible refine Laid.drew ?_))); rintro e w11 ⟨rfl, hb⟩; refine ⟨_, rfl, ?_⟩; have n0_ := Aside0.mk (blk_below (g := gb637) (o := .cells #[.int .i32 0, .int .i64 0, .bool false] 121 (0, 0)) (by (with_reducible repeat (first | refine blk_drewN ?_ _ | refine blk_drew ?_ | refine blk_alloc ?_ _)); exact BK637.out) hb); have n1_ := Aside0.mk (below_step (by repeat (first | (with_reducible first | exact HB.out | apply below_alloc | apply pw_below_drewN | apply below_drew1 | refine below_set ?_ GE637.out) | exact HB.out)) hb); clear BK637; clear HB; have BK637 := n0_; have HB := n1_; clear n0_ n1_; (try clear hb); (try clear hb2); (try clear hk); (try clear hi); have hcz12_0 : w11.cell? ⟨gb637, 0, none⟩ = some (.int .i32 0) := (blk_cell BK637.out 0).trans rfl; have hcz12_1 : w11.cell? ⟨gb637, 1, none⟩ = some (.int .i64 0) := (blk_cell BK637.out 1).trans rfl; have hcz12_2 : w11.cell? ⟨gb637, 2, none⟩ = some (.bool false) := (blk_cell BK637.out 2).trans rfl; have hfz12_0 := blk_frozen BK637.out 0; have hfz12_1 := blk_frozen BK637.out 1; have hfz12_2 := blk_frozen BK637.out 2))
        refine bodyPost_ret (results_cell_row rfl _ _ gb637 121 #[.int .i32 t639, .int .i64 t640, .bool t641] (0, 0) _ rfl (by (with_reducible repeat (first | refine blk_drewN ?_ _ | refine blk_drew ?_ | refine blk_alloc ?_ _)); refine blk_put (cs := #[.int .i32 t639, .int .i64 t640, .bool false]) ?_ 2 _ rfl; (with_reducible repeat (first | refine blk_drewN ?_ _ | refine blk_drew ?_ | refine blk_alloc ?_ _)); refine blk_put (cs := #[.int .i32 t639, .int .i64 0, .bool false]) ?_ 1 _ rfl; (with_reducible repeat (first | refine blk_drewN ?_ _ | refine blk_drew ?_ | refine blk_alloc ?_ _)); refine blk_put (cs := #[.int .i32 0, .int .i64 0, .bool false]) ?_ 0 _ rfl; (with_reducible repeat (first | refine blk_drewN ?_ _ | refine blk_drew ?_ | refine blk_alloc ?_ _)); exact BK637.out) Tryd.underlying121 rfl (by kernel_rfl)) rfl ?_
        exact ⟨by first | rfl | (simp [errW_none, errW_some] <;> rfl) | (simp only [← hji3]; first | rfl | (simp [errW_none, errW_some] <;> rfl)) | (simp [*, errW_none, errW_some] <;> rfl), by repeat (first | (with_reducible first | exact HB.out | apply below_alloc | apply pw_below_drewN | apply below_drew1 | refine below_set ?_ GE637.out) | exact HB.out)⟩
      · rw [if_neg c6] at H
        exact absurd H (by simp)
    · rw [if_neg c5] at H
      exact absurd H (by simp)
  · rw [if_neg c4] at H
    exact absurd H (by simp)

theorem run_field121 (W : World) (a b c : Value) : (Instr.field 121 (.agg #[a, b, c]) 1).run Tryd.prog W = .ok b W := by
  have h1 := run_underlying (P := Tryd.prog) (w := W) Tryd.underlying121
  unfold Instr.field
  simp [h1, part, asAgg]
/-! ### step_inside: function 122 -/
mutual
def step_inside.l0 : Nat → List Int → Int → Int → Option (Int)
  | 0, _, _, _ => none
  | k + 1, x0, x1, x5 => if x5 ≤ 3 then (step_inside.j1 k x0 x1 x5 (decide (x5 ≤ x1))) else (step_inside.j1 k x0 x1 x5 false)
def step_inside.j1 : Nat → List Int → Int → Int → Bool → Option (Int)
  | 0, _, _, _, _ => none
  | k + 1, x0, x1, x5, x12 => if x12 = true then ((step_at.f x0 (wrap64 (x1 - x5))).bind fun bt642 => (if bt642.2.1 > x5 then (some x5) else (step_inside.l0 k x0 x1 (wrap64 (x5 + 1))))) else (some 0)
end
def step_inside.f (k : Nat) (l0 : List Int) (a1 : Int) : Option (Int) := step_inside.l0 k l0 a1 1
theorem step_inside.mono_l : ∀ k, (∀ y0 y1 y2, LeO (step_inside.l0 k y0 y1 y2) (step_inside.l0 (k + 1) y0 y1 y2)) ∧ (∀ y0 y1 y2 y3, LeO (step_inside.j1 k y0 y1 y2 y3) (step_inside.j1 (k + 1) y0 y1 y2 y3))
  | 0 => ⟨fun _ _ _ r h => by simp [step_inside.l0] at h, fun _ _ _ _ r h => by simp [step_inside.j1] at h⟩
  | k + 1 => by
    obtain ⟨ih0, ih1⟩ := step_inside.mono_l k
    refine ⟨?_, ?_⟩
    · intro y0 y1 y2
      unfold step_inside.l0
      repeat' first
      | (with_reducible exact ih0 _ _ _)
      | (with_reducible exact ih1 _ _ _ _)
      | (with_reducible exact LeO.refl _)
      | (with_reducible exact LeO.none _)
      | (with_reducible refine LeO.ite ?_ ?_)
      | (with_reducible refine LeO.bind ?_ (fun _ => ?_))
      | exact ih0 _ _ _
      | exact ih1 _ _ _ _
      | exact LeO.none _
      | refine LeO.ite ?_ ?_
      | refine LeO.bind ?_ (fun _ => ?_)
    · intro y0 y1 y2 y3
      unfold step_inside.j1
      repeat' first
      | (with_reducible exact ih0 _ _ _)
      | (with_reducible exact ih1 _ _ _ _)
      | (with_reducible exact LeO.refl _)
      | (with_reducible exact LeO.none _)
      | (with_reducible refine LeO.ite ?_ ?_)
      | (with_reducible refine LeO.bind ?_ (fun _ => ?_))
      | exact ih0 _ _ _
      | exact ih1 _ _ _ _
      | exact LeO.none _
      | refine LeO.ite ?_ ?_
      | refine LeO.bind ?_ (fun _ => ?_)
theorem step_inside.mono : ∀ a0 a1 k, LeO (step_inside.f k a0 a1) (step_inside.f (k + 1) a0 a1) := by
  intro a0 a1 k
  obtain ⟨ih0, ih1⟩ := step_inside.mono_l k
  unfold step_inside.f
  repeat' first
      | (with_reducible exact ih0 _ _ _)
      | (with_reducible exact ih1 _ _ _ _)
      | (with_reducible exact LeO.refl _)
      | (with_reducible exact LeO.none _)
      | (with_reducible refine LeO.ite ?_ ?_)
      | (with_reducible refine LeO.bind ?_ (fun _ => ?_))
      | exact ih0 _ _ _
      | exact ih1 _ _ _ _
      | exact LeO.none _
      | refine LeO.ite ?_ ?_
      | refine LeO.bind ?_ (fun _ => ?_)
set_option maxHeartbeats 8000000 in
set_option maxRecDepth 100000 in
theorem step_inside.calls (k : Nat) (A0 : Option Addr) (c0 : Nat) (l0 : List Int) (a1 : Int) (r : Int) (w : World) (hr0 : Kd.C (Kd.int .u8) w A0 l0.length l0) (hc0 : l0.length ≤ c0) (hG : Laid w) (h : step_inside.f k l0 a1 = some r) :
    Calls Tryd.prog 122 #[.slice A0 l0.length c0, .int .i64 a1] w fun e w' => e = .returned (.int .i64 r) ∧ Below w.heap.size w w' := by
  have hu121 := Tryd.underlying121
  have hfld := run_field121
  have HG := Aside0.mk hG
  clear hG
  have HR0 := Aside0.mk hr0
  have HC0 := Aside0.mk hc0
  clear hr0 hc0
  have HB := Aside0.mk (Below.refl w.heap.size w)
  have H : (step_inside.l0 k l0 a1 1) = some r := h
  clear h
  have H' := Aside0.mk H
  clear H
  go_enter Tryd.func122, Tryd.ntmps122
  go_wp2
  go_loopg [5] k (fun kq v5 w' => ∃ (x5_1 : Int), v5 = .int .i64 x5_1 ∧ Aside0 (step_inside.l0 kq l0 a1 x5_1 = some r) ∧ Aside0 (kq ≤ k) ∧ Aside0 (Below w.heap.size w w'))
  case atStart => exact ⟨(1), (by first | rfl | (simp; done) | (simp [*]; done)), H', ⟨Nat.le_refl _⟩, ⟨by repeat (first | (with_reducible first | exact HB.out | apply below_alloc | apply pw_below_drewN | apply below_drew1) | exact HB.out)⟩⟩
  case round =>
    clear H'
    try clear c1
    try clear p2
    obtain ⟨x5_1, rfl, HA, HK1, HB⟩ := hrel
    cases gk with
    | zero => exact absurd HA.out (by simp [step_inside.l0])
    | succ k1 =>
      have H := HA.out
      clear HA
      simp only [step_inside.l0] at H
      have HC3 := Aside0.mk H
      clear H
      go_upto_region 2 with (fail)
      go_cut [12] (fun v12 wc => ∃ (kq : Nat) (x12_2 : Bool), v12 = .bool x12_2 ∧ Aside0 (step_inside.j1 kq l0 a1 x5_1 x12_2 = some r) ∧ Aside0 (kq ≤ k1) ∧ Aside0 (Below w.heap.size w wc))
      case first =>
        have H := HC3.out
        clear HC3
        by_cases c4 : x5_1 ≤ 3
        · rw [if_pos c4] at H
          have c4b0 : decide (x5_1 ≤ 3) = true := decide_eq_true c4
          clear c4
          (first | rw [c4b0] | (simp only [i64_w, i32_w]; rw [c4b0]) | skip)
          have H' := Aside0.mk H
          clear H
          go_wp2
          go_meet
          case rel => exact ⟨_, (decide (x5_1 ≤ a1)), (by first | rfl | (simp; done) | (simp [*]; done)), H', ⟨by have := HK1.out; first | omega | exact Nat.le_refl _⟩, ⟨by repeat (first | (with_reducible first | exact HB.out | apply below_alloc | apply pw_below_drewN | apply below_drew1) | exact HB.out)⟩⟩
        · rw [if_neg c4] at H
          have c4b0 : decide (x5_1 ≤ 3) = false := decide_eq_false c4
          clear c4
          (first | rw [c4b0] | (simp only [i64_w, i32_w]; rw [c4b0]) | skip)
          have H' := Aside0.mk H
          clear H
          go_wp2
          go_meet
          case rel => exact ⟨_, (false), (by first | rfl | (simp; done) | (simp [*]; done)), H', ⟨by have := HK1.out; first | omega | exact Nat.le_refl _⟩, ⟨by repeat (first | (with_reducible first | exact HB.out | apply below_alloc | apply pw_below_drewN | apply below_drew1) | exact HB.out)⟩⟩
      case rest =>
        clear HC3
        try clear c1
        try clear p2
        try clear c4
        try clear c4b0
        try clear p2
        obtain ⟨kq, x12_2, rfl, HA, HJ2, HB⟩ := hcut
        cases kq with
        | zero => exact absurd HA.out (by simp [step_inside.j1])
        | succ kj2 =>
          have H := HA.out
          clear HA
          simp only [step_inside.j1] at H
          by_cases c5 : x12_2 = true
          · subst c5
            have H1 : ((step_at.f l0 (wrap64 (a1 - x5_1))).bind fun bt642 => (if bt642.2.1 > x5_1 then (some x5_1) else (step_inside.l0 kj2 l0 a1 (wrap64 (x5_1 + 1))))) = some r := by rw [if_pos rfl] at H; exact H
            clear H
            have H := H1
            clear H1
            replace H := Option.bind_eq_some_iff.mp H
            obtain ⟨⟨t642, t643, t644⟩, A60, H⟩ := H
            replace H : (if t643 > x5_1 then (some x5_1) else (step_inside.l0 kj2 l0 a1 (wrap64 (x5_1 + 1)))) = some r := H
            have A6 := Aside0.mk A60
            clear A60
            by_cases c7 : t643 > x5_1
            · rw [if_pos c7] at H
              have c7b0 : decide (x5_1 < t643) = true := decide_eq_true c7
              clear c7
              obtain rfl := Option.some.inj H
              go_wp2_with (first | ((with_reducible refine gate_callee (f := 135) rfl ?_); refine goesL_ (some 19) rfl rfl Tryd.func135 (by kernel_rfl) rfl #[.slice A0 l0.length c0, .int .i64 (wrap64 (a1 - x5_1))] rfl (by (try simp only [List.map_toArray, List.map_cons, List.map_nil]); first | done | rfl | (simp only [List.length_drop, List.length_take]; rfl)) ?_; (with_reducible refine (step_at.calls _ _ l0 (wrap64 (a1 - x5_1)) t642 t643 t644 _ ?side1 ?side2 ?side3 A6.out).mono ?_); (case side1 => repeat (first | exact (Kd.C_below HR0.out HB.out) | (with_reducible refine Kd.C_alloc ?_ _) | (with_reducible refine Kd.C_drewN ?_ _) | (with_reducible refine Kd.C_drew ?_))); (case side2 => exact HC0.out); (case side3 => repeat (first | exact HG.out | exact Laid.below HG.out HB.out | (with_reducible refine Laid.alloc ?_ _) | (with_reducible refine Laid.drewN ?_ _) | (with_reducible refine Laid.drew ?_))); rintro e w8 ⟨rfl, hb⟩; refine ⟨_, rfl, ?_⟩; have n0_ := Aside0.mk (below_step (by repeat (first | (with_reducible first | exact HB.out | apply below_alloc | apply pw_below_drewN | apply below_drew1) | exact HB.out)) hb); clear HB; have HB := n0_; clear n0_; (try clear hb); (try clear hb2); (try clear hk); (try clear hi)))
              go_ret
              exact ⟨by first | rfl | (simp [errW_none, errW_some] <;> rfl) | (simp [*, errW_none, errW_some] <;> rfl), by repeat (first | (with_reducible first | exact HB.out | apply below_alloc | apply pw_below_drewN | apply below_drew1) | exact HB.out)⟩
            · rw [if_neg c7] at H
              have c7b0 : decide (x5_1 < t643) = false := decide_eq_false c7
              clear c7
              have H' := Aside0.mk H
              clear H
              go_wp2_with (first | ((with_reducible refine gate_callee (f := 135) rfl ?_); refine goesL_ (some 19) rfl rfl Tryd.func135 (by kernel_rfl) rfl #[.slice A0 l0.length c0, .int .i64 (wrap64 (a1 - x5_1))] rfl (by (try simp only [List.map_toArray, List.map_cons, List.map_nil]); first | done | rfl | (simp only [List.length_drop, List.length_take]; rfl)) ?_; (with_reducible refine (step_at.calls _ _ l0 (wrap64 (a1 - x5_1)) t642 t643 t644 _ ?side1 ?side2 ?side3 A6.out).mono ?_); (case side1 => repeat (first | exact (Kd.C_below HR0.out HB.out) | (with_reducible refine Kd.C_alloc ?_ _) | (with_reducible refine Kd.C_drewN ?_ _) | (with_reducible refine Kd.C_drew ?_))); (case side2 => exact HC0.out); (case side3 => repeat (first | exact HG.out | exact Laid.below HG.out HB.out | (with_reducible refine Laid.alloc ?_ _) | (with_reducible refine Laid.drewN ?_ _) | (with_reducible refine Laid.drew ?_))); rintro e w9 ⟨rfl, hb⟩; refine ⟨_, rfl, ?_⟩; have n0_ := Aside0.mk (below_step (by repeat (first | (with_reducible first | exact HB.out | apply below_alloc | apply pw_below_drewN | apply below_drew1) | exact HB.out)) hb); clear HB; have HB := n0_; clear n0_; (try clear hb); (try clear hb2); (try clear hk); (try clear hi)))
              go_roundg kj2
              case measure => have := HK1.out; have := HJ2.out; omega
              case rel => exact ⟨(wrap64 (x5_1 + 1)), (by first | rfl | (simp; done) | (simp [*]; done)), H', ⟨by have := HK1.out; have := HJ2.out; omega⟩, ⟨by repeat (first | (with_reducible first | exact HB.out | apply below_alloc | apply pw_below_drewN | apply below_drew1) | exact HB.out)⟩⟩
          · replace c5 := Bool.eq_false_iff.mpr c5
            subst c5
            have H1 : (some 0) = some r := by rw [if_neg (show ¬ (false = true) by decide)] at H; exact H
            clear H
            have H := H1
            clear H1
            obtain rfl := Option.some.inj H
            go_wp2
            go_ret
            exact ⟨by first | rfl | (simp [errW_none, errW_some] <;> rfl) | (simp [*, errW_none, errW_some] <;> rfl), by repeat (first | (with_reducible first | exact HB.out | apply below_alloc | apply pw_below_drewN | apply below_drew1) | exact HB.out)⟩

/-! ### step_Floor: function 101 -/
def step_Floor.f (k : Nat) (l0 : List Int) (a1 : Int) : Option (Int × Int) := if a1 < 0 then (some (0, 2)) else (if a1 > (l0.length : Int) then (some (0, 2)) else ((step_inside.f k l0 a1).bind fun t645 => (some (wrap64 (a1 - t645), 0))))
theorem step_Floor.mono : ∀ a0 a1 k, LeO (step_Floor.f k a0 a1) (step_Floor.f (k + 1) a0 a1) := by
  intro a0 a1 k
  unfold step_Floor.f
  repeat' first
      | (with_reducible exact step_inside.mono _ _ _)
      | (with_reducible exact LeO.refl _)
      | (with_reducible exact LeO.none _)
      | (with_reducible refine LeO.ite ?_ ?_)
      | (with_reducible refine LeO.bind ?_ (fun _ => ?_))
      | exact step_inside.mono _ _ _
      | exact LeO.none _
      | refine LeO.ite ?_ ?_
      | refine LeO.bind ?_ (fun _ => ?_)
set_option maxHeartbeats 8000000 in
set_option maxRecDepth 100000 in
theorem step_Floor.calls (k : Nat) (A0 : Option Addr) (c0 : Nat) (l0 : List Int) (a1 : Int) (r1 : Int) (r2 : Int) (w : World) (hr0 : Kd.C (Kd.int .u8) w A0 l0.length l0) (hc0 : l0.length ≤ c0) (hG : Laid w) (h : step_Floor.f k l0 a1 = some (r1, r2)) :
    Calls Tryd.prog 101 #[.slice A0 l0.length c0, .int .i64 a1] w fun e w' => e = .returned (.tuple #[.int .i64 r1, .int .i64 r2]) ∧ Below w.heap.size w w' := by
  have HG := Aside0.mk hG
  clear hG
  have HR0 := Aside0.mk hr0
  have HC0 := Aside0.mk hc0
  clear hr0 hc0
  have HB := Aside0.mk (Below.refl w.heap.size w)
  have H : (if a1 < 0 then (some (0, 2)) else (if a1 > (l0.length : Int) then (some (0, 2)) else ((step_inside.f k l0 a1).bind fun t645 => (some (wrap64 (a1 - t645), 0))))) = some (r1, r2) := h
  clear h
  by_cases c3 : a1 < 0
  · rw [if_pos c3] at H
    have c3b0 : decide (a1 < 0) = true := decide_eq_true c3
    clear c3
    simp only [Option.some.injEq, Prod.mk.injEq] at H
    obtain ⟨rfl, rfl⟩ := H
    go_enter Tryd.func101, Tryd.ntmps101
    go_wp2
    go_ret2
    exact ⟨by first | rfl | (simp [errW_none, errW_some] <;> rfl) | (simp [*, errW_none, errW_some] <;> rfl), by repeat (first | (with_reducible first | exact HB.out | apply below_alloc | apply pw_below_drewN | apply below_drew1) | exact HB.out)⟩
  · rw [if_neg c3] at H
    have c3b0 : decide (a1 < 0) = false := decide_eq_false c3
    clear c3
    by_cases c4 : a1 > (l0.length : Int)
    · rw [if_pos c4] at H
      have c4b0 : decide ((l0.length : Int) < a1) = true := decide_eq_true c4
      clear c4
      simp only [Option.some.injEq, Prod.mk.injEq] at H
      obtain ⟨rfl, rfl⟩ := H
      go_enter Tryd.func101, Tryd.ntmps101
      go_wp2
      go_ret2
      exact ⟨by first | rfl | (simp [errW_none, errW_some] <;> rfl) | (simp [*, errW_none, errW_some] <;> rfl), by repeat (first | (with_reducible first | exact HB.out | apply below_alloc | apply pw_below_drewN | apply below_drew1) | exact HB.out)⟩
    · rw [if_neg c4] at H
      have c4b0 : decide ((l0.length : Int) < a1) = false := decide_eq_false c4
      clear c4
      replace H := Option.bind_eq_some_iff.mp H
      obtain ⟨t645, A50, H⟩ := H
      replace H : (some (wrap64 (a1 - t645), 0)) = some (r1, r2) := H
      have A5 := Aside0.mk A50
      clear A50
      simp only [Option.some.injEq, Prod.mk.injEq] at H
      obtain ⟨rfl, rfl⟩ := H
      go_enter Tryd.func101, Tryd.ntmps101
      go_wp2_with (first | ((with_reducible refine gate_callee (f := 122) rfl ?_); refine goesL_ (some 17) rfl rfl Tryd.func122 (by kernel_rfl) rfl #[.slice A0 l0.length c0, .int .i64 a1] rfl (by (try simp only [List.map_toArray, List.map_cons, List.map_nil]); first | done | rfl | (simp only [List.length_drop, List.length_take]; rfl)) ?_; (with_reducible refine (step_inside.calls k _ _ l0 a1 t645 _ ?side1 ?side2 ?side3 A5.out).mono ?_); (case side1 => repeat (first | exact HR0.out | (with_reducible refine Kd.C_alloc ?_ _) | (with_reducible refine Kd.C_drewN ?_ _) | (with_reducible refine Kd.C_drew ?_))); (case side2 => exact HC0.out); (case side3 => repeat (first | exact HG.out | exact Laid.below HG.out HB.out | (with_reducible refine Laid.alloc ?_ _) | (with_reducible refine Laid.drewN ?_ _) | (with_reducible refine Laid.drew ?_))); rintro e w6 ⟨rfl, hb⟩; refine ⟨_, rfl, ?_⟩; have n0_ := Aside0.mk (below_step (by repeat (first | (with_reducible first | exact HB.out | apply below_alloc | apply pw_below_drewN | apply below_drew1) | exact HB.out)) hb); clear HB; have HB := n0_; clear n0_; (try clear hb); (try clear hb2); (try clear hk); (try clear hi)))
      go_ret2
      exact ⟨by first | rfl | (simp [errW_none, errW_some] <;> rfl) | (simp [*, errW_none, errW_some] <;> rfl), by repeat (first | (with_reducible first | exact HB.out | apply below_alloc | apply pw_below_drewN | apply below_drew1) | exact HB.out)⟩

end Go.Proofs.YtbomhpfckplgaaaDoor.P
