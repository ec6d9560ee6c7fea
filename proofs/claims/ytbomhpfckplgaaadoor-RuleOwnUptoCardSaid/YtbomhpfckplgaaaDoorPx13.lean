-- Written by a program (the kit's print, turned so that hand-proved contracts are taken as given).
import Derived.Test.YtbomhpfckplgaaaDoorPx0
import Derived.Test.YtbomhpfckplgaaaDoorPx5
import Derived.Test.YtbomhpfckplgaaaDoorPx11
import Derived.Test.YtbomhpfckplgaaaDoorPx12
namespace Go.Proofs.YtbomhpfckplgaaaDoor.P
open Go.RowKit Go.Proofs.YtbomhpfckplgaaaDoorW.PrintWords Go.Proofs.YtbomhpfckplgaaaDoorW.PrintLast Go.Proofs.YtbomhpfckplgaaaDoorW.PrintMore
attribute [local go_sem] max2_int min2_int max_two min_two max_three min_three max_four min_four   -- for this text's walks alone
set_option linter.unusedVariables false
set_option linter.unusedSimpArgs false

/-! ### galleyref06_To: function 38 -/
mutual
def galleyref06_To.j0 : Nat → List Int → Int → Int → Int → Int → Bool → Option (Int × Int)
  | 0, _, _, _, _, _, _ => none
  | k + 1, x0, x1, x2, x3, x4, x33 => if x33 = true then (some (0, 3)) else ((galleyref06_Table.f k x0 x1).bind fun t264 => (if x2 < 0 then (galleyref06_To.j1 k x0 x2 x3 x4 t264 true) else (if 0 ≤ (wrap64 ((t264.length : Int) - 1)) then (if (wrap64 ((t264.length : Int) - 1)) < (t264.length : Int) then (galleyref06_To.j1 k x0 x2 x3 x4 t264 (decide (x2 > (rd t264 (wrap64 ((t264.length : Int) - 1)))))) else (none)) else (none))))
def galleyref06_To.j1 : Nat → List Int → Int → Int → Int → List Int → Bool → Option (Int × Int)
  | 0, _, _, _, _, _, _ => none
  | k + 1, x0, x2, x3, x4, x15, x48 => if x48 = true then (some (0, 2)) else ((galleyref06_Index.f k x15 x2 x4).bind fun t268 => (if t268 < 0 then (some (0, 4)) else ((galleyref06_Table.f k x0 x3).bind fun t269 => (if 0 ≤ t268 then (if t268 < (t269.length : Int) then (some (rd t269 t268, 0)) else (none)) else (none)))))
end
def galleyref06_To.f (k : Nat) (l0 : List Int) (a1 : Int) (a2 : Int) (a3 : Int) (a4 : Int) : Option (Int × Int) := (galleyref06_Ruler.f a1).bind fun t261 => ((galleyref06_Ruler.f a3).bind fun t262 => ((galleyref06_Mode.f a4).bind fun t263 => (if t261 = true then (if t262 = true then (galleyref06_To.j0 k l0 a1 a2 a3 a4 (!t263)) else (galleyref06_To.j0 k l0 a1 a2 a3 a4 true)) else (galleyref06_To.j0 k l0 a1 a2 a3 a4 true))))
theorem galleyref06_To.mono_l : ∀ k, (∀ y0 y1 y2 y3 y4 y5, LeO (galleyref06_To.j0 k y0 y1 y2 y3 y4 y5) (galleyref06_To.j0 (k + 1) y0 y1 y2 y3 y4 y5)) ∧ (∀ y0 y1 y2 y3 y4 y5, LeO (galleyref06_To.j1 k y0 y1 y2 y3 y4 y5) (galleyref06_To.j1 (k + 1) y0 y1 y2 y3 y4 y5))
  | 0 => ⟨fun _ _ _ _ _ _ r h => by simp [galleyref06_To.j0] at h, fun _ _ _ _ _ _ r h => by simp [galleyref06_To.j1] at h⟩
  | k + 1 => by
    obtain ⟨ih0, ih1⟩ := galleyref06_To.mono_l k
    refine ⟨?_, ?_⟩
    · intro y0 y1 y2 y3 y4 y5
      unfold galleyref06_To.j0
      repeat' first
      | (with_reducible exact ih0 _ _ _ _ _ _)
      | (with_reducible exact ih1 _ _ _ _ _ _)
      | (with_reducible exact galleyref06_Index.mono _ _ _ _)
      | (with_reducible exact galleyref06_Table.mono _ _ _)
      | (with_reducible exact LeO.refl _)
      | (with_reducible exact LeO.none _)
      | (with_reducible refine LeO.ite ?_ ?_)
      | (with_reducible refine LeO.bind ?_ (fun _ => ?_))
      | exact ih0 _ _ _ _ _ _
      | exact ih1 _ _ _ _ _ _
      | exact galleyref06_Index.mono _ _ _ _
      | exact galleyref06_Table.mono _ _ _
      | exact LeO.none _
      | refine LeO.ite ?_ ?_
      | refine LeO.bind ?_ (fun _ => ?_)
    · intro y0 y1 y2 y3 y4 y5
      unfold galleyref06_To.j1
      repeat' first
      | (with_reducible exact ih0 _ _ _ _ _ _)
      | (with_reducible exact ih1 _ _ _ _ _ _)
      | (with_reducible exact galleyref06_Index.mono _ _ _ _)
      | (with_reducible exact galleyref06_Table.mono _ _ _)
      | (with_reducible exact LeO.refl _)
      | (with_reducible exact LeO.none _)
      | (with_reducible refine LeO.ite ?_ ?_)
      | (with_reducible refine LeO.bind ?_ (fun _ => ?_))
      | exact ih0 _ _ _ _ _ _
      | exact ih1 _ _ _ _ _ _
      | exact galleyref06_Index.mono _ _ _ _
      | exact galleyref06_Table.mono _ _ _
      | exact LeO.none _
      | refine LeO.ite ?_ ?_
      | refine LeO.bind ?_ (fun _ => ?_)
theorem galleyref06_To.mono : ∀ a0 a1 a2 a3 a4 k, LeO (galleyref06_To.f k a0 a1 a2 a3 a4) (galleyref06_To.f (k + 1) a0 a1 a2 a3 a4) := by
  intro a0 a1 a2 a3 a4 k
  obtain ⟨ih0, ih1⟩ := galleyref06_To.mono_l k
  unfold galleyref06_To.f
  repeat' first
      | (with_reducible exact ih0 _ _ _ _ _ _)
      | (with_reducible exact ih1 _ _ _ _ _ _)
      | (with_reducible exact galleyref06_Index.mono _ _ _ _)
      | (with_reducible exact galleyref06_Table.mono _ _ _)
      | (with_reducible exact LeO.refl _)
      | (with_reducible exact LeO.none _)
      | (with_reducible refine LeO.ite ?_ ?_)
      | (with_reducible refine LeO.bind ?_ (fun _ => ?_))
      | exact ih0 _ _ _ _ _ _
      | exact ih1 _ _ _ _ _ _
      | exact galleyref06_Index.mono _ _ _ _
      | exact galleyref06_Table.mono _ _ _
      | exact LeO.none _
      | refine LeO.ite ?_ ?_
      | refine LeO.bind ?_ (fun _ => ?_)
set_option maxHeartbeats 8000000 in
set_option maxRecDepth 100000 in
theorem galleyref06_To.calls (k : Nat) (A0 : Option Addr) (c0 : Nat) (l0 : List Int) (a1 : Int) (a2 : Int) (a3 : Int) (a4 : Int) (r1 : Int) (r2 : Int) (w : World) (hr0 : Kd.C (Kd.int .u8) w A0 l0.length l0) (hc0 : l0.length ≤ c0) (h : galleyref06_To.f k l0 a1 a2 a3 a4 = some (r1, r2)) :
    Calls Tryd.prog 38 #[.slice A0 l0.length c0, .int .i64 a1, .int .i64 a2, .int .i64 a3, .int .i64 a4] w fun e w' => e = .returned (.tuple #[.int .i64 r1, .int .i64 r2]) ∧ Below w.heap.size w w' := by
  have HR0 := Aside0.mk hr0
  have HC0 := Aside0.mk hc0
  clear hr0 hc0
  have HB := Aside0.mk (Below.refl w.heap.size w)
  have H : ((galleyref06_Ruler.f a1).bind fun t261 => ((galleyref06_Ruler.f a3).bind fun t262 => ((galleyref06_Mode.f a4).bind fun t263 => (if t261 = true then (if t262 = true then (galleyref06_To.j0 k l0 a1 a2 a3 a4 (!t263)) else (galleyref06_To.j0 k l0 a1 a2 a3 a4 true)) else (galleyref06_To.j0 k l0 a1 a2 a3 a4 true))))) = some (r1, r2) := h
  clear h
  replace H := Option.bind_eq_some_iff.mp H
  obtain ⟨t261, A60, H⟩ := H
  replace H : ((galleyref06_Ruler.f a3).bind fun t262 => ((galleyref06_Mode.f a4).bind fun t263 => (if t261 = true then (if t262 = true then (galleyref06_To.j0 k l0 a1 a2 a3 a4 (!t263)) else (galleyref06_To.j0 k l0 a1 a2 a3 a4 true)) else (galleyref06_To.j0 k l0 a1 a2 a3 a4 true)))) = some (r1, r2) := H
  have A6 := Aside0.mk A60
  clear A60
  replace H := Option.bind_eq_some_iff.mp H
  obtain ⟨t262, A70, H⟩ := H
  replace H : ((galleyref06_Mode.f a4).bind fun t263 => (if t261 = true then (if t262 = true then (galleyref06_To.j0 k l0 a1 a2 a3 a4 (!t263)) else (galleyref06_To.j0 k l0 a1 a2 a3 a4 true)) else (galleyref06_To.j0 k l0 a1 a2 a3 a4 true))) = some (r1, r2) := H
  have A7 := Aside0.mk A70
  clear A70
  replace H := Option.bind_eq_some_iff.mp H
  obtain ⟨t263, A80, H⟩ := H
  replace H : (if t261 = true then (if t262 = true then (galleyref06_To.j0 k l0 a1 a2 a3 a4 (!t263)) else (galleyref06_To.j0 k l0 a1 a2 a3 a4 true)) else (galleyref06_To.j0 k l0 a1 a2 a3 a4 true)) = some (r1, r2) := H
  have A8 := Aside0.mk A80
  clear A80
  have HC9 := Aside0.mk H
  clear H
  go_enter Tryd.func38, Tryd.ntmps38
  go_upto_region 4 with (first | ((with_reducible refine gate_callee (f := 33) rfl ?_); refine goesL_ (some 19) rfl rfl Tryd.func33 (by kernel_rfl) rfl #[.int .i64 a1] rfl (by (try simp only [List.map_toArray, List.map_cons, List.map_nil]); first | done | rfl | (simp only [List.length_drop, List.length_take]; rfl)) ?_; (with_reducible refine (galleyref06_Ruler.calls a1 t261 _ A6.out).mono ?_); rintro e w' ⟨rfl, ⟨nd, rfl⟩⟩; refine ⟨_, rfl, ?_⟩) | ((with_reducible refine gate_callee (f := 33) rfl ?_); refine goesL_ (some 21) rfl rfl Tryd.func33 (by kernel_rfl) rfl #[.int .i64 a3] rfl (by (try simp only [List.map_toArray, List.map_cons, List.map_nil]); first | done | rfl | (simp only [List.length_drop, List.length_take]; rfl)) ?_; (with_reducible refine (galleyref06_Ruler.calls a3 t262 _ A7.out).mono ?_); rintro e w' ⟨rfl, ⟨nd, rfl⟩⟩; refine ⟨_, rfl, ?_⟩) | ((with_reducible refine gate_callee (f := 84) rfl ?_); refine goesL_ (some 23) rfl rfl Tryd.func84 (by kernel_rfl) rfl #[.int .i64 a4] rfl (by (try simp only [List.map_toArray, List.map_cons, List.map_nil]); first | done | rfl | (simp only [List.length_drop, List.length_take]; rfl)) ?_; (with_reducible refine (galleyref06_Mode.calls a4 t263 _ A8.out).mono ?_); rintro e w' ⟨rfl, ⟨nd, rfl⟩⟩; refine ⟨_, rfl, ?_⟩))
  (try simp only [Act.put, List.setIfInBounds_toArray, List.set_cons_zero, List.set_cons_succ])
  go_cut [33] (fun v33 wc => ∃ (kq : Nat) (x33_8 : Bool), v33 = .bool x33_8 ∧ Aside0 (galleyref06_To.j0 kq l0 a1 a2 a3 a4 x33_8 = some (r1, r2)) ∧ Aside0 (kq ≤ k) ∧ Aside0 (Below w.heap.size w wc))
  case first =>
    have H := HC9.out
    clear HC9
    by_cases c10 : t261 = true
    · subst c10
      have H1 : (if t262 = true then (galleyref06_To.j0 k l0 a1 a2 a3 a4 (!t263)) else (galleyref06_To.j0 k l0 a1 a2 a3 a4 true)) = some (r1, r2) := by rw [if_pos rfl] at H; exact H
      clear H
      have H := H1
      clear H1
      by_cases c11 : t262 = true
      · subst c11
        have H1 : (galleyref06_To.j0 k l0 a1 a2 a3 a4 (!t263)) = some (r1, r2) := by rw [if_pos rfl] at H; exact H
        clear H
        have H := H1
        clear H1
        have H' := Aside0.mk H
        clear H
        go_wp2
        go_meet
        case rel => exact ⟨_, (!t263), (by first | rfl | (simp; done) | (simp [*]; done)), H', ⟨by first | omega | exact Nat.le_refl _⟩, ⟨by repeat (first | (with_reducible first | exact HB.out | apply below_alloc | apply pw_below_drewN | apply below_drew1) | exact HB.out)⟩⟩
      · replace c11 := Bool.eq_false_iff.mpr c11
        subst c11
        have H1 : (galleyref06_To.j0 k l0 a1 a2 a3 a4 true) = some (r1, r2) := by rw [if_neg (show ¬ (false = true) by decide)] at H; exact H
        clear H
        have H := H1
        clear H1
        have H' := Aside0.mk H
        clear H
        go_wp2
        go_meet
        case rel => exact ⟨_, (true), (by first | rfl | (simp; done) | (simp [*]; done)), H', ⟨by first | omega | exact Nat.le_refl _⟩, ⟨by repeat (first | (with_reducible first | exact HB.out | apply below_alloc | apply pw_below_drewN | apply below_drew1) | exact HB.out)⟩⟩
    · replace c10 := Bool.eq_false_iff.mpr c10
      subst c10
      have H1 : (galleyref06_To.j0 k l0 a1 a2 a3 a4 true) = some (r1, r2) := by rw [if_neg (show ¬ (false = true) by decide)] at H; exact H
      clear H
      have H := H1
      clear H1
      have H' := Aside0.mk H
      clear H
      go_wp2
      go_meet
      case rel => exact ⟨_, (true), (by first | rfl | (simp; done) | (simp [*]; done)), H', ⟨by first | omega | exact Nat.le_refl _⟩, ⟨by repeat (first | (with_reducible first | exact HB.out | apply below_alloc | apply pw_below_drewN | apply below_drew1) | exact HB.out)⟩⟩
  case rest =>
    clear HC9
    try clear c1
    try clear p2
    try clear c3
    try clear c8
    try clear c10
    try clear c11
    obtain ⟨kq, x33_8, rfl, HA, HJ8, HB⟩ := hcut
    cases kq with
    | zero => exact absurd HA.out (by simp [galleyref06_To.j0])
    | succ kj8 =>
      have H := HA.out
      clear HA
      simp only [galleyref06_To.j0] at H
      by_cases c12 : x33_8 = true
      · subst c12
        have H1 : (some (0, 3)) = some (r1, r2) := by rw [if_pos rfl] at H; exact H
        clear H
        have H := H1
        clear H1
        simp only [Option.some.injEq, Prod.mk.injEq] at H
        obtain ⟨rfl, rfl⟩ := H
        go_wp2
        go_ret2
        exact ⟨by first | rfl | (simp [errW_none, errW_some] <;> rfl) | (simp [*, errW_none, errW_some] <;> rfl), by repeat (first | (with_reducible first | exact HB.out | apply below_alloc | apply pw_below_drewN | apply below_drew1) | exact HB.out)⟩
      · replace c12 := Bool.eq_false_iff.mpr c12
        subst c12
        have H1 : ((galleyref06_Table.f kj8 l0 a1).bind fun t264 => (if a2 < 0 then (galleyref06_To.j1 kj8 l0 a2 a3 a4 t264 true) else (if 0 ≤ (wrap64 ((t264.length : Int) - 1)) then (if (wrap64 ((t264.length : Int) - 1)) < (t264.length : Int) then (galleyref06_To.j1 kj8 l0 a2 a3 a4 t264 (decide (a2 > (rd t264 (wrap64 ((t264.length : Int) - 1)))))) else (none)) else (none)))) = some (r1, r2) := by rw [if_neg (show ¬ (false = true) by decide)] at H; exact H
        clear H
        have H := H1
        clear H1
        replace H := Option.bind_eq_some_iff.mp H
        obtain ⟨t264, A130, H⟩ := H
        replace H : (if a2 < 0 then (galleyref06_To.j1 kj8 l0 a2 a3 a4 t264 true) else (if 0 ≤ (wrap64 ((t264.length : Int) - 1)) then (if (wrap64 ((t264.length : Int) - 1)) < (t264.length : Int) then (galleyref06_To.j1 kj8 l0 a2 a3 a4 t264 (decide (a2 > (rd t264 (wrap64 ((t264.length : Int) - 1)))))) else (none)) else (none))) = some (r1, r2) := H
        have A13 := Aside0.mk A130
        clear A130
        have HC14 := Aside0.mk H
        clear H
        go_upto_region 7 with (first | ((with_reducible refine gate_callee (f := 36) rfl ?_); refine goesL_ (some 36) rfl rfl Tryd.func36 (by kernel_rfl) rfl #[.slice A0 l0.length c0, .int .i64 a1] rfl (by (try simp only [List.map_toArray, List.map_cons, List.map_nil]); first | done | rfl | (simp only [List.length_drop, List.length_take]; rfl)) ?_; (with_reducible refine (galleyref06_Table.calls kj8 _ _ l0 a1 t264 _ ?side1 ?side2 A13.out).mono ?_); (case side1 => repeat (first | exact (Kd.C_below HR0.out HB.out) | (with_reducible refine Kd.C_alloc ?_ _) | (with_reducible refine Kd.C_drewN ?_ _) | (with_reducible refine Kd.C_drew ?_))); (case side2 => exact HC0.out); rintro e w15 ⟨v265, rfl, ho0, hb⟩; refine ⟨_, rfl, ?_⟩; have n0_ := Aside0.mk (Kd.R_lower ho0 (below_size (by repeat (first | (with_reducible first | exact HB.out | apply below_alloc | apply pw_below_drewN | apply below_drew1) | exact HB.out)))); have n1_ := Aside0.mk (below_step (by repeat (first | (with_reducible first | exact HB.out | apply below_alloc | apply pw_below_drewN | apply below_drew1) | exact HB.out)) hb); clear HB; have HO266 := n0_; have HB := n1_; clear n0_ n1_; (try clear hb); (try clear hb2); (try clear hk); (try clear hi); (try clear ho0)))
        (try simp only [Act.put, List.setIfInBounds_toArray, List.set_cons_zero, List.set_cons_succ])
        go_cut [48] (fun v48 wc => ∃ (kq : Nat) (x48_13 : Bool), v48 = .bool x48_13 ∧ Aside0 (galleyref06_To.j1 kq l0 a2 a3 a4 t264 x48_13 = some (r1, r2)) ∧ Aside0 (kq ≤ kj8) ∧ Aside0 (Kd.R (Kd.int .i64) 3 wc w.heap.size (fun _ => True) v265 t264) ∧ Aside0 (Below w.heap.size w wc))
        case first =>
          have H := HC14.out
          clear HC14
          by_cases c16 : a2 < 0
          · rw [if_pos c16] at H
            have c16b0 : decide (a2 < 0) = true := decide_eq_true c16
            clear c16
            (first | rw [c16b0] | (simp only [i64_w, i32_w]; rw [c16b0]) | skip)
            have H' := Aside0.mk H
            clear H
            go_wp2
            go_meet
            case rel => exact ⟨_, (true), (by first | rfl | (simp; done) | (simp [*]; done)), H', ⟨by have := HJ8.out; first | omega | exact Nat.le_refl _⟩, ⟨by (with_reducible repeat (first | apply Kd.R_alloc | apply Kd.R_drewN | apply Kd.R_drew)); exact HO266.out⟩, ⟨by repeat (first | (with_reducible first | exact HB.out | apply below_alloc | apply pw_below_drewN | apply below_drew1) | exact HB.out)⟩⟩
          · rw [if_neg c16] at H
            have c16b0 : decide (a2 < 0) = false := decide_eq_false c16
            clear c16
            (first | rw [c16b0] | (simp only [i64_w, i32_w]; rw [c16b0]) | skip)
            obtain ⟨ji17, hji17⟩ : ∃ j_ : Int, (wrap64 ((t264.length : Int) - 1)) = j_ := ⟨_, rfl⟩
            replace H : (if 0 ≤ (ji17) then (if (ji17) < (t264.length : Int) then (galleyref06_To.j1 kj8 l0 a2 a3 a4 t264 (decide (a2 > (rd t264 (ji17))))) else (none)) else (none)) = some (r1, r2) := by first | (rw [hji17] at H; exact H) | (simp only [hji17] at H ⊢; exact H)
            have hji17w : (IntKind.i64.wrap ((t264.length : Int) - 1)) = ji17 := (i64_w _).trans hji17
            by_cases c18 : 0 ≤ (ji17)
            · rw [if_pos c18] at H
              have c18b0 : decide (0 ≤ (ji17)) = true := decide_eq_true c18
              clear c18
              by_cases c19 : (ji17) < (t264.length : Int)
              · rw [if_pos c19] at H
                have c19b0 : decide ((ji17) < (t264.length : Int)) = true := decide_eq_true c19
                clear c19
                have H' := Aside0.mk H
                clear H
                obtain ⟨Ao20, co20, eo20⟩ := Kd.R_slice HO266.out
                subst eo20
                have p267 : 0 ≤ ((ji17) : Int) := of_decide_eq_true (by first | (with_reducible assumption) | assumption)
                have q267 : (ji17) < (t264.length : Int) := of_decide_eq_true (by first | (with_reducible assumption) | assumption)
                obtain ⟨ad267, e267, hx267_0⟩ := Kd.at_int (Kd.R_reads' HO266.out).2.2 (ji17) p267 q267
                cases e267
                replace p267 := eq_true p267
                replace q267 := eq_true q267
                go_wp2
                go_meet
                case rel => exact ⟨_, (decide (a2 > (rd t264 (ji17)))), (by first | rfl | (simp; done) | (simp only [← hji17] <;> (first | rfl | simp)) | (simp [*]; done)), H', ⟨by have := HJ8.out; first | omega | exact Nat.le_refl _⟩, ⟨by (with_reducible repeat (first | apply Kd.R_alloc | apply Kd.R_drewN | apply Kd.R_drew)); exact HO266.out⟩, ⟨by repeat (first | (with_reducible first | exact HB.out | apply below_alloc | apply pw_below_drewN | apply below_drew1) | exact HB.out)⟩⟩
              · rw [if_neg c19] at H
                exact absurd H (by simp)
            · rw [if_neg c18] at H
              exact absurd H (by simp)
        case rest =>
          clear HC14
          try clear c1
          try clear p2
          try clear q2
          try clear hx2
          try clear c3
          try clear p6
          try clear c8
          try clear c10
          try clear c11
          try clear c12
          try clear c16
          try clear c16b0
          try clear c18
          try clear c18b0
          try clear c19
          try clear c19b0
          try clear hx267_0
          try clear p2
          try clear p267
          try clear q267
          obtain ⟨kq, x48_13, rfl, HA, HJ13, HO_15, HB⟩ := hcut
          cases kq with
          | zero => exact absurd HA.out (by simp [galleyref06_To.j1])
          | succ kj13 =>
            have H := HA.out
            clear HA
            simp only [galleyref06_To.j1] at H
            by_cases c21 : x48_13 = true
            · subst c21
              have H1 : (some (0, 2)) = some (r1, r2) := by rw [if_pos rfl] at H; exact H
              clear H
              have H := H1
              clear H1
              simp only [Option.some.injEq, Prod.mk.injEq] at H
              obtain ⟨rfl, rfl⟩ := H
              go_wp2
              go_ret2
              exact ⟨by first | rfl | (simp [errW_none, errW_some] <;> rfl) | (simp [*, errW_none, errW_some] <;> rfl), by repeat (first | (with_reducible first | exact HB.out | apply below_alloc | apply pw_below_drewN | apply below_drew1) | exact HB.out)⟩
            · replace c21 := Bool.eq_false_iff.mpr c21
              subst c21
              have H1 : ((galleyref06_Index.f kj13 t264 a2 a4).bind fun t268 => (if t268 < 0 then (some (0, 4)) else ((galleyref06_Table.f kj13 l0 a3).bind fun t269 => (if 0 ≤ t268 then (if t268 < (t269.length : Int) then (some (rd t269 t268, 0)) else (none)) else (none))))) = some (r1, r2) := by rw [if_neg (show ¬ (false = true) by decide)] at H; exact H
              clear H
              have H := H1
              clear H1
              replace H := Option.bind_eq_some_iff.mp H
              obtain ⟨t268, A220, H⟩ := H
              replace H : (if t268 < 0 then (some (0, 4)) else ((galleyref06_Table.f kj13 l0 a3).bind fun t269 => (if 0 ≤ t268 then (if t268 < (t269.length : Int) then (some (rd t269 t268, 0)) else (none)) else (none)))) = some (r1, r2) := H
              have A22 := Aside0.mk A220
              clear A220
              by_cases c23 : t268 < 0
              · rw [if_pos c23] at H
                have c23b0 : decide (t268 < 0) = true := decide_eq_true c23
                clear c23
                simp only [Option.some.injEq, Prod.mk.injEq] at H
                obtain ⟨rfl, rfl⟩ := H
                obtain ⟨Ao24, co24, eo24⟩ := Kd.R_slice HO_15.out
                subst eo24
                go_wp2_with (first | ((with_reducible refine gate_callee (f := 85) rfl ?_); refine goesL_ (some 52) rfl rfl Tryd.func85 (by kernel_rfl) rfl #[.slice Ao24 t264.length co24, .int .i64 a2, .int .i64 a4] rfl (by (try simp only [List.map_toArray, List.map_cons, List.map_nil]); first | done | rfl | (simp only [List.length_drop, List.length_take]; rfl)) ?_; (with_reducible refine (galleyref06_Index.calls kj13 _ _ t264 a2 a4 t268 _ ?side1 ?side2 A22.out).mono ?_); (case side1 => repeat (first | exact (Kd.R_reads' HO_15.out).2.2 | (with_reducible refine Kd.C_alloc ?_ _) | (with_reducible refine Kd.C_drewN ?_ _) | (with_reducible refine Kd.C_drew ?_))); (case side2 => exact (Kd.R_reads' HO_15.out).2.1); rintro e w' ⟨rfl, ⟨nd, rfl⟩⟩; refine ⟨_, rfl, ?_⟩))
                go_ret2
                exact ⟨by first | rfl | (simp [errW_none, errW_some] <;> rfl) | (simp [*, errW_none, errW_some] <;> rfl), by repeat (first | (with_reducible first | exact HB.out | apply below_alloc | apply pw_below_drewN | apply below_drew1) | exact HB.out)⟩
              · rw [if_neg c23] at H
                have c23b0 : decide (t268 < 0) = false := decide_eq_false c23
                clear c23
                replace H := Option.bind_eq_some_iff.mp H
                obtain ⟨t269, A250, H⟩ := H
                replace H : (if 0 ≤ t268 then (if t268 < (t269.length : Int) then (some (rd t269 t268, 0)) else (none)) else (none)) = some (r1, r2) := H
                have A25 := Aside0.mk A250
                clear A250
                by_cases c26 : 0 ≤ t268
                · rw [if_pos c26] at H
                  have c26b0 : decide (0 ≤ t268) = true := decide_eq_true c26
                  clear c26
                  by_cases c27 : t268 < (t269.length : Int)
                  · rw [if_pos c27] at H
                    have c27b0 : decide (t268 < (t269.length : Int)) = true := decide_eq_true c27
                    clear c27
                    simp only [Option.some.injEq, Prod.mk.injEq] at H
                    obtain ⟨rfl, rfl⟩ := H
                    obtain ⟨Ao28, co28, eo28⟩ := Kd.R_slice HO_15.out
                    subst eo28
                    go_wp2_with (first | ((with_reducible refine gate_callee (f := 85) rfl ?_); refine goesL_ (some 52) rfl rfl Tryd.func85 (by kernel_rfl) rfl #[.slice Ao28 t264.length co28, .int .i64 a2, .int .i64 a4] rfl (by (try simp only [List.map_toArray, List.map_cons, List.map_nil]); first | done | rfl | (simp only [List.length_drop, List.length_take]; rfl)) ?_; (with_reducible refine (galleyref06_Index.calls kj13 _ _ t264 a2 a4 t268 _ ?side1 ?side2 A22.out).mono ?_); (case side1 => repeat (first | exact (Kd.R_reads' HO_15.out).2.2 | (with_reducible refine Kd.C_alloc ?_ _) | (with_reducible refine Kd.C_drewN ?_ _) | (with_reducible refine Kd.C_drew ?_))); (case side2 => exact (Kd.R_reads' HO_15.out).2.1); rintro e w' ⟨rfl, ⟨nd, rfl⟩⟩; refine ⟨_, rfl, ?_⟩) | ((with_reducible refine gate_callee (f := 36) rfl ?_); refine goesL_ (some 57) rfl rfl Tryd.func36 (by kernel_rfl) rfl #[.slice A0 l0.length c0, .int .i64 a3] rfl (by (try simp only [List.map_toArray, List.map_cons, List.map_nil]); first | done | rfl | (simp only [List.length_drop, List.length_take]; rfl)) ?_; (with_reducible refine (galleyref06_Table.calls kj13 _ _ l0 a3 t269 _ ?side1 ?side2 A25.out).mono ?_); (case side1 => repeat (first | exact (Kd.C_below HR0.out (by repeat (first | (with_reducible first | exact HB.out | apply below_alloc | apply pw_below_drewN | apply below_drew1) | exact HB.out))) | (with_reducible refine Kd.C_alloc ?_ _) | (with_reducible refine Kd.C_drewN ?_ _) | (with_reducible refine Kd.C_drew ?_))); (case side2 => exact HC0.out); rintro e w29 ⟨v270, rfl, ho0, hb⟩; refine ⟨_, rfl, ?_⟩; have n0_ := Aside0.mk (Kd.R_elder' (by (with_reducible repeat (first | apply Kd.R_alloc | apply Kd.R_drewN | apply Kd.R_drew)); exact HO_15.out) (Kd.R_base ho0) hb); have n1_ := Aside0.mk (Kd.R_lower (Kd.R_new' ho0 (Kd.R_lt (by (with_reducible repeat (first | apply Kd.R_alloc | apply Kd.R_drewN | apply Kd.R_drew)); exact HO_15.out))) (below_size (by repeat (first | (with_reducible first | exact HB.out | apply below_alloc | apply pw_below_drewN | apply below_drew1) | exact HB.out)))); have n2_ := Aside0.mk (below_step (by repeat (first | (with_reducible first | exact HB.out | apply below_alloc | apply pw_below_drewN | apply below_drew1) | exact HB.out)) hb); clear HO_15; clear HB; have HO_15 := n0_; have HO271 := n1_; have HB := n2_; clear n0_ n1_ n2_; (try clear hb); (try clear hb2); (try clear hk); (try clear hi); (try clear ho0); obtain ⟨Ao30, co30, eo30⟩ := Kd.R_slice HO271.out; subst eo30; have p272 : 0 ≤ (t268 : Int) := of_decide_eq_true (by first | (with_reducible assumption) | assumption); have q272 : t268 < (t269.length : Int) := of_decide_eq_true (by first | (with_reducible assumption) | assumption); obtain ⟨ad272, e272, hx272_0⟩ := Kd.at_int (Kd.R_reads' HO271.out).2.2 t268 p272 q272; cases e272; replace p272 := eq_true p272; replace q272 := eq_true q272))
                    go_ret2
                    exact ⟨by first | rfl | (simp [errW_none, errW_some] <;> rfl) | (simp [*, errW_none, errW_some] <;> rfl), by repeat (first | (with_reducible first | exact HB.out | apply below_alloc | apply pw_below_drewN | apply below_drew1) | exact HB.out)⟩
                  · rw [if_neg c27] at H
                    exact absurd H (by simp)
                · rw [if_neg c26] at H
                  exact absurd H (by simp)

end Go.Proofs.YtbomhpfckplgaaaDoor.P
