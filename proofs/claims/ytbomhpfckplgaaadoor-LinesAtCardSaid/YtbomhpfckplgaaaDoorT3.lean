/- Texts of this claim, put together: Px22, Px23, Uw, Px51, Px52, Px24. -/
import Derived.Test.YtbomhpfckplgaaaDoorT0
import Derived.Test.YtbomhpfckplgaaaDoorT1
import Derived.Test.YtbomhpfckplgaaaDoorT2
namespace Go.Proofs.YtbomhpfckplgaaaDoor.P
open Go.RowKit Go.Proofs.YtbomhpfckplgaaaDoorW.PrintWords Go.Proofs.YtbomhpfckplgaaaDoorW.PrintLast Go.Proofs.YtbomhpfckplgaaaDoorW.PrintMore
attribute [local go_sem] max2_int min2_int max_two min_two max_three min_three max_four min_four   -- for this text's walks alone
set_option linter.unusedVariables false
set_option linter.unusedSimpArgs false
def galleyref01_Class.f (a0 : Int) : Option (Int) := if a0 < 128 then (some 1) else (if a0 < 192 then (some 2) else (if a0 < 194 then (some 6) else (if a0 < 224 then (some 3) else (if a0 < 240 then (some 4) else (if a0 < 245 then (some 5) else (some 6))))))
set_option maxHeartbeats 8000000 in
set_option maxRecDepth 100000 in
theorem galleyref01_Class.calls (a0 : Int) (r : Int) (w : World) (h : galleyref01_Class.f a0 = some r) :
  Calls Tryd.prog 137 #[.int .u8 a0] w fun e w' => e = .returned (.int .i64 r) ∧ Drawn0 w w' := by
 have H : (if a0 < 128 then (some 1) else (if a0 < 192 then (some 2) else (if a0 < 194 then (some 6) else (if a0 < 224 then (some 3) else (if a0 < 240 then (some 4) else (if a0 < 245 then (some 5) else (some 6))))))) = some r := h
 clear h
 by_cases c2 : a0 < 128
 ·
  rw [if_pos c2] at H
  have c2b0 : decide (a0 < 128) = true := decide_eq_true c2
  clear c2
  obtain rfl := Option.some.inj H
  go_enter Tryd.func137, Tryd.ntmps137
  go_wp2
  go_ret
  exact ⟨by first | rfl | (simp; done) | (simp [*]; done), by repeat (first | exact Drawn0.refl _ | apply Drawn0.step)⟩
 ·
  rw [if_neg c2] at H
  have c2b0 : decide (a0 < 128) = false := decide_eq_false c2
  clear c2
  by_cases c3 : a0 < 192
  ·
   rw [if_pos c3] at H
   have c3b0 : decide (a0 < 192) = true := decide_eq_true c3
   clear c3
   obtain rfl := Option.some.inj H
   go_enter Tryd.func137, Tryd.ntmps137
   go_wp2
   go_ret
   exact ⟨by first | rfl | (simp; done) | (simp [*]; done), by repeat (first | exact Drawn0.refl _ | apply Drawn0.step)⟩
  ·
   rw [if_neg c3] at H
   have c3b0 : decide (a0 < 192) = false := decide_eq_false c3
   clear c3
   by_cases c4 : a0 < 194
   ·
    rw [if_pos c4] at H
    have c4b0 : decide (a0 < 194) = true := decide_eq_true c4
    clear c4
    obtain rfl := Option.some.inj H
    go_enter Tryd.func137, Tryd.ntmps137
    go_wp2
    go_ret
    exact ⟨by first | rfl | (simp; done) | (simp [*]; done), by repeat (first | exact Drawn0.refl _ | apply Drawn0.step)⟩
   ·
    rw [if_neg c4] at H
    have c4b0 : decide (a0 < 194) = false := decide_eq_false c4
    clear c4
    by_cases c5 : a0 < 224
    ·
     rw [if_pos c5] at H
     have c5b0 : decide (a0 < 224) = true := decide_eq_true c5
     clear c5
     obtain rfl := Option.some.inj H
     go_enter Tryd.func137, Tryd.ntmps137
     go_wp2
     go_ret
     exact ⟨by first | rfl | (simp; done) | (simp [*]; done), by repeat (first | exact Drawn0.refl _ | apply Drawn0.step)⟩
    ·
     rw [if_neg c5] at H
     have c5b0 : decide (a0 < 224) = false := decide_eq_false c5
     clear c5
     by_cases c6 : a0 < 240
     ·
      rw [if_pos c6] at H
      have c6b0 : decide (a0 < 240) = true := decide_eq_true c6
      clear c6
      obtain rfl := Option.some.inj H
      go_enter Tryd.func137, Tryd.ntmps137
      go_wp2
      go_ret
      exact ⟨by first | rfl | (simp; done) | (simp [*]; done), by repeat (first | exact Drawn0.refl _ | apply Drawn0.step)⟩
     ·
      rw [if_neg c6] at H
      have c6b0 : decide (a0 < 240) = false := decide_eq_false c6
      clear c6
      by_cases c7 : a0 < 245
      ·
       rw [if_pos c7] at H
       have c7b0 : decide (a0 < 245) = true := decide_eq_true c7
       clear c7
       obtain rfl := Option.some.inj H
       go_enter Tryd.func137, Tryd.ntmps137
       go_wp2
       go_ret
       exact ⟨by first | rfl | (simp; done) | (simp [*]; done), by repeat (first | exact Drawn0.refl _ | apply Drawn0.step)⟩
      ·
       rw [if_neg c7] at H
       have c7b0 : decide (a0 < 245) = false := decide_eq_false c7
       clear c7
       obtain rfl := Option.some.inj H
       go_enter Tryd.func137, Tryd.ntmps137
       go_wp2
       go_ret
       exact ⟨by first | rfl | (simp; done) | (simp [*]; done), by repeat (first | exact Drawn0.refl _ | apply Drawn0.step)⟩
def galleyref01_Need.f (a0 : Int) : Option (Int) := (galleyref01_Class.f a0).bind fun t804 => (if t804 = 1 then (some 1) else (if t804 = 3 then (some 2) else (if t804 = 4 then (some 3) else (if t804 = 5 then (some 4) else (some 0)))))
set_option maxHeartbeats 8000000 in
set_option maxRecDepth 100000 in
theorem galleyref01_Need.calls (a0 : Int) (r : Int) (w : World) (h : galleyref01_Need.f a0 = some r) :
  Calls Tryd.prog 124 #[.int .u8 a0] w fun e w' => e = .returned (.int .i64 r) ∧ Drawn0 w w' := by
 have H : ((galleyref01_Class.f a0).bind fun t804 => (if t804 = 1 then (some 1) else (if t804 = 3 then (some 2) else (if t804 = 4 then (some 3) else (if t804 = 5 then (some 4) else (some 0)))))) = some r := h
 clear h
 replace H := Option.bind_eq_some_iff.mp H
 obtain ⟨t804, A20, H⟩ := H
 replace H : (if t804 = 1 then (some 1) else (if t804 = 3 then (some 2) else (if t804 = 4 then (some 3) else (if t804 = 5 then (some 4) else (some 0))))) = some r := H
 have A2 := Aside0.mk A20
 clear A20
 by_cases c3 : t804 = 1
 ·
  rw [if_pos c3] at H
  have c3b0 : (t804 == 1) = true := beq_iff_eq.mpr c3
  have c3b1 : (t804 != 1) = false := bne_eq_false_iff_eq.mpr c3
  clear c3
  obtain rfl := Option.some.inj H
  go_enter Tryd.func124, Tryd.ntmps124
  go_wp2_with (first | ((with_reducible refine gate_callee (f := 137) rfl ?_); refine goesL_ (some 4) rfl rfl Tryd.func137 (by kernel_rfl) rfl #[.int .u8 a0] rfl (by (try simp only [List.map_toArray, List.map_cons, List.map_nil]); first | done | rfl | (simp only [List.length_drop, List.length_take]; rfl)) ?_; (with_reducible refine (galleyref01_Class.calls a0 t804 _ A2.out).mono ?_); rintro e w' ⟨rfl, ⟨nd, rfl⟩⟩; refine ⟨_, rfl, ?_⟩))
  go_ret
  exact ⟨by first | rfl | (simp; done) | (simp [*]; done), by repeat (first | exact Drawn0.refl _ | apply Drawn0.step)⟩
 ·
  rw [if_neg c3] at H
  have c3b0 : (t804 == 1) = false := beq_eq_false_iff_ne.mpr c3
  have c3b1 : (t804 != 1) = true := bne_iff_ne.mpr c3
  by_cases c4 : t804 = 3
  ·
   rw [if_pos c4] at H
   have c4b0 : (t804 == 3) = true := beq_iff_eq.mpr c4
   have c4b1 : (t804 != 3) = false := bne_eq_false_iff_eq.mpr c4
   clear c4
   obtain rfl := Option.some.inj H
   go_enter Tryd.func124, Tryd.ntmps124
   go_wp2_with (first | ((with_reducible refine gate_callee (f := 137) rfl ?_); refine goesL_ (some 4) rfl rfl Tryd.func137 (by kernel_rfl) rfl #[.int .u8 a0] rfl (by (try simp only [List.map_toArray, List.map_cons, List.map_nil]); first | done | rfl | (simp only [List.length_drop, List.length_take]; rfl)) ?_; (with_reducible refine (galleyref01_Class.calls a0 t804 _ A2.out).mono ?_); rintro e w' ⟨rfl, ⟨nd, rfl⟩⟩; refine ⟨_, rfl, ?_⟩))
   go_ret
   exact ⟨by first | rfl | (simp; done) | (simp [*]; done), by repeat (first | exact Drawn0.refl _ | apply Drawn0.step)⟩
  ·
   rw [if_neg c4] at H
   have c4b0 : (t804 == 3) = false := beq_eq_false_iff_ne.mpr c4
   have c4b1 : (t804 != 3) = true := bne_iff_ne.mpr c4
   by_cases c5 : t804 = 4
   ·
    rw [if_pos c5] at H
    have c5b0 : (t804 == 4) = true := beq_iff_eq.mpr c5
    have c5b1 : (t804 != 4) = false := bne_eq_false_iff_eq.mpr c5
    clear c5
    obtain rfl := Option.some.inj H
    go_enter Tryd.func124, Tryd.ntmps124
    go_wp2_with (first | ((with_reducible refine gate_callee (f := 137) rfl ?_); refine goesL_ (some 4) rfl rfl Tryd.func137 (by kernel_rfl) rfl #[.int .u8 a0] rfl (by (try simp only [List.map_toArray, List.map_cons, List.map_nil]); first | done | rfl | (simp only [List.length_drop, List.length_take]; rfl)) ?_; (with_reducible refine (galleyref01_Class.calls a0 t804 _ A2.out).mono ?_); rintro e w' ⟨rfl, ⟨nd, rfl⟩⟩; refine ⟨_, rfl, ?_⟩))
    go_ret
    exact ⟨by first | rfl | (simp; done) | (simp [*]; done), by repeat (first | exact Drawn0.refl _ | apply Drawn0.step)⟩
   ·
    rw [if_neg c5] at H
    have c5b0 : (t804 == 4) = false := beq_eq_false_iff_ne.mpr c5
    have c5b1 : (t804 != 4) = true := bne_iff_ne.mpr c5
    by_cases c6 : t804 = 5
    ·
     rw [if_pos c6] at H
     have c6b0 : (t804 == 5) = true := beq_iff_eq.mpr c6
     have c6b1 : (t804 != 5) = false := bne_eq_false_iff_eq.mpr c6
     clear c6
     obtain rfl := Option.some.inj H
     go_enter Tryd.func124, Tryd.ntmps124
     go_wp2_with (first | ((with_reducible refine gate_callee (f := 137) rfl ?_); refine goesL_ (some 4) rfl rfl Tryd.func137 (by kernel_rfl) rfl #[.int .u8 a0] rfl (by (try simp only [List.map_toArray, List.map_cons, List.map_nil]); first | done | rfl | (simp only [List.length_drop, List.length_take]; rfl)) ?_; (with_reducible refine (galleyref01_Class.calls a0 t804 _ A2.out).mono ?_); rintro e w' ⟨rfl, ⟨nd, rfl⟩⟩; refine ⟨_, rfl, ?_⟩))
     go_ret
     exact ⟨by first | rfl | (simp; done) | (simp [*]; done), by repeat (first | exact Drawn0.refl _ | apply Drawn0.step)⟩
    ·
     rw [if_neg c6] at H
     have c6b0 : (t804 == 5) = false := beq_eq_false_iff_ne.mpr c6
     have c6b1 : (t804 != 5) = true := bne_iff_ne.mpr c6
     obtain rfl := Option.some.inj H
     go_enter Tryd.func124, Tryd.ntmps124
     go_wp2_with (first | ((with_reducible refine gate_callee (f := 137) rfl ?_); refine goesL_ (some 4) rfl rfl Tryd.func137 (by kernel_rfl) rfl #[.int .u8 a0] rfl (by (try simp only [List.map_toArray, List.map_cons, List.map_nil]); first | done | rfl | (simp only [List.length_drop, List.length_take]; rfl)) ?_; (with_reducible refine (galleyref01_Class.calls a0 t804 _ A2.out).mono ?_); rintro e w' ⟨rfl, ⟨nd, rfl⟩⟩; refine ⟨_, rfl, ?_⟩))
     go_ret
     exact ⟨by first | rfl | (simp; done) | (simp [*]; done), by repeat (first | exact Drawn0.refl _ | apply Drawn0.step)⟩
end Go.Proofs.YtbomhpfckplgaaaDoor.P
namespace Go.Proofs.YtbomhpfckplgaaaDoor.P
open Go.RowKit Go.Proofs.YtbomhpfckplgaaaDoorW.PrintWords Go.Proofs.YtbomhpfckplgaaaDoorW.PrintLast Go.Proofs.YtbomhpfckplgaaaDoorW.PrintMore
attribute [local go_sem] max2_int min2_int max_two min_two max_three min_three max_four min_four   -- for this text's walks alone
set_option linter.unusedVariables false
set_option linter.unusedSimpArgs false
def galleyref01_Second.j0 : Nat → Int → Int → Bool → Option (Bool)
 | 0, _, _, _ => none
 | k + 1, x0, x1, x12 => if x12 = true then (some false) else (if x0 = 224 then (some (decide (x1 ≥ 160))) else (if x0 = 237 then (some (decide (x1 ≤ 159))) else (if x0 = 240 then (some (decide (x1 ≥ 144))) else (if x0 = 244 then (some (decide (x1 ≤ 143))) else (some true)))))
def galleyref01_Second.f (k : Nat) (a0 : Int) (a1 : Int) : Option (Bool) := (galleyref01_Need.f a0).bind fun t805 => (if t805 < 2 then (galleyref01_Second.j0 k a0 a1 true) else ((galleyref01_Class.f a1).bind fun t806 => (galleyref01_Second.j0 k a0 a1 (t806 != 2))))
set_option maxHeartbeats 8000000 in
set_option maxRecDepth 100000 in
theorem galleyref01_Second.calls (k : Nat) (a0 : Int) (a1 : Int) (r : Bool) (w : World) (h : galleyref01_Second.f k a0 a1 = some r) :
  Calls Tryd.prog 142 #[.int .u8 a0, .int .u8 a1] w fun e w' => e = .returned (.bool r) ∧ Drawn0 w w' := by
 have H : ((galleyref01_Need.f a0).bind fun t805 => (if t805 < 2 then (galleyref01_Second.j0 k a0 a1 true) else ((galleyref01_Class.f a1).bind fun t806 => (galleyref01_Second.j0 k a0 a1 (t806 != 2))))) = some r := h
 clear h
 have HC3 := Aside0.mk H
 clear H
 go_enter Tryd.func142, Tryd.ntmps142
 go_upto_region 1 with (fail)
 go_cut [12] (fun v12 wc => ∃ (kq : Nat) (x12_2 : Bool), v12 = .bool x12_2 ∧ Aside0 (galleyref01_Second.j0 kq a0 a1 x12_2 = some r) ∧ Aside0 (kq ≤ k) ∧ Drawn0 w wc)
 case first =>
  have H := HC3.out
  clear HC3
  replace H := Option.bind_eq_some_iff.mp H
  obtain ⟨t805, A40, H⟩ := H
  replace H : (if t805 < 2 then (galleyref01_Second.j0 k a0 a1 true) else ((galleyref01_Class.f a1).bind fun t806 => (galleyref01_Second.j0 k a0 a1 (t806 != 2)))) = some r := H
  have A4 := Aside0.mk A40
  clear A40
  by_cases c5 : t805 < 2
  ·
   rw [if_pos c5] at H
   have c5b0 : decide (t805 < 2) = true := decide_eq_true c5
   clear c5
   (first | rw [c5b0] | (simp only [i64_w, i32_w]; rw [c5b0]) | skip)
   have H' := Aside0.mk H
   clear H
   go_wp2_with (first | ((with_reducible refine gate_callee (f := 124) rfl ?_); refine goesL_ (some 6) rfl rfl Tryd.func124 (by kernel_rfl) rfl #[.int .u8 a0] rfl (by (try simp only [List.map_toArray, List.map_cons, List.map_nil]); first | done | rfl | (simp only [List.length_drop, List.length_take]; rfl)) ?_; (with_reducible refine (galleyref01_Need.calls a0 t805 _ A4.out).mono ?_); rintro e w' ⟨rfl, ⟨nd, rfl⟩⟩; refine ⟨_, rfl, ?_⟩))
   go_meet
   case rel => exact ⟨_, (true), (by first | rfl | (simp; done) | (simp [*]; done)), H', ⟨by first | omega | exact Nat.le_refl _⟩, by repeat (first | exact Drawn0.refl _ | apply Drawn0.step)⟩
  ·
   rw [if_neg c5] at H
   have c5b0 : decide (t805 < 2) = false := decide_eq_false c5
   clear c5
   (first | rw [c5b0] | (simp only [i64_w, i32_w]; rw [c5b0]) | skip)
   replace H := Option.bind_eq_some_iff.mp H
   obtain ⟨t806, A60, H⟩ := H
   replace H : (galleyref01_Second.j0 k a0 a1 (t806 != 2)) = some r := H
   have A6 := Aside0.mk A60
   clear A60
   have H' := Aside0.mk H
   clear H
   go_wp2_with (first | ((with_reducible refine gate_callee (f := 124) rfl ?_); refine goesL_ (some 6) rfl rfl Tryd.func124 (by kernel_rfl) rfl #[.int .u8 a0] rfl (by (try simp only [List.map_toArray, List.map_cons, List.map_nil]); first | done | rfl | (simp only [List.length_drop, List.length_take]; rfl)) ?_; (with_reducible refine (galleyref01_Need.calls a0 t805 _ A4.out).mono ?_); rintro e w' ⟨rfl, ⟨nd, rfl⟩⟩; refine ⟨_, rfl, ?_⟩) | (go_at_call 137; (with_reducible refine (galleyref01_Class.calls a1 t806 _ A6.out).mono ?_); rintro e w' ⟨rfl, ⟨nd, rfl⟩⟩))
   go_meet
   case rel => exact ⟨_, ((t806 != 2)), (by first | rfl | (simp; done) | (simp [*]; done)), H', ⟨by first | omega | exact Nat.le_refl _⟩, by repeat (first | exact Drawn0.refl _ | apply Drawn0.step)⟩
 case rest =>
  clear HC3
  (try clear c1); (try clear p2); (try clear c5); (try clear c5b0)
  obtain ⟨kq, x12_2, rfl, HA, HJ2, ⟨mc2, rfl⟩⟩ := hcut
  cases kq with
  | zero => exact absurd HA.out (by simp [galleyref01_Second.j0])
  | succ kj2 =>
   have H := HA.out
   clear HA
   simp only [galleyref01_Second.j0] at H
   by_cases c7 : x12_2 = true
   ·
    subst c7
    have H1 : (some false) = some r := by rw [if_pos rfl] at H; exact H
    clear H
    have H := H1
    clear H1
    obtain rfl := Option.some.inj H
    go_wp2
    go_ret
    exact ⟨by first | rfl | (simp; done) | (simp [*]; done), by repeat (first | exact Drawn0.refl _ | apply Drawn0.step)⟩
   ·
    replace c7 := Bool.eq_false_iff.mpr c7
    subst c7
    have H1 : (if a0 = 224 then (some (decide (a1 ≥ 160))) else (if a0 = 237 then (some (decide (a1 ≤ 159))) else (if a0 = 240 then (some (decide (a1 ≥ 144))) else (if a0 = 244 then (some (decide (a1 ≤ 143))) else (some true))))) = some r := by rw [if_neg (show ¬ (false = true) by decide)] at H; exact H
    clear H
    have H := H1
    clear H1
    by_cases c8 : a0 = 224
    ·
     rw [if_pos c8] at H
     have c8b0 : (a0 == 224) = true := beq_iff_eq.mpr c8
     have c8b1 : (a0 != 224) = false := bne_eq_false_iff_eq.mpr c8
     clear c8
     obtain rfl := Option.some.inj H
     go_wp2
     go_ret
     exact ⟨by first | rfl | (simp; done) | (simp [*]; done), by repeat (first | exact Drawn0.refl _ | apply Drawn0.step)⟩
    ·
     rw [if_neg c8] at H
     have c8b0 : (a0 == 224) = false := beq_eq_false_iff_ne.mpr c8
     have c8b1 : (a0 != 224) = true := bne_iff_ne.mpr c8
     by_cases c9 : a0 = 237
     ·
      rw [if_pos c9] at H
      have c9b0 : (a0 == 237) = true := beq_iff_eq.mpr c9
      have c9b1 : (a0 != 237) = false := bne_eq_false_iff_eq.mpr c9
      clear c9
      obtain rfl := Option.some.inj H
      go_wp2
      go_ret
      exact ⟨by first | rfl | (simp; done) | (simp [*]; done), by repeat (first | exact Drawn0.refl _ | apply Drawn0.step)⟩
     ·
      rw [if_neg c9] at H
      have c9b0 : (a0 == 237) = false := beq_eq_false_iff_ne.mpr c9
      have c9b1 : (a0 != 237) = true := bne_iff_ne.mpr c9
      by_cases c10 : a0 = 240
      ·
       rw [if_pos c10] at H
       have c10b0 : (a0 == 240) = true := beq_iff_eq.mpr c10
       have c10b1 : (a0 != 240) = false := bne_eq_false_iff_eq.mpr c10
       clear c10
       obtain rfl := Option.some.inj H
       go_wp2
       go_ret
       exact ⟨by first | rfl | (simp; done) | (simp [*]; done), by repeat (first | exact Drawn0.refl _ | apply Drawn0.step)⟩
      ·
       rw [if_neg c10] at H
       have c10b0 : (a0 == 240) = false := beq_eq_false_iff_ne.mpr c10
       have c10b1 : (a0 != 240) = true := bne_iff_ne.mpr c10
       by_cases c11 : a0 = 244
       ·
        rw [if_pos c11] at H
        have c11b0 : (a0 == 244) = true := beq_iff_eq.mpr c11
        have c11b1 : (a0 != 244) = false := bne_eq_false_iff_eq.mpr c11
        clear c11
        obtain rfl := Option.some.inj H
        go_wp2
        go_ret
        exact ⟨by first | rfl | (simp; done) | (simp [*]; done), by repeat (first | exact Drawn0.refl _ | apply Drawn0.step)⟩
       ·
        rw [if_neg c11] at H
        have c11b0 : (a0 == 244) = false := beq_eq_false_iff_ne.mpr c11
        have c11b1 : (a0 != 244) = true := bne_iff_ne.mpr c11
        obtain rfl := Option.some.inj H
        go_wp2
        go_ret
        exact ⟨by first | rfl | (simp; done) | (simp [*]; done), by repeat (first | exact Drawn0.refl _ | apply Drawn0.step)⟩
end Go.Proofs.YtbomhpfckplgaaaDoor.P
namespace Go.Proofs.YtbomhpfckplgaaaDoor.P
open Go.RowKit Go.Proofs.YtbomhpfckplgaaaDoorW.PrintWords Go.Proofs.YtbomhpfckplgaaaDoorW.PrintLast Go.Proofs.YtbomhpfckplgaaaDoorW.PrintMore
attribute [local go_sem] max2_int min2_int max_two min_two max_three min_three max_four min_four   -- for this text's walks alone
set_option linter.unusedVariables false
set_option linter.unusedSimpArgs false
mutual
def galleyref01_Begins.j0 : Nat → List Int → Bool → Option (Bool)
 | 0, _, _ => none
 | k + 1, x0, x16 => if x16 = true then (some false) else (if (x0.length : Int) > 1 then (if 0 < (x0.length : Int) then (if 1 < (x0.length : Int) then ((galleyref01_Second.f k (rd x0 0) (rd x0 1)).bind fun t811 => (if t811 = true then (galleyref01_Begins.j1 k x0) else (some false))) else (none)) else (none)) else (galleyref01_Begins.j1 k x0))
def galleyref01_Begins.j1 : Nat → List Int → Option (Bool)
 | 0, _ => none
 | k + 1, x0 => galleyref01_Begins.l0 k x0 2
def galleyref01_Begins.l0 : Nat → List Int → Int → Option (Bool)
 | 0, _, _ => none
 | k + 1, x0, x4 => if x4 < (x0.length : Int) then (if 0 ≤ x4 then ((galleyref01_Class.f (rd x0 x4)).bind fun t813 => (if t813 = 2 then (galleyref01_Begins.l0 k x0 (wrap64 (x4 + 1))) else (some false))) else (none)) else (some true)
end
def galleyref01_Begins.f (k : Nat) (l0 : List Int) : Option (Bool) := if (l0.length : Int) = 0 then (galleyref01_Begins.j0 k l0 true) else (if 0 < (l0.length : Int) then ((galleyref01_Need.f (rd l0 0)).bind fun t808 => (galleyref01_Begins.j0 k l0 (decide ((l0.length : Int) > t808)))) else (none))
set_option maxHeartbeats 8000000 in
set_option maxRecDepth 100000 in
theorem galleyref01_Begins.calls (k : Nat) (A0 : Option Addr) (c0 : Nat) (l0 : List Int) (r : Bool) (w : World) (hr0 : Kd.C (Kd.int .u8) w A0 l0.length l0) (hc0 : l0.length ≤ c0) (h : galleyref01_Begins.f k l0 = some r) :
  Calls Tryd.prog 138 #[.slice A0 l0.length c0] w fun e w' => e = .returned (.bool r) ∧ Drawn0 w w' := by
 have HR0 := Aside0.mk hr0
 have HC0 := Aside0.mk hc0
 clear hr0 hc0
 have H : (if (l0.length : Int) = 0 then (galleyref01_Begins.j0 k l0 true) else (if 0 < (l0.length : Int) then ((galleyref01_Need.f (rd l0 0)).bind fun t808 => (galleyref01_Begins.j0 k l0 (decide ((l0.length : Int) > t808)))) else (none))) = some r := h
 clear h
 have HC2 := Aside0.mk H
 clear H
 go_enter Tryd.func138, Tryd.ntmps138
 go_upto_region 1 with (fail)
 repeat (go_quiet (fail); go_upto_region 1 with (fail))
 go_cut [16] (fun v16 wc => ∃ (kq : Nat) (x16_1 : Bool), v16 = .bool x16_1 ∧ Aside0 (galleyref01_Begins.j0 kq l0 x16_1 = some r) ∧ Aside0 (kq ≤ k) ∧ Drawn0 w wc)
 case first =>
  have H := HC2.out
  clear HC2
  by_cases c3 : (l0.length : Int) = 0
  ·
   rw [if_pos c3] at H
   have c3b0 : ((l0.length : Int) == 0) = true := beq_iff_eq.mpr c3
   have c3b1 : ((l0.length : Int) != 0) = false := bne_eq_false_iff_eq.mpr c3
   clear c3
   (first | rw [c3b0] | (simp only [i64_w, i32_w]; rw [c3b0]) | skip)
   have H' := Aside0.mk H
   clear H
   go_wp2
   repeat (go_quiet (fail); try go_wp2)
   go_meet
   case rel => exact ⟨_, (true), (by first | rfl | (simp; done) | (simp [*]; done)), H', ⟨by first | omega | exact Nat.le_refl _⟩, by repeat (first | exact Drawn0.refl _ | apply Drawn0.step)⟩
  ·
   rw [if_neg c3] at H
   have c3b0 : ((l0.length : Int) == 0) = false := beq_eq_false_iff_ne.mpr c3
   have c3b1 : ((l0.length : Int) != 0) = true := bne_iff_ne.mpr c3
   have c3b2 : ¬ (l0 = []) := fun h_ => c3 (by rw [h_]; rfl)
   (first | rw [c3b0] | (simp only [i64_w, i32_w]; rw [c3b0]) | skip)
   by_cases c4 : 0 < (l0.length : Int)
   ·
    rw [if_pos c4] at H
    have c4b0 : decide (0 < (l0.length : Int)) = true := decide_eq_true c4
    have c4b1 : decide (0 < l0.length) = true := decide_eq_true (by omega)
    clear c4
    replace H := Option.bind_eq_some_iff.mp H
    obtain ⟨t808, A50, H⟩ := H
    replace H : (galleyref01_Begins.j0 k l0 (decide ((l0.length : Int) > t808))) = some r := H
    have A5 := Aside0.mk A50
    clear A50
    have H' := Aside0.mk H
    clear H
    have p807 : 0 ≤ (0 : Int) := (by omega)
    have q807 : 0 < (l0.length : Int) := of_decide_eq_true (by first | (with_reducible assumption) | assumption)
    obtain ⟨ad807, e807, hx807_0⟩ := Kd.at_int HR0.out 0 p807 q807
    cases e807
    have qi807 : (0 < l0.length) = True := eq_true (by omega)
    (try rw [show ((0 : Int)).toNat = 0 from rfl] at hx807_0)
    (try rw [Addr.add_zero'] at hx807_0)
    replace p807 := eq_true p807
    replace q807 := eq_true q807
    go_wp2_with (first | (go_at_call 124; (with_reducible refine (galleyref01_Need.calls (rd l0 0) t808 _ A5.out).mono ?_); rintro e w' ⟨rfl, ⟨nd, rfl⟩⟩; (try first | exact ⟨rfl, _, World.drewN_drewN _ _ _⟩ | exact ⟨rfl, _, Eq.trans (World.drewN_drewN _ _ _) (congrArg (World.drewN _) (Nat.add_assoc _ _ _))⟩)))
    repeat (go_quiet (first | (go_at_call 124; (with_reducible refine (galleyref01_Need.calls (rd l0 0) t808 _ A5.out).mono ?_); rintro e w' ⟨rfl, ⟨nd, rfl⟩⟩; (try first | exact ⟨rfl, _, World.drewN_drewN _ _ _⟩ | exact ⟨rfl, _, Eq.trans (World.drewN_drewN _ _ _) (congrArg (World.drewN _) (Nat.add_assoc _ _ _))⟩))); try go_wp2_with (first | (go_at_call 124; (with_reducible refine (galleyref01_Need.calls (rd l0 0) t808 _ A5.out).mono ?_); rintro e w' ⟨rfl, ⟨nd, rfl⟩⟩; (try first | exact ⟨rfl, _, World.drewN_drewN _ _ _⟩ | exact ⟨rfl, _, Eq.trans (World.drewN_drewN _ _ _) (congrArg (World.drewN _) (Nat.add_assoc _ _ _))⟩))))
    go_meet
    case rel => exact ⟨_, (decide ((l0.length : Int) > t808)), (by first | rfl | (simp; done) | (simp [*]; done)), H', ⟨by first | omega | exact Nat.le_refl _⟩, by repeat (first | exact Drawn0.refl _ | apply Drawn0.step)⟩
   ·
    rw [if_neg c4] at H
    exact absurd H (by simp)
 case rest =>
  clear HC2
  (try clear c1); (try clear p2); (try clear c3); (try clear c3b0); (try clear c3b1); (try clear c3b2); (try clear c4); (try clear c4b0); (try clear c4b1); (try clear hx807_0); (try clear p807); (try clear q807)
  obtain ⟨kq, x16_1, rfl, HA, HJ1, ⟨mc1, rfl⟩⟩ := hcut
  cases kq with
  | zero => exact absurd HA.out (by simp [galleyref01_Begins.j0])
  | succ kj1 =>
   have H := HA.out
   clear HA
   simp only [galleyref01_Begins.j0] at H
   by_cases c6 : x16_1 = true
   ·
    subst c6
    have H1 : (some false) = some r := by rw [if_pos rfl] at H; exact H
    clear H
    have H := H1
    clear H1
    obtain rfl := Option.some.inj H
    go_wp2
    repeat (go_quiet (fail); try go_wp2)
    go_ret
    exact ⟨by first | rfl | (simp; done) | (simp [*]; done), by repeat (first | exact Drawn0.refl _ | apply Drawn0.step)⟩
   ·
    replace c6 := Bool.eq_false_iff.mpr c6
    subst c6
    have H1 : (if (l0.length : Int) > 1 then (if 0 < (l0.length : Int) then (if 1 < (l0.length : Int) then ((galleyref01_Second.f kj1 (rd l0 0) (rd l0 1)).bind fun t811 => (if t811 = true then (galleyref01_Begins.j1 kj1 l0) else (some false))) else (none)) else (none)) else (galleyref01_Begins.j1 kj1 l0)) = some r := by rw [if_neg (show ¬ (false = true) by decide)] at H; exact H
    clear H
    have H := H1
    clear H1
    have HC7 := Aside0.mk H
    clear H
    go_upto_if 19 with (fail)
    repeat (go_quiet (fail); go_upto_if 19 with (fail))
    go_cut [] (fun wc => ∃ (kq : Nat), Aside0 (galleyref01_Begins.j1 kq l0 = some r) ∧ Aside0 (kq ≤ kj1) ∧ Drawn0 w wc)
    case first =>
     have H := HC7.out
     clear HC7
     by_cases c8 : (l0.length : Int) > 1
     ·
      rw [if_pos c8] at H
      have c8b0 : decide (1 < (l0.length : Int)) = true := decide_eq_true c8
      have c8b1 : decide (1 < l0.length) = true := decide_eq_true (by omega)
      clear c8
      (first | rw [c8b0] | (simp only [i64_w, i32_w]; rw [c8b0]) | skip)
      by_cases c9 : 0 < (l0.length : Int)
      ·
       rw [if_pos c9] at H
       have c9b0 : decide (0 < (l0.length : Int)) = true := decide_eq_true c9
       have c9b1 : decide (0 < l0.length) = true := decide_eq_true (by omega)
       clear c9
       by_cases c10 : 1 < (l0.length : Int)
       ·
        rw [if_pos c10] at H
        have c10b0 : decide (1 < (l0.length : Int)) = true := decide_eq_true c10
        have c10b1 : decide (1 < l0.length) = true := decide_eq_true (by omega)
        clear c10
        replace H := Option.bind_eq_some_iff.mp H
        obtain ⟨t811, A110, H⟩ := H
        replace H : (if t811 = true then (galleyref01_Begins.j1 kj1 l0) else (some false)) = some r := H
        have A11 := Aside0.mk A110
        clear A110
        by_cases c12 : t811 = true
        ·
         subst c12
         have H1 : (galleyref01_Begins.j1 kj1 l0) = some r := by rw [if_pos rfl] at H; exact H
         clear H
         have H := H1
         clear H1
         have H' := Aside0.mk H
         clear H
         have p809 : 0 ≤ (0 : Int) := (by omega)
         have q809 : 0 < (l0.length : Int) := of_decide_eq_true (by first | (with_reducible assumption) | assumption)
         obtain ⟨ad809, e809, hx809_0⟩ := Kd.at_int HR0.out 0 p809 q809
         cases e809
         have qi809 : (0 < l0.length) = True := eq_true (by omega)
         (try rw [show ((0 : Int)).toNat = 0 from rfl] at hx809_0)
         (try rw [Addr.add_zero'] at hx809_0)
         replace p809 := eq_true p809
         replace q809 := eq_true q809
         have p810 : 0 ≤ (1 : Int) := (by omega)
         have q810 : 1 < (l0.length : Int) := of_decide_eq_true (by first | (with_reducible assumption) | assumption)
         obtain ⟨ad810, e810, hx810_0⟩ := Kd.at_int HR0.out 1 p810 q810
         obtain rfl : ad809 = ad810 := (by injection e810)
         (try simp only [show (1 : Int).toNat = 1 from rfl, Nat.reduceMul, Nat.reduceEqDiff, Go.Addr.add, ↓reduceIte] at hx810_0)
         have qi810 : (1 < l0.length) = True := eq_true (by omega)
         (try rw [show ((1 : Int)).toNat = 1 from rfl] at hx810_0)
         replace p810 := eq_true p810
         replace q810 := eq_true q810
         go_wp2_with (first | (go_at_call 142; (with_reducible refine (galleyref01_Second.calls kj1 (rd l0 0) (rd l0 1) true _ A11.out).mono ?_); rintro e w' ⟨rfl, ⟨nd, rfl⟩⟩; (try first | exact ⟨rfl, _, World.drewN_drewN _ _ _⟩ | exact ⟨rfl, _, Eq.trans (World.drewN_drewN _ _ _) (congrArg (World.drewN _) (Nat.add_assoc _ _ _))⟩)))
         repeat (go_quiet (first | (go_at_call 142; (with_reducible refine (galleyref01_Second.calls kj1 (rd l0 0) (rd l0 1) true _ A11.out).mono ?_); rintro e w' ⟨rfl, ⟨nd, rfl⟩⟩; (try first | exact ⟨rfl, _, World.drewN_drewN _ _ _⟩ | exact ⟨rfl, _, Eq.trans (World.drewN_drewN _ _ _) (congrArg (World.drewN _) (Nat.add_assoc _ _ _))⟩))); try go_wp2_with (first | (go_at_call 142; (with_reducible refine (galleyref01_Second.calls kj1 (rd l0 0) (rd l0 1) true _ A11.out).mono ?_); rintro e w' ⟨rfl, ⟨nd, rfl⟩⟩; (try first | exact ⟨rfl, _, World.drewN_drewN _ _ _⟩ | exact ⟨rfl, _, Eq.trans (World.drewN_drewN _ _ _) (congrArg (World.drewN _) (Nat.add_assoc _ _ _))⟩))))
         go_meet
         case rel => exact ⟨_, H', ⟨by have := HJ1.out; first | omega | exact Nat.le_refl _⟩, by repeat (first | exact Drawn0.refl _ | apply Drawn0.step)⟩
        ·
         replace c12 := Bool.eq_false_iff.mpr c12
         subst c12
         have H1 : (some false) = some r := by rw [if_neg (show ¬ (false = true) by decide)] at H; exact H
         clear H
         have H := H1
         clear H1
         obtain rfl := Option.some.inj H
         have p809 : 0 ≤ (0 : Int) := (by omega)
         have q809 : 0 < (l0.length : Int) := of_decide_eq_true (by first | (with_reducible assumption) | assumption)
         obtain ⟨ad809, e809, hx809_0⟩ := Kd.at_int HR0.out 0 p809 q809
         cases e809
         have qi809 : (0 < l0.length) = True := eq_true (by omega)
         (try rw [show ((0 : Int)).toNat = 0 from rfl] at hx809_0)
         (try rw [Addr.add_zero'] at hx809_0)
         replace p809 := eq_true p809
         replace q809 := eq_true q809
         have p810 : 0 ≤ (1 : Int) := (by omega)
         have q810 : 1 < (l0.length : Int) := of_decide_eq_true (by first | (with_reducible assumption) | assumption)
         obtain ⟨ad810, e810, hx810_0⟩ := Kd.at_int HR0.out 1 p810 q810
         obtain rfl : ad809 = ad810 := (by injection e810)
         (try simp only [show (1 : Int).toNat = 1 from rfl, Nat.reduceMul, Nat.reduceEqDiff, Go.Addr.add, ↓reduceIte] at hx810_0)
         have qi810 : (1 < l0.length) = True := eq_true (by omega)
         (try rw [show ((1 : Int)).toNat = 1 from rfl] at hx810_0)
         replace p810 := eq_true p810
         replace q810 := eq_true q810
         go_wp2_with (first | (go_at_call 142; (with_reducible refine (galleyref01_Second.calls kj1 (rd l0 0) (rd l0 1) false _ A11.out).mono ?_); rintro e w' ⟨rfl, ⟨nd, rfl⟩⟩; (try first | exact ⟨rfl, _, World.drewN_drewN _ _ _⟩ | exact ⟨rfl, _, Eq.trans (World.drewN_drewN _ _ _) (congrArg (World.drewN _) (Nat.add_assoc _ _ _))⟩)))
         repeat (go_quiet (first | (go_at_call 142; (with_reducible refine (galleyref01_Second.calls kj1 (rd l0 0) (rd l0 1) false _ A11.out).mono ?_); rintro e w' ⟨rfl, ⟨nd, rfl⟩⟩; (try first | exact ⟨rfl, _, World.drewN_drewN _ _ _⟩ | exact ⟨rfl, _, Eq.trans (World.drewN_drewN _ _ _) (congrArg (World.drewN _) (Nat.add_assoc _ _ _))⟩))); try go_wp2_with (first | (go_at_call 142; (with_reducible refine (galleyref01_Second.calls kj1 (rd l0 0) (rd l0 1) false _ A11.out).mono ?_); rintro e w' ⟨rfl, ⟨nd, rfl⟩⟩; (try first | exact ⟨rfl, _, World.drewN_drewN _ _ _⟩ | exact ⟨rfl, _, Eq.trans (World.drewN_drewN _ _ _) (congrArg (World.drewN _) (Nat.add_assoc _ _ _))⟩))))
         go_ret
         exact ⟨by first | rfl | (simp; done) | (simp [*]; done), by repeat (first | exact Drawn0.refl _ | apply Drawn0.step)⟩
       ·
        rw [if_neg c10] at H
        exact absurd H (by simp)
      ·
       rw [if_neg c9] at H
       exact absurd H (by simp)
     ·
      rw [if_neg c8] at H
      have c8b0 : decide (1 < (l0.length : Int)) = false := decide_eq_false c8
      have c8b1 : decide (1 < l0.length) = false := decide_eq_false (by omega)
      clear c8
      (first | rw [c8b0] | (simp only [i64_w, i32_w]; rw [c8b0]) | skip)
      have H' := Aside0.mk H
      clear H
      go_wp2
      repeat (go_quiet (fail); try go_wp2)
      go_meet
      case rel => exact ⟨_, H', ⟨by have := HJ1.out; first | omega | exact Nat.le_refl _⟩, by repeat (first | exact Drawn0.refl _ | apply Drawn0.step)⟩
    case rest =>
     clear HC7
     (try clear c1); (try clear p2); (try clear c3); (try clear c3b0); (try clear c3b1); (try clear c3b2); (try clear c4); (try clear c4b0); (try clear c4b1); (try clear c6); (try clear c8); (try clear c8b0); (try clear c8b1); (try clear p8); (try clear q8); (try clear hx8); (try clear qi8); (try clear c9); (try clear c9b0); (try clear c9b1); (try clear c10); (try clear c10b0); (try clear c10b1); (try clear c12); (try clear hx807_0); (try clear hx809_0); (try clear hx810_0); (try clear p807); (try clear p809); (try clear p810); (try clear q807); (try clear q809); (try clear q810)
     obtain ⟨kq, HA, HJ6, ⟨mc6, rfl⟩⟩ := hcut
     cases kq with
     | zero => exact absurd HA.out (by simp [galleyref01_Begins.j1])
     | succ kj6 =>
      have H := HA.out
      clear HA
      simp only [galleyref01_Begins.j1] at H
      have H' := Aside0.mk H
      clear H
      go_wp2
      repeat (go_quiet (fail); try go_wp2)
      go_loopg [4] kj6 (fun kq v4 w' => ∃ (x4_3 : Int), v4 = .int .i64 x4_3 ∧ Aside0 (galleyref01_Begins.l0 kq l0 x4_3 = some r) ∧ Aside0 (kq ≤ kj6) ∧ Drawn0 w w')
      case atStart => exact ⟨(2), (by first | rfl | (simp; done) | (simp [*]; done)), H', ⟨Nat.le_refl _⟩, by repeat (first | exact Drawn0.refl _ | apply Drawn0.step)⟩
      case round =>
       clear H'
       (try clear c1); (try clear p2); (try clear c3); (try clear c3b0); (try clear c3b1); (try clear c3b2); (try clear c4); (try clear c4b0); (try clear c4b1); (try clear c6); (try clear c8); (try clear c8b0); (try clear c8b1); (try clear p8); (try clear q8); (try clear hx8); (try clear qi8); (try clear c9); (try clear c9b0); (try clear c9b1); (try clear c10); (try clear c10b0); (try clear c10b1); (try clear c12); (try clear hx807_0); (try clear hx809_0); (try clear hx810_0); (try clear p807); (try clear p809); (try clear p810); (try clear q807); (try clear q809); (try clear q810)
       obtain ⟨x4_3, rfl, HA, HK3, ⟨m3, rfl⟩⟩ := hrel
       cases gk with
       | zero => exact absurd HA.out (by simp [galleyref01_Begins.l0])
       | succ k3 =>
        have H := HA.out
        clear HA
        simp only [galleyref01_Begins.l0] at H
        by_cases c13 : x4_3 < (l0.length : Int)
        ·
         rw [if_pos c13] at H
         have c13b0 : decide (x4_3 < (l0.length : Int)) = true := decide_eq_true c13
         clear c13
         by_cases c14 : 0 ≤ x4_3
         ·
          rw [if_pos c14] at H
          have c14b0 : decide (0 ≤ x4_3) = true := decide_eq_true c14
          clear c14
          replace H := Option.bind_eq_some_iff.mp H
          obtain ⟨t813, A150, H⟩ := H
          replace H : (if t813 = 2 then (galleyref01_Begins.l0 k3 l0 (wrap64 (x4_3 + 1))) else (some false)) = some r := H
          have A15 := Aside0.mk A150
          clear A150
          by_cases c16 : t813 = 2
          ·
           rw [if_pos c16] at H
           have c16b0 : (t813 == 2) = true := beq_iff_eq.mpr c16
           have c16b1 : (t813 != 2) = false := bne_eq_false_iff_eq.mpr c16
           clear c16
           have H' := Aside0.mk H
           clear H
           have p812 : 0 ≤ (x4_3 : Int) := of_decide_eq_true (by first | (with_reducible assumption) | assumption)
           have q812 : x4_3 < (l0.length : Int) := of_decide_eq_true (by first | (with_reducible assumption) | assumption)
           obtain ⟨ad812, e812, hx812_0⟩ := Kd.at_int HR0.out x4_3 p812 q812
           cases e812
           replace p812 := eq_true p812
           replace q812 := eq_true q812
           go_wp2_with (first | (go_at_call 137; (with_reducible refine (galleyref01_Class.calls (rd l0 x4_3) t813 _ A15.out).mono ?_); rintro e w' ⟨rfl, ⟨nd, rfl⟩⟩; (try first | exact ⟨rfl, _, World.drewN_drewN _ _ _⟩ | exact ⟨rfl, _, Eq.trans (World.drewN_drewN _ _ _) (congrArg (World.drewN _) (Nat.add_assoc _ _ _))⟩)))
           repeat (go_quiet (first | (go_at_call 137; (with_reducible refine (galleyref01_Class.calls (rd l0 x4_3) t813 _ A15.out).mono ?_); rintro e w' ⟨rfl, ⟨nd, rfl⟩⟩; (try first | exact ⟨rfl, _, World.drewN_drewN _ _ _⟩ | exact ⟨rfl, _, Eq.trans (World.drewN_drewN _ _ _) (congrArg (World.drewN _) (Nat.add_assoc _ _ _))⟩))); try go_wp2_with (first | (go_at_call 137; (with_reducible refine (galleyref01_Class.calls (rd l0 x4_3) t813 _ A15.out).mono ?_); rintro e w' ⟨rfl, ⟨nd, rfl⟩⟩; (try first | exact ⟨rfl, _, World.drewN_drewN _ _ _⟩ | exact ⟨rfl, _, Eq.trans (World.drewN_drewN _ _ _) (congrArg (World.drewN _) (Nat.add_assoc _ _ _))⟩))))
           go_roundg k3
           case measure => have := HJ1.out; have := HJ6.out; have := HK3.out; omega
           case rel => exact ⟨(wrap64 (x4_3 + 1)), (by first | rfl | (simp; done) | (simp [*]; done)), H', ⟨by have := HJ1.out; have := HJ6.out; have := HK3.out; omega⟩, by repeat (first | exact Drawn0.refl _ | apply Drawn0.step)⟩
          ·
           rw [if_neg c16] at H
           have c16b0 : (t813 == 2) = false := beq_eq_false_iff_ne.mpr c16
           have c16b1 : (t813 != 2) = true := bne_iff_ne.mpr c16
           obtain rfl := Option.some.inj H
           have p812 : 0 ≤ (x4_3 : Int) := of_decide_eq_true (by first | (with_reducible assumption) | assumption)
           have q812 : x4_3 < (l0.length : Int) := of_decide_eq_true (by first | (with_reducible assumption) | assumption)
           obtain ⟨ad812, e812, hx812_0⟩ := Kd.at_int HR0.out x4_3 p812 q812
           cases e812
           replace p812 := eq_true p812
           replace q812 := eq_true q812
           go_wp2_with (first | (go_at_call 137; (with_reducible refine (galleyref01_Class.calls (rd l0 x4_3) t813 _ A15.out).mono ?_); rintro e w' ⟨rfl, ⟨nd, rfl⟩⟩; (try first | exact ⟨rfl, _, World.drewN_drewN _ _ _⟩ | exact ⟨rfl, _, Eq.trans (World.drewN_drewN _ _ _) (congrArg (World.drewN _) (Nat.add_assoc _ _ _))⟩)))
           repeat (go_quiet (first | (go_at_call 137; (with_reducible refine (galleyref01_Class.calls (rd l0 x4_3) t813 _ A15.out).mono ?_); rintro e w' ⟨rfl, ⟨nd, rfl⟩⟩; (try first | exact ⟨rfl, _, World.drewN_drewN _ _ _⟩ | exact ⟨rfl, _, Eq.trans (World.drewN_drewN _ _ _) (congrArg (World.drewN _) (Nat.add_assoc _ _ _))⟩))); try go_wp2_with (first | (go_at_call 137; (with_reducible refine (galleyref01_Class.calls (rd l0 x4_3) t813 _ A15.out).mono ?_); rintro e w' ⟨rfl, ⟨nd, rfl⟩⟩; (try first | exact ⟨rfl, _, World.drewN_drewN _ _ _⟩ | exact ⟨rfl, _, Eq.trans (World.drewN_drewN _ _ _) (congrArg (World.drewN _) (Nat.add_assoc _ _ _))⟩))))
           go_ret
           exact ⟨by first | rfl | (simp; done) | (simp [*]; done), by repeat (first | exact Drawn0.refl _ | apply Drawn0.step)⟩
         ·
          rw [if_neg c14] at H
          exact absurd H (by simp)
        ·
         rw [if_neg c13] at H
         have c13b0 : decide (x4_3 < (l0.length : Int)) = false := decide_eq_false c13
         clear c13
         obtain rfl := Option.some.inj H
         go_wp2
         repeat (go_quiet (fail); try go_wp2)
         go_ret
         exact ⟨by first | rfl | (simp; done) | (simp [*]; done), by repeat (first | exact Drawn0.refl _ | apply Drawn0.step)⟩
end Go.Proofs.YtbomhpfckplgaaaDoor.P
namespace Go.Proofs.YtbomhpfckplgaaaDoor.P
open Go.RowKit Go.Proofs.YtbomhpfckplgaaaDoorW.PrintWords Go.Proofs.YtbomhpfckplgaaaDoorW.PrintLast Go.Proofs.YtbomhpfckplgaaaDoorW.PrintMore
attribute [local go_sem] max2_int min2_int max_two min_two max_three min_three max_four min_four   -- for this text's walks alone
set_option linter.unusedVariables false
set_option linter.unusedSimpArgs false
def galleyref01_Whole.f (k : Nat) (l0 : List Int) : Option (Bool) := (galleyref01_Begins.f k l0).bind fun t814 => (if t814 = true then (if 0 < (l0.length : Int) then ((galleyref01_Need.f (rd l0 0)).bind fun t816 => (some ((l0.length : Int) == t816))) else (none)) else (some false))
set_option maxHeartbeats 8000000 in
set_option maxRecDepth 100000 in
theorem galleyref01_Whole.calls (k : Nat) (A0 : Option Addr) (c0 : Nat) (l0 : List Int) (r : Bool) (w : World) (hr0 : Kd.C (Kd.int .u8) w A0 l0.length l0) (hc0 : l0.length ≤ c0) (h : galleyref01_Whole.f k l0 = some r) :
  Calls Tryd.prog 125 #[.slice A0 l0.length c0] w fun e w' => e = .returned (.bool r) ∧ Drawn0 w w' := by
 have HR0 := Aside0.mk hr0
 have HC0 := Aside0.mk hc0
 clear hr0 hc0
 have H : ((galleyref01_Begins.f k l0).bind fun t814 => (if t814 = true then (if 0 < (l0.length : Int) then ((galleyref01_Need.f (rd l0 0)).bind fun t816 => (some ((l0.length : Int) == t816))) else (none)) else (some false))) = some r := h
 clear h
 replace H := Option.bind_eq_some_iff.mp H
 obtain ⟨t814, A20, H⟩ := H
 replace H : (if t814 = true then (if 0 < (l0.length : Int) then ((galleyref01_Need.f (rd l0 0)).bind fun t816 => (some ((l0.length : Int) == t816))) else (none)) else (some false)) = some r := H
 have A2 := Aside0.mk A20
 clear A20
 by_cases c3 : t814 = true
 ·
  subst c3
  have H1 : (if 0 < (l0.length : Int) then ((galleyref01_Need.f (rd l0 0)).bind fun t816 => (some ((l0.length : Int) == t816))) else (none)) = some r := by rw [if_pos rfl] at H; exact H
  clear H
  have H := H1
  clear H1
  by_cases c4 : 0 < (l0.length : Int)
  ·
   rw [if_pos c4] at H
   have c4b0 : decide (0 < (l0.length : Int)) = true := decide_eq_true c4
   have c4b1 : decide (0 < l0.length) = true := decide_eq_true (by omega)
   clear c4
   replace H := Option.bind_eq_some_iff.mp H
   obtain ⟨t816, A50, H⟩ := H
   replace H : (some ((l0.length : Int) == t816)) = some r := H
   have A5 := Aside0.mk A50
   clear A50
   obtain rfl := Option.some.inj H
   go_enter Tryd.func125, Tryd.ntmps125
   go_wp2_with (first | ((with_reducible refine gate_callee (f := 138) rfl ?_); refine goesL_ (some 4) rfl rfl Tryd.func138 (by kernel_rfl) rfl #[.slice A0 l0.length c0] rfl (by (try simp only [List.map_toArray, List.map_cons, List.map_nil]); first | done | rfl | (simp only [List.length_drop, List.length_take]; rfl)) ?_; (with_reducible refine (galleyref01_Begins.calls k _ _ l0 true _ ?side1 ?side2 A2.out).mono ?_); (case side1 => repeat (first | exact HR0.out | (with_reducible refine Kd.C_alloc ?_ _) | (with_reducible refine Kd.C_drewN ?_ _) | (with_reducible refine Kd.C_drew ?_))); (case side2 => exact HC0.out); rintro e w' ⟨rfl, ⟨nd, rfl⟩⟩; refine ⟨_, rfl, ?_⟩; have p815 : 0 ≤ (0 : Int) := (by omega); have q815 : 0 < (l0.length : Int) := of_decide_eq_true (by first | (with_reducible assumption) | assumption); obtain ⟨ad815, e815, hx815_0⟩ := Kd.at_int HR0.out 0 p815 q815; cases e815; have qi815 : (0 < l0.length) = True := eq_true (by omega); (try rw [show ((0 : Int)).toNat = 0 from rfl] at hx815_0); (try rw [Addr.add_zero'] at hx815_0); replace p815 := eq_true p815; replace q815 := eq_true q815) | (go_at_call 124; (with_reducible refine (galleyref01_Need.calls (rd l0 0) t816 _ A5.out).mono ?_); rintro e w' ⟨rfl, ⟨nd, rfl⟩⟩))
   go_ret
   exact ⟨by first | rfl | (simp; done) | (simp [*]; done), by repeat (first | exact Drawn0.refl _ | apply Drawn0.step)⟩
  ·
   rw [if_neg c4] at H
   exact absurd H (by simp)
 ·
  replace c3 := Bool.eq_false_iff.mpr c3
  subst c3
  have H1 : (some false) = some r := by rw [if_neg (show ¬ (false = true) by decide)] at H; exact H
  clear H
  have H := H1
  clear H1
  obtain rfl := Option.some.inj H
  go_enter Tryd.func125, Tryd.ntmps125
  go_wp2_with (first | ((with_reducible refine gate_callee (f := 138) rfl ?_); refine goesL_ (some 4) rfl rfl Tryd.func138 (by kernel_rfl) rfl #[.slice A0 l0.length c0] rfl (by (try simp only [List.map_toArray, List.map_cons, List.map_nil]); first | done | rfl | (simp only [List.length_drop, List.length_take]; rfl)) ?_; (with_reducible refine (galleyref01_Begins.calls k _ _ l0 false _ ?side1 ?side2 A2.out).mono ?_); (case side1 => repeat (first | exact HR0.out | (with_reducible refine Kd.C_alloc ?_ _) | (with_reducible refine Kd.C_drewN ?_ _) | (with_reducible refine Kd.C_drew ?_))); (case side2 => exact HC0.out); rintro e w' ⟨rfl, ⟨nd, rfl⟩⟩; refine ⟨_, rfl, ?_⟩))
  go_ret
  exact ⟨by first | rfl | (simp; done) | (simp [*]; done), by repeat (first | exact Drawn0.refl _ | apply Drawn0.step)⟩
def galleyref01_Width.f (k : Nat) (l0 : List Int) (a1 : Int) : Option (Int) := if 0 ≤ a1 then (if a1 < (l0.length : Int) then ((galleyref01_Need.f (rd l0 a1)).bind fun t818 => (if t818 ≥ 1 then (if (wrap64 (a1 + t818)) ≤ (l0.length : Int) then (if a1 ≤ (wrap64 (a1 + t818)) then ((galleyref01_Whole.f k ((l0.take ((wrap64 (a1 + t818)) : Int).toNat).drop (a1 : Int).toNat)).bind fun t820 => (if t820 = true then (some t818) else (some 1))) else (none)) else (some 1)) else (some 1))) else (none)) else (none)
set_option maxHeartbeats 8000000 in
set_option maxRecDepth 100000 in
theorem galleyref01_Width.calls (k : Nat) (A0 : Option Addr) (c0 : Nat) (l0 : List Int) (a1 : Int) (r : Int) (w : World) (hr0 : Kd.C (Kd.int .u8) w A0 l0.length l0) (hc0 : l0.length ≤ c0) (h : galleyref01_Width.f k l0 a1 = some r) :
  Calls Tryd.prog 110 #[.slice A0 l0.length c0, .int .i64 a1] w fun e w' => e = .returned (.int .i64 r) ∧ Drawn0 w w' := by
 have HR0 := Aside0.mk hr0
 have HC0 := Aside0.mk hc0
 clear hr0 hc0
 have H : (if 0 ≤ a1 then (if a1 < (l0.length : Int) then ((galleyref01_Need.f (rd l0 a1)).bind fun t818 => (if t818 ≥ 1 then (if (wrap64 (a1 + t818)) ≤ (l0.length : Int) then (if a1 ≤ (wrap64 (a1 + t818)) then ((galleyref01_Whole.f k ((l0.take ((wrap64 (a1 + t818)) : Int).toNat).drop (a1 : Int).toNat)).bind fun t820 => (if t820 = true then (some t818) else (some 1))) else (none)) else (some 1)) else (some 1))) else (none)) else (none)) = some r := h
 clear h
 by_cases c3 : 0 ≤ a1
 ·
  rw [if_pos c3] at H
  have c3b0 : decide (0 ≤ a1) = true := decide_eq_true c3
  clear c3
  by_cases c4 : a1 < (l0.length : Int)
  ·
   rw [if_pos c4] at H
   have c4b0 : decide (a1 < (l0.length : Int)) = true := decide_eq_true c4
   clear c4
   replace H := Option.bind_eq_some_iff.mp H
   obtain ⟨t818, A50, H⟩ := H
   replace H : (if t818 ≥ 1 then (if (wrap64 (a1 + t818)) ≤ (l0.length : Int) then (if a1 ≤ (wrap64 (a1 + t818)) then ((galleyref01_Whole.f k ((l0.take ((wrap64 (a1 + t818)) : Int).toNat).drop (a1 : Int).toNat)).bind fun t820 => (if t820 = true then (some t818) else (some 1))) else (none)) else (some 1)) else (some 1)) = some r := H
   have A5 := Aside0.mk A50
   clear A50
   by_cases c6 : t818 ≥ 1
   ·
    rw [if_pos c6] at H
    have c6b0 : decide (1 ≤ t818) = true := decide_eq_true c6
    clear c6
    by_cases c7 : (wrap64 (a1 + t818)) ≤ (l0.length : Int)
    ·
     rw [if_pos c7] at H
     have c7b0 : decide ((wrap64 (a1 + t818)) ≤ (l0.length : Int)) = true := decide_eq_true c7
     clear c7
     have c8b0 := eq_true (of_decide_eq_true (by first | (with_reducible assumption) | assumption) : 0 ≤ a1)
     by_cases c9 : a1 ≤ (wrap64 (a1 + t818))
     ·
      rw [if_pos c9] at H
      have c9b0 := eq_true c9
      have c9b1 : decide (a1 ≤ (wrap64 (a1 + t818))) = true := decide_eq_true c9
      have c10b0 := eq_true (of_decide_eq_true (by first | (with_reducible assumption) | assumption) : (wrap64 (a1 + t818)) ≤ (l0.length : Int))
      replace H := Option.bind_eq_some_iff.mp H
      obtain ⟨t820, A110, H⟩ := H
      replace H : (if t820 = true then (some t818) else (some 1)) = some r := H
      have A11 := Aside0.mk A110
      clear A110
      by_cases c12 : t820 = true
      ·
       subst c12
       have H1 : (some t818) = some r := by rw [if_pos rfl] at H; exact H
       clear H
       have H := H1
       clear H1
       obtain rfl := Option.some.inj H
       have p817 : 0 ≤ (a1 : Int) := of_decide_eq_true (by first | (with_reducible assumption) | assumption)
       have q817 : a1 < (l0.length : Int) := of_decide_eq_true (by first | (with_reducible assumption) | assumption)
       obtain ⟨ad817, e817, hx817_0⟩ := Kd.at_int HR0.out a1 p817 q817
       cases e817
       replace p817 := eq_true p817
       replace q817 := eq_true q817
       go_enter Tryd.func110, Tryd.ntmps110
       go_wp2_with (first | ((with_reducible refine gate_callee (f := 124) rfl ?_); refine goesL_ (some 10) rfl rfl Tryd.func124 (by kernel_rfl) rfl #[.int .u8 (rd l0 a1)] rfl (by (try simp only [List.map_toArray, List.map_cons, List.map_nil]); first | done | rfl | (simp only [List.length_drop, List.length_take]; rfl)) ?_; (with_reducible refine (galleyref01_Need.calls (rd l0 a1) t818 _ A5.out).mono ?_); rintro e w' ⟨rfl, ⟨nd, rfl⟩⟩; refine ⟨_, rfl, ?_⟩; obtain ⟨i013, hi013, _, hsz13, _⟩ := info_parts info5; obtain ⟨A13, hcut13, hA13, hC13⟩ := print_mid_of (P := Tryd.prog) (Value.int .u8) 0 22 5 .i64 .i64 Tryd.underlying22 hi013 hsz13 (some ad817) c0 l0 a1 (wrap64 (a1 + t818)) (of_decide_eq_true (by first | (with_reducible assumption) | assumption)) (by first | omega | exact of_decide_eq_true (by first | (with_reducible assumption) | assumption)) (of_decide_eq_true (by first | (with_reducible assumption) | assumption)) HC0.out; have HR819 := Aside0.mk (Kd.C_of_reads (h1 := fun _ => rfl) (hA13 _ (Kd.reads_of_C HR0.out))); have HC819 := Aside0.mk hC13; clear hA13 hC13 hi013 hsz13) | (go_at_call 125; refine calls_of_args (args' := #[.slice A13 ((l0.take ((wrap64 (a1 + t818)) : Int).toNat).drop (a1 : Int).toNat).length (c0 - (a1 : Int).toNat)]) (by rw [List.length_drop, List.length_take, Nat.min_eq_left (by have := of_decide_eq_true c7b0; omega)]) ?_; (with_reducible refine (galleyref01_Whole.calls k _ _ ((l0.take ((wrap64 (a1 + t818)) : Int).toNat).drop (a1 : Int).toNat) true _ ?side1 ?side2 A11.out).mono ?_); (case side1 => repeat (first | exact HR819.out | (with_reducible refine Kd.C_alloc ?_ _) | (with_reducible refine Kd.C_drewN ?_ _) | (with_reducible refine Kd.C_drew ?_))); (case side2 => exact HC819.out); rintro e w' ⟨rfl, ⟨nd, rfl⟩⟩))
       go_ret
       exact ⟨by first | rfl | (simp; done) | (simp [*]; done), by repeat (first | exact Drawn0.refl _ | apply Drawn0.step)⟩
      ·
       replace c12 := Bool.eq_false_iff.mpr c12
       subst c12
       have H1 : (some 1) = some r := by rw [if_neg (show ¬ (false = true) by decide)] at H; exact H
       clear H
       have H := H1
       clear H1
       obtain rfl := Option.some.inj H
       have p817 : 0 ≤ (a1 : Int) := of_decide_eq_true (by first | (with_reducible assumption) | assumption)
       have q817 : a1 < (l0.length : Int) := of_decide_eq_true (by first | (with_reducible assumption) | assumption)
       obtain ⟨ad817, e817, hx817_0⟩ := Kd.at_int HR0.out a1 p817 q817
       cases e817
       replace p817 := eq_true p817
       replace q817 := eq_true q817
       go_enter Tryd.func110, Tryd.ntmps110
       go_wp2_with (first | ((with_reducible refine gate_callee (f := 124) rfl ?_); refine goesL_ (some 10) rfl rfl Tryd.func124 (by kernel_rfl) rfl #[.int .u8 (rd l0 a1)] rfl (by (try simp only [List.map_toArray, List.map_cons, List.map_nil]); first | done | rfl | (simp only [List.length_drop, List.length_take]; rfl)) ?_; (with_reducible refine (galleyref01_Need.calls (rd l0 a1) t818 _ A5.out).mono ?_); rintro e w' ⟨rfl, ⟨nd, rfl⟩⟩; refine ⟨_, rfl, ?_⟩; obtain ⟨i014, hi014, _, hsz14, _⟩ := info_parts info5; obtain ⟨A14, hcut14, hA14, hC14⟩ := print_mid_of (P := Tryd.prog) (Value.int .u8) 0 22 5 .i64 .i64 Tryd.underlying22 hi014 hsz14 (some ad817) c0 l0 a1 (wrap64 (a1 + t818)) (of_decide_eq_true (by first | (with_reducible assumption) | assumption)) (by first | omega | exact of_decide_eq_true (by first | (with_reducible assumption) | assumption)) (of_decide_eq_true (by first | (with_reducible assumption) | assumption)) HC0.out; have HR819 := Aside0.mk (Kd.C_of_reads (h1 := fun _ => rfl) (hA14 _ (Kd.reads_of_C HR0.out))); have HC819 := Aside0.mk hC14; clear hA14 hC14 hi014 hsz14) | (go_at_call 125; refine calls_of_args (args' := #[.slice A14 ((l0.take ((wrap64 (a1 + t818)) : Int).toNat).drop (a1 : Int).toNat).length (c0 - (a1 : Int).toNat)]) (by rw [List.length_drop, List.length_take, Nat.min_eq_left (by have := of_decide_eq_true c7b0; omega)]) ?_; (with_reducible refine (galleyref01_Whole.calls k _ _ ((l0.take ((wrap64 (a1 + t818)) : Int).toNat).drop (a1 : Int).toNat) false _ ?side1 ?side2 A11.out).mono ?_); (case side1 => repeat (first | exact HR819.out | (with_reducible refine Kd.C_alloc ?_ _) | (with_reducible refine Kd.C_drewN ?_ _) | (with_reducible refine Kd.C_drew ?_))); (case side2 => exact HC819.out); rintro e w' ⟨rfl, ⟨nd, rfl⟩⟩))
       go_ret
       exact ⟨by first | rfl | (simp; done) | (simp [*]; done), by repeat (first | exact Drawn0.refl _ | apply Drawn0.step)⟩
     ·
      rw [if_neg c9] at H
      exact absurd H (by simp)
    ·
     rw [if_neg c7] at H
     have c7b0 : decide ((wrap64 (a1 + t818)) ≤ (l0.length : Int)) = false := decide_eq_false c7
     clear c7
     obtain rfl := Option.some.inj H
     have p817 : 0 ≤ (a1 : Int) := of_decide_eq_true (by first | (with_reducible assumption) | assumption)
     have q817 : a1 < (l0.length : Int) := of_decide_eq_true (by first | (with_reducible assumption) | assumption)
     obtain ⟨ad817, e817, hx817_0⟩ := Kd.at_int HR0.out a1 p817 q817
     cases e817
     replace p817 := eq_true p817
     replace q817 := eq_true q817
     go_enter Tryd.func110, Tryd.ntmps110
     go_wp2_with (first | ((with_reducible refine gate_callee (f := 124) rfl ?_); refine goesL_ (some 10) rfl rfl Tryd.func124 (by kernel_rfl) rfl #[.int .u8 (rd l0 a1)] rfl (by (try simp only [List.map_toArray, List.map_cons, List.map_nil]); first | done | rfl | (simp only [List.length_drop, List.length_take]; rfl)) ?_; (with_reducible refine (galleyref01_Need.calls (rd l0 a1) t818 _ A5.out).mono ?_); rintro e w' ⟨rfl, ⟨nd, rfl⟩⟩; refine ⟨_, rfl, ?_⟩))
     go_ret
     exact ⟨by first | rfl | (simp; done) | (simp [*]; done), by repeat (first | exact Drawn0.refl _ | apply Drawn0.step)⟩
   ·
    rw [if_neg c6] at H
    have c6b0 : decide (1 ≤ t818) = false := decide_eq_false c6
    clear c6
    obtain rfl := Option.some.inj H
    have p817 : 0 ≤ (a1 : Int) := of_decide_eq_true (by first | (with_reducible assumption) | assumption)
    have q817 : a1 < (l0.length : Int) := of_decide_eq_true (by first | (with_reducible assumption) | assumption)
    obtain ⟨ad817, e817, hx817_0⟩ := Kd.at_int HR0.out a1 p817 q817
    cases e817
    replace p817 := eq_true p817
    replace q817 := eq_true q817
    go_enter Tryd.func110, Tryd.ntmps110
    go_wp2_with (first | ((with_reducible refine gate_callee (f := 124) rfl ?_); refine goesL_ (some 10) rfl rfl Tryd.func124 (by kernel_rfl) rfl #[.int .u8 (rd l0 a1)] rfl (by (try simp only [List.map_toArray, List.map_cons, List.map_nil]); first | done | rfl | (simp only [List.length_drop, List.length_take]; rfl)) ?_; (with_reducible refine (galleyref01_Need.calls (rd l0 a1) t818 _ A5.out).mono ?_); rintro e w' ⟨rfl, ⟨nd, rfl⟩⟩; refine ⟨_, rfl, ?_⟩))
    go_ret
    exact ⟨by first | rfl | (simp; done) | (simp [*]; done), by repeat (first | exact Drawn0.refl _ | apply Drawn0.step)⟩
  ·
   rw [if_neg c4] at H
   exact absurd H (by simp)
 ·
  rw [if_neg c3] at H
  exact absurd H (by simp)
def galleyref04_Edges.l0 : Nat → List Int → List Int → Int → Option (List Int)
 | 0, _, _, _ => none
 | k + 1, x0, x3, x4 => if x4 < (x0.length : Int) then ((galleyref01_Width.f k x0 x4).bind fun t824 => (if x3.length < 17592186044416 then (galleyref04_Edges.l0 k x0 (x3 ++ [wrap64 (x4 + t824)]) (wrap64 (x4 + t824))) else (none))) else (some x3)
def galleyref04_Edges.f (k : Nat) (l0 : List Int) : Option (List Int) := galleyref04_Edges.l0 k l0 (([0] : List Int)) 0
set_option maxHeartbeats 8000000 in
set_option maxRecDepth 100000 in
theorem galleyref04_Edges.calls (k : Nat) (A0 : Option Addr) (c0 : Nat) (l0 : List Int) (r : List Int) (w : World) (hr0 : Kd.C (Kd.int .u8) w A0 l0.length l0) (hc0 : l0.length ≤ c0) (h : galleyref04_Edges.f k l0 = some r) :
  Calls Tryd.prog 69 #[.slice A0 l0.length c0] w fun e w' => ∃ v0_ : Value, e = .returned (v0_) ∧ Kd.R (Kd.int .i64) 3 w' w.heap.size (fun _ => True) v0_ r ∧ Below w.heap.size w w' := by
 have HR0 := Aside0.mk hr0
 have HC0 := Aside0.mk hc0
 clear hr0 hc0
 have HB := Aside0.mk (Below.refl w.heap.size w)
 have H : (galleyref04_Edges.l0 k l0 (([0] : List Int)) 0) = some r := h
 clear h
 obtain ⟨y821, hy821⟩ : ∃ y_ : List Int, y_ = (([0] : List Int)) := ⟨_, rfl⟩
 replace H : (galleyref04_Edges.l0 k l0 y821 0) = some r := by first | (rw [hy821]; with_reducible exact H) | (have H2_ := (Option.bind_some _ _).symm.trans H; rw [hy821]; with_reducible exact H2_) | (have H2_ := (Option.bind_some _ _).symm.trans H; with_reducible exact H2_) | with_reducible exact H | (rw [hy821]; exact H) | exact H
 have Ny821 := Aside0.mk hy821
 clear hy821
 have H' := Aside0.mk H
 clear H
 go_enter Tryd.func69, Tryd.ntmps69
 go_wp2_with (first | ((with_reducible refine gate_dst (N := 5) rfl ?_); refine Kd.R_lit (Kd.int .i64) _ 3 ?hg (N := 5) ?hd (xs := ([0] : List Int)) (inner := [.int .i64 0]) (ok := fun _ => True) (okp := fun _ => True) ?hr ?hp (fun _ hk => hk) trivial (Below.refl _ _) (Nat.le_refl _) (by simp) ?_; (case hd => rfl); (case hg => rfl); (case hr => first | (go_simp; done) | (go_simp; rfl)); (case hp => exact (Reps.one (show Kd.M (Kd.int .i64) _ _ _ 0 [.int .i64 0] from rfl) (Reps.none _ _))); intro v822 w2 ho3 hb hg_ hnew_; clear hg_ hnew_; (first | rw [← Ny821.out] at ho3 | (simp only [Int.reduceToNat] at ho3; rw [← Ny821.out] at ho3)); have n0_ := Aside0.mk (Kd.R_lower ho3 (below_size (by repeat (first | (with_reducible first | exact HB.out | apply below_alloc | apply pw_below_drewN | apply below_drew1) | exact HB.out)))); have n1_ := Aside0.mk (below_step (by repeat (first | (with_reducible first | exact HB.out | apply below_alloc | apply pw_below_drewN | apply below_drew1) | exact HB.out)) hb); clear HB; have HO823 := n0_; have HB := n1_; clear n0_ n1_; clear hb ho3))
 go_loopg [3, 4] k (fun kq v3 v4 w' => ∃ (x3_1 : List Int) (x4_1 : Int), v4 = .int .i64 x4_1 ∧ Aside0 (galleyref04_Edges.l0 kq l0 x3_1 x4_1 = some r) ∧ Aside0 (kq ≤ k) ∧ Aside0 (Kd.R (Kd.int .i64) 3 w' w.heap.size (fun _ => True) v3 x3_1) ∧ Aside0 (Below w.heap.size w w'))
 case atStart => exact ⟨(y821), (0), (by first | rfl | (simp; done) | (simp [*]; done)), H', ⟨Nat.le_refl _⟩, ⟨by (with_reducible repeat (first | apply Kd.R_alloc | apply Kd.R_drewN | apply Kd.R_drew)); exact HO823.out⟩, ⟨by repeat (first | (with_reducible first | exact HB.out | apply below_alloc | apply pw_below_drewN | apply below_drew1) | exact HB.out)⟩⟩
 case round =>
  clear H'
  (try clear p2)
  obtain ⟨x3_1, x4_1, rfl, HA, HK1, HO_3, HB⟩ := hrel
  cases gk with
  | zero => exact absurd HA.out (by simp [galleyref04_Edges.l0])
  | succ k1 =>
   have H := HA.out
   clear HA
   simp only [galleyref04_Edges.l0] at H
   by_cases c4 : x4_1 < (l0.length : Int)
   ·
    rw [if_pos c4] at H
    have c4b0 : decide (x4_1 < (l0.length : Int)) = true := decide_eq_true c4
    clear c4
    replace H := Option.bind_eq_some_iff.mp H
    obtain ⟨t824, A50, H⟩ := H
    replace H : (if x3_1.length < 17592186044416 then (galleyref04_Edges.l0 k1 l0 (x3_1 ++ [wrap64 (x4_1 + t824)]) (wrap64 (x4_1 + t824))) else (none)) = some r := H
    have A5 := Aside0.mk A50
    clear A50
    by_cases c6 : x3_1.length < 17592186044416
    ·
     rw [if_pos c6] at H
     have LMc6 := Aside0.mk c6
     clear c6
     obtain ⟨y825, hy825⟩ : ∃ y_ : List Int, y_ = (x3_1 ++ [wrap64 (x4_1 + t824)]) := ⟨_, rfl⟩
     replace H : (galleyref04_Edges.l0 k1 l0 y825 (wrap64 (x4_1 + t824))) = some r := by first | (rw [hy825]; with_reducible exact H) | (have H2_ := (Option.bind_some _ _).symm.trans H; rw [hy825]; with_reducible exact H2_) | (have H2_ := (Option.bind_some _ _).symm.trans H; with_reducible exact H2_) | with_reducible exact H | (rw [hy825]; exact H) | exact H
     have Ny825 := Aside0.mk hy825
     clear hy825
     have H' := Aside0.mk H
     clear H
     go_wp2_with (first | ((with_reducible refine gate_callee (f := 110) rfl ?_); refine goesL_ (some 13) rfl rfl Tryd.func110 (by kernel_rfl) rfl #[.slice A0 l0.length c0, .int .i64 x4_1] rfl (by (try simp only [List.map_toArray, List.map_cons, List.map_nil]); first | done | rfl | (simp only [List.length_drop, List.length_take]; rfl)) ?_; (with_reducible refine (galleyref01_Width.calls k1 _ _ l0 x4_1 t824 _ ?side1 ?side2 A5.out).mono ?_); (case side1 => repeat (first | exact (Kd.C_below HR0.out HB.out) | (with_reducible refine Kd.C_alloc ?_ _) | (with_reducible refine Kd.C_drewN ?_ _) | (with_reducible refine Kd.C_drew ?_))); (case side2 => exact HC0.out); rintro e w' ⟨rfl, ⟨nd, rfl⟩⟩; refine ⟨_, rfl, ?_⟩) | ((with_reducible refine gate_builtin (b := .append) (xs := #[.tmp 15, .tmp 17]) rfl ?_); at_builtin; refine Kd.R_append (Kd.int .i64) (w0 := w) w.heap.size rfl (.tmp 15) (.tmp 17) 29 3 (.int .i64 0) 8 rfl Tryd.underlying29 info3 rfl (by decide) (by omega) u3 x3_1 (wrap64 (x4_1 + t824)) [.int .i64 (wrap64 (x4_1 + t824))] (fun _ => True) (fun _ => False) rfl rfl ?aP (fun _ hk => hk.elim) ?aF ?aO ?aB ?aS ?aL ?_; (case aP => exact rfl); (case aB => exact (by repeat (first | (with_reducible first | exact HB.out | apply below_alloc | apply pw_below_drewN | apply below_drew1) | exact HB.out))); (case aF => exact (fun _ _ => trivial)); (case aO => exact (by (with_reducible repeat (first | apply Kd.R_alloc | apply Kd.R_drewN | apply Kd.R_drew)); exact HO_3.out)); (case aS => exact (below_size (by repeat (first | (with_reducible first | exact HB.out | apply below_alloc | apply pw_below_drewN | apply below_drew1) | exact HB.out)))); (case aL => have := LMc6.out; omega); intro v826 w7 ho hb hg hat; rw [← Ny825.out] at ho; have n0_ := Aside0.mk (hb); have n1_ := Aside0.mk (ho); clear HB; clear HO_3; have HB := n0_; have HO827 := n1_; clear n0_ n1_; clear ho hb hg hat))
     go_roundg k1
     case measure => have := HK1.out; omega
     case rel => exact ⟨(y825), (wrap64 (x4_1 + t824)), (by first | rfl | (simp; done) | (simp [*]; done)), H', ⟨by have := HK1.out; omega⟩, ⟨by (with_reducible repeat (first | apply Kd.R_alloc | apply Kd.R_drewN | apply Kd.R_drew)); exact HO827.out⟩, ⟨by repeat (first | (with_reducible first | exact HB.out | apply below_alloc | apply pw_below_drewN | apply below_drew1) | exact HB.out)⟩⟩
    ·
     rw [if_neg c6] at H
     exact absurd H (by simp)
   ·
    rw [if_neg c4] at H
    have c4b0 : decide (x4_1 < (l0.length : Int)) = false := decide_eq_false c4
    clear c4
    obtain rfl := Option.some.inj H
    go_wp2
    go_ret
    exact ⟨_, by first | rfl | (simp [errW_none, errW_some] <;> rfl) | (simp [*, errW_none, errW_some] <;> rfl), by (with_reducible repeat (first | apply Kd.R_alloc | apply Kd.R_drewN | apply Kd.R_drew)); exact HO_3.out, by repeat (first | (with_reducible first | exact HB.out | apply below_alloc | apply pw_below_drewN | apply below_drew1) | exact HB.out)⟩
end Go.Proofs.YtbomhpfckplgaaaDoor.P
namespace Go.Proofs.YtbomhpfckplgaaaDoor.P
open Go Go.RowKit Go.Proofs.YtbomhpfckplgaaaDoorW.PrintWords Go.Proofs.YtbomhpfckplgaaaDoorW.PrintMore Utf
set_option linter.unusedVariables false
set_option linter.unusedSimpArgs false
def classP (a : Int) : Int := if a < 128 then 1 else if a < 192 then 2 else if a < 194 then 6 else if a < 224 then 3 else if a < 240 then 4 else if a < 245 then 5 else 6
def needP (a : Int) : Nat := if a < 128 then 1 else if a < 194 then 0 else if a < 224 then 2 else if a < 240 then 3 else if a < 245 then 4 else 0
theorem class_is (a : Int) : galleyref01_Class.f a = some (classP a) := by
  unfold galleyref01_Class.f classP
  repeat' split
  all_goals rfl
theorem need_is (a : Int) : galleyref01_Need.f a = some (needP a : Int) := by
  unfold galleyref01_Need.f
  rw [class_is, Option.bind_some]
  unfold classP needP
  repeat' split
  all_goals first | rfl | omega
theorem class_tail {y : Int} (h0 : 0 ≤ y) : classP y = 2 ↔ tail y := by
  unfold classP tail
  repeat' split
  all_goals omega
def secondP (a b : Int) : Prop := 2 ≤ needP a ∧ tail b ∧ (a = 224 → 160 ≤ b) ∧ (a = 237 → b ≤ 159) ∧ (a = 240 → 144 ≤ b) ∧ (a = 244 → b ≤ 143)
instance (a b : Int) : Decidable (secondP a b) := by unfold secondP; infer_instance
theorem second_is (a b : Int) (hb : 0 ≤ b) (k : Nat) : galleyref01_Second.f (k + 1) a b = some (decide (secondP a b)) := by
  have ht := class_tail hb
  unfold galleyref01_Second.f
  rw [need_is, Option.bind_some]
  by_cases c : (needP a : Int) < 2
  · rw [if_pos c, decide_eq_false (fun h => by have := h.1; omega)]
    simp only [galleyref01_Second.j0, if_true]
  · rw [if_neg c, class_is, Option.bind_some]
    by_cases t : classP b = 2
    · have hb2 : (classP b != 2) = false := by simp [t]
      have htb := ht.1 t
      rw [hb2]
      simp only [galleyref01_Second.j0, Bool.false_eq_true, if_false]
      by_cases e1 : a = 224
      · rw [if_pos e1]
        congr 1
        apply decide_eq_decide.2
        exact ⟨fun h => ⟨by omega, htb, fun _ => h, by omega, by omega, by omega⟩, fun h => h.2.2.1 e1⟩
      rw [if_neg e1]
      by_cases e2 : a = 237
      · rw [if_pos e2]
        congr 1
        apply decide_eq_decide.2
        exact ⟨fun h => ⟨by omega, htb, by omega, fun _ => h, by omega, by omega⟩, fun h => h.2.2.2.1 e2⟩
      rw [if_neg e2]
      by_cases e3 : a = 240
      · rw [if_pos e3]
        congr 1
        apply decide_eq_decide.2
        exact ⟨fun h => ⟨by omega, htb, by omega, by omega, fun _ => h, by omega⟩, fun h => h.2.2.2.2.1 e3⟩
      rw [if_neg e3]
      by_cases e4 : a = 244
      · rw [if_pos e4]
        congr 1
        apply decide_eq_decide.2
        exact ⟨fun h => ⟨by omega, htb, by omega, by omega, by omega, fun _ => h⟩, fun h => h.2.2.2.2.2 e4⟩
      rw [if_neg e4, decide_eq_true (show secondP a b from ⟨by omega, htb, by omega, by omega, by omega, by omega⟩)]
    · have hb2 : (classP b != 2) = true := by simp [t]
      rw [hb2, decide_eq_false (fun h => t (ht.2 h.2.1))]
      simp only [galleyref01_Second.j0, if_true]
theorem begins_tail (s : List Int) (hs : ∀ x ∈ s, 0 ≤ x) (hl : s.length ≤ 4) : ∀ (d i k : Nat), s.length - i ≤ d → galleyref01_Begins.l0 (k + d + 1) s (i : Int) = some (decide (∀ j (h : j < s.length), i ≤ j → tail s[j]))
  | 0, i, k, hd => by
    conv => lhs; unfold galleyref01_Begins.l0
    rw [if_neg (by omega), decide_eq_true (fun j h hij => by omega)]
  | d + 1, i, k, hd => by
    by_cases c : i < s.length
    · conv => lhs; unfold galleyref01_Begins.l0
      have hr : rd s (i : Int) = s[i] := rd_nat s i c
      rw [if_pos (by omega), if_pos (by omega), hr, class_is, Option.bind_some]
      have ht := class_tail (hs _ (List.getElem_mem c))
      by_cases t : classP s[i] = 2
      · rw [if_pos t, w64 (n := (i : Int) + 1) (by omega) (by omega)]
        have ih := begins_tail s hs hl d (i + 1) k (by omega)
        rw [show k + (d + 1) = k + d + 1 by omega]
        refine Eq.trans ih ?_
        congr 1
        apply decide_eq_decide.2
        refine ⟨fun h j hj hij => ?_, fun h j hj hij => h j hj (by omega)⟩
        rcases Nat.eq_or_lt_of_le hij with e | e
        · subst e
          exact ht.1 t
        · exact h j hj (by omega)
      · rw [if_neg t, decide_eq_false (fun h => t (ht.2 (h i c (Nat.le_refl _))))]
    · conv => lhs; unfold galleyref01_Begins.l0
      rw [if_neg (by omega), decide_eq_true (fun j h hij => by omega)]
theorem ev_whole (s : List Int) (hs : ∀ x ∈ s, 0 ≤ x) (h1 : 1 ≤ s.length) (h4 : s.length ≤ 4) (hn : s.length = needP (s[0]'(by omega))) :
    Ev (fun k => galleyref01_Whole.f k s) (decide ((∀ h : 1 < s.length, secondP (s[0]'(by omega)) s[1]) ∧ (∀ j (h : j < s.length), 2 ≤ j → tail s[j]))) := by
  have h0 : rd s 0 = s[0]'(by omega) := rd_nat s 0 (by omega)
  have beg : Ev (fun k => galleyref01_Begins.f k s) (decide ((∀ h : 1 < s.length, secondP (s[0]'(by omega)) s[1]) ∧ (∀ j (h : j < s.length), 2 ≤ j → tail s[j]))) := by
    have hj1 : Ev (fun k => galleyref01_Begins.j1 k s) (decide (∀ j (h : j < s.length), 2 ≤ j → tail s[j])) := by
      refine Ev.step (G := fun k => galleyref01_Begins.l0 k s 2) (fun k => by simp only [galleyref01_Begins.j1]) ⟨s.length + 1, fun k hk => ?_⟩
      have := begins_tail s hs h4 s.length 2 (k - (s.length + 1)) (by omega)
      rw [show k - (s.length + 1) + s.length + 1 = k by omega] at this
      exact this
    unfold galleyref01_Begins.f
    refine Ev.ite_neg (by omega) (Ev.ite_pos (by omega) ?_)
    simp only [h0, need_is, Option.bind_some]
    rw [decide_eq_false (show ¬ (s.length : Int) > (needP (s[0]'(by omega)) : Int) by omega)]
    by_cases c : 1 < s.length
    · have hr1 : rd s 1 = s[1] := rd_nat s 1 c
      refine Ev.step (G := fun k => (galleyref01_Second.f k (s[0]'(by omega)) s[1]).bind fun t811 => (if t811 = true then (galleyref01_Begins.j1 k s) else (some false))) (fun k => ?_) ?_
      · simp only [galleyref01_Begins.j0, Bool.false_eq_true, if_false]
        rw [if_pos (by omega), if_pos (by omega), if_pos (by omega), h0, hr1]
      · refine Ev.bind (⟨1, fun k hk => by obtain ⟨i, rfl⟩ : ∃ i, k = i + 1 := ⟨k - 1, by omega⟩; exact second_is _ _ (hs _ (List.getElem_mem c)) i⟩ : Ev (fun k => galleyref01_Second.f k (s[0]'(by omega)) s[1]) (decide (secondP (s[0]'(by omega)) s[1]))) ?_
        by_cases g : secondP (s[0]'(by omega)) s[1]
        · rw [decide_eq_true g]
          refine Ev.ite_pos rfl ?_
          have e : decide ((∀ h : 1 < s.length, secondP (s[0]'(by omega)) s[1]) ∧ (∀ j (h : j < s.length), 2 ≤ j → tail s[j])) = decide (∀ j (h : j < s.length), 2 ≤ j → tail s[j]) := decide_eq_decide.2 ⟨fun h => h.2, fun h => ⟨fun _ => g, h⟩⟩
          rw [e]
          exact hj1
        · rw [decide_eq_false g, decide_eq_false (fun h => g (h.1 c))]
          exact Ev.ite_neg (by simp) (Ev.pure _)
    · refine Ev.step (G := fun k => galleyref01_Begins.j1 k s) (fun k => ?_) ?_
      · simp only [galleyref01_Begins.j0, Bool.false_eq_true, if_false]
        rw [if_neg (by omega)]
      · have e : decide ((∀ h : 1 < s.length, secondP (s[0]'(by omega)) s[1]) ∧ (∀ j (h : j < s.length), 2 ≤ j → tail s[j])) = decide (∀ j (h : j < s.length), 2 ≤ j → tail s[j]) := decide_eq_decide.2 ⟨fun h => h.2, fun h => ⟨fun h_ => absurd h_ c, h⟩⟩
        rw [e]
        exact hj1
  unfold galleyref01_Whole.f
  refine Ev.bind beg ?_
  generalize decide ((∀ h : 1 < s.length, secondP (s[0]'(by omega)) s[1]) ∧ (∀ j (h : j < s.length), 2 ≤ j → tail s[j])) = b
  cases b with
  | false => exact Ev.ite_neg (by simp) (Ev.pure _)
  | true =>
    refine Ev.ite_pos rfl (Ev.ite_pos (by omega) (Ev.of ?_))
    rw [h0, need_is, Option.bind_some]
    congr 1
    rw [beq_iff_eq]
    omega
theorem long4_need {x y z w : Int} (h0 : 0 ≤ x) (h1 : x ≤ 255) : long4 x y z w = 0 ∨ long4 x y z w = needP x := by
  unfold long4
  by_cases c1 : 0 ≤ x ∧ x ≤ 0x7f
  · rw [if_pos c1]
    right
    unfold needP
    rw [if_pos (by omega)]
  rw [if_neg c1]
  by_cases c2 : (0xc2 ≤ x ∧ x ≤ 0xdf) ∧ tail y
  · rw [if_pos c2]
    right
    unfold needP
    rw [if_neg (by omega), if_neg (by omega), if_pos (by omega)]
  rw [if_neg c2]
  by_cases c3 : tail z ∧ three x y
  · rw [if_pos c3]
    right
    have := c3.2
    unfold three at this
    unfold needP
    rw [if_neg (by omega), if_neg (by omega), if_neg (by omega), if_pos (by omega)]
  rw [if_neg c3]
  by_cases c4 : tail z ∧ tail w ∧ four x y
  · rw [if_pos c4]
    right
    have := c4.2.2
    unfold four at this
    unfold needP
    rw [if_neg (by omega), if_neg (by omega), if_neg (by omega), if_neg (by omega), if_pos (by omega)]
  · rw [if_neg c4]
    exact .inl rfl
theorem three_second {x y : Int} (h : 224 ≤ x ∧ x ≤ 239) : three x y ↔ secondP x y := by
  unfold three secondP needP tail
  rw [if_neg (by omega), if_neg (by omega), if_neg (by omega), if_pos (by omega)]
  omega
theorem four_second {x y : Int} (h : 240 ≤ x ∧ x ≤ 244) : four x y ↔ secondP x y := by
  unfold four secondP needP tail
  rw [if_neg (by omega), if_neg (by omega), if_neg (by omega), if_neg (by omega), if_pos (by omega)]
  omega
theorem long4_iff {x y z w : Int} (h0 : 0 ≤ x) (h1 : x ≤ 255) (hn : 1 ≤ needP x) : long4 x y z w = needP x ↔ ((2 ≤ needP x → secondP x y) ∧ (3 ≤ needP x → tail z) ∧ (4 ≤ needP x → tail w)) := by
  by_cases r1 : x < 128
  · have e : needP x = 1 := by unfold needP; rw [if_pos r1]
    have g : long4 x y z w = 1 := by unfold long4; rw [if_pos ⟨h0, by omega⟩]
    rw [e, g]
    exact ⟨fun _ => ⟨by omega, by omega, by omega⟩, fun _ => rfl⟩
  by_cases r2 : x < 194
  · exfalso
    unfold needP at hn
    rw [if_neg r1, if_pos r2] at hn
    omega
  by_cases r3 : x < 224
  · have e : needP x = 2 := by unfold needP; rw [if_neg r1, if_neg r2, if_pos r3]
    have ht : secondP x y ↔ tail y := by
      unfold secondP
      rw [e]
      exact ⟨fun h => h.2.1, fun h => ⟨by omega, h, by omega, by omega, by omega, by omega⟩⟩
    rw [e, ht]
    unfold long4
    rw [if_neg (by omega)]
    by_cases t : tail y
    · rw [if_pos ⟨⟨by omega, by omega⟩, t⟩]
      exact ⟨fun _ => ⟨fun _ => t, by omega, by omega⟩, fun _ => rfl⟩
    · rw [if_neg (fun h => t h.2), if_neg (fun h => by have := h.2; unfold three at this; omega), if_neg (fun h => by have := h.2.2; unfold four at this; omega)]
      exact ⟨fun h => by omega, fun h => absurd (h.1 (by omega)) t⟩
  by_cases r4 : x < 240
  · have e : needP x = 3 := by unfold needP; rw [if_neg r1, if_neg r2, if_neg r3, if_pos r4]
    have ht := three_second (x := x) (y := y) ⟨by omega, by omega⟩
    rw [e]
    unfold long4
    rw [if_neg (by omega), if_neg (by omega)]
    by_cases t : tail z ∧ three x y
    · rw [if_pos t]
      exact ⟨fun _ => ⟨fun _ => ht.1 t.2, fun _ => t.1, by omega⟩, fun _ => rfl⟩
    · rw [if_neg t, if_neg (fun h => by have := h.2.2; unfold four at this; omega)]
      exact ⟨fun h => by omega, fun h => absurd ⟨h.2.1 (by omega), ht.2 (h.1 (by omega))⟩ t⟩
  by_cases r5 : x < 245
  · have e : needP x = 4 := by unfold needP; rw [if_neg r1, if_neg r2, if_neg r3, if_neg r4, if_pos r5]
    have ht := four_second (x := x) (y := y) ⟨by omega, by omega⟩
    rw [e]
    unfold long4
    rw [if_neg (by omega), if_neg (by omega), if_neg (fun h => by have := h.2; unfold three at this; omega)]
    by_cases t : tail z ∧ tail w ∧ four x y
    · rw [if_pos t]
      exact ⟨fun _ => ⟨fun _ => ht.1 t.2.2, fun _ => t.1, fun _ => t.2.1⟩, fun _ => rfl⟩
    · rw [if_neg t]
      exact ⟨fun h => by omega, fun h => absurd ⟨h.2.1 (by omega), h.2.2 (by omega), ht.2 (h.1 (by omega))⟩ t⟩
  · exfalso
    unfold needP at hn
    rw [if_neg r1, if_neg r2, if_neg r3, if_neg r4, if_neg r5] at hn
    omega
theorem ev_whole_n {l : List Int} (hl : Bytes l) (p n : Nat) (hp : p < l.length) (hn : needP (at_ l p) = n) (c1 : 1 ≤ n) (c2 : p + n ≤ l.length) :
    Ev (fun k => galleyref01_Whole.f k ((l.take (p + n)).drop p)) (decide (long l p = n)) := by
  have hb := at_byte hl hp
  have hn4 : n ≤ 4 := by
    rw [← hn]
    unfold needP
    repeat' split
    all_goals omega
  obtain ⟨s, hsd⟩ : ∃ s, (l.take (p + n)).drop p = s := ⟨_, rfl⟩
  have hlen : s.length = n := by rw [← hsd]; simp; omega
  have hget : ∀ j (h : j < s.length), s[j] = at_ l (p + j) := fun j h => by
    subst hsd
    rw [List.getElem_drop, List.getElem_take, ← at_nat]
  have hpos : ∀ x ∈ s, 0 ≤ x := fun x hx => by
    obtain ⟨j, hj, rfl⟩ := List.mem_iff_getElem.1 hx
    rw [hget j hj]
    exact (at_byte hl (by omega)).1
  have h0 : s[0]'(by omega) = at_ l p := hget 0 (by omega)
  have hw2 := ev_whole s hpos (by omega) (by omega) (by rw [h0, hn, hlen])
  have hiff := long4_iff (y := at_ l (p + 1)) (z := at_ l (p + 2)) (w := at_ l (p + 3)) hb.1 hb.2 (by rw [hn]; omega)
  rw [hn] at hiff
  have hdec : decide ((∀ h : 1 < s.length, secondP (s[0]'(by omega)) s[1]) ∧ (∀ j (h : j < s.length), 2 ≤ j → tail s[j])) = decide (long l p = n) := by
    apply decide_eq_decide.2
    refine Iff.trans ?_ hiff.symm
    constructor
    · rintro ⟨a, b⟩
      refine ⟨fun h => ?_, fun h => ?_, fun h => ?_⟩
      · have := a (by omega)
        rw [h0, hget 1 (by omega)] at this
        exact this
      · have := b 2 (by omega) (by omega)
        rw [hget 2 (by omega)] at this
        exact this
      · have := b 3 (by omega) (by omega)
        rw [hget 3 (by omega)] at this
        exact this
    · rintro ⟨a, b, c⟩
      refine ⟨fun h => ?_, fun j h h2 => ?_⟩
      · rw [h0, hget 1 (by omega)]
        exact a (by omega)
      · rw [hget j h]
        rcases (show j = 2 ∨ j = 3 by omega) with rfl | rfl
        · exact b (by omega)
        · exact c (by omega)
  rw [hdec] at hw2
  rw [hsd]
  exact hw2
theorem ev_width {l : List Int} (hl : Bytes l) (hs : Small l) (p : Nat) (hp : p < l.length) : Ev (fun k => galleyref01_Width.f k l (p : Int)) (width l p : Int) := by
  have hs' := hs
  unfold Small at hs'
  have hb := at_byte hl hp
  have hx : rd l (p : Int) = at_ l p := rd_at hp
  obtain ⟨n, hn⟩ : ∃ n, needP (at_ l p) = n := ⟨_, rfl⟩
  have hn4 : n ≤ 4 := by
    rw [← hn]
    unfold needP
    repeat' split
    all_goals omega
  have hcase : long l p = 0 ∨ long l p = n := by rw [← hn]; exact long4_need hb.1 hb.2
  have w1 : long l p = 0 → (width l p : Int) = 1 := fun h => by unfold width; rw [if_pos h]; rfl
  unfold galleyref01_Width.f
  refine Ev.ite_pos (by omega) (Ev.ite_pos (by omega) ?_)
  simp only [hx, need_is, Option.bind_some, hn]
  by_cases c1 : (n : Int) ≥ 1
  case neg =>
    have h0 : long l p = 0 := by omega
    rw [w1 h0]
    exact Ev.ite_neg c1 (Ev.pure _)
  refine Ev.ite_pos c1 ?_
  have hw : wrap64 ((p : Int) + (n : Int)) = ((p + n : Nat) : Int) := by
    rw [w64 (by omega) (by omega)]
    rfl
  rw [hw]
  by_cases c2 : p + n ≤ l.length
  case neg =>
    have h0 : long l p = 0 := by
      rcases hcase with h | h
      · exact h
      · have := long_end (b := l) (p := p) (by omega)
        omega
    rw [w1 h0]
    exact Ev.ite_neg (by omega) (Ev.pure _)
  refine Ev.ite_pos (by omega) (Ev.ite_pos (by omega) ?_)
  rw [Int.toNat_natCast, Int.toNat_natCast]
  refine Ev.bind (ev_whole_n hl p n hp hn (by omega) c2) ?_
  by_cases c3 : long l p = n
  · rw [decide_eq_true c3]
    have e : (width l p : Int) = n := by
      unfold width
      rw [if_neg (by omega), c3]
    rw [e]
    exact Ev.ite_pos rfl (Ev.pure _)
  · rw [decide_eq_false c3]
    have h0' : long l p = 0 := by omega
    rw [w1 h0']
    exact Ev.ite_neg (by simp) (Ev.pure _)
theorem ev_edges4_from {l : List Int} (hl : Bytes l) (hs : Small l) : ∀ (n p : Nat) (acc : List Int), p ≤ l.length → l.length - p ≤ n → acc.length ≤ p →
    Ev (fun k => galleyref04_Edges.l0 k l (acc ++ [(p : Int)]) (p : Int)) (acc ++ ((stepsF l n p).map (fun x => (x.1 : Int)) ++ [(l.length : Int)]))
  | 0, p, acc, hp, hn, ha => by
    obtain rfl : p = l.length := by omega
    refine Ev.step (G := fun _ => some (acc ++ [(l.length : Int)])) (fun k => ?_) (Ev.pure _)
    conv => lhs; unfold galleyref04_Edges.l0
    rw [if_neg (by omega)]
  | n + 1, p, acc, hp, hn, ha => by
    have hs' := hs
    unfold Small at hs'
    rw [stepsF_succ]
    by_cases c : p < l.length
    · have hwp := width_pos l p
      have hwe := width_end c
      rw [if_pos c]
      refine Ev.step (G := fun k => (galleyref01_Width.f k l (p : Int)).bind fun t824 => (if (acc ++ [(p : Int)]).length < 17592186044416 then (galleyref04_Edges.l0 k l (acc ++ [(p : Int)] ++ [wrap64 ((p : Int) + t824)]) (wrap64 ((p : Int) + t824))) else (none))) (fun k => ?_) ?_
      · conv => lhs; unfold galleyref04_Edges.l0
        rw [if_pos (by omega)]
      · refine Ev.bind (ev_width hl hs p c) (Ev.ite_pos (by simp; omega) ?_)
        rw [w64 (n := (p : Int) + (width l p : Int)) (by omega) (by omega)]
        have ih := ev_edges4_from hl hs n (p + width l p) (acc ++ [(p : Int)]) hwe (by omega) (by simp; omega)
        rw [List.append_assoc acc [(p : Int)] ((stepsF l n (p + width l p)).map _ ++ _)] at ih
        exact ih
    · rw [if_neg c]
      obtain rfl : p = l.length := by omega
      refine Ev.step (G := fun _ => some (acc ++ [(l.length : Int)])) (fun k => ?_) (Ev.pure _)
      conv => lhs; unfold galleyref04_Edges.l0
      rw [if_neg (by omega)]
theorem ev_edges4 {l : List Int} (hl : Bytes l) (hs : Small l) : Ev (fun k => galleyref04_Edges.f k l) ((stepsL l).map (fun x => (x.1 : Int)) ++ [(l.length : Int)]) := by
  have := ev_edges4_from hl hs l.length 0 [] (Nat.zero_le _) (by omega) (by simp)
  simpa [galleyref04_Edges.f, stepsL] using this
end Go.Proofs.YtbomhpfckplgaaaDoor.P
namespace Go.Proofs.YtbomhpfckplgaaaDoor.P
open Go.RowKit Go.Proofs.YtbomhpfckplgaaaDoorW.PrintWords Go.Proofs.YtbomhpfckplgaaaDoorW.PrintLast Go.Proofs.YtbomhpfckplgaaaDoorW.PrintMore
attribute [local go_sem] max2_int min2_int max_two min_two max_three min_three max_four min_four   -- for this text's walks alone
set_option linter.unusedVariables false
set_option linter.unusedSimpArgs false
def step_at.f (l0 : List Int) (a1 : Int) : Option (Int × Int × Bool) := if 0 ≤ a1 then (if a1 ≤ (mn (wrap64 (a1 + 4)) (l0.length : Int)) then (if (mn (wrap64 (a1 + 4)) (l0.length : Int)) ≤ (l0.length : Int) then ((step_first.f (strOfNums ((l0.take ((mn (wrap64 (a1 + 4)) (l0.length : Int)) : Int).toNat).drop (a1 : Int).toNat))).bind fun bt639 => (some (bt639.1, bt639.2.1, bt639.2.2))) else (none)) else (none)) else (none)
set_option maxHeartbeats 8000000 in
set_option maxRecDepth 100000 in
theorem step_at.calls (A0 : Option Addr) (c0 : Nat) (l0 : List Int) (a1 : Int) (r1 : Int) (r2 : Int) (r3 : Bool) (w : World) (hr0 : Kd.C (Kd.int .u8) w A0 l0.length l0) (hc0 : l0.length ≤ c0) (hG : Laid w) (h : step_at.f l0 a1 = some (r1, r2, r3)) :
  Calls Tryd.prog 135 #[.slice A0 l0.length c0, .int .i64 a1] w fun e w' => e = .returned (.agg #[.int .i32 r1, .int .i64 r2, .bool r3]) ∧ Below w.heap.size w w' := by
 have hu121 := Tryd.underlying121
 have HG := Aside0.mk hG
 clear hG
 have HR0 := Aside0.mk hr0
 have HC0 := Aside0.mk hc0
 clear hr0 hc0
 have HB := Aside0.mk (Below.refl w.heap.size w)
 have H : (if 0 ≤ a1 then (if a1 ≤ (mn (wrap64 (a1 + 4)) (l0.length : Int)) then (if (mn (wrap64 (a1 + 4)) (l0.length : Int)) ≤ (l0.length : Int) then ((step_first.f (strOfNums ((l0.take ((mn (wrap64 (a1 + 4)) (l0.length : Int)) : Int).toNat).drop (a1 : Int).toNat))).bind fun bt639 => (some (bt639.1, bt639.2.1, bt639.2.2))) else (none)) else (none)) else (none)) = some (r1, r2, r3) := h
 clear h
 obtain ⟨ji3, hji3⟩ : ∃ j_ : Int, (mn (wrap64 (a1 + 4)) (l0.length : Int)) = j_ := ⟨_, rfl⟩
 replace H : (if 0 ≤ a1 then (if a1 ≤ (ji3) then (if (ji3) ≤ (l0.length : Int) then ((step_first.f (strOfNums ((l0.take ((ji3) : Int).toNat).drop (a1 : Int).toNat))).bind fun bt639 => (some (bt639.1, bt639.2.1, bt639.2.2))) else (none)) else (none)) else (none)) = some (r1, r2, r3) := by first | (rw [hji3] at H; exact H) | (simp only [hji3] at H ⊢; exact H)
 have hji3_ : (if (l0.length : Int) < (wrap64 (a1 + 4)) then (l0.length : Int) else (wrap64 (a1 + 4))) = ji3 := hji3
 by_cases c4 : 0 ≤ a1
 ·
  rw [if_pos c4] at H
  have c4b0 := eq_true c4
  have c4b1 : decide (0 ≤ a1) = true := decide_eq_true c4
  clear c4
  by_cases c5 : a1 ≤ (ji3)
  ·
   rw [if_pos c5] at H
   have c5b0 := eq_true c5
   have c5b1 : decide (a1 ≤ (ji3)) = true := decide_eq_true c5
   clear c5
   by_cases c6 : (ji3) ≤ (l0.length : Int)
   ·
    rw [if_pos c6] at H
    have c6b0 := eq_true c6
    have c6b1 : decide ((ji3) ≤ (l0.length : Int)) = true := decide_eq_true c6
    clear c6
    replace H := Option.bind_eq_some_iff.mp H
    obtain ⟨⟨t639, t640, t641⟩, A70, H⟩ := H
    replace H : (some (t639, t640, t641)) = some (r1, r2, r3) := H
    have A7 := Aside0.mk A70
    clear A70
    simp only [Option.some.injEq, Prod.mk.injEq] at H
    obtain ⟨rfl, rfl, rfl⟩ := H
    go_enter Tryd.func135, Tryd.ntmps135
    go_wp2_with (first | ((with_reducible refine gate_dst (N := 4) rfl ?_); refine box_event ?hg (N := 4) ?hd (cs := #[.int .i32 0, .int .i64 0, .bool false]) (t := 121) ?hr ?_; (case hd => rfl); (case hg => rfl); (case hr => first | (go_simp; done) | (go_simp; rfl)); intro gb637 hg w8 hbox hb; have n0_ := Aside0.mk (below_step (by repeat (first | (with_reducible first | exact HB.out | apply below_alloc | apply pw_below_drewN | apply below_drew1) | exact HB.out)) hb); have n1_ := Aside0.mk (hbox); have n2_ := Aside0.mk ((by rw [hg]; exact (below_size (by repeat (first | (with_reducible first | exact HB.out | apply below_alloc | apply pw_below_drewN | apply below_drew1) | exact HB.out))) : w.heap.size ≤ gb637)); have n3_ := Aside0.mk ((by rw [hg]; exact (below_size (by repeat (first | (with_reducible first | exact HB.out | apply below_alloc | apply pw_below_drewN | apply below_drew1) | exact HB.out))) : w.heap.size ≤ gb637)); clear HB; have HB := n0_; have BK637 := n1_; have GW637 := n2_; have GE637 := n3_; clear n0_ n1_ n2_ n3_; clear hb hbox hg; obtain ⟨i09, hi09, _, hsz9, _⟩ := info_parts info5; obtain ⟨A9, hcut9, hA9, hC9⟩ := print_mid_of (P := Tryd.prog) (Value.int .u8) 0 22 5 .i64 .i64 Tryd.underlying22 hi09 hsz9 A0 c0 l0 a1 (ji3) (of_decide_eq_true (by first | (with_reducible assumption) | assumption)) (by first | omega | exact of_decide_eq_true (by first | (with_reducible assumption) | assumption)) (of_decide_eq_true (by first | (with_reducible assumption) | assumption)) HC0.out; have HR638 := Aside0.mk (Kd.C_of_reads (h1 := fun _ => rfl) (hA9 _ (Kd.reads_of_C HR0.out))); have HC638 := Aside0.mk hC9; clear hA9 hC9 hi09 hsz9; have hcv10 := Kd.C_string (P := Tryd.prog) (A := A9) (c := (c0 - a1.toNat)) Tryd.underlying22 Tryd.underlying5 Tryd.underlying9 (Kd.C_below HR638.out HB.out)); have hlen10 : ((l0.take ((ji3) : Int).toNat).drop (a1 : Int).toNat).length = ji3.toNat - a1.toNat := (by rw [List.length_drop, List.length_take]; have := of_decide_eq_true c6b1; omega); rw [hlen10] at hcv10 hcut9; clear hlen10 | ((with_reducible refine gate_callee (f := 127) rfl ?_); refine goesL_ (some 14) rfl rfl Tryd.func127 (by kernel_rfl) rfl #[.string (strOfNums ((l0.take ((ji3) : Int).toNat).drop (a1 : Int).toNat))] rfl (by (try simp only [List.map_toArray, List.map_cons, List.map_nil]); first | done | (simp only [hji3]; rfl) | rfl | (simp only [List.length_drop, List.length_take]; rfl)) ?_; (with_reducible refine (step_first.calls (strOfNums ((l0.take ((ji3) : Int).toNat).drop (a1 : Int).toNat)) t639 t640 t641 _ ?side1 A7.out).mono ?_); (case side1 => repeat (first | exact HG.out | exact Laid.below HG.out HB.out | (with_reducible refine Laid.alloc ?_ _) | (with_reducible refine Laid.drewN ?_ _) | (with_reducible refine Laid.drew ?_))); rintro e w11 ⟨rfl, hb⟩; refine ⟨_, rfl, ?_⟩; have n0_ := Aside0.mk (blk_below (g := gb637) (o := .cells #[.int .i32 0, .int .i64 0, .bool false] 121 (0, 0)) (by (with_reducible repeat (first | refine blk_drewN ?_ _ | refine blk_drew ?_ | refine blk_alloc ?_ _)); exact BK637.out) hb); have n1_ := Aside0.mk (below_step (by repeat (first | (with_reducible first | exact HB.out | apply below_alloc | apply pw_below_drewN | apply below_drew1 | refine below_set ?_ GE637.out) | exact HB.out)) hb); clear BK637; clear HB; have BK637 := n0_; have HB := n1_; clear n0_ n1_; (try clear hb); (try clear hb2); (try clear hk); (try clear hi); have hcz12_0 : w11.cell? ⟨gb637, 0, none⟩ = some (.int .i32 0) := (blk_cell BK637.out 0).trans rfl; have hcz12_1 : w11.cell? ⟨gb637, 1, none⟩ = some (.int .i64 0) := (blk_cell BK637.out 1).trans rfl; have hcz12_2 : w11.cell? ⟨gb637, 2, none⟩ = some (.bool false) := (blk_cell BK637.out 2).trans rfl; have hfz12_0 := blk_frozen BK637.out 0; have hfz12_1 := blk_frozen BK637.out 1; have hfz12_2 := blk_frozen BK637.out 2))
    refine bodyPost_ret (results_cell_row rfl _ _ gb637 121 #[.int .i32 t639, .int .i64 t640, .bool t641] (0, 0) _ rfl (by (with_reducible repeat (first | refine blk_drewN ?_ _ | refine blk_drew ?_ | refine blk_alloc ?_ _)); refine blk_put (cs := #[.int .i32 t639, .int .i64 t640, .bool false]) ?_ 2 _ rfl; (with_reducible repeat (first | refine blk_drewN ?_ _ | refine blk_drew ?_ | refine blk_alloc ?_ _)); refine blk_put (cs := #[.int .i32 t639, .int .i64 0, .bool false]) ?_ 1 _ rfl; (with_reducible repeat (first | refine blk_drewN ?_ _ | refine blk_drew ?_ | refine blk_alloc ?_ _)); refine blk_put (cs := #[.int .i32 0, .int .i64 0, .bool false]) ?_ 0 _ rfl; (with_reducible repeat (first | refine blk_drewN ?_ _ | refine blk_drew ?_ | refine blk_alloc ?_ _)); exact BK637.out) Tryd.underlying121 rfl (by kernel_rfl)) rfl ?_
    exact ⟨by first | rfl | (simp [errW_none, errW_some] <;> rfl) | (simp only [← hji3]; first | rfl | (simp [errW_none, errW_some] <;> rfl)) | (simp [*, errW_none, errW_some] <;> rfl), by repeat (first | (with_reducible first | exact HB.out | apply below_alloc | apply pw_below_drewN | apply below_drew1 | refine below_set ?_ GE637.out) | exact HB.out)⟩
   ·
    rw [if_neg c6] at H
    exact absurd H (by simp)
  ·
   rw [if_neg c5] at H
   exact absurd H (by simp)
 ·
  rw [if_neg c4] at H
  exact absurd H (by simp)
theorem run_field121 (W : World) (a b c : Value) : (Instr.field 121 (.agg #[a, b, c]) 1).run Tryd.prog W = .ok b W := by
 have h1 := run_underlying (P := Tryd.prog) (w := W) Tryd.underlying121
 unfold Instr.field
 simp [h1, part, asAgg]
mutual
def step_inside.l0 : Nat → List Int → Int → Int → Option (Int)
 | 0, _, _, _ => none
 | k + 1, x0, x1, x5 => if x5 ≤ 3 then (step_inside.j1 k x0 x1 x5 (decide (x5 ≤ x1))) else (step_inside.j1 k x0 x1 x5 false)
def step_inside.j1 : Nat → List Int → Int → Int → Bool → Option (Int)
 | 0, _, _, _, _ => none
 | k + 1, x0, x1, x5, x12 => if x12 = true then ((step_at.f x0 (wrap64 (x1 - x5))).bind fun bt642 => (if bt642.2.1 > x5 then (some x5) else (step_inside.l0 k x0 x1 (wrap64 (x5 + 1))))) else (some 0)
end
def step_inside.f (k : Nat) (l0 : List Int) (a1 : Int) : Option (Int) := step_inside.l0 k l0 a1 1
set_option maxHeartbeats 8000000 in
set_option maxRecDepth 100000 in
theorem step_inside.calls (k : Nat) (A0 : Option Addr) (c0 : Nat) (l0 : List Int) (a1 : Int) (r : Int) (w : World) (hr0 : Kd.C (Kd.int .u8) w A0 l0.length l0) (hc0 : l0.length ≤ c0) (hG : Laid w) (h : step_inside.f k l0 a1 = some r) :
  Calls Tryd.prog 122 #[.slice A0 l0.length c0, .int .i64 a1] w fun e w' => e = .returned (.int .i64 r) ∧ Below w.heap.size w w' := by
 have hu121 := Tryd.underlying121
 have hfld := run_field121
 have HG := Aside0.mk hG
 clear hG
 have HR0 := Aside0.mk hr0
 have HC0 := Aside0.mk hc0
 clear hr0 hc0
 have HB := Aside0.mk (Below.refl w.heap.size w)
 have H : (step_inside.l0 k l0 a1 1) = some r := h
 clear h
 have H' := Aside0.mk H
 clear H
 go_enter Tryd.func122, Tryd.ntmps122
 go_wp2
 go_loopg [5] k (fun kq v5 w' => ∃ (x5_1 : Int), v5 = .int .i64 x5_1 ∧ Aside0 (step_inside.l0 kq l0 a1 x5_1 = some r) ∧ Aside0 (kq ≤ k) ∧ Aside0 (Below w.heap.size w w'))
 case atStart => exact ⟨(1), (by first | rfl | (simp; done) | (simp [*]; done)), H', ⟨Nat.le_refl _⟩, ⟨by repeat (first | (with_reducible first | exact HB.out | apply below_alloc | apply pw_below_drewN | apply below_drew1) | exact HB.out)⟩⟩
 case round =>
  clear H'
  (try clear c1); (try clear p2)
  obtain ⟨x5_1, rfl, HA, HK1, HB⟩ := hrel
  cases gk with
  | zero => exact absurd HA.out (by simp [step_inside.l0])
  | succ k1 =>
   have H := HA.out
   clear HA
   simp only [step_inside.l0] at H
   have HC3 := Aside0.mk H
   clear H
   go_upto_region 2 with (fail)
   go_cut [12] (fun v12 wc => ∃ (kq : Nat) (x12_2 : Bool), v12 = .bool x12_2 ∧ Aside0 (step_inside.j1 kq l0 a1 x5_1 x12_2 = some r) ∧ Aside0 (kq ≤ k1) ∧ Aside0 (Below w.heap.size w wc))
   case first =>
    have H := HC3.out
    clear HC3
    by_cases c4 : x5_1 ≤ 3
    ·
     rw [if_pos c4] at H
     have c4b0 : decide (x5_1 ≤ 3) = true := decide_eq_true c4
     clear c4
     (first | rw [c4b0] | (simp only [i64_w, i32_w]; rw [c4b0]) | skip)
     have H' := Aside0.mk H
     clear H
     go_wp2
     go_meet
     case rel => exact ⟨_, (decide (x5_1 ≤ a1)), (by first | rfl | (simp; done) | (simp [*]; done)), H', ⟨by have := HK1.out; first | omega | exact Nat.le_refl _⟩, ⟨by repeat (first | (with_reducible first | exact HB.out | apply below_alloc | apply pw_below_drewN | apply below_drew1) | exact HB.out)⟩⟩
    ·
     rw [if_neg c4] at H
     have c4b0 : decide (x5_1 ≤ 3) = false := decide_eq_false c4
     clear c4
     (first | rw [c4b0] | (simp only [i64_w, i32_w]; rw [c4b0]) | skip)
     have H' := Aside0.mk H
     clear H
     go_wp2
     go_meet
     case rel => exact ⟨_, (false), (by first | rfl | (simp; done) | (simp [*]; done)), H', ⟨by have := HK1.out; first | omega | exact Nat.le_refl _⟩, ⟨by repeat (first | (with_reducible first | exact HB.out | apply below_alloc | apply pw_below_drewN | apply below_drew1) | exact HB.out)⟩⟩
   case rest =>
    clear HC3
    (try clear c1); (try clear p2); (try clear c4); (try clear c4b0)
    obtain ⟨kq, x12_2, rfl, HA, HJ2, HB⟩ := hcut
    cases kq with
    | zero => exact absurd HA.out (by simp [step_inside.j1])
    | succ kj2 =>
     have H := HA.out
     clear HA
     simp only [step_inside.j1] at H
     by_cases c5 : x12_2 = true
     ·
      subst c5
      have H1 : ((step_at.f l0 (wrap64 (a1 - x5_1))).bind fun bt642 => (if bt642.2.1 > x5_1 then (some x5_1) else (step_inside.l0 kj2 l0 a1 (wrap64 (x5_1 + 1))))) = some r := by rw [if_pos rfl] at H; exact H
      clear H
      have H := H1
      clear H1
      replace H := Option.bind_eq_some_iff.mp H
      obtain ⟨⟨t642, t643, t644⟩, A60, H⟩ := H
      replace H : (if t643 > x5_1 then (some x5_1) else (step_inside.l0 kj2 l0 a1 (wrap64 (x5_1 + 1)))) = some r := H
      have A6 := Aside0.mk A60
      clear A60
      by_cases c7 : t643 > x5_1
      ·
       rw [if_pos c7] at H
       have c7b0 : decide (x5_1 < t643) = true := decide_eq_true c7
       clear c7
       obtain rfl := Option.some.inj H
       go_wp2_with (first | ((with_reducible refine gate_callee (f := 135) rfl ?_); refine goesL_ (some 19) rfl rfl Tryd.func135 (by kernel_rfl) rfl #[.slice A0 l0.length c0, .int .i64 (wrap64 (a1 - x5_1))] rfl (by (try simp only [List.map_toArray, List.map_cons, List.map_nil]); first | done | rfl | (simp only [List.length_drop, List.length_take]; rfl)) ?_; (with_reducible refine (step_at.calls _ _ l0 (wrap64 (a1 - x5_1)) t642 t643 t644 _ ?side1 ?side2 ?side3 A6.out).mono ?_); (case side1 => repeat (first | exact (Kd.C_below HR0.out HB.out) | (with_reducible refine Kd.C_alloc ?_ _) | (with_reducible refine Kd.C_drewN ?_ _) | (with_reducible refine Kd.C_drew ?_))); (case side2 => exact HC0.out); (case side3 => repeat (first | exact HG.out | exact Laid.below HG.out HB.out | (with_reducible refine Laid.alloc ?_ _) | (with_reducible refine Laid.drewN ?_ _) | (with_reducible refine Laid.drew ?_))); rintro e w8 ⟨rfl, hb⟩; refine ⟨_, rfl, ?_⟩; have n0_ := Aside0.mk (below_step (by repeat (first | (with_reducible first | exact HB.out | apply below_alloc | apply pw_below_drewN | apply below_drew1) | exact HB.out)) hb); clear HB; have HB := n0_; clear n0_; (try clear hb); (try clear hb2); (try clear hk); (try clear hi)))
       go_ret
       exact ⟨by first | rfl | (simp [errW_none, errW_some] <;> rfl) | (simp [*, errW_none, errW_some] <;> rfl), by repeat (first | (with_reducible first | exact HB.out | apply below_alloc | apply pw_below_drewN | apply below_drew1) | exact HB.out)⟩
      ·
       rw [if_neg c7] at H
       have c7b0 : decide (x5_1 < t643) = false := decide_eq_false c7
       clear c7
       have H' := Aside0.mk H
       clear H
       go_wp2_with (first | ((with_reducible refine gate_callee (f := 135) rfl ?_); refine goesL_ (some 19) rfl rfl Tryd.func135 (by kernel_rfl) rfl #[.slice A0 l0.length c0, .int .i64 (wrap64 (a1 - x5_1))] rfl (by (try simp only [List.map_toArray, List.map_cons, List.map_nil]); first | done | rfl | (simp only [List.length_drop, List.length_take]; rfl)) ?_; (with_reducible refine (step_at.calls _ _ l0 (wrap64 (a1 - x5_1)) t642 t643 t644 _ ?side1 ?side2 ?side3 A6.out).mono ?_); (case side1 => repeat (first | exact (Kd.C_below HR0.out HB.out) | (with_reducible refine Kd.C_alloc ?_ _) | (with_reducible refine Kd.C_drewN ?_ _) | (with_reducible refine Kd.C_drew ?_))); (case side2 => exact HC0.out); (case side3 => repeat (first | exact HG.out | exact Laid.below HG.out HB.out | (with_reducible refine Laid.alloc ?_ _) | (with_reducible refine Laid.drewN ?_ _) | (with_reducible refine Laid.drew ?_))); rintro e w9 ⟨rfl, hb⟩; refine ⟨_, rfl, ?_⟩; have n0_ := Aside0.mk (below_step (by repeat (first | (with_reducible first | exact HB.out | apply below_alloc | apply pw_below_drewN | apply below_drew1) | exact HB.out)) hb); clear HB; have HB := n0_; clear n0_; (try clear hb); (try clear hb2); (try clear hk); (try clear hi)))
       go_roundg kj2
       case measure => have := HK1.out; have := HJ2.out; omega
       case rel => exact ⟨(wrap64 (x5_1 + 1)), (by first | rfl | (simp; done) | (simp [*]; done)), H', ⟨by have := HK1.out; have := HJ2.out; omega⟩, ⟨by repeat (first | (with_reducible first | exact HB.out | apply below_alloc | apply pw_below_drewN | apply below_drew1) | exact HB.out)⟩⟩
     ·
      replace c5 := Bool.eq_false_iff.mpr c5
      subst c5
      have H1 : (some 0) = some r := by rw [if_neg (show ¬ (false = true) by decide)] at H; exact H
      clear H
      have H := H1
      clear H1
      obtain rfl := Option.some.inj H
      go_wp2
      go_ret
      exact ⟨by first | rfl | (simp [errW_none, errW_some] <;> rfl) | (simp [*, errW_none, errW_some] <;> rfl), by repeat (first | (with_reducible first | exact HB.out | apply below_alloc | apply pw_below_drewN | apply below_drew1) | exact HB.out)⟩
def step_Floor.f (k : Nat) (l0 : List Int) (a1 : Int) : Option (Int × Int) := if a1 < 0 then (some (0, 2)) else (if a1 > (l0.length : Int) then (some (0, 2)) else ((step_inside.f k l0 a1).bind fun t645 => (some (wrap64 (a1 - t645), 0))))
set_option maxHeartbeats 8000000 in
set_option maxRecDepth 100000 in
theorem step_Floor.calls (k : Nat) (A0 : Option Addr) (c0 : Nat) (l0 : List Int) (a1 : Int) (r1 : Int) (r2 : Int) (w : World) (hr0 : Kd.C (Kd.int .u8) w A0 l0.length l0) (hc0 : l0.length ≤ c0) (hG : Laid w) (h : step_Floor.f k l0 a1 = some (r1, r2)) :
  Calls Tryd.prog 101 #[.slice A0 l0.length c0, .int .i64 a1] w fun e w' => e = .returned (.tuple #[.int .i64 r1, .int .i64 r2]) ∧ Below w.heap.size w w' := by
 have HG := Aside0.mk hG
 clear hG
 have HR0 := Aside0.mk hr0
 have HC0 := Aside0.mk hc0
 clear hr0 hc0
 have HB := Aside0.mk (Below.refl w.heap.size w)
 have H : (if a1 < 0 then (some (0, 2)) else (if a1 > (l0.length : Int) then (some (0, 2)) else ((step_inside.f k l0 a1).bind fun t645 => (some (wrap64 (a1 - t645), 0))))) = some (r1, r2) := h
 clear h
 by_cases c3 : a1 < 0
 ·
  rw [if_pos c3] at H
  have c3b0 : decide (a1 < 0) = true := decide_eq_true c3
  clear c3
  simp only [Option.some.injEq, Prod.mk.injEq] at H
  obtain ⟨rfl, rfl⟩ := H
  go_enter Tryd.func101, Tryd.ntmps101
  go_wp2
  go_ret2
  exact ⟨by first | rfl | (simp [errW_none, errW_some] <;> rfl) | (simp [*, errW_none, errW_some] <;> rfl), by repeat (first | (with_reducible first | exact HB.out | apply below_alloc | apply pw_below_drewN | apply below_drew1) | exact HB.out)⟩
 ·
  rw [if_neg c3] at H
  have c3b0 : decide (a1 < 0) = false := decide_eq_false c3
  clear c3
  by_cases c4 : a1 > (l0.length : Int)
  ·
   rw [if_pos c4] at H
   have c4b0 : decide ((l0.length : Int) < a1) = true := decide_eq_true c4
   clear c4
   simp only [Option.some.injEq, Prod.mk.injEq] at H
   obtain ⟨rfl, rfl⟩ := H
   go_enter Tryd.func101, Tryd.ntmps101
   go_wp2
   go_ret2
   exact ⟨by first | rfl | (simp [errW_none, errW_some] <;> rfl) | (simp [*, errW_none, errW_some] <;> rfl), by repeat (first | (with_reducible first | exact HB.out | apply below_alloc | apply pw_below_drewN | apply below_drew1) | exact HB.out)⟩
  ·
   rw [if_neg c4] at H
   have c4b0 : decide ((l0.length : Int) < a1) = false := decide_eq_false c4
   clear c4
   replace H := Option.bind_eq_some_iff.mp H
   obtain ⟨t645, A50, H⟩ := H
   replace H : (some (wrap64 (a1 - t645), 0)) = some (r1, r2) := H
   have A5 := Aside0.mk A50
   clear A50
   simp only [Option.some.injEq, Prod.mk.injEq] at H
   obtain ⟨rfl, rfl⟩ := H
   go_enter Tryd.func101, Tryd.ntmps101
   go_wp2_with (first | ((with_reducible refine gate_callee (f := 122) rfl ?_); refine goesL_ (some 17) rfl rfl Tryd.func122 (by kernel_rfl) rfl #[.slice A0 l0.length c0, .int .i64 a1] rfl (by (try simp only [List.map_toArray, List.map_cons, List.map_nil]); first | done | rfl | (simp only [List.length_drop, List.length_take]; rfl)) ?_; (with_reducible refine (step_inside.calls k _ _ l0 a1 t645 _ ?side1 ?side2 ?side3 A5.out).mono ?_); (case side1 => repeat (first | exact HR0.out | (with_reducible refine Kd.C_alloc ?_ _) | (with_reducible refine Kd.C_drewN ?_ _) | (with_reducible refine Kd.C_drew ?_))); (case side2 => exact HC0.out); (case side3 => repeat (first | exact HG.out | exact Laid.below HG.out HB.out | (with_reducible refine Laid.alloc ?_ _) | (with_reducible refine Laid.drewN ?_ _) | (with_reducible refine Laid.drew ?_))); rintro e w6 ⟨rfl, hb⟩; refine ⟨_, rfl, ?_⟩; have n0_ := Aside0.mk (below_step (by repeat (first | (with_reducible first | exact HB.out | apply below_alloc | apply pw_below_drewN | apply below_drew1) | exact HB.out)) hb); clear HB; have HB := n0_; clear n0_; (try clear hb); (try clear hb2); (try clear hk); (try clear hi)))
   go_ret2
   exact ⟨by first | rfl | (simp [errW_none, errW_some] <;> rfl) | (simp [*, errW_none, errW_some] <;> rfl), by repeat (first | (with_reducible first | exact HB.out | apply below_alloc | apply pw_below_drewN | apply below_drew1) | exact HB.out)⟩
end Go.Proofs.YtbomhpfckplgaaaDoor.P
namespace Go.Proofs.YtbomhpfckplgaaaDoor.P
open Go.RowKit Go.Proofs.YtbomhpfckplgaaaDoorW.PrintWords Go.Proofs.YtbomhpfckplgaaaDoorW.PrintLast Go.Proofs.YtbomhpfckplgaaaDoorW.PrintMore
attribute [local go_sem] max2_int min2_int max_two min_two max_three min_three max_four min_four   -- for this text's walks alone
set_option linter.unusedVariables false
set_option linter.unusedSimpArgs false
def lines_size.f (l0 : List Int) (a1 : Int) : Option (Int) := (rule_Size.f l0 a1).bind fun bt727 => (some bt727.1)
set_option maxHeartbeats 8000000 in
set_option maxRecDepth 100000 in
theorem lines_size.calls (A0 : Option Addr) (c0 : Nat) (l0 : List Int) (a1 : Int) (r : Int) (w : World) (hr0 : Kd.C (Kd.int .u8) w A0 l0.length l0) (hc0 : l0.length ≤ c0) (hG : Laid w) (h : lines_size.f l0 a1 = some r) :
  Calls Tryd.prog 103 #[.slice A0 l0.length c0, .int .i64 a1] w fun e w' => e = .returned (.int .i64 r) ∧ Below w.heap.size w w' := by
 have HG := Aside0.mk hG
 clear hG
 have HR0 := Aside0.mk hr0
 have HC0 := Aside0.mk hc0
 clear hr0 hc0
 have HB := Aside0.mk (Below.refl w.heap.size w)
 have H : ((rule_Size.f l0 a1).bind fun bt727 => (some bt727.1)) = some r := h
 clear h
 replace H := Option.bind_eq_some_iff.mp H
 obtain ⟨⟨t727, t728⟩, A30, H⟩ := H
 replace H : (some t727) = some r := H
 have A3 := Aside0.mk A30
 clear A30
 obtain rfl := Option.some.inj H
 go_enter Tryd.func103, Tryd.ntmps103
 go_wp2_with (first | ((with_reducible refine gate_callee (f := 28) rfl ?_); refine goesL_ (some 10) rfl rfl Tryd.func28 (by kernel_rfl) rfl #[.slice A0 l0.length c0, .int .i64 a1] rfl (by (try simp only [List.map_toArray, List.map_cons, List.map_nil]); first | done | rfl | (simp only [List.length_drop, List.length_take]; rfl)) ?_; (with_reducible refine (rule_Size.calls _ _ l0 a1 t727 t728 _ ?side1 ?side2 ?side3 A3.out).mono ?_); (case side1 => repeat (first | exact HR0.out | (with_reducible refine Kd.C_alloc ?_ _) | (with_reducible refine Kd.C_drewN ?_ _) | (with_reducible refine Kd.C_drew ?_))); (case side2 => exact HC0.out); (case side3 => repeat (first | exact HG.out | exact Laid.below HG.out HB.out | (with_reducible refine Laid.alloc ?_ _) | (with_reducible refine Laid.drewN ?_ _) | (with_reducible refine Laid.drew ?_))); rintro e w4 ⟨rfl, hb⟩; refine ⟨_, rfl, ?_⟩; have n0_ := Aside0.mk (below_step (by repeat (first | (with_reducible first | exact HB.out | apply below_alloc | apply pw_below_drewN | apply below_drew1) | exact HB.out)) hb); clear HB; have HB := n0_; clear n0_; (try clear hb); (try clear hb2); (try clear hk); (try clear hi)))
 go_ret
 exact ⟨by first | rfl | (simp [errW_none, errW_some] <;> rfl) | (simp [*, errW_none, errW_some] <;> rfl), by repeat (first | (with_reducible first | exact HB.out | apply below_alloc | apply pw_below_drewN | apply below_drew1) | exact HB.out)⟩
end Go.Proofs.YtbomhpfckplgaaaDoor.P
namespace Go.Proofs.YtbomhpfckplgaaaDoor.P
open Go.RowKit Go.Proofs.YtbomhpfckplgaaaDoorW.PrintWords Go.Proofs.YtbomhpfckplgaaaDoorW.PrintLast Go.Proofs.YtbomhpfckplgaaaDoorW.PrintMore
attribute [local go_sem] max2_int min2_int max_two min_two max_three min_three max_four min_four   -- for this text's walks alone
set_option linter.unusedVariables false
set_option linter.unusedSimpArgs false
def galleyref07_Last.f (a0_0 : Int) (a0_1 : Int) (a0_2 : Int) : Option (Int) := if (wrap64 (a0_2 - a0_1)) = 2 then (some (wrap64 (a0_1 + 1))) else (some a0_1)
set_option maxHeartbeats 8000000 in
set_option maxRecDepth 100000 in
theorem galleyref07_Last.calls (a0_0 : Int) (a0_1 : Int) (a0_2 : Int) (r : Int) (w : World) (h : galleyref07_Last.f a0_0 a0_1 a0_2 = some r) :
  Calls Tryd.prog 104 #[.agg #[.int .i64 a0_0, .int .i64 a0_1, .int .i64 a0_2]] w fun e w' => e = .returned (.int .i64 r) ∧ Below w.heap.size w w' := by
 have hu88 := Tryd.underlying88
 have HB := Aside0.mk (Below.refl w.heap.size w)
 have H : (if (wrap64 (a0_2 - a0_1)) = 2 then (some (wrap64 (a0_1 + 1))) else (some a0_1)) = some r := h
 clear h
 by_cases c2 : (wrap64 (a0_2 - a0_1)) = 2
 ·
  rw [if_pos c2] at H
  have c2b0 : ((wrap64 (a0_2 - a0_1)) == 2) = true := beq_iff_eq.mpr c2
  have c2b1 : ((wrap64 (a0_2 - a0_1)) != 2) = false := bne_eq_false_iff_eq.mpr c2
  clear c2
  obtain rfl := Option.some.inj H
  go_enter Tryd.func104, Tryd.ntmps104
  go_wp2_with (first | ((with_reducible refine gate_dst (N := 1) rfl ?_); refine box_event ?hg (N := 1) ?hd (cs := #[.int .i64 a0_0, .int .i64 a0_1, .int .i64 a0_2]) (t := 88) ?hr ?_; (case hd => rfl); (case hg => rfl); (case hr => first | (go_simp; done) | (go_simp; rfl)); intro gb828 hg w3 hbox hb; have n0_ := Aside0.mk (below_step (by repeat (first | (with_reducible first | exact HB.out | apply below_alloc | apply pw_below_drewN | apply below_drew1) | exact HB.out)) hb); have n1_ := Aside0.mk (hbox); have n2_ := Aside0.mk ((by rw [hg]; exact (below_size (by repeat (first | (with_reducible first | exact HB.out | apply below_alloc | apply pw_below_drewN | apply below_drew1) | exact HB.out))) : w.heap.size ≤ gb828)); have n3_ := Aside0.mk ((by rw [hg]; exact (below_size (by repeat (first | (with_reducible first | exact HB.out | apply below_alloc | apply pw_below_drewN | apply below_drew1) | exact HB.out))) : w.heap.size ≤ gb828)); clear HB; have HB := n0_; have BK828 := n1_; have GW828 := n2_; have GE828 := n3_; clear n0_ n1_ n2_ n3_; clear hb hbox hg; have hcz4_0 : w3.cell? ⟨gb828, 0, none⟩ = some (.int .i64 a0_0) := (blk_cell BK828.out 0).trans rfl; have hcz4_1 : w3.cell? ⟨gb828, 1, none⟩ = some (.int .i64 a0_1) := (blk_cell BK828.out 1).trans rfl; have hcz4_2 : w3.cell? ⟨gb828, 2, none⟩ = some (.int .i64 a0_2) := (blk_cell BK828.out 2).trans rfl; have hfz4_0 := blk_frozen BK828.out 0; have hfz4_1 := blk_frozen BK828.out 1; have hfz4_2 := blk_frozen BK828.out 2))
  go_ret
  exact ⟨by first | rfl | (simp [errW_none, errW_some] <;> rfl) | (simp [*, errW_none, errW_some] <;> rfl), by repeat (first | (with_reducible first | exact HB.out | apply below_alloc | apply pw_below_drewN | apply below_drew1 | refine below_set ?_ GE828.out) | exact HB.out)⟩
 ·
  rw [if_neg c2] at H
  have c2b0 : ((wrap64 (a0_2 - a0_1)) == 2) = false := beq_eq_false_iff_ne.mpr c2
  have c2b1 : ((wrap64 (a0_2 - a0_1)) != 2) = true := bne_iff_ne.mpr c2
  obtain rfl := Option.some.inj H
  go_enter Tryd.func104, Tryd.ntmps104
  go_wp2_with (first | ((with_reducible refine gate_dst (N := 1) rfl ?_); refine box_event ?hg (N := 1) ?hd (cs := #[.int .i64 a0_0, .int .i64 a0_1, .int .i64 a0_2]) (t := 88) ?hr ?_; (case hd => rfl); (case hg => rfl); (case hr => first | (go_simp; done) | (go_simp; rfl)); intro gb828 hg w5 hbox hb; have n0_ := Aside0.mk (below_step (by repeat (first | (with_reducible first | exact HB.out | apply below_alloc | apply pw_below_drewN | apply below_drew1) | exact HB.out)) hb); have n1_ := Aside0.mk (hbox); have n2_ := Aside0.mk ((by rw [hg]; exact (below_size (by repeat (first | (with_reducible first | exact HB.out | apply below_alloc | apply pw_below_drewN | apply below_drew1) | exact HB.out))) : w.heap.size ≤ gb828)); have n3_ := Aside0.mk ((by rw [hg]; exact (below_size (by repeat (first | (with_reducible first | exact HB.out | apply below_alloc | apply pw_below_drewN | apply below_drew1) | exact HB.out))) : w.heap.size ≤ gb828)); clear HB; have HB := n0_; have BK828 := n1_; have GW828 := n2_; have GE828 := n3_; clear n0_ n1_ n2_ n3_; clear hb hbox hg; have hcz6_0 : w5.cell? ⟨gb828, 0, none⟩ = some (.int .i64 a0_0) := (blk_cell BK828.out 0).trans rfl; have hcz6_1 : w5.cell? ⟨gb828, 1, none⟩ = some (.int .i64 a0_1) := (blk_cell BK828.out 1).trans rfl; have hcz6_2 : w5.cell? ⟨gb828, 2, none⟩ = some (.int .i64 a0_2) := (blk_cell BK828.out 2).trans rfl; have hfz6_0 := blk_frozen BK828.out 0; have hfz6_1 := blk_frozen BK828.out 1; have hfz6_2 := blk_frozen BK828.out 2))
  go_ret
  exact ⟨by first | rfl | (simp [errW_none, errW_some] <;> rfl) | (simp [*, errW_none, errW_some] <;> rfl), by repeat (first | (with_reducible first | exact HB.out | apply below_alloc | apply pw_below_drewN | apply below_drew1 | refine below_set ?_ GE828.out) | exact HB.out)⟩
mutual
def galleyref01_Value.j0 : Nat → List Int → Int → Option (Int)
 | 0, _, _ => none
 | k + 1, x0, x4 => galleyref01_Value.l0 k x0 x4 1
def galleyref01_Value.l0 : Nat → List Int → Int → Int → Option (Int)
 | 0, _, _, _ => none
 | k + 1, x0, x4, x5 => if x5 < (x0.length : Int) then (if 0 ≤ x5 then (galleyref01_Value.l0 k x0 (wrap64 ((wrap64 (x4 * 64)) + (Int.tmod (wrap64 (rd x0 x5)) 64))) (wrap64 (x5 + 1))) else (none)) else (some (wrap32 (x4)))
end
def galleyref01_Value.f (k : Nat) (l0 : List Int) : Option (Int) := (galleyref01_Whole.f k l0).bind fun t829 => (if t829 = true then (if 0 < (l0.length : Int) then (if (l0.length : Int) = 2 then (galleyref01_Value.j0 k l0 (Int.tmod (wrap64 (rd l0 0)) 32)) else (if (l0.length : Int) = 3 then (galleyref01_Value.j0 k l0 (Int.tmod (wrap64 (rd l0 0)) 16)) else (if (l0.length : Int) = 4 then (galleyref01_Value.j0 k l0 (Int.tmod (wrap64 (rd l0 0)) 8)) else (galleyref01_Value.j0 k l0 (wrap64 (rd l0 0)))))) else (none)) else (some (-1)))
set_option maxHeartbeats 8000000 in
set_option maxRecDepth 100000 in
theorem galleyref01_Value.calls (k : Nat) (A0 : Option Addr) (c0 : Nat) (l0 : List Int) (r : Int) (w : World) (hr0 : Kd.C (Kd.int .u8) w A0 l0.length l0) (hc0 : l0.length ≤ c0) (h : galleyref01_Value.f k l0 = some r) :
  Calls Tryd.prog 141 #[.slice A0 l0.length c0] w fun e w' => e = .returned (.int .i32 r) ∧ Drawn0 w w' := by
 have HR0 := Aside0.mk hr0
 have HC0 := Aside0.mk hc0
 clear hr0 hc0
 have H : ((galleyref01_Whole.f k l0).bind fun t829 => (if t829 = true then (if 0 < (l0.length : Int) then (if (l0.length : Int) = 2 then (galleyref01_Value.j0 k l0 (Int.tmod (wrap64 (rd l0 0)) 32)) else (if (l0.length : Int) = 3 then (galleyref01_Value.j0 k l0 (Int.tmod (wrap64 (rd l0 0)) 16)) else (if (l0.length : Int) = 4 then (galleyref01_Value.j0 k l0 (Int.tmod (wrap64 (rd l0 0)) 8)) else (galleyref01_Value.j0 k l0 (wrap64 (rd l0 0)))))) else (none)) else (some (-1)))) = some r := h
 clear h
 replace H := Option.bind_eq_some_iff.mp H
 obtain ⟨t829, A20, H⟩ := H
 replace H : (if t829 = true then (if 0 < (l0.length : Int) then (if (l0.length : Int) = 2 then (galleyref01_Value.j0 k l0 (Int.tmod (wrap64 (rd l0 0)) 32)) else (if (l0.length : Int) = 3 then (galleyref01_Value.j0 k l0 (Int.tmod (wrap64 (rd l0 0)) 16)) else (if (l0.length : Int) = 4 then (galleyref01_Value.j0 k l0 (Int.tmod (wrap64 (rd l0 0)) 8)) else (galleyref01_Value.j0 k l0 (wrap64 (rd l0 0)))))) else (none)) else (some (-1))) = some r := H
 have A2 := Aside0.mk A20
 clear A20
 by_cases c3 : t829 = true
 ·
  subst c3
  have H1 : (if 0 < (l0.length : Int) then (if (l0.length : Int) = 2 then (galleyref01_Value.j0 k l0 (Int.tmod (wrap64 (rd l0 0)) 32)) else (if (l0.length : Int) = 3 then (galleyref01_Value.j0 k l0 (Int.tmod (wrap64 (rd l0 0)) 16)) else (if (l0.length : Int) = 4 then (galleyref01_Value.j0 k l0 (Int.tmod (wrap64 (rd l0 0)) 8)) else (galleyref01_Value.j0 k l0 (wrap64 (rd l0 0)))))) else (none)) = some r := by rw [if_pos rfl] at H; exact H
  clear H
  have H := H1
  clear H1
  by_cases c4 : 0 < (l0.length : Int)
  ·
   rw [if_pos c4] at H
   have c4b0 : decide (0 < (l0.length : Int)) = true := decide_eq_true c4
   have c4b1 : decide (0 < l0.length) = true := decide_eq_true (by omega)
   clear c4
   have HC5 := Aside0.mk H
   clear H
   go_enter Tryd.func141, Tryd.ntmps141
   go_upto_block 0 with (first | ((with_reducible refine gate_callee (f := 125) rfl ?_); refine goesL_ (some 7) rfl rfl Tryd.func125 (by kernel_rfl) rfl #[.slice A0 l0.length c0] rfl (by (try simp only [List.map_toArray, List.map_cons, List.map_nil]); first | done | rfl | (simp only [List.length_drop, List.length_take]; rfl)) ?_; (with_reducible refine (galleyref01_Whole.calls k _ _ l0 true _ ?side1 ?side2 A2.out).mono ?_); (case side1 => repeat (first | exact HR0.out | (with_reducible refine Kd.C_alloc ?_ _) | (with_reducible refine Kd.C_drewN ?_ _) | (with_reducible refine Kd.C_drew ?_))); (case side2 => exact HC0.out); rintro e w' ⟨rfl, ⟨nd, rfl⟩⟩; refine ⟨_, rfl, ?_⟩; have p830 : 0 ≤ (0 : Int) := (by omega); have q830 : 0 < (l0.length : Int) := of_decide_eq_true (by first | (with_reducible assumption) | assumption); obtain ⟨ad830, e830, hx830_0⟩ := Kd.at_int HR0.out 0 p830 q830; cases e830; have qi830 : (0 < l0.length) = True := eq_true (by omega); (try rw [show ((0 : Int)).toNat = 0 from rfl] at hx830_0); (try rw [Addr.add_zero'] at hx830_0); replace p830 := eq_true p830; replace q830 := eq_true q830))
   (try simp only [Act.put, List.setIfInBounds_toArray, List.set_cons_zero, List.set_cons_succ])
   go_cut [4] (fun v4 wc => ∃ (kq : Nat) (x4_4 : Int), v4 = .int .i64 x4_4 ∧ Aside0 (galleyref01_Value.j0 kq l0 x4_4 = some r) ∧ Aside0 (kq ≤ k) ∧ Drawn0 w wc)
   case first =>
    have H := HC5.out
    clear HC5
    by_cases c6 : (l0.length : Int) = 2
    ·
     rw [if_pos c6] at H
     have c6b0 : ((l0.length : Int) == 2) = true := beq_iff_eq.mpr c6
     have c6b1 : ((l0.length : Int) != 2) = false := bne_eq_false_iff_eq.mpr c6
     clear c6
     (first | rw [c6b0] | (simp only [i64_w, i32_w]; rw [c6b0]) | skip)
     have H' := Aside0.mk H
     clear H
     go_wp2
     go_meet
     case rel => exact ⟨_, (Int.tmod (wrap64 (rd l0 0)) 32), (by first | rfl | (simp; done) | (simp [*]; done)), H', ⟨by first | omega | exact Nat.le_refl _⟩, by repeat (first | exact Drawn0.refl _ | apply Drawn0.step)⟩
    ·
     rw [if_neg c6] at H
     have c6b0 : ((l0.length : Int) == 2) = false := beq_eq_false_iff_ne.mpr c6
     have c6b1 : ((l0.length : Int) != 2) = true := bne_iff_ne.mpr c6
     (first | rw [c6b0] | (simp only [i64_w, i32_w]; rw [c6b0]) | skip)
     by_cases c7 : (l0.length : Int) = 3
     ·
      rw [if_pos c7] at H
      have c7b0 : ((l0.length : Int) == 3) = true := beq_iff_eq.mpr c7
      have c7b1 : ((l0.length : Int) != 3) = false := bne_eq_false_iff_eq.mpr c7
      clear c7
      have H' := Aside0.mk H
      clear H
      go_wp2
      go_meet
      case rel => exact ⟨_, (Int.tmod (wrap64 (rd l0 0)) 16), (by first | rfl | (simp; done) | (simp [*]; done)), H', ⟨by first | omega | exact Nat.le_refl _⟩, by repeat (first | exact Drawn0.refl _ | apply Drawn0.step)⟩
     ·
      rw [if_neg c7] at H
      have c7b0 : ((l0.length : Int) == 3) = false := beq_eq_false_iff_ne.mpr c7
      have c7b1 : ((l0.length : Int) != 3) = true := bne_iff_ne.mpr c7
      by_cases c8 : (l0.length : Int) = 4
      ·
       rw [if_pos c8] at H
       have c8b0 : ((l0.length : Int) == 4) = true := beq_iff_eq.mpr c8
       have c8b1 : ((l0.length : Int) != 4) = false := bne_eq_false_iff_eq.mpr c8
       clear c8
       have H' := Aside0.mk H
       clear H
       go_wp2
       go_meet
       case rel => exact ⟨_, (Int.tmod (wrap64 (rd l0 0)) 8), (by first | rfl | (simp; done) | (simp [*]; done)), H', ⟨by first | omega | exact Nat.le_refl _⟩, by repeat (first | exact Drawn0.refl _ | apply Drawn0.step)⟩
      ·
       rw [if_neg c8] at H
       have c8b0 : ((l0.length : Int) == 4) = false := beq_eq_false_iff_ne.mpr c8
       have c8b1 : ((l0.length : Int) != 4) = true := bne_iff_ne.mpr c8
       have H' := Aside0.mk H
       clear H
       go_wp2
       go_meet
       case rel => exact ⟨_, (wrap64 (rd l0 0)), (by first | rfl | (simp; done) | (simp [*]; done)), H', ⟨by first | omega | exact Nat.le_refl _⟩, by repeat (first | exact Drawn0.refl _ | apply Drawn0.step)⟩
   case rest =>
    clear HC5
    (try clear c1); (try clear p2); (try clear c3); (try clear c4); (try clear c4b0); (try clear c4b1); (try clear c6); (try clear c6b0); (try clear c6b1); (try clear p6); (try clear c7); (try clear c7b0); (try clear c7b1); (try clear c8); (try clear c8b0); (try clear c8b1); (try clear p8); (try clear q8); (try clear hx8); (try clear qi8); (try clear hx830_0); (try clear p830); (try clear q830)
    obtain ⟨kq, x4_4, rfl, HA, HJ4, ⟨mc4, rfl⟩⟩ := hcut
    cases kq with
    | zero => exact absurd HA.out (by simp [galleyref01_Value.j0])
    | succ kj4 =>
     have H := HA.out
     clear HA
     simp only [galleyref01_Value.j0] at H
     have H' := Aside0.mk H
     clear H
     go_wp2
     go_loopg [4, 5] kj4 (fun kq v4 v5 w' => ∃ (x4_2 : Int) (x5_2 : Int), v4 = .int .i64 x4_2 ∧ v5 = .int .i64 x5_2 ∧ Aside0 (galleyref01_Value.l0 kq l0 x4_2 x5_2 = some r) ∧ Aside0 (kq ≤ kj4) ∧ Drawn0 w w')
     case atStart => exact ⟨(x4_4), (1), (by first | rfl | (simp; done) | (simp [*]; done)), (by first | rfl | (simp; done) | (simp [*]; done)), H', ⟨Nat.le_refl _⟩, by repeat (first | exact Drawn0.refl _ | apply Drawn0.step)⟩
     case round =>
      clear H'
      (try clear c1); (try clear p2); (try clear c3); (try clear c4); (try clear c4b0); (try clear c4b1); (try clear c6); (try clear c6b0); (try clear c6b1); (try clear p6); (try clear c7); (try clear c7b0); (try clear c7b1); (try clear c8); (try clear c8b0); (try clear c8b1); (try clear p8); (try clear q8); (try clear hx8); (try clear qi8); (try clear hx830_0); (try clear p830); (try clear q830)
      obtain ⟨x4_2, x5_2, rfl, rfl, HA, HK2, ⟨m2, rfl⟩⟩ := hrel
      cases gk with
      | zero => exact absurd HA.out (by simp [galleyref01_Value.l0])
      | succ k2 =>
       have H := HA.out
       clear HA
       simp only [galleyref01_Value.l0] at H
       by_cases c9 : x5_2 < (l0.length : Int)
       ·
        rw [if_pos c9] at H
        have c9b0 : decide (x5_2 < (l0.length : Int)) = true := decide_eq_true c9
        clear c9
        by_cases c10 : 0 ≤ x5_2
        ·
         rw [if_pos c10] at H
         have c10b0 : decide (0 ≤ x5_2) = true := decide_eq_true c10
         clear c10
         have H' := Aside0.mk H
         clear H
         have p831 : 0 ≤ (x5_2 : Int) := of_decide_eq_true (by first | (with_reducible assumption) | assumption)
         have q831 : x5_2 < (l0.length : Int) := of_decide_eq_true (by first | (with_reducible assumption) | assumption)
         obtain ⟨ad831, e831, hx831_0⟩ := Kd.at_int HR0.out x5_2 p831 q831
         obtain rfl : ad830 = ad831 := (by injection e831)
         replace p831 := eq_true p831
         replace q831 := eq_true q831
         go_wp2
         go_roundg k2
         case measure => have := HJ4.out; have := HK2.out; omega
         case rel => exact ⟨(wrap64 ((wrap64 (x4_2 * 64)) + (Int.tmod (wrap64 (rd l0 x5_2)) 64))), (wrap64 (x5_2 + 1)), (by first | rfl | (simp; done) | (simp [*]; done)), (by first | rfl | (simp; done) | (simp [*]; done)), H', ⟨by have := HJ4.out; have := HK2.out; omega⟩, by repeat (first | exact Drawn0.refl _ | apply Drawn0.step)⟩
        ·
         rw [if_neg c10] at H
         exact absurd H (by simp)
       ·
        rw [if_neg c9] at H
        have c9b0 : decide (x5_2 < (l0.length : Int)) = false := decide_eq_false c9
        clear c9
        obtain rfl := Option.some.inj H
        go_wp2
        go_ret
        exact ⟨by first | rfl | (simp; done) | (simp [*]; done), by repeat (first | exact Drawn0.refl _ | apply Drawn0.step)⟩
  ·
   rw [if_neg c4] at H
   exact absurd H (by simp)
 ·
  replace c3 := Bool.eq_false_iff.mpr c3
  subst c3
  have H1 : (some (-1)) = some r := by rw [if_neg (show ¬ (false = true) by decide)] at H; exact H
  clear H
  have H := H1
  clear H1
  obtain rfl := Option.some.inj H
  go_enter Tryd.func141, Tryd.ntmps141
  go_wp2_with (first | ((with_reducible refine gate_callee (f := 125) rfl ?_); refine goesL_ (some 7) rfl rfl Tryd.func125 (by kernel_rfl) rfl #[.slice A0 l0.length c0] rfl (by (try simp only [List.map_toArray, List.map_cons, List.map_nil]); first | done | rfl | (simp only [List.length_drop, List.length_take]; rfl)) ?_; (with_reducible refine (galleyref01_Whole.calls k _ _ l0 false _ ?side1 ?side2 A2.out).mono ?_); (case side1 => repeat (first | exact HR0.out | (with_reducible refine Kd.C_alloc ?_ _) | (with_reducible refine Kd.C_drewN ?_ _) | (with_reducible refine Kd.C_drew ?_))); (case side2 => exact HC0.out); rintro e w' ⟨rfl, ⟨nd, rfl⟩⟩; refine ⟨_, rfl, ?_⟩))
  go_ret
  exact ⟨by first | rfl | (simp; done) | (simp [*]; done), by repeat (first | exact Drawn0.refl _ | apply Drawn0.step)⟩
end Go.Proofs.YtbomhpfckplgaaaDoor.P
