/- Texts of this claim, put together: Px23, Uw, HAll, PxA, Px51, Px52, Px24, Px19. -/
import Derived.Test.YtbomhpfckplgaaaDoorT0
import Derived.Test.YtbomhpfckplgaaaDoorT1
namespace Go.Proofs.YtbomhpfckplgaaaDoor.P
open Go.RowKit Go.Proofs.YtbomhpfckplgaaaDoorW.PrintWords Go.Proofs.YtbomhpfckplgaaaDoorW.PrintLast Go.Proofs.YtbomhpfckplgaaaDoorW.PrintMore
attribute [local go_sem] max2_int min2_int max_two min_two max_three min_three max_four min_four   -- for this text's walks alone
set_option linter.unusedVariables false
set_option linter.unusedSimpArgs false
def galleyref01_Whole.f (k : Nat) (l0 : List Int) : Option (Bool) := (galleyref01_Begins.f k l0).bind fun t814 => (if t814 = true then (if 0 < (l0.length : Int) then ((galleyref01_Need.f (rd l0 0)).bind fun t816 => (some ((l0.length : Int) == t816))) else (none)) else (some false))
set_option maxHeartbeats 8000000 in
set_option maxRecDepth 100000 in
theorem galleyref01_Whole.calls (k : Nat) (A0 : Option Addr) (c0 : Nat) (l0 : List Int) (r : Bool) (w : World) (hr0 : Kd.C (Kd.int .u8) w A0 l0.length l0) (hc0 : l0.length ≤ c0) (h : galleyref01_Whole.f k l0 = some r) :
  Calls Tryd.prog 125 #[.slice A0 l0.length c0] w fun e w' => e = .returned (.bool r) ∧ Drawn0 w w' := by
 have HR0 := Aside0.mk hr0
 have HC0 := Aside0.mk hc0
 clear hr0 hc0
 have H : ((galleyref01_Begins.f k l0).bind fun t814 => (if t814 = true then (if 0 < (l0.length : Int) then ((galleyref01_Need.f (rd l0 0)).bind fun t816 => (some ((l0.length : Int) == t816))) else (none)) else (some false))) = some r := h
 clear h
 replace H := Option.bind_eq_some_iff.mp H
 obtain ⟨t814, A20, H⟩ := H
 replace H : (if t814 = true then (if 0 < (l0.length : Int) then ((galleyref01_Need.f (rd l0 0)).bind fun t816 => (some ((l0.length : Int) == t816))) else (none)) else (some false)) = some r := H
 have A2 := Aside0.mk A20
 clear A20
 by_cases c3 : t814 = true
 ·
  subst c3
  have H1 : (if 0 < (l0.length : Int) then ((galleyref01_Need.f (rd l0 0)).bind fun t816 => (some ((l0.length : Int) == t816))) else (none)) = some r := by rw [if_pos rfl] at H; exact H
  clear H
  have H := H1
  clear H1
  by_cases c4 : 0 < (l0.length : Int)
  ·
   rw [if_pos c4] at H
   have c4b0 : decide (0 < (l0.length : Int)) = true := decide_eq_true c4
   have c4b1 : decide (0 < l0.length) = true := decide_eq_true (by omega)
   clear c4
   replace H := Option.bind_eq_some_iff.mp H
   obtain ⟨t816, A50, H⟩ := H
   replace H : (some ((l0.length : Int) == t816)) = some r := H
   have A5 := Aside0.mk A50
   clear A50
   obtain rfl := Option.some.inj H
   go_enter Tryd.func125, Tryd.ntmps125
   go_wp2_with (first | ((with_reducible refine gate_callee (f := 138) rfl ?_); refine goesL_ (some 4) rfl rfl Tryd.func138 (by kernel_rfl) rfl #[.slice A0 l0.length c0] rfl (by (try simp only [List.map_toArray, List.map_cons, List.map_nil]); first | done | rfl | (simp only [List.length_drop, List.length_take]; rfl)) ?_; (with_reducible refine (galleyref01_Begins.calls k _ _ l0 true _ ?side1 ?side2 A2.out).mono ?_); (case side1 => repeat (first | exact HR0.out | (with_reducible refine Kd.C_alloc ?_ _) | (with_reducible refine Kd.C_drewN ?_ _) | (with_reducible refine Kd.C_drew ?_))); (case side2 => exact HC0.out); rintro e w' ⟨rfl, ⟨nd, rfl⟩⟩; refine ⟨_, rfl, ?_⟩; have p815 : 0 ≤ (0 : Int) := (by omega); have q815 : 0 < (l0.length : Int) := of_decide_eq_true (by first | (with_reducible assumption) | assumption); obtain ⟨ad815, e815, hx815_0⟩ := Kd.at_int HR0.out 0 p815 q815; cases e815; have qi815 : (0 < l0.length) = True := eq_true (by omega); (try rw [show ((0 : Int)).toNat = 0 from rfl] at hx815_0); (try rw [Addr.add_zero'] at hx815_0); replace p815 := eq_true p815; replace q815 := eq_true q815) | (go_at_call 124; (with_reducible refine (galleyref01_Need.calls (rd l0 0) t816 _ A5.out).mono ?_); rintro e w' ⟨rfl, ⟨nd, rfl⟩⟩))
   go_ret
   exact ⟨by first | rfl | (simp; done) | (simp [*]; done), by repeat (first | exact Drawn0.refl _ | apply Drawn0.step)⟩
  ·
   rw [if_neg c4] at H
   exact absurd H (by simp)
 ·
  replace c3 := Bool.eq_false_iff.mpr c3
  subst c3
  have H1 : (some false) = some r := by rw [if_neg (show ¬ (false = true) by decide)] at H; exact H
  clear H
  have H := H1
  clear H1
  obtain rfl := Option.some.inj H
  go_enter Tryd.func125, Tryd.ntmps125
  go_wp2_with (first | ((with_reducible refine gate_callee (f := 138) rfl ?_); refine goesL_ (some 4) rfl rfl Tryd.func138 (by kernel_rfl) rfl #[.slice A0 l0.length c0] rfl (by (try simp only [List.map_toArray, List.map_cons, List.map_nil]); first | done | rfl | (simp only [List.length_drop, List.length_take]; rfl)) ?_; (with_reducible refine (galleyref01_Begins.calls k _ _ l0 false _ ?side1 ?side2 A2.out).mono ?_); (case side1 => repeat (first | exact HR0.out | (with_reducible refine Kd.C_alloc ?_ _) | (with_reducible refine Kd.C_drewN ?_ _) | (with_reducible refine Kd.C_drew ?_))); (case side2 => exact HC0.out); rintro e w' ⟨rfl, ⟨nd, rfl⟩⟩; refine ⟨_, rfl, ?_⟩))
  go_ret
  exact ⟨by first | rfl | (simp; done) | (simp [*]; done), by repeat (first | exact Drawn0.refl _ | apply Drawn0.step)⟩
def galleyref01_Width.f (k : Nat) (l0 : List Int) (a1 : Int) : Option (Int) := if 0 ≤ a1 then (if a1 < (l0.length : Int) then ((galleyref01_Need.f (rd l0 a1)).bind fun t818 => (if t818 ≥ 1 then (if (wrap64 (a1 + t818)) ≤ (l0.length : Int) then (if a1 ≤ (wrap64 (a1 + t818)) then ((galleyref01_Whole.f k ((l0.take ((wrap64 (a1 + t818)) : Int).toNat).drop (a1 : Int).toNat)).bind fun t820 => (if t820 = true then (some t818) else (some 1))) else (none)) else (some 1)) else (some 1))) else (none)) else (none)
set_option maxHeartbeats 8000000 in
set_option maxRecDepth 100000 in
theorem galleyref01_Width.calls (k : Nat) (A0 : Option Addr) (c0 : Nat) (l0 : List Int) (a1 : Int) (r : Int) (w : World) (hr0 : Kd.C (Kd.int .u8) w A0 l0.length l0) (hc0 : l0.length ≤ c0) (h : galleyref01_Width.f k l0 a1 = some r) :
  Calls Tryd.prog 110 #[.slice A0 l0.length c0, .int .i64 a1] w fun e w' => e = .returned (.int .i64 r) ∧ Drawn0 w w' := by
 have HR0 := Aside0.mk hr0
 have HC0 := Aside0.mk hc0
 clear hr0 hc0
 have H : (if 0 ≤ a1 then (if a1 < (l0.length : Int) then ((galleyref01_Need.f (rd l0 a1)).bind fun t818 => (if t818 ≥ 1 then (if (wrap64 (a1 + t818)) ≤ (l0.length : Int) then (if a1 ≤ (wrap64 (a1 + t818)) then ((galleyref01_Whole.f k ((l0.take ((wrap64 (a1 + t818)) : Int).toNat).drop (a1 : Int).toNat)).bind fun t820 => (if t820 = true then (some t818) else (some 1))) else (none)) else (some 1)) else (some 1))) else (none)) else (none)) = some r := h
 clear h
 by_cases c3 : 0 ≤ a1
 ·
  rw [if_pos c3] at H
  have c3b0 : decide (0 ≤ a1) = true := decide_eq_true c3
  clear c3
  by_cases c4 : a1 < (l0.length : Int)
  ·
   rw [if_pos c4] at H
   have c4b0 : decide (a1 < (l0.length : Int)) = true := decide_eq_true c4
   clear c4
   replace H := Option.bind_eq_some_iff.mp H
   obtain ⟨t818, A50, H⟩ := H
   replace H : (if t818 ≥ 1 then (if (wrap64 (a1 + t818)) ≤ (l0.length : Int) then (if a1 ≤ (wrap64 (a1 + t818)) then ((galleyref01_Whole.f k ((l0.take ((wrap64 (a1 + t818)) : Int).toNat).drop (a1 : Int).toNat)).bind fun t820 => (if t820 = true then (some t818) else (some 1))) else (none)) else (some 1)) else (some 1)) = some r := H
   have A5 := Aside0.mk A50
   clear A50
   by_cases c6 : t818 ≥ 1
   ·
    rw [if_pos c6] at H
    have c6b0 : decide (1 ≤ t818) = true := decide_eq_true c6
    clear c6
    by_cases c7 : (wrap64 (a1 + t818)) ≤ (l0.length : Int)
    ·
     rw [if_pos c7] at H
     have c7b0 : decide ((wrap64 (a1 + t818)) ≤ (l0.length : Int)) = true := decide_eq_true c7
     clear c7
     have c8b0 := eq_true (of_decide_eq_true (by first | (with_reducible assumption) | assumption) : 0 ≤ a1)
     by_cases c9 : a1 ≤ (wrap64 (a1 + t818))
     ·
      rw [if_pos c9] at H
      have c9b0 := eq_true c9
      have c9b1 : decide (a1 ≤ (wrap64 (a1 + t818))) = true := decide_eq_true c9
      have c10b0 := eq_true (of_decide_eq_true (by first | (with_reducible assumption) | assumption) : (wrap64 (a1 + t818)) ≤ (l0.length : Int))
      replace H := Option.bind_eq_some_iff.mp H
      obtain ⟨t820, A110, H⟩ := H
      replace H : (if t820 = true then (some t818) else (some 1)) = some r := H
      have A11 := Aside0.mk A110
      clear A110
      by_cases c12 : t820 = true
      ·
       subst c12
       have H1 : (some t818) = some r := by rw [if_pos rfl] at H; exact H
       clear H
       have H := H1
       clear H1
       obtain rfl := Option.some.inj H
       have p817 : 0 ≤ (a1 : Int) := of_decide_eq_true (by first | (with_reducible assumption) | assumption)
       have q817 : a1 < (l0.length : Int) := of_decide_eq_true (by first | (with_reducible assumption) | assumption)
       obtain ⟨ad817, e817, hx817_0⟩ := Kd.at_int HR0.out a1 p817 q817
       cases e817
       replace p817 := eq_true p817
       replace q817 := eq_true q817
       go_enter Tryd.func110, Tryd.ntmps110
       go_wp2_with (first | ((with_reducible refine gate_callee (f := 124) rfl ?_); refine goesL_ (some 10) rfl rfl Tryd.func124 (by kernel_rfl) rfl #[.int .u8 (rd l0 a1)] rfl (by (try simp only [List.map_toArray, List.map_cons, List.map_nil]); first | done | rfl | (simp only [List.length_drop, List.length_take]; rfl)) ?_; (with_reducible refine (galleyref01_Need.calls (rd l0 a1) t818 _ A5.out).mono ?_); rintro e w' ⟨rfl, ⟨nd, rfl⟩⟩; refine ⟨_, rfl, ?_⟩; obtain ⟨i013, hi013, _, hsz13, _⟩ := info_parts info5; obtain ⟨A13, hcut13, hA13, hC13⟩ := print_mid_of (P := Tryd.prog) (Value.int .u8) 0 22 5 .i64 .i64 Tryd.underlying22 hi013 hsz13 (some ad817) c0 l0 a1 (wrap64 (a1 + t818)) (of_decide_eq_true (by first | (with_reducible assumption) | assumption)) (by first | omega | exact of_decide_eq_true (by first | (with_reducible assumption) | assumption)) (of_decide_eq_true (by first | (with_reducible assumption) | assumption)) HC0.out; have HR819 := Aside0.mk (Kd.C_of_reads (h1 := fun _ => rfl) (hA13 _ (Kd.reads_of_C HR0.out))); have HC819 := Aside0.mk hC13; clear hA13 hC13 hi013 hsz13) | (go_at_call 125; refine calls_of_args (args' := #[.slice A13 ((l0.take ((wrap64 (a1 + t818)) : Int).toNat).drop (a1 : Int).toNat).length (c0 - (a1 : Int).toNat)]) (by rw [List.length_drop, List.length_take, Nat.min_eq_left (by have := of_decide_eq_true c7b0; omega)]) ?_; (with_reducible refine (galleyref01_Whole.calls k _ _ ((l0.take ((wrap64 (a1 + t818)) : Int).toNat).drop (a1 : Int).toNat) true _ ?side1 ?side2 A11.out).mono ?_); (case side1 => repeat (first | exact HR819.out | (with_reducible refine Kd.C_alloc ?_ _) | (with_reducible refine Kd.C_drewN ?_ _) | (with_reducible refine Kd.C_drew ?_))); (case side2 => exact HC819.out); rintro e w' ⟨rfl, ⟨nd, rfl⟩⟩))
       go_ret
       exact ⟨by first | rfl | (simp; done) | (simp [*]; done), by repeat (first | exact Drawn0.refl _ | apply Drawn0.step)⟩
      ·
       replace c12 := Bool.eq_false_iff.mpr c12
       subst c12
       have H1 : (some 1) = some r := by rw [if_neg (show ¬ (false = true) by decide)] at H; exact H
       clear H
       have H := H1
       clear H1
       obtain rfl := Option.some.inj H
       have p817 : 0 ≤ (a1 : Int) := of_decide_eq_true (by first | (with_reducible assumption) | assumption)
       have q817 : a1 < (l0.length : Int) := of_decide_eq_true (by first | (with_reducible assumption) | assumption)
       obtain ⟨ad817, e817, hx817_0⟩ := Kd.at_int HR0.out a1 p817 q817
       cases e817
       replace p817 := eq_true p817
       replace q817 := eq_true q817
       go_enter Tryd.func110, Tryd.ntmps110
       go_wp2_with (first | ((with_reducible refine gate_callee (f := 124) rfl ?_); refine goesL_ (some 10) rfl rfl Tryd.func124 (by kernel_rfl) rfl #[.int .u8 (rd l0 a1)] rfl (by (try simp only [List.map_toArray, List.map_cons, List.map_nil]); first | done | rfl | (simp only [List.length_drop, List.length_take]; rfl)) ?_; (with_reducible refine (galleyref01_Need.calls (rd l0 a1) t818 _ A5.out).mono ?_); rintro e w' ⟨rfl, ⟨nd, rfl⟩⟩; refine ⟨_, rfl, ?_⟩; obtain ⟨i014, hi014, _, hsz14, _⟩ := info_parts info5; obtain ⟨A14, hcut14, hA14, hC14⟩ := print_mid_of (P := Tryd.prog) (Value.int .u8) 0 22 5 .i64 .i64 Tryd.underlying22 hi014 hsz14 (some ad817) c0 l0 a1 (wrap64 (a1 + t818)) (of_decide_eq_true (by first | (with_reducible assumption) | assumption)) (by first | omega | exact of_decide_eq_true (by first | (with_reducible assumption) | assumption)) (of_decide_eq_true (by first | (with_reducible assumption) | assumption)) HC0.out; have HR819 := Aside0.mk (Kd.C_of_reads (h1 := fun _ => rfl) (hA14 _ (Kd.reads_of_C HR0.out))); have HC819 := Aside0.mk hC14; clear hA14 hC14 hi014 hsz14) | (go_at_call 125; refine calls_of_args (args' := #[.slice A14 ((l0.take ((wrap64 (a1 + t818)) : Int).toNat).drop (a1 : Int).toNat).length (c0 - (a1 : Int).toNat)]) (by rw [List.length_drop, List.length_take, Nat.min_eq_left (by have := of_decide_eq_true c7b0; omega)]) ?_; (with_reducible refine (galleyref01_Whole.calls k _ _ ((l0.take ((wrap64 (a1 + t818)) : Int).toNat).drop (a1 : Int).toNat) false _ ?side1 ?side2 A11.out).mono ?_); (case side1 => repeat (first | exact HR819.out | (with_reducible refine Kd.C_alloc ?_ _) | (with_reducible refine Kd.C_drewN ?_ _) | (with_reducible refine Kd.C_drew ?_))); (case side2 => exact HC819.out); rintro e w' ⟨rfl, ⟨nd, rfl⟩⟩))
       go_ret
       exact ⟨by first | rfl | (simp; done) | (simp [*]; done), by repeat (first | exact Drawn0.refl _ | apply Drawn0.step)⟩
     ·
      rw [if_neg c9] at H
      exact absurd H (by simp)
    ·
     rw [if_neg c7] at H
     have c7b0 : decide ((wrap64 (a1 + t818)) ≤ (l0.length : Int)) = false := decide_eq_false c7
     clear c7
     obtain rfl := Option.some.inj H
     have p817 : 0 ≤ (a1 : Int) := of_decide_eq_true (by first | (with_reducible assumption) | assumption)
     have q817 : a1 < (l0.length : Int) := of_decide_eq_true (by first | (with_reducible assumption) | assumption)
     obtain ⟨ad817, e817, hx817_0⟩ := Kd.at_int HR0.out a1 p817 q817
     cases e817
     replace p817 := eq_true p817
     replace q817 := eq_true q817
     go_enter Tryd.func110, Tryd.ntmps110
     go_wp2_with (first | ((with_reducible refine gate_callee (f := 124) rfl ?_); refine goesL_ (some 10) rfl rfl Tryd.func124 (by kernel_rfl) rfl #[.int .u8 (rd l0 a1)] rfl (by (try simp only [List.map_toArray, List.map_cons, List.map_nil]); first | done | rfl | (simp only [List.length_drop, List.length_take]; rfl)) ?_; (with_reducible refine (galleyref01_Need.calls (rd l0 a1) t818 _ A5.out).mono ?_); rintro e w' ⟨rfl, ⟨nd, rfl⟩⟩; refine ⟨_, rfl, ?_⟩))
     go_ret
     exact ⟨by first | rfl | (simp; done) | (simp [*]; done), by repeat (first | exact Drawn0.refl _ | apply Drawn0.step)⟩
   ·
    rw [if_neg c6] at H
    have c6b0 : decide (1 ≤ t818) = false := decide_eq_false c6
    clear c6
    obtain rfl := Option.some.inj H
    have p817 : 0 ≤ (a1 : Int) := of_decide_eq_true (by first | (with_reducible assumption) | assumption)
    have q817 : a1 < (l0.length : Int) := of_decide_eq_true (by first | (with_reducible assumption) | assumption)
    obtain ⟨ad817, e817, hx817_0⟩ := Kd.at_int HR0.out a1 p817 q817
    cases e817
    replace p817 := eq_true p817
    replace q817 := eq_true q817
    go_enter Tryd.func110, Tryd.ntmps110
    go_wp2_with (first | ((with_reducible refine gate_callee (f := 124) rfl ?_); refine goesL_ (some 10) rfl rfl Tryd.func124 (by kernel_rfl) rfl #[.int .u8 (rd l0 a1)] rfl (by (try simp only [List.map_toArray, List.map_cons, List.map_nil]); first | done | rfl | (simp only [List.length_drop, List.length_take]; rfl)) ?_; (with_reducible refine (galleyref01_Need.calls (rd l0 a1) t818 _ A5.out).mono ?_); rintro e w' ⟨rfl, ⟨nd, rfl⟩⟩; refine ⟨_, rfl, ?_⟩))
    go_ret
    exact ⟨by first | rfl | (simp; done) | (simp [*]; done), by repeat (first | exact Drawn0.refl _ | apply Drawn0.step)⟩
  ·
   rw [if_neg c4] at H
   exact absurd H (by simp)
 ·
  rw [if_neg c3] at H
  exact absurd H (by simp)
def galleyref04_Edges.l0 : Nat → List Int → List Int → Int → Option (List Int)
 | 0, _, _, _ => none
 | k + 1, x0, x3, x4 => if x4 < (x0.length : Int) then ((galleyref01_Width.f k x0 x4).bind fun t824 => (if x3.length < 17592186044416 then (galleyref04_Edges.l0 k x0 (x3 ++ [wrap64 (x4 + t824)]) (wrap64 (x4 + t824))) else (none))) else (some x3)
def galleyref04_Edges.f (k : Nat) (l0 : List Int) : Option (List Int) := galleyref04_Edges.l0 k l0 (([0] : List Int)) 0
set_option maxHeartbeats 8000000 in
set_option maxRecDepth 100000 in
theorem galleyref04_Edges.calls (k : Nat) (A0 : Option Addr) (c0 : Nat) (l0 : List Int) (r : List Int) (w : World) (hr0 : Kd.C (Kd.int .u8) w A0 l0.length l0) (hc0 : l0.length ≤ c0) (h : galleyref04_Edges.f k l0 = some r) :
  Calls Tryd.prog 69 #[.slice A0 l0.length c0] w fun e w' => ∃ v0_ : Value, e = .returned (v0_) ∧ Kd.R (Kd.int .i64) 3 w' w.heap.size (fun _ => True) v0_ r ∧ Below w.heap.size w w' := by
 have HR0 := Aside0.mk hr0
 have HC0 := Aside0.mk hc0
 clear hr0 hc0
 have HB := Aside0.mk (Below.refl w.heap.size w)
 have H : (galleyref04_Edges.l0 k l0 (([0] : List Int)) 0) = some r := h
 clear h
 obtain ⟨y821, hy821⟩ : ∃ y_ : List Int, y_ = (([0] : List Int)) := ⟨_, rfl⟩
 replace H : (galleyref04_Edges.l0 k l0 y821 0) = some r := by first | (rw [hy821]; with_reducible exact H) | (have H2_ := (Option.bind_some _ _).symm.trans H; rw [hy821]; with_reducible exact H2_) | (have H2_ := (Option.bind_some _ _).symm.trans H; with_reducible exact H2_) | with_reducible exact H | (rw [hy821]; exact H) | exact H
 have Ny821 := Aside0.mk hy821
 clear hy821
 have H' := Aside0.mk H
 clear H
 go_enter Tryd.func69, Tryd.ntmps69
 go_wp2_with (first | ((with_reducible refine gate_dst (N := 5) rfl ?_); refine Kd.R_lit (Kd.int .i64) _ 3 ?hg (N := 5) ?hd (xs := ([0] : List Int)) (inner := [.int .i64 0]) (ok := fun _ => True) (okp := fun _ => True) ?hr ?hp (fun _ hk => hk) trivial (Below.refl _ _) (Nat.le_refl _) (by simp) ?_; (case hd => rfl); (case hg => rfl); (case hr => first | (go_simp; done) | (go_simp; rfl)); (case hp => exact (Reps.one (show Kd.M (Kd.int .i64) _ _ _ 0 [.int .i64 0] from rfl) (Reps.none _ _))); intro v822 w2 ho3 hb hg_ hnew_; clear hg_ hnew_; (first | rw [← Ny821.out] at ho3 | (simp only [Int.reduceToNat] at ho3; rw [← Ny821.out] at ho3)); have n0_ := Aside0.mk (Kd.R_lower ho3 (below_size (by repeat (first | (with_reducible first | exact HB.out | apply below_alloc | apply pw_below_drewN | apply below_drew1) | exact HB.out)))); have n1_ := Aside0.mk (below_step (by repeat (first | (with_reducible first | exact HB.out | apply below_alloc | apply pw_below_drewN | apply below_drew1) | exact HB.out)) hb); clear HB; have HO823 := n0_; have HB := n1_; clear n0_ n1_; clear hb ho3))
 go_loopg [3, 4] k (fun kq v3 v4 w' => ∃ (x3_1 : List Int) (x4_1 : Int), v4 = .int .i64 x4_1 ∧ Aside0 (galleyref04_Edges.l0 kq l0 x3_1 x4_1 = some r) ∧ Aside0 (kq ≤ k) ∧ Aside0 (Kd.R (Kd.int .i64) 3 w' w.heap.size (fun _ => True) v3 x3_1) ∧ Aside0 (Below w.heap.size w w'))
 case atStart => exact ⟨(y821), (0), (by first | rfl | (simp; done) | (simp [*]; done)), H', ⟨Nat.le_refl _⟩, ⟨by (with_reducible repeat (first | apply Kd.R_alloc | apply Kd.R_drewN | apply Kd.R_drew)); exact HO823.out⟩, ⟨by repeat (first | (with_reducible first | exact HB.out | apply below_alloc | apply pw_below_drewN | apply below_drew1) | exact HB.out)⟩⟩
 case round =>
  clear H'
  (try clear p2)
  obtain ⟨x3_1, x4_1, rfl, HA, HK1, HO_3, HB⟩ := hrel
  cases gk with
  | zero => exact absurd HA.out (by simp [galleyref04_Edges.l0])
  | succ k1 =>
   have H := HA.out
   clear HA
   simp only [galleyref04_Edges.l0] at H
   by_cases c4 : x4_1 < (l0.length : Int)
   ·
    rw [if_pos c4] at H
    have c4b0 : decide (x4_1 < (l0.length : Int)) = true := decide_eq_true c4
    clear c4
    replace H := Option.bind_eq_some_iff.mp H
    obtain ⟨t824, A50, H⟩ := H
    replace H : (if x3_1.length < 17592186044416 then (galleyref04_Edges.l0 k1 l0 (x3_1 ++ [wrap64 (x4_1 + t824)]) (wrap64 (x4_1 + t824))) else (none)) = some r := H
    have A5 := Aside0.mk A50
    clear A50
    by_cases c6 : x3_1.length < 17592186044416
    ·
     rw [if_pos c6] at H
     have LMc6 := Aside0.mk c6
     clear c6
     obtain ⟨y825, hy825⟩ : ∃ y_ : List Int, y_ = (x3_1 ++ [wrap64 (x4_1 + t824)]) := ⟨_, rfl⟩
     replace H : (galleyref04_Edges.l0 k1 l0 y825 (wrap64 (x4_1 + t824))) = some r := by first | (rw [hy825]; with_reducible exact H) | (have H2_ := (Option.bind_some _ _).symm.trans H; rw [hy825]; with_reducible exact H2_) | (have H2_ := (Option.bind_some _ _).symm.trans H; with_reducible exact H2_) | with_reducible exact H | (rw [hy825]; exact H) | exact H
     have Ny825 := Aside0.mk hy825
     clear hy825
     have H' := Aside0.mk H
     clear H
     go_wp2_with (first | ((with_reducible refine gate_callee (f := 110) rfl ?_); refine goesL_ (some 13) rfl rfl Tryd.func110 (by kernel_rfl) rfl #[.slice A0 l0.length c0, .int .i64 x4_1] rfl (by (try simp only [List.map_toArray, List.map_cons, List.map_nil]); first | done | rfl | (simp only [List.length_drop, List.length_take]; rfl)) ?_; (with_reducible refine (galleyref01_Width.calls k1 _ _ l0 x4_1 t824 _ ?side1 ?side2 A5.out).mono ?_); (case side1 => repeat (first | exact (Kd.C_below HR0.out HB.out) | (with_reducible refine Kd.C_alloc ?_ _) | (with_reducible refine Kd.C_drewN ?_ _) | (with_reducible refine Kd.C_drew ?_))); (case side2 => exact HC0.out); rintro e w' ⟨rfl, ⟨nd, rfl⟩⟩; refine ⟨_, rfl, ?_⟩) | ((with_reducible refine gate_builtin (b := .append) (xs := #[.tmp 15, .tmp 17]) rfl ?_); at_builtin; refine Kd.R_append (Kd.int .i64) (w0 := w) w.heap.size rfl (.tmp 15) (.tmp 17) 29 3 (.int .i64 0) 8 rfl Tryd.underlying29 info3 rfl (by decide) (by omega) u3 x3_1 (wrap64 (x4_1 + t824)) [.int .i64 (wrap64 (x4_1 + t824))] (fun _ => True) (fun _ => False) rfl rfl ?aP (fun _ hk => hk.elim) ?aF ?aO ?aB ?aS ?aL ?_; (case aP => exact rfl); (case aB => exact (by repeat (first | (with_reducible first | exact HB.out | apply below_alloc | apply pw_below_drewN | apply below_drew1) | exact HB.out))); (case aF => exact (fun _ _ => trivial)); (case aO => exact (by (with_reducible repeat (first | apply Kd.R_alloc | apply Kd.R_drewN | apply Kd.R_drew)); exact HO_3.out)); (case aS => exact (below_size (by repeat (first | (with_reducible first | exact HB.out | apply below_alloc | apply pw_below_drewN | apply below_drew1) | exact HB.out)))); (case aL => have := LMc6.out; omega); intro v826 w7 ho hb hg hat; rw [← Ny825.out] at ho; have n0_ := Aside0.mk (hb); have n1_ := Aside0.mk (ho); clear HB; clear HO_3; have HB := n0_; have HO827 := n1_; clear n0_ n1_; clear ho hb hg hat))
     go_roundg k1
     case measure => have := HK1.out; omega
     case rel => exact ⟨(y825), (wrap64 (x4_1 + t824)), (by first | rfl | (simp; done) | (simp [*]; done)), H', ⟨by have := HK1.out; omega⟩, ⟨by (with_reducible repeat (first | apply Kd.R_alloc | apply Kd.R_drewN | apply Kd.R_drew)); exact HO827.out⟩, ⟨by repeat (first | (with_reducible first | exact HB.out | apply below_alloc | apply pw_below_drewN | apply below_drew1) | exact HB.out)⟩⟩
    ·
     rw [if_neg c6] at H
     exact absurd H (by simp)
   ·
    rw [if_neg c4] at H
    have c4b0 : decide (x4_1 < (l0.length : Int)) = false := decide_eq_false c4
    clear c4
    obtain rfl := Option.some.inj H
    go_wp2
    go_ret
    exact ⟨_, by first | rfl | (simp [errW_none, errW_some] <;> rfl) | (simp [*, errW_none, errW_some] <;> rfl), by (with_reducible repeat (first | apply Kd.R_alloc | apply Kd.R_drewN | apply Kd.R_drew)); exact HO_3.out, by repeat (first | (with_reducible first | exact HB.out | apply below_alloc | apply pw_below_drewN | apply below_drew1) | exact HB.out)⟩
end Go.Proofs.YtbomhpfckplgaaaDoor.P
namespace Go.Proofs.YtbomhpfckplgaaaDoor.P
open Go Go.RowKit Go.Proofs.YtbomhpfckplgaaaDoorW.PrintWords Go.Proofs.YtbomhpfckplgaaaDoorW.PrintMore Utf
set_option linter.unusedVariables false
set_option linter.unusedSimpArgs false
def classP (a : Int) : Int := if a < 128 then 1 else if a < 192 then 2 else if a < 194 then 6 else if a < 224 then 3 else if a < 240 then 4 else if a < 245 then 5 else 6
def needP (a : Int) : Nat := if a < 128 then 1 else if a < 194 then 0 else if a < 224 then 2 else if a < 240 then 3 else if a < 245 then 4 else 0
theorem class_is (a : Int) : galleyref01_Class.f a = some (classP a) := by
  unfold galleyref01_Class.f classP
  repeat' split
  all_goals rfl
theorem need_is (a : Int) : galleyref01_Need.f a = some (needP a : Int) := by
  unfold galleyref01_Need.f
  rw [class_is, Option.bind_some]
  unfold classP needP
  repeat' split
  all_goals first | rfl | omega
theorem class_tail {y : Int} (h0 : 0 ≤ y) : classP y = 2 ↔ tail y := by
  unfold classP tail
  repeat' split
  all_goals omega
def secondP (a b : Int) : Prop := 2 ≤ needP a ∧ tail b ∧ (a = 224 → 160 ≤ b) ∧ (a = 237 → b ≤ 159) ∧ (a = 240 → 144 ≤ b) ∧ (a = 244 → b ≤ 143)
instance (a b : Int) : Decidable (secondP a b) := by unfold secondP; infer_instance
theorem second_is (a b : Int) (hb : 0 ≤ b) (k : Nat) : galleyref01_Second.f (k + 1) a b = some (decide (secondP a b)) := by
  have ht := class_tail hb
  unfold galleyref01_Second.f
  rw [need_is, Option.bind_some]
  by_cases c : (needP a : Int) < 2
  · rw [if_pos c, decide_eq_false (fun h => by have := h.1; omega)]
    simp only [galleyref01_Second.j0, if_true]
  · rw [if_neg c, class_is, Option.bind_some]
    by_cases t : classP b = 2
    · have hb2 : (classP b != 2) = false := by simp [t]
      have htb := ht.1 t
      rw [hb2]
      simp only [galleyref01_Second.j0, Bool.false_eq_true, if_false]
      by_cases e1 : a = 224
      · rw [if_pos e1]
        congr 1
        apply decide_eq_decide.2
        exact ⟨fun h => ⟨by omega, htb, fun _ => h, by omega, by omega, by omega⟩, fun h => h.2.2.1 e1⟩
      rw [if_neg e1]
      by_cases e2 : a = 237
      · rw [if_pos e2]
        congr 1
        apply decide_eq_decide.2
        exact ⟨fun h => ⟨by omega, htb, by omega, fun _ => h, by omega, by omega⟩, fun h => h.2.2.2.1 e2⟩
      rw [if_neg e2]
      by_cases e3 : a = 240
      · rw [if_pos e3]
        congr 1
        apply decide_eq_decide.2
        exact ⟨fun h => ⟨by omega, htb, by omega, by omega, fun _ => h, by omega⟩, fun h => h.2.2.2.2.1 e3⟩
      rw [if_neg e3]
      by_cases e4 : a = 244
      · rw [if_pos e4]
        congr 1
        apply decide_eq_decide.2
        exact ⟨fun h => ⟨by omega, htb, by omega, by omega, by omega, fun _ => h⟩, fun h => h.2.2.2.2.2 e4⟩
      rw [if_neg e4, decide_eq_true (show secondP a b from ⟨by omega, htb, by omega, by omega, by omega, by omega⟩)]
    · have hb2 : (classP b != 2) = true := by simp [t]
      rw [hb2, decide_eq_false (fun h => t (ht.2 h.2.1))]
      simp only [galleyref01_Second.j0, if_true]
theorem begins_tail (s : List Int) (hs : ∀ x ∈ s, 0 ≤ x) (hl : s.length ≤ 4) : ∀ (d i k : Nat), s.length - i ≤ d → galleyref01_Begins.l0 (k + d + 1) s (i : Int) = some (decide (∀ j (h : j < s.length), i ≤ j → tail s[j]))
  | 0, i, k, hd => by
    conv => lhs; unfold galleyref01_Begins.l0
    rw [if_neg (by omega), decide_eq_true (fun j h hij => by omega)]
  | d + 1, i, k, hd => by
    by_cases c : i < s.length
    · conv => lhs; unfold galleyref01_Begins.l0
      have hr : rd s (i : Int) = s[i] := rd_nat s i c
      rw [if_pos (by omega), if_pos (by omega), hr, class_is, Option.bind_some]
      have ht := class_tail (hs _ (List.getElem_mem c))
      by_cases t : classP s[i] = 2
      · rw [if_pos t, w64 (n := (i : Int) + 1) (by omega) (by omega)]
        have ih := begins_tail s hs hl d (i + 1) k (by omega)
        rw [show k + (d + 1) = k + d + 1 by omega]
        refine Eq.trans ih ?_
        congr 1
        apply decide_eq_decide.2
        refine ⟨fun h j hj hij => ?_, fun h j hj hij => h j hj (by omega)⟩
        rcases Nat.eq_or_lt_of_le hij with e | e
        · subst e
          exact ht.1 t
        · exact h j hj (by omega)
      · rw [if_neg t, decide_eq_false (fun h => t (ht.2 (h i c (Nat.le_refl _))))]
    · conv => lhs; unfold galleyref01_Begins.l0
      rw [if_neg (by omega), decide_eq_true (fun j h hij => by omega)]
theorem ev_whole (s : List Int) (hs : ∀ x ∈ s, 0 ≤ x) (h1 : 1 ≤ s.length) (h4 : s.length ≤ 4) (hn : s.length = needP (s[0]'(by omega))) :
    Ev (fun k => galleyref01_Whole.f k s) (decide ((∀ h : 1 < s.length, secondP (s[0]'(by omega)) s[1]) ∧ (∀ j (h : j < s.length), 2 ≤ j → tail s[j]))) := by
  have h0 : rd s 0 = s[0]'(by omega) := rd_nat s 0 (by omega)
  have beg : Ev (fun k => galleyref01_Begins.f k s) (decide ((∀ h : 1 < s.length, secondP (s[0]'(by omega)) s[1]) ∧ (∀ j (h : j < s.length), 2 ≤ j → tail s[j]))) := by
    have hj1 : Ev (fun k => galleyref01_Begins.j1 k s) (decide (∀ j (h : j < s.length), 2 ≤ j → tail s[j])) := by
      refine Ev.step (G := fun k => galleyref01_Begins.l0 k s 2) (fun k => by simp only [galleyref01_Begins.j1]) ⟨s.length + 1, fun k hk => ?_⟩
      have := begins_tail s hs h4 s.length 2 (k - (s.length + 1)) (by omega)
      rw [show k - (s.length + 1) + s.length + 1 = k by omega] at this
      exact this
    unfold galleyref01_Begins.f
    refine Ev.ite_neg (by omega) (Ev.ite_pos (by omega) ?_)
    simp only [h0, need_is, Option.bind_some]
    rw [decide_eq_false (show ¬ (s.length : Int) > (needP (s[0]'(by omega)) : Int) by omega)]
    by_cases c : 1 < s.length
    · have hr1 : rd s 1 = s[1] := rd_nat s 1 c
      refine Ev.step (G := fun k => (galleyref01_Second.f k (s[0]'(by omega)) s[1]).bind fun t811 => (if t811 = true then (galleyref01_Begins.j1 k s) else (some false))) (fun k => ?_) ?_
      · simp only [galleyref01_Begins.j0, Bool.false_eq_true, if_false]
        rw [if_pos (by omega), if_pos (by omega), if_pos (by omega), h0, hr1]
      · refine Ev.bind (⟨1, fun k hk => by obtain ⟨i, rfl⟩ : ∃ i, k = i + 1 := ⟨k - 1, by omega⟩; exact second_is _ _ (hs _ (List.getElem_mem c)) i⟩ : Ev (fun k => galleyref01_Second.f k (s[0]'(by omega)) s[1]) (decide (secondP (s[0]'(by omega)) s[1]))) ?_
        by_cases g : secondP (s[0]'(by omega)) s[1]
        · rw [decide_eq_true g]
          refine Ev.ite_pos rfl ?_
          have e : decide ((∀ h : 1 < s.length, secondP (s[0]'(by omega)) s[1]) ∧ (∀ j (h : j < s.length), 2 ≤ j → tail s[j])) = decide (∀ j (h : j < s.length), 2 ≤ j → tail s[j]) := decide_eq_decide.2 ⟨fun h => h.2, fun h => ⟨fun _ => g, h⟩⟩
          rw [e]
          exact hj1
        · rw [decide_eq_false g, decide_eq_false (fun h => g (h.1 c))]
          exact Ev.ite_neg (by simp) (Ev.pure _)
    · refine Ev.step (G := fun k => galleyref01_Begins.j1 k s) (fun k => ?_) ?_
      · simp only [galleyref01_Begins.j0, Bool.false_eq_true, if_false]
        rw [if_neg (by omega)]
      · have e : decide ((∀ h : 1 < s.length, secondP (s[0]'(by omega)) s[1]) ∧ (∀ j (h : j < s.length), 2 ≤ j → tail s[j])) = decide (∀ j (h : j < s.length), 2 ≤ j → tail s[j]) := decide_eq_decide.2 ⟨fun h => h.2, fun h => ⟨fun h_ => absurd h_ c, h⟩⟩
        rw [e]
        exact hj1
  unfold galleyref01_Whole.f
  refine Ev.bind beg ?_
  generalize decide ((∀ h : 1 < s.length, secondP (s[0]'(by omega)) s[1]) ∧ (∀ j (h : j < s.length), 2 ≤ j → tail s[j])) = b
  cases b with
  | false => exact Ev.ite_neg (by simp) (Ev.pure _)
  | true =>
    refine Ev.ite_pos rfl (Ev.ite_pos (by omega) (Ev.of ?_))
    rw [h0, need_is, Option.bind_some]
    congr 1
    rw [beq_iff_eq]
    omega
theorem long4_need {x y z w : Int} (h0 : 0 ≤ x) (h1 : x ≤ 255) : long4 x y z w = 0 ∨ long4 x y z w = needP x := by
  unfold long4
  by_cases c1 : 0 ≤ x ∧ x ≤ 0x7f
  · rw [if_pos c1]
    right
    unfold needP
    rw [if_pos (by omega)]
  rw [if_neg c1]
  by_cases c2 : (0xc2 ≤ x ∧ x ≤ 0xdf) ∧ tail y
  · rw [if_pos c2]
    right
    unfold needP
    rw [if_neg (by omega), if_neg (by omega), if_pos (by omega)]
  rw [if_neg c2]
  by_cases c3 : tail z ∧ three x y
  · rw [if_pos c3]
    right
    have := c3.2
    unfold three at this
    unfold needP
    rw [if_neg (by omega), if_neg (by omega), if_neg (by omega), if_pos (by omega)]
  rw [if_neg c3]
  by_cases c4 : tail z ∧ tail w ∧ four x y
  · rw [if_pos c4]
    right
    have := c4.2.2
    unfold four at this
    unfold needP
    rw [if_neg (by omega), if_neg (by omega), if_neg (by omega), if_neg (by omega), if_pos (by omega)]
  · rw [if_neg c4]
    exact .inl rfl
theorem three_second {x y : Int} (h : 224 ≤ x ∧ x ≤ 239) : three x y ↔ secondP x y := by
  unfold three secondP needP tail
  rw [if_neg (by omega), if_neg (by omega), if_neg (by omega), if_pos (by omega)]
  omega
theorem four_second {x y : Int} (h : 240 ≤ x ∧ x ≤ 244) : four x y ↔ secondP x y := by
  unfold four secondP needP tail
  rw [if_neg (by omega), if_neg (by omega), if_neg (by omega), if_neg (by omega), if_pos (by omega)]
  omega
theorem long4_iff {x y z w : Int} (h0 : 0 ≤ x) (h1 : x ≤ 255) (hn : 1 ≤ needP x) : long4 x y z w = needP x ↔ ((2 ≤ needP x → secondP x y) ∧ (3 ≤ needP x → tail z) ∧ (4 ≤ needP x → tail w)) := by
  by_cases r1 : x < 128
  · have e : needP x = 1 := by unfold needP; rw [if_pos r1]
    have g : long4 x y z w = 1 := by unfold long4; rw [if_pos ⟨h0, by omega⟩]
    rw [e, g]
    exact ⟨fun _ => ⟨by omega, by omega, by omega⟩, fun _ => rfl⟩
  by_cases r2 : x < 194
  · exfalso
    unfold needP at hn
    rw [if_neg r1, if_pos r2] at hn
    omega
  by_cases r3 : x < 224
  · have e : needP x = 2 := by unfold needP; rw [if_neg r1, if_neg r2, if_pos r3]
    have ht : secondP x y ↔ tail y := by
      unfold secondP
      rw [e]
      exact ⟨fun h => h.2.1, fun h => ⟨by omega, h, by omega, by omega, by omega, by omega⟩⟩
    rw [e, ht]
    unfold long4
    rw [if_neg (by omega)]
    by_cases t : tail y
    · rw [if_pos ⟨⟨by omega, by omega⟩, t⟩]
      exact ⟨fun _ => ⟨fun _ => t, by omega, by omega⟩, fun _ => rfl⟩
    · rw [if_neg (fun h => t h.2), if_neg (fun h => by have := h.2; unfold three at this; omega), if_neg (fun h => by have := h.2.2; unfold four at this; omega)]
      exact ⟨fun h => by omega, fun h => absurd (h.1 (by omega)) t⟩
  by_cases r4 : x < 240
  · have e : needP x = 3 := by unfold needP; rw [if_neg r1, if_neg r2, if_neg r3, if_pos r4]
    have ht := three_second (x := x) (y := y) ⟨by omega, by omega⟩
    rw [e]
    unfold long4
    rw [if_neg (by omega), if_neg (by omega)]
    by_cases t : tail z ∧ three x y
    · rw [if_pos t]
      exact ⟨fun _ => ⟨fun _ => ht.1 t.2, fun _ => t.1, by omega⟩, fun _ => rfl⟩
    · rw [if_neg t, if_neg (fun h => by have := h.2.2; unfold four at this; omega)]
      exact ⟨fun h => by omega, fun h => absurd ⟨h.2.1 (by omega), ht.2 (h.1 (by omega))⟩ t⟩
  by_cases r5 : x < 245
  · have e : needP x = 4 := by unfold needP; rw [if_neg r1, if_neg r2, if_neg r3, if_neg r4, if_pos r5]
    have ht := four_second (x := x) (y := y) ⟨by omega, by omega⟩
    rw [e]
    unfold long4
    rw [if_neg (by omega), if_neg (by omega), if_neg (fun h => by have := h.2; unfold three at this; omega)]
    by_cases t : tail z ∧ tail w ∧ four x y
    · rw [if_pos t]
      exact ⟨fun _ => ⟨fun _ => ht.1 t.2.2, fun _ => t.1, fun _ => t.2.1⟩, fun _ => rfl⟩
    · rw [if_neg t]
      exact ⟨fun h => by omega, fun h => absurd ⟨h.2.1 (by omega), h.2.2 (by omega), ht.2 (h.1 (by omega))⟩ t⟩
  · exfalso
    unfold needP at hn
    rw [if_neg r1, if_neg r2, if_neg r3, if_neg r4, if_neg r5] at hn
    omega
theorem ev_whole_n {l : List Int} (hl : Bytes l) (p n : Nat) (hp : p < l.length) (hn : needP (at_ l p) = n) (c1 : 1 ≤ n) (c2 : p + n ≤ l.length) :
    Ev (fun k => galleyref01_Whole.f k ((l.take (p + n)).drop p)) (decide (long l p = n)) := by
  have hb := at_byte hl hp
  have hn4 : n ≤ 4 := by
    rw [← hn]
    unfold needP
    repeat' split
    all_goals omega
  obtain ⟨s, hsd⟩ : ∃ s, (l.take (p + n)).drop p = s := ⟨_, rfl⟩
  have hlen : s.length = n := by rw [← hsd]; simp; omega
  have hget : ∀ j (h : j < s.length), s[j] = at_ l (p + j) := fun j h => by
    subst hsd
    rw [List.getElem_drop, List.getElem_take, ← at_nat]
  have hpos : ∀ x ∈ s, 0 ≤ x := fun x hx => by
    obtain ⟨j, hj, rfl⟩ := List.mem_iff_getElem.1 hx
    rw [hget j hj]
    exact (at_byte hl (by omega)).1
  have h0 : s[0]'(by omega) = at_ l p := hget 0 (by omega)
  have hw2 := ev_whole s hpos (by omega) (by omega) (by rw [h0, hn, hlen])
  have hiff := long4_iff (y := at_ l (p + 1)) (z := at_ l (p + 2)) (w := at_ l (p + 3)) hb.1 hb.2 (by rw [hn]; omega)
  rw [hn] at hiff
  have hdec : decide ((∀ h : 1 < s.length, secondP (s[0]'(by omega)) s[1]) ∧ (∀ j (h : j < s.length), 2 ≤ j → tail s[j])) = decide (long l p = n) := by
    apply decide_eq_decide.2
    refine Iff.trans ?_ hiff.symm
    constructor
    · rintro ⟨a, b⟩
      refine ⟨fun h => ?_, fun h => ?_, fun h => ?_⟩
      · have := a (by omega)
        rw [h0, hget 1 (by omega)] at this
        exact this
      · have := b 2 (by omega) (by omega)
        rw [hget 2 (by omega)] at this
        exact this
      · have := b 3 (by omega) (by omega)
        rw [hget 3 (by omega)] at this
        exact this
    · rintro ⟨a, b, c⟩
      refine ⟨fun h => ?_, fun j h h2 => ?_⟩
      · rw [h0, hget 1 (by omega)]
        exact a (by omega)
      · rw [hget j h]
        rcases (show j = 2 ∨ j = 3 by omega) with rfl | rfl
        · exact b (by omega)
        · exact c (by omega)
  rw [hdec] at hw2
  rw [hsd]
  exact hw2
theorem ev_width {l : List Int} (hl : Bytes l) (hs : Small l) (p : Nat) (hp : p < l.length) : Ev (fun k => galleyref01_Width.f k l (p : Int)) (width l p : Int) := by
  have hs' := hs
  unfold Small at hs'
  have hb := at_byte hl hp
  have hx : rd l (p : Int) = at_ l p := rd_at hp
  obtain ⟨n, hn⟩ : ∃ n, needP (at_ l p) = n := ⟨_, rfl⟩
  have hn4 : n ≤ 4 := by
    rw [← hn]
    unfold needP
    repeat' split
    all_goals omega
  have hcase : long l p = 0 ∨ long l p = n := by rw [← hn]; exact long4_need hb.1 hb.2
  have w1 : long l p = 0 → (width l p : Int) = 1 := fun h => by unfold width; rw [if_pos h]; rfl
  unfold galleyref01_Width.f
  refine Ev.ite_pos (by omega) (Ev.ite_pos (by omega) ?_)
  simp only [hx, need_is, Option.bind_some, hn]
  by_cases c1 : (n : Int) ≥ 1
  case neg =>
    have h0 : long l p = 0 := by omega
    rw [w1 h0]
    exact Ev.ite_neg c1 (Ev.pure _)
  refine Ev.ite_pos c1 ?_
  have hw : wrap64 ((p : Int) + (n : Int)) = ((p + n : Nat) : Int) := by
    rw [w64 (by omega) (by omega)]
    rfl
  rw [hw]
  by_cases c2 : p + n ≤ l.length
  case neg =>
    have h0 : long l p = 0 := by
      rcases hcase with h | h
      · exact h
      · have := long_end (b := l) (p := p) (by omega)
        omega
    rw [w1 h0]
    exact Ev.ite_neg (by omega) (Ev.pure _)
  refine Ev.ite_pos (by omega) (Ev.ite_pos (by omega) ?_)
  rw [Int.toNat_natCast, Int.toNat_natCast]
  refine Ev.bind (ev_whole_n hl p n hp hn (by omega) c2) ?_
  by_cases c3 : long l p = n
  · rw [decide_eq_true c3]
    have e : (width l p : Int) = n := by
      unfold width
      rw [if_neg (by omega), c3]
    rw [e]
    exact Ev.ite_pos rfl (Ev.pure _)
  · rw [decide_eq_false c3]
    have h0' : long l p = 0 := by omega
    rw [w1 h0']
    exact Ev.ite_neg (by simp) (Ev.pure _)
theorem ev_edges4_from {l : List Int} (hl : Bytes l) (hs : Small l) : ∀ (n p : Nat) (acc : List Int), p ≤ l.length → l.length - p ≤ n → acc.length ≤ p →
    Ev (fun k => galleyref04_Edges.l0 k l (acc ++ [(p : Int)]) (p : Int)) (acc ++ ((stepsF l n p).map (fun x => (x.1 : Int)) ++ [(l.length : Int)]))
  | 0, p, acc, hp, hn, ha => by
    obtain rfl : p = l.length := by omega
    refine Ev.step (G := fun _ => some (acc ++ [(l.length : Int)])) (fun k => ?_) (Ev.pure _)
    conv => lhs; unfold galleyref04_Edges.l0
    rw [if_neg (by omega)]
  | n + 1, p, acc, hp, hn, ha => by
    have hs' := hs
    unfold Small at hs'
    rw [stepsF_succ]
    by_cases c : p < l.length
    · have hwp := width_pos l p
      have hwe := width_end c
      rw [if_pos c]
      refine Ev.step (G := fun k => (galleyref01_Width.f k l (p : Int)).bind fun t824 => (if (acc ++ [(p : Int)]).length < 17592186044416 then (galleyref04_Edges.l0 k l (acc ++ [(p : Int)] ++ [wrap64 ((p : Int) + t824)]) (wrap64 ((p : Int) + t824))) else (none))) (fun k => ?_) ?_
      · conv => lhs; unfold galleyref04_Edges.l0
        rw [if_pos (by omega)]
      · refine Ev.bind (ev_width hl hs p c) (Ev.ite_pos (by simp; omega) ?_)
        rw [w64 (n := (p : Int) + (width l p : Int)) (by omega) (by omega)]
        have ih := ev_edges4_from hl hs n (p + width l p) (acc ++ [(p : Int)]) hwe (by omega) (by simp; omega)
        rw [List.append_assoc acc [(p : Int)] ((stepsF l n (p + width l p)).map _ ++ _)] at ih
        exact ih
    · rw [if_neg c]
      obtain rfl : p = l.length := by omega
      refine Ev.step (G := fun _ => some (acc ++ [(l.length : Int)])) (fun k => ?_) (Ev.pure _)
      conv => lhs; unfold galleyref04_Edges.l0
      rw [if_neg (by omega)]
theorem ev_edges4 {l : List Int} (hl : Bytes l) (hs : Small l) : Ev (fun k => galleyref04_Edges.f k l) ((stepsL l).map (fun x => (x.1 : Int)) ++ [(l.length : Int)]) := by
  have := ev_edges4_from hl hs l.length 0 [] (Nat.zero_le _) (by omega) (by simp)
  simpa [galleyref04_Edges.f, stepsL] using this
end Go.Proofs.YtbomhpfckplgaaaDoor.P
namespace Go.Proofs.YtbomhpfckplgaaaDoor.P
open Go.RowKit Go.Proofs.YtbomhpfckplgaaaDoorW.PrintWords Go.Proofs.YtbomhpfckplgaaaDoorW.PrintLast Go.Proofs.YtbomhpfckplgaaaDoorW.PrintMore
set_option linter.unusedVariables false
set_option linter.unusedSimpArgs false
set_option maxRecDepth 100000
attribute [local go_sem] max2_int min2_int max_two min_two max_three min_three max_four min_four
def linesF (l : List Int) : Nat → Int → Int → List S144
  | 0, _, _ => []
  | k + 1, i, s => if i < (l.length : Int) then (if rd l i = 10 then ⟨s, i, i, i + 1⟩ :: linesF l k (i + 1) (i + 1) else if rd l i = 13 then (if i + 1 < (l.length : Int) ∧ rd l (i + 1) = 10 then ⟨s, i, i + 1, i + 2⟩ :: linesF l k (i + 2) (i + 2) else ⟨s, i, i, i + 1⟩ :: linesF l k (i + 1) (i + 1)) else linesF l k (i + 1) s) else [⟨s, (l.length : Int), (l.length : Int), (l.length : Int)⟩]
def linesL (l : List Int) : List S144 := linesF l (l.length + 1) 0 0
theorem info144 : (Tryd.prog.info? 144).map (fun i => (i.zero, i.size, i.bytes)) = some (some (.agg #[(.int .i64 0), (.int .i64 0), (.int .i64 0), (.int .i64 0)]), 4, 32) := by kernel_rfl
def lines_all.f (l0 : List Int) : Option (List S144) := if l0.length < 4398046511000 then some (linesL l0) else none
set_option maxHeartbeats 8000000 in
theorem lines_all.calls (A0 : Option Addr) (c0 : Nat) (l0 : List Int) (r : List S144) (w : World) (hr0 : Kd.C (Kd.int .u8) w A0 l0.length l0) (hc0 : l0.length ≤ c0) (h : lines_all.f l0 = some r) :
    Calls Tryd.prog 102 #[.slice A0 l0.length c0] w fun e w' => ∃ v0_ : Value, e = .returned (v0_) ∧ Kd.R k144 144 w' w.heap.size (fun _ => True) v0_ r ∧ Below w.heap.size w w' := by
  have hu144 := Tryd.underlying144
  unfold lines_all.f at h
  by_cases hl : l0.length < 4398046511000
  case neg => rw [if_neg hl] at h; cases h
  rw [if_pos hl] at h
  obtain rfl := Option.some.inj h
  have HR0 := Aside0.mk hr0
  have HC0 := Aside0.mk hl
  clear hr0 hc0 hl h
  have HB := Aside0.mk (Below.refl w.heap.size w)
  go_enter Tryd.func102, Tryd.ntmps102
  go_wp2
  go_step3
  go_wp2
  go_step3
  go_wp2
  go_loopg [3, 4, 5] (l0.length + 1) (fun kq v3 v4 v5 w' => ∃ (xs : List S144) (s i : Int), v4 = .int .i64 s ∧ v5 = .int .i64 i ∧ Aside0 (0 ≤ i ∧ i ≤ (l0.length : Int) ∧ (l0.length : Int) - i < (kq : Int) ∧ (xs.length : Int) ≤ i ∧ linesL l0 = xs ++ linesF l0 kq i s) ∧ Aside0 (Kd.R k144 144 w' w.heap.size (fun _ => True) v3 xs) ∧ Aside0 (Below w.heap.size w w'))
  case atStart => exact ⟨[], 0, 0, rfl, rfl, ⟨by omega, by omega, by omega, by simp, rfl⟩, ⟨Kd.R_nil _ _ _ _ _⟩, HB⟩
  case round =>
    clear HB
    obtain ⟨xs, s, i, rfl, rfl, HI, HO, HB⟩ := hrel
    cases gk with
    | zero => exact absurd HI.out (by omega)
    | succ kk =>
    by_cases c1 : i < (l0.length : Int)
    case neg =>
      have c1' : decide (i < (l0.length : Int)) = false := decide_eq_false c1
      have HE : Aside0 (linesL l0 = xs ++ [⟨s, (l0.length : Int), (l0.length : Int), (l0.length : Int)⟩]) := ⟨by have := HI.out.2.2.2.2; rw [this]; simp only [linesF, if_neg c1]⟩
      clear c1
      go_wp2_with ((with_reducible refine gate_builtin (b := .append) (xs := #[.tmp 65, .tmp 74]) rfl ?_); (try (refine gate_guard (by rfl) ?_; dsimp only)); at_builtin; refine Kd.R_append k144 (w0 := w) w.heap.size rfl (.tmp 65) (.tmp 74) 141 144 (.agg #[(.int .i64 0), (.int .i64 0), (.int .i64 0), (.int .i64 0)]) 32 rfl Tryd.underlying141 info144 rfl (by decide) (by omega) u3 xs (⟨s, (l0.length : Int), (l0.length : Int), (l0.length : Int)⟩ : S144) [.int .i64 s, .int .i64 (l0.length : Int), .int .i64 (l0.length : Int), .int .i64 (l0.length : Int)] (fun _ => True) (fun _ => False) rfl rfl ?aP (fun _ hk => hk.elim) ?aF ?aO ?aB ?aS ?aL ?_; (case aP => exact k144_mkM _ _ _ (⟨s, (l0.length : Int), (l0.length : Int), (l0.length : Int)⟩ : S144)); (case aB => exact HB.out); (case aF => exact (fun _ _ => trivial)); (case aO => exact HO.out); (case aS => exact (below_size HB.out)); (case aL => have := HI.out; have := HC0.out; omega); intro v7 w15 ho hb hg hat; have HB := Aside0.mk hb; have HO := Aside0.mk ho; clear hb ho hg hat)
      try rw [Exit.noGoto_ret]
      go_ret
      exact ⟨_, rfl, by rw [HE.out]; exact HO.out, HB.out⟩
    have c1' : decide (i < (l0.length : Int)) = true := decide_eq_true c1
    have p0 : 0 ≤ i := HI.out.1
    have q0 : i < (l0.length : Int) := c1
    have hW1 : wrap64 (i + 1) = i + 1 := by
      have := HC0.out
      unfold wrap64
      omega
    have hW2 : wrap64 (i + 2) = i + 2 := by
      have := HC0.out
      unfold wrap64
      omega
    have HS := Aside0.mk HI.out.2.2.2.2
    obtain ⟨ad, ea, hx0⟩ := Kd.at_int HR0.out i p0 q0
    cases ea
    have hx := (HB.out.cell (World.block_lt_of_cell? w _ hx0)).trans hx0
    have HP := Aside0.mk (And.intro p0 q0)
    replace p0 := eq_true p0
    replace q0 := eq_true q0
    clear c1
    by_cases c2 : rd l0 i = 10
    case pos =>
      have c2' : (rd l0 i == 10) = true := beq_iff_eq.mpr c2
      have HE : Aside0 (linesL l0 = (xs ++ [⟨s, i, i, i + 1⟩]) ++ linesF l0 kk (i + 1) (i + 1)) := ⟨by rw [HS.out]; simp only [linesF, if_pos HP.out.2, if_pos c2, List.append_assoc, List.singleton_append]⟩
      have HW := Aside0.mk hW1
      clear c2 hW1 hW2
      go_wp2_with ((with_reducible refine gate_builtin (b := .append) (xs := #[.tmp 18, .tmp 25]) rfl ?_); (try (refine gate_guard (by rfl) ?_; dsimp only)); at_builtin; refine Kd.R_append k144 (w0 := w) w.heap.size rfl (.tmp 18) (.tmp 25) 141 144 (.agg #[(.int .i64 0), (.int .i64 0), (.int .i64 0), (.int .i64 0)]) 32 rfl Tryd.underlying141 info144 rfl (by decide) (by omega) u3 xs (⟨s, i, i, wrap64 (i + 1)⟩ : S144) [.int .i64 s, .int .i64 i, .int .i64 i, .int .i64 (wrap64 (i + 1))] (fun _ => True) (fun _ => False) rfl rfl ?aP (fun _ hk => hk.elim) ?aF ?aO ?aB ?aS ?aL ?_; (case aP => exact k144_mkM _ _ _ (⟨s, i, i, wrap64 (i + 1)⟩ : S144)); (case aB => exact HB.out); (case aF => exact (fun _ _ => trivial)); (case aO => exact HO.out); (case aS => exact (below_size HB.out)); (case aL => have := HI.out; have := HC0.out; omega); intro v7 w15 ho hb hg hat; have HB := Aside0.mk hb; have HO := Aside0.mk ho; clear hb ho hg hat)
      go_roundg kk
      case measure => omega
      case rel => exact ⟨xs ++ [⟨s, i, i, i + 1⟩], i + 1, i + 1, by rw [HW.out], by rw [HW.out], ⟨by have := HP.out; omega, by have := HP.out; omega, by have := HI.out; omega, by have := HI.out; simp; omega, HE.out⟩, ⟨by have h_ := HO.out; rw [HW.out] at h_; exact h_⟩, HB⟩
    have c2' : (rd l0 i == 10) = false := beq_eq_false_iff_ne.mpr c2
    by_cases c3 : rd l0 i = 13
    case neg =>
      have c3' : (rd l0 i == 13) = false := beq_eq_false_iff_ne.mpr c3
      have HE : Aside0 (linesL l0 = xs ++ linesF l0 kk (i + 1) s) := ⟨by rw [HS.out]; simp only [linesF, if_pos HP.out.2, if_neg c2, if_neg c3]⟩
      have HW := Aside0.mk hW1
      clear c2 c3 hW1 hW2
      go_wp2
      go_roundg kk
      case measure => omega
      case rel => exact ⟨xs, s, i + 1, rfl, by rw [HW.out], ⟨by have := HP.out; omega, by have := HP.out; omega, by have := HI.out; omega, by have := HI.out; omega, HE.out⟩, HO, HB⟩
    have c3' : (rd l0 i == 13) = true := beq_iff_eq.mpr c3
    by_cases c4 : i + 1 < (l0.length : Int)
    case neg =>
      have c4' : decide (wrap64 (i + 1) < (l0.length : Int)) = false := decide_eq_false (by rw [hW1]; exact c4)
      have HE : Aside0 (linesL l0 = (xs ++ [⟨s, i, i, i + 1⟩]) ++ linesF l0 kk (i + 1) (i + 1)) := ⟨by rw [HS.out]; simp only [linesF, if_pos HP.out.2, if_neg c2, if_pos c3, c4, false_and, if_false, List.append_assoc, List.singleton_append]⟩
      have HW := Aside0.mk hW1
      clear c2 c3 c4 hW1 hW2
      go_wp2_with ((with_reducible refine gate_builtin (b := .append) (xs := #[.tmp 54, .tmp 61]) rfl ?_); (try (refine gate_guard (by rfl) ?_; dsimp only)); at_builtin; refine Kd.R_append k144 (w0 := w) w.heap.size rfl (.tmp 54) (.tmp 61) 141 144 (.agg #[(.int .i64 0), (.int .i64 0), (.int .i64 0), (.int .i64 0)]) 32 rfl Tryd.underlying141 info144 rfl (by decide) (by omega) u3 xs (⟨s, i, i, wrap64 (i + 1)⟩ : S144) [.int .i64 s, .int .i64 i, .int .i64 i, .int .i64 (wrap64 (i + 1))] (fun _ => True) (fun _ => False) rfl rfl ?aP (fun _ hk => hk.elim) ?aF ?aO ?aB ?aS ?aL ?_; (case aP => exact k144_mkM _ _ _ (⟨s, i, i, wrap64 (i + 1)⟩ : S144)); (case aB => exact HB.out); (case aF => exact (fun _ _ => trivial)); (case aO => exact HO.out); (case aS => exact (below_size HB.out)); (case aL => have := HI.out; have := HC0.out; omega); intro v7 w15 ho hb hg hat; have HB := Aside0.mk hb; have HO := Aside0.mk ho; clear hb ho hg hat)
      go_roundg kk
      case measure => omega
      case rel => exact ⟨xs ++ [⟨s, i, i, i + 1⟩], i + 1, i + 1, by rw [HW.out], by rw [HW.out], ⟨by have := HP.out; omega, by have := HP.out; omega, by have := HI.out; omega, by have := HI.out; simp; omega, HE.out⟩, ⟨by have h_ := HO.out; rw [HW.out] at h_; exact h_⟩, HB⟩
    have c4' : decide (wrap64 (i + 1) < (l0.length : Int)) = true := decide_eq_true (by rw [hW1]; exact c4)
    have p1 : 0 ≤ wrap64 (i + 1) := by rw [hW1]; have := HP.out; omega
    have q1 : wrap64 (i + 1) < (l0.length : Int) := by rw [hW1]; exact c4
    obtain ⟨ad1, ea1, hx1⟩ := Kd.at_int HR0.out (wrap64 (i + 1)) p1 q1
    obtain rfl : ad = ad1 := (by injection ea1)
    have hx2 := (HB.out.cell (World.block_lt_of_cell? w _ hx1)).trans hx1
    have HP1 := Aside0.mk q1
    replace p1 := eq_true p1
    replace q1 := eq_true q1
    by_cases c5 : rd l0 (i + 1) = 10
    · have c5' : (rd l0 (wrap64 (i + 1)) == 10) = true := beq_iff_eq.mpr (by rw [hW1]; exact c5)
      have HE : Aside0 (linesL l0 = (xs ++ [⟨s, i, i + 1, i + 2⟩]) ++ linesF l0 kk (i + 2) (i + 2)) := ⟨by rw [HS.out]; simp only [linesF, if_pos HP.out.2, if_neg c2, if_pos c3, c4, c5, and_self, if_true, List.append_assoc, List.singleton_append]⟩
      have HW := Aside0.mk hW1
      have HW2 := Aside0.mk hW2
      have HW3 : Aside0 (wrap64 (wrap64 (i + 1) + 1) = i + 2) := ⟨by
        rw [hW1]
        have := HC0.out
        have := HP.out
        unfold wrap64
        omega⟩
      have HC4 := Aside0.mk c4
      clear c2 c3 c4 c5 hW1 hW2
      go_wp2_with ((with_reducible refine gate_builtin (b := .append) (xs := #[.tmp 42, .tmp 50]) rfl ?_); (try (refine gate_guard (by rfl) ?_; dsimp only)); at_builtin; refine Kd.R_append k144 (w0 := w) w.heap.size rfl (.tmp 42) (.tmp 50) 141 144 (.agg #[(.int .i64 0), (.int .i64 0), (.int .i64 0), (.int .i64 0)]) 32 rfl Tryd.underlying141 info144 rfl (by decide) (by omega) u3 xs (⟨s, i, wrap64 (i + 1), wrap64 (i + 2)⟩ : S144) [.int .i64 s, .int .i64 i, .int .i64 (wrap64 (i + 1)), .int .i64 (wrap64 (i + 2))] (fun _ => True) (fun _ => False) rfl rfl ?aP (fun _ hk => hk.elim) ?aF ?aO ?aB ?aS ?aL ?_; (case aP => exact k144_mkM _ _ _ (⟨s, i, wrap64 (i + 1), wrap64 (i + 2)⟩ : S144)); (case aB => exact HB.out); (case aF => exact (fun _ _ => trivial)); (case aO => exact HO.out); (case aS => exact (below_size HB.out)); (case aL => have := HI.out; have := HC0.out; omega); intro v7 w15 ho hb hg hat; have HB := Aside0.mk hb; have HO := Aside0.mk ho; clear hb ho hg hat)
      go_roundg kk
      case measure => omega
      case rel => exact ⟨xs ++ [⟨s, i, i + 1, i + 2⟩], i + 2, i + 2, by rw [HW3.out], by rw [HW3.out], ⟨by have := HP.out; omega, by have := HC4.out; omega, by have := HI.out; omega, by have := HI.out; simp; omega, HE.out⟩, ⟨by have h_ := HO.out; rw [HW.out, HW2.out] at h_; exact h_⟩, HB⟩
    · have c5' : (rd l0 (wrap64 (i + 1)) == 10) = false := beq_eq_false_iff_ne.mpr (by rw [hW1]; exact c5)
      have HE : Aside0 (linesL l0 = (xs ++ [⟨s, i, i, i + 1⟩]) ++ linesF l0 kk (i + 1) (i + 1)) := ⟨by rw [HS.out]; simp only [linesF, if_pos HP.out.2, if_neg c2, if_pos c3, c5, and_false, if_false, List.append_assoc, List.singleton_append]⟩
      have HW := Aside0.mk hW1
      clear c2 c3 c4 c5 hW1 hW2
      go_wp2_with ((with_reducible refine gate_builtin (b := .append) (xs := #[.tmp 54, .tmp 61]) rfl ?_); (try (refine gate_guard (by rfl) ?_; dsimp only)); at_builtin; refine Kd.R_append k144 (w0 := w) w.heap.size rfl (.tmp 54) (.tmp 61) 141 144 (.agg #[(.int .i64 0), (.int .i64 0), (.int .i64 0), (.int .i64 0)]) 32 rfl Tryd.underlying141 info144 rfl (by decide) (by omega) u3 xs (⟨s, i, i, wrap64 (i + 1)⟩ : S144) [.int .i64 s, .int .i64 i, .int .i64 i, .int .i64 (wrap64 (i + 1))] (fun _ => True) (fun _ => False) rfl rfl ?aP (fun _ hk => hk.elim) ?aF ?aO ?aB ?aS ?aL ?_; (case aP => exact k144_mkM _ _ _ (⟨s, i, i, wrap64 (i + 1)⟩ : S144)); (case aB => exact HB.out); (case aF => exact (fun _ _ => trivial)); (case aO => exact HO.out); (case aS => exact (below_size HB.out)); (case aL => have := HI.out; have := HC0.out; omega); intro v7 w15 ho hb hg hat; have HB := Aside0.mk hb; have HO := Aside0.mk ho; clear hb ho hg hat)
      go_roundg kk
      case measure => omega
      case rel => exact ⟨xs ++ [⟨s, i, i, i + 1⟩], i + 1, i + 1, by rw [HW.out], by rw [HW.out], ⟨by have := HP.out; omega, by have := HP.out; omega, by have := HI.out; omega, by have := HI.out; simp; omega, HE.out⟩, ⟨by have h_ := HO.out; rw [HW.out] at h_; exact h_⟩, HB⟩
end Go.Proofs.YtbomhpfckplgaaaDoor.P
namespace Go.Proofs.YtbomhpfckplgaaaDoor.P
open Go.RowKit Go.Proofs.YtbomhpfckplgaaaDoorW.PrintWords Go.Proofs.YtbomhpfckplgaaaDoorW.PrintLast Go.Proofs.YtbomhpfckplgaaaDoorW.PrintMore
attribute [local go_sem] max2_int min2_int max_two min_two max_three min_three max_four min_four   -- for this text's walks alone
set_option linter.unusedVariables false
set_option linter.unusedSimpArgs false
def lines_Starts.l0 : Nat → List Int → List (S144) → Int → Int → Option (List Int)
 | 0, _, _, _, _ => none
 | k + 1, x3, x7, x8, x9 => if x9 < x8 then (if 0 ≤ x9 then (if x9 < (x7.length : Int) then (if x3.length < 17592186044416 then (lines_Starts.l0 k (x3 ++ [(rd_T144 x7 x9).f0]) x7 x8 (wrap64 (x9 + 1))) else (none)) else (none)) else (none)) else (some x3)
def lines_Starts.f (k : Nat) (l0 : List Int) : Option (List Int) := (lines_all.f l0).bind fun t333 => (lines_Starts.l0 k ([] : List Int) t333 (t333.length : Int) 0)
set_option maxHeartbeats 8000000 in
set_option maxRecDepth 100000 in
theorem lines_Starts.calls (k : Nat) (A0 : Option Addr) (c0 : Nat) (l0 : List Int) (r : List Int) (w : World) (hr0 : Kd.C (Kd.int .u8) w A0 l0.length l0) (hc0 : l0.length ≤ c0) (h : lines_Starts.f k l0 = some r) :
  Calls Tryd.prog 61 #[.slice A0 l0.length c0] w fun e w' => ∃ v0_ : Value, e = .returned (v0_) ∧ Kd.R (Kd.int .i64) 3 w' w.heap.size (fun _ => True) v0_ r ∧ Below w.heap.size w w' := by
 have hu144 := Tryd.underlying144
 have HR0 := Aside0.mk hr0
 have HC0 := Aside0.mk hc0
 clear hr0 hc0
 have HB := Aside0.mk (Below.refl w.heap.size w)
 have H : ((lines_all.f l0).bind fun t333 => (lines_Starts.l0 k ([] : List Int) t333 (t333.length : Int) 0)) = some r := h
 clear h
 replace H := Option.bind_eq_some_iff.mp H
 obtain ⟨t333, A20, H⟩ := H
 replace H : (lines_Starts.l0 k ([] : List Int) t333 (t333.length : Int) 0) = some r := H
 have A2 := Aside0.mk A20
 clear A20
 have H' := Aside0.mk H
 clear H
 go_enter Tryd.func61, Tryd.ntmps61
 go_wp2_with (first | ((with_reducible refine gate_callee (f := 102) rfl ?_); refine goesL_ (some 7) rfl rfl Tryd.func102 (by kernel_rfl) rfl #[.slice A0 l0.length c0] rfl (by (try simp only [List.map_toArray, List.map_cons, List.map_nil]); first | done | rfl | (simp only [List.length_drop, List.length_take]; rfl)) ?_; (with_reducible refine (lines_all.calls _ _ l0 t333 _ ?side1 ?side2 A2.out).mono ?_); (case side1 => repeat (first | exact HR0.out | (with_reducible refine Kd.C_alloc ?_ _) | (with_reducible refine Kd.C_drewN ?_ _) | (with_reducible refine Kd.C_drew ?_))); (case side2 => exact HC0.out); rintro e w3 ⟨v334, rfl, ho0, hb⟩; refine ⟨_, rfl, ?_⟩; have n0_ := Aside0.mk (Kd.R_lower ho0 (below_size (by repeat (first | (with_reducible first | exact HB.out | apply below_alloc | apply pw_below_drewN | apply below_drew1) | exact HB.out)))); have n1_ := Aside0.mk (below_step (by repeat (first | (with_reducible first | exact HB.out | apply below_alloc | apply pw_below_drewN | apply below_drew1) | exact HB.out)) hb); clear HB; have HO335 := n0_; have HB := n1_; clear n0_ n1_; (try clear hb); (try clear hb2); (try clear hk); (try clear hi); (try clear ho0); obtain ⟨Ao4, co4, eo4⟩ := Kd.R_slice HO335.out; subst eo4))
 go_loopg [3, 9] k (fun kq v3 v9 w' => ∃ (x3_1 : List Int) (x9_1 : Int), v9 = .int .i64 x9_1 ∧ Aside0 (lines_Starts.l0 kq x3_1 t333 (t333.length : Int) x9_1 = some r) ∧ Aside0 (kq ≤ k) ∧ Aside0 (Kd.R (Kd.int .i64) 3 w' w.heap.size (fun _ => True) v3 x3_1) ∧ Aside0 (Kd.R k144 144 w' w.heap.size (fun _ => True) (.slice Ao4 t333.length co4) t333) ∧ Aside0 (Below w.heap.size w w'))
 case atStart => exact ⟨(([] : List Int)), (0), (by first | rfl | (simp; done) | (simp [*]; done)), H', ⟨Nat.le_refl _⟩, ⟨by first | exact Kd.R_nil _ _ _ _ _ | exact Kd.N_nil _ _ _ _ _ | exact Kd.V_nil _ _ _ _ _ | exact Kd.Q_nil _ _ _ _ _ | exact Kd.S_nil _ _ _ _ _⟩, ⟨by (with_reducible repeat (first | apply Kd.R_alloc | apply Kd.R_drewN | apply Kd.R_drew)); exact HO335.out⟩, ⟨by repeat (first | (with_reducible first | exact HB.out | apply below_alloc | apply pw_below_drewN | apply below_drew1) | exact HB.out)⟩⟩
 case round =>
  clear H'
  (try clear c1); (try clear p2)
  obtain ⟨x3_1, x9_1, rfl, HA, HK1, HO_3, HO_7, HB⟩ := hrel
  cases gk with
  | zero => exact absurd HA.out (by simp [lines_Starts.l0])
  | succ k1 =>
   have H := HA.out
   clear HA
   simp only [lines_Starts.l0] at H
   by_cases c5 : x9_1 < (t333.length : Int)
   ·
    rw [if_pos c5] at H
    have c5b0 : decide (x9_1 < (t333.length : Int)) = true := decide_eq_true c5
    clear c5
    by_cases c6 : 0 ≤ x9_1
    ·
     rw [if_pos c6] at H
     have c6b0 : decide (0 ≤ x9_1) = true := decide_eq_true c6
     clear c6
     by_cases c7 : x9_1 < (t333.length : Int)
     ·
      rw [if_pos c7] at H
      have c7b0 : decide (x9_1 < (t333.length : Int)) = true := decide_eq_true c7
      clear c7
      by_cases c8 : x3_1.length < 17592186044416
      ·
       rw [if_pos c8] at H
       have LMc8 := Aside0.mk c8
       clear c8
       obtain ⟨y338, hy338⟩ : ∃ y_ : List Int, y_ = (x3_1 ++ [(rd_T144 t333 x9_1).f0]) := ⟨_, rfl⟩
       replace H : (lines_Starts.l0 k1 y338 t333 (t333.length : Int) (wrap64 (x9_1 + 1))) = some r := by first | (rw [hy338]; with_reducible exact H) | (have H2_ := (Option.bind_some _ _).symm.trans H; rw [hy338]; with_reducible exact H2_) | (have H2_ := (Option.bind_some _ _).symm.trans H; with_reducible exact H2_) | with_reducible exact H | (rw [hy338]; exact H) | exact H
       have Ny338 := Aside0.mk hy338
       clear hy338
       have H' := Aside0.mk H
       clear H
       have p336 : 0 ≤ (x9_1 : Int) := of_decide_eq_true (by first | (with_reducible assumption) | assumption)
       have q336 : x9_1 < (t333.length : Int) := of_decide_eq_true (by first | (with_reducible assumption) | assumption)
       obtain ⟨ad336, e336, hx336_0, hx336_1, hx336_2, hx336_3⟩ := at_T144 (Kd.R_reads' HO_7.out).2.2 x9_1 p336 q336
       cases e336
       replace p336 := eq_true p336
       replace q336 := eq_true q336
       go_wp2_with (first | ((with_reducible refine gate_dst (N := 5) rfl ?_); refine box_event ?hg (N := 5) ?hd (cs := #[.int .i64 0, .int .i64 0, .int .i64 0, .int .i64 0]) (t := 144) ?hr ?_; (case hd => rfl); (case hg => rfl); (case hr => first | (go_simp; done) | (go_simp; rfl)); intro gb337 hg w9 hbox hb; have n0_ := Aside0.mk (Kd.R_below (by (with_reducible repeat (first | apply Kd.R_alloc | apply Kd.R_drewN | apply Kd.R_drew)); exact HO_3.out) hb); have n1_ := Aside0.mk (Kd.R_below (Kd.R_elderB (by (with_reducible repeat (first | apply Kd.R_alloc | apply Kd.R_drewN | apply Kd.R_drew)); exact HO_7.out) gb337 (Nat.le_of_eq hg.symm)) hb); have n2_ := Aside0.mk (below_step (by repeat (first | (with_reducible first | exact HB.out | apply below_alloc | apply pw_below_drewN | apply below_drew1) | exact HB.out)) hb); have n3_ := Aside0.mk (hbox); have n4_ := Aside0.mk ((by rw [hg]; exact (below_size (by repeat (first | (with_reducible first | exact HB.out | apply below_alloc | apply pw_below_drewN | apply below_drew1) | exact HB.out))) : w.heap.size ≤ gb337)); have n5_ := Aside0.mk ((by rw [hg]; exact (below_size (by repeat (first | (with_reducible first | exact HB.out | apply below_alloc | apply pw_below_drewN | apply below_drew1) | exact HB.out))) : w.heap.size ≤ gb337)); clear HO_3; clear HO_7; clear HB; have HO_3 := n0_; have HO_7 := n1_; have HB := n2_; have BK337 := n3_; have GW337 := n4_; have GE337 := n5_; clear n0_ n1_ n2_ n3_ n4_ n5_; clear hb hbox hg; have hcz10_0 : w9.cell? ⟨gb337, 0, none⟩ = some (.int .i64 0) := (blk_cell BK337.out 0).trans rfl; have hcz10_1 : w9.cell? ⟨gb337, 1, none⟩ = some (.int .i64 0) := (blk_cell BK337.out 1).trans rfl; have hcz10_2 : w9.cell? ⟨gb337, 2, none⟩ = some (.int .i64 0) := (blk_cell BK337.out 2).trans rfl; have hcz10_3 : w9.cell? ⟨gb337, 3, none⟩ = some (.int .i64 0) := (blk_cell BK337.out 3).trans rfl; have hfz10_0 := blk_frozen BK337.out 0; have hfz10_1 := blk_frozen BK337.out 1; have hfz10_2 := blk_frozen BK337.out 2; have hfz10_3 := blk_frozen BK337.out 3) | ((with_reducible refine gate_builtin (b := .append) (xs := #[.tmp 13, .tmp 16]) rfl ?_); at_builtin; refine Kd.R_append (Kd.int .i64) (w0 := w) w.heap.size rfl (.tmp 13) (.tmp 16) 29 3 (.int .i64 0) 8 rfl Tryd.underlying29 info3 rfl (by decide) (by omega) u3 x3_1 ((rd_T144 t333 x9_1).f0) [.int .i64 ((rd_T144 t333 x9_1).f0)] (fun _ => True) (fun _ => False) rfl (by first | (go_simp; done) | (go_simp; rfl)) ?aP (fun _ hk => hk.elim) ?aF ?aO ?aB ?aS ?aL ?_; (case aP => exact rfl); (case aB => exact (by repeat (first | (with_reducible first | exact HB.out | apply below_alloc | apply pw_below_drewN | apply below_drew1 | refine below_set ?_ GE337.out) | exact HB.out))); (case aF => exact (fun _ _ => trivial)); (case aO => exact (by (with_reducible repeat (first | apply Kd.R_alloc | apply Kd.R_drewN | apply Kd.R_drew)); exact Kd.R_mono (Kd.R_far (p := ⟨gb337, 3, none⟩) (Kd.R_far (p := ⟨gb337, 2, none⟩) (Kd.R_far (p := ⟨gb337, 1, none⟩) (Kd.R_far (p := ⟨gb337, 0, none⟩) (Kd.R_types HO_3.out BK337.out (by decide)) (fun _ hk => hk.2) (.int .i64 ((rd_T144 t333 x9_1).f0))) (fun _ hk => hk.2) (.int .i64 ((rd_T144 t333 x9_1).f1))) (fun _ hk => hk.2) (.int .i64 ((rd_T144 t333 x9_1).f2))) (fun _ hk => hk.2) (.int .i64 ((rd_T144 t333 x9_1).f3))) (fun _ hk => trivial))); (case aS => exact (below_size (by repeat (first | (with_reducible first | exact HB.out | apply below_alloc | apply pw_below_drewN | apply below_drew1 | refine below_set ?_ GE337.out) | exact HB.out)))); (case aL => have := LMc8.out; omega); intro v339 w11 ho hb hg hat; rw [← Ny338.out] at ho; have n0_ := Aside0.mk (Kd.R_over' (by (with_reducible repeat (first | apply Kd.R_alloc | apply Kd.R_drewN | apply Kd.R_drew)); exact (Kd.R_mono (Kd.R_far (p := ⟨gb337, 3, none⟩) (Kd.R_far (p := ⟨gb337, 2, none⟩) (Kd.R_far (p := ⟨gb337, 1, none⟩) (Kd.R_far (p := ⟨gb337, 0, none⟩) (Kd.R_mono HO_7.out (fun k_ hk => (⟨hk, hk.2⟩ : _ ∧ k_ ≠ gb337))) (fun _ hk => hk.2) (.int .i64 ((rd_T144 t333 x9_1).f0))) (fun _ hk => hk.2) (.int .i64 ((rd_T144 t333 x9_1).f1))) (fun _ hk => hk.2) (.int .i64 ((rd_T144 t333 x9_1).f2))) (fun _ hk => hk.2) (.int .i64 ((rd_T144 t333 x9_1).f3))) (fun _ h_ => h_.1))) (Kd.R_typed (by (with_reducible repeat (first | apply Kd.R_alloc | apply Kd.R_drewN | apply Kd.R_drew)); exact (Kd.R_mono (Kd.R_far (p := ⟨gb337, 3, none⟩) (Kd.R_far (p := ⟨gb337, 2, none⟩) (Kd.R_far (p := ⟨gb337, 1, none⟩) (Kd.R_far (p := ⟨gb337, 0, none⟩) (Kd.R_types HO_3.out BK337.out (by decide)) (fun _ hk => hk.2) (.int .i64 ((rd_T144 t333 x9_1).f0))) (fun _ hk => hk.2) (.int .i64 ((rd_T144 t333 x9_1).f1))) (fun _ hk => hk.2) (.int .i64 ((rd_T144 t333 x9_1).f2))) (fun _ hk => hk.2) (.int .i64 ((rd_T144 t333 x9_1).f3))) (fun _ h_ => h_.1)))) (by decide) hg); have n1_ := Aside0.mk (blk_grown (g := gb337) (o := .cells #[.int .i64 ((rd_T144 t333 x9_1).f0), .int .i64 ((rd_T144 t333 x9_1).f1), .int .i64 ((rd_T144 t333 x9_1).f2), .int .i64 ((rd_T144 t333 x9_1).f3)] 144 (0, 0)) (by (with_reducible repeat (first | refine blk_drewN ?_ _ | refine blk_drew ?_ | refine blk_alloc ?_ _)); refine blk_put (cs := #[.int .i64 ((rd_T144 t333 x9_1).f0), .int .i64 ((rd_T144 t333 x9_1).f1), .int .i64 ((rd_T144 t333 x9_1).f2), .int .i64 0]) ?_ 3 _ rfl; (with_reducible repeat (first | refine blk_drewN ?_ _ | refine blk_drew ?_ | refine blk_alloc ?_ _)); refine blk_put (cs := #[.int .i64 ((rd_T144 t333 x9_1).f0), .int .i64 ((rd_T144 t333 x9_1).f1), .int .i64 0, .int .i64 0]) ?_ 2 _ rfl; (with_reducible repeat (first | refine blk_drewN ?_ _ | refine blk_drew ?_ | refine blk_alloc ?_ _)); refine blk_put (cs := #[.int .i64 ((rd_T144 t333 x9_1).f0), .int .i64 0, .int .i64 0, .int .i64 0]) ?_ 1 _ rfl; (with_reducible repeat (first | refine blk_drewN ?_ _ | refine blk_drew ?_ | refine blk_alloc ?_ _)); refine blk_put (cs := #[.int .i64 0, .int .i64 0, .int .i64 0, .int .i64 0]) ?_ 0 _ rfl; (with_reducible repeat (first | refine blk_drewN ?_ _ | refine blk_drew ?_ | refine blk_alloc ?_ _)); exact BK337.out) hg (Kd.R_ne HO_3.out BK337.out (by decide))); have n2_ := Aside0.mk (hb); have n3_ := Aside0.mk (ho); clear HO_7; clear BK337; clear HB; clear HO_3; have HO_7 := n0_; have BK337 := n1_; have HB := n2_; have HO340 := n3_; clear n0_ n1_ n2_ n3_; clear ho hb hg hat))
       go_roundg k1
       case measure => have := HK1.out; omega
       case rel => exact ⟨(y338), (wrap64 (x9_1 + 1)), (by first | rfl | (simp; done) | (simp [*]; done)), H', ⟨by have := HK1.out; omega⟩, ⟨by (with_reducible repeat (first | apply Kd.R_alloc | apply Kd.R_drewN | apply Kd.R_drew)); exact HO340.out⟩, ⟨by (with_reducible repeat (first | apply Kd.R_alloc | apply Kd.R_drewN | apply Kd.R_drew)); exact Kd.R_mono HO_7.out (fun _ hk => trivial)⟩, ⟨by repeat (first | (with_reducible first | exact HB.out | apply below_alloc | apply pw_below_drewN | apply below_drew1 | refine below_set ?_ GE337.out) | exact HB.out)⟩⟩
      ·
       rw [if_neg c8] at H
       exact absurd H (by simp)
     ·
      rw [if_neg c7] at H
      exact absurd H (by simp)
    ·
     rw [if_neg c6] at H
     exact absurd H (by simp)
   ·
    rw [if_neg c5] at H
    have c5b0 : decide (x9_1 < (t333.length : Int)) = false := decide_eq_false c5
    clear c5
    obtain rfl := Option.some.inj H
    go_wp2
    go_ret
    exact ⟨_, by first | rfl | (simp [errW_none, errW_some] <;> rfl) | (simp [*, errW_none, errW_some] <;> rfl), by (with_reducible repeat (first | apply Kd.R_alloc | apply Kd.R_drewN | apply Kd.R_drew)); exact HO_3.out, by repeat (first | (with_reducible first | exact HB.out | apply below_alloc | apply pw_below_drewN | apply below_drew1) | exact HB.out)⟩
end Go.Proofs.YtbomhpfckplgaaaDoor.P
namespace Go.Proofs.YtbomhpfckplgaaaDoor.P
open Go.RowKit Go.Proofs.YtbomhpfckplgaaaDoorW.PrintWords Go.Proofs.YtbomhpfckplgaaaDoorW.PrintLast Go.Proofs.YtbomhpfckplgaaaDoorW.PrintMore
attribute [local go_sem] max2_int min2_int max_two min_two max_three min_three max_four min_four   -- for this text's walks alone
set_option linter.unusedVariables false
set_option linter.unusedSimpArgs false
def step_at.f (l0 : List Int) (a1 : Int) : Option (Int × Int × Bool) := if 0 ≤ a1 then (if a1 ≤ (mn (wrap64 (a1 + 4)) (l0.length : Int)) then (if (mn (wrap64 (a1 + 4)) (l0.length : Int)) ≤ (l0.length : Int) then ((step_first.f (strOfNums ((l0.take ((mn (wrap64 (a1 + 4)) (l0.length : Int)) : Int).toNat).drop (a1 : Int).toNat))).bind fun bt639 => (some (bt639.1, bt639.2.1, bt639.2.2))) else (none)) else (none)) else (none)
set_option maxHeartbeats 8000000 in
set_option maxRecDepth 100000 in
theorem step_at.calls (A0 : Option Addr) (c0 : Nat) (l0 : List Int) (a1 : Int) (r1 : Int) (r2 : Int) (r3 : Bool) (w : World) (hr0 : Kd.C (Kd.int .u8) w A0 l0.length l0) (hc0 : l0.length ≤ c0) (hG : Laid w) (h : step_at.f l0 a1 = some (r1, r2, r3)) :
  Calls Tryd.prog 135 #[.slice A0 l0.length c0, .int .i64 a1] w fun e w' => e = .returned (.agg #[.int .i32 r1, .int .i64 r2, .bool r3]) ∧ Below w.heap.size w w' := by
 have hu121 := Tryd.underlying121
 have HG := Aside0.mk hG
 clear hG
 have HR0 := Aside0.mk hr0
 have HC0 := Aside0.mk hc0
 clear hr0 hc0
 have HB := Aside0.mk (Below.refl w.heap.size w)
 have H : (if 0 ≤ a1 then (if a1 ≤ (mn (wrap64 (a1 + 4)) (l0.length : Int)) then (if (mn (wrap64 (a1 + 4)) (l0.length : Int)) ≤ (l0.length : Int) then ((step_first.f (strOfNums ((l0.take ((mn (wrap64 (a1 + 4)) (l0.length : Int)) : Int).toNat).drop (a1 : Int).toNat))).bind fun bt639 => (some (bt639.1, bt639.2.1, bt639.2.2))) else (none)) else (none)) else (none)) = some (r1, r2, r3) := h
 clear h
 obtain ⟨ji3, hji3⟩ : ∃ j_ : Int, (mn (wrap64 (a1 + 4)) (l0.length : Int)) = j_ := ⟨_, rfl⟩
 replace H : (if 0 ≤ a1 then (if a1 ≤ (ji3) then (if (ji3) ≤ (l0.length : Int) then ((step_first.f (strOfNums ((l0.take ((ji3) : Int).toNat).drop (a1 : Int).toNat))).bind fun bt639 => (some (bt639.1, bt639.2.1, bt639.2.2))) else (none)) else (none)) else (none)) = some (r1, r2, r3) := by first | (rw [hji3] at H; exact H) | (simp only [hji3] at H ⊢; exact H)
 have hji3_ : (if (l0.length : Int) < (wrap64 (a1 + 4)) then (l0.length : Int) else (wrap64 (a1 + 4))) = ji3 := hji3
 by_cases c4 : 0 ≤ a1
 ·
  rw [if_pos c4] at H
  have c4b0 := eq_true c4
  have c4b1 : decide (0 ≤ a1) = true := decide_eq_true c4
  clear c4
  by_cases c5 : a1 ≤ (ji3)
  ·
   rw [if_pos c5] at H
   have c5b0 := eq_true c5
   have c5b1 : decide (a1 ≤ (ji3)) = true := decide_eq_true c5
   clear c5
   by_cases c6 : (ji3) ≤ (l0.length : Int)
   ·
    rw [if_pos c6] at H
    have c6b0 := eq_true c6
    have c6b1 : decide ((ji3) ≤ (l0.length : Int)) = true := decide_eq_true c6
    clear c6
    replace H := Option.bind_eq_some_iff.mp H
    obtain ⟨⟨t639, t640, t641⟩, A70, H⟩ := H
    replace H : (some (t639, t640, t641)) = some (r1, r2, r3) := H
    have A7 := Aside0.mk A70
    clear A70
    simp only [Option.some.injEq, Prod.mk.injEq] at H
    obtain ⟨rfl, rfl, rfl⟩ := H
    go_enter Tryd.func135, Tryd.ntmps135
    go_wp2_with (first | ((with_reducible refine gate_dst (N := 4) rfl ?_); refine box_event ?hg (N := 4) ?hd (cs := #[.int .i32 0, .int .i64 0, .bool false]) (t := 121) ?hr ?_; (case hd => rfl); (case hg => rfl); (case hr => first | (go_simp; done) | (go_simp; rfl)); intro gb637 hg w8 hbox hb; have n0_ := Aside0.mk (below_step (by repeat (first | (with_reducible first | exact HB.out | apply below_alloc | apply pw_below_drewN | apply below_drew1) | exact HB.out)) hb); have n1_ := Aside0.mk (hbox); have n2_ := Aside0.mk ((by rw [hg]; exact (below_size (by repeat (first | (with_reducible first | exact HB.out | apply below_alloc | apply pw_below_drewN | apply below_drew1) | exact HB.out))) : w.heap.size ≤ gb637)); have n3_ := Aside0.mk ((by rw [hg]; exact (below_size (by repeat (first | (with_reducible first | exact HB.out | apply below_alloc | apply pw_below_drewN | apply below_drew1) | exact HB.out))) : w.heap.size ≤ gb637)); clear HB; have HB := n0_; have BK637 := n1_; have GW637 := n2_; have GE637 := n3_; clear n0_ n1_ n2_ n3_; clear hb hbox hg; obtain ⟨i09, hi09, _, hsz9, _⟩ := info_parts info5; obtain ⟨A9, hcut9, hA9, hC9⟩ := print_mid_of (P := Tryd.prog) (Value.int .u8) 0 22 5 .i64 .i64 Tryd.underlying22 hi09 hsz9 A0 c0 l0 a1 (ji3) (of_decide_eq_true (by first | (with_reducible assumption) | assumption)) (by first | omega | exact of_decide_eq_true (by first | (with_reducible assumption) | assumption)) (of_decide_eq_true (by first | (with_reducible assumption) | assumption)) HC0.out; have HR638 := Aside0.mk (Kd.C_of_reads (h1 := fun _ => rfl) (hA9 _ (Kd.reads_of_C HR0.out))); have HC638 := Aside0.mk hC9; clear hA9 hC9 hi09 hsz9; have hcv10 := Kd.C_string (P := Tryd.prog) (A := A9) (c := (c0 - a1.toNat)) Tryd.underlying22 Tryd.underlying5 Tryd.underlying9 (Kd.C_below HR638.out HB.out)); have hlen10 : ((l0.take ((ji3) : Int).toNat).drop (a1 : Int).toNat).length = ji3.toNat - a1.toNat := (by rw [List.length_drop, List.length_take]; have := of_decide_eq_true c6b1; omega); rw [hlen10] at hcv10 hcut9; clear hlen10 | ((with_reducible refine gate_callee (f := 127) rfl ?_); refine goesL_ (some 14) rfl rfl Tryd.func127 (by kernel_rfl) rfl #[.string (strOfNums ((l0.take ((ji3) : Int).toNat).drop (a1 : Int).toNat))] rfl (by (try simp only [List.map_toArray, List.map_cons, List.map_nil]); first | done | (simp only [hji3]; rfl) | rfl | (simp only [List.length_drop, List.length_take]; rfl)) ?_; (with_reducible refine (step_first.calls (strOfNums ((l0.take ((ji3) : Int).toNat).drop (a1 : Int).toNat)) t639 t640 t641 _ ?side1 A7.out).mono ?_); (case side1 => repeat (first | exact HG.out | exact Laid.below HG.out HB.out | (with_reducible refine Laid.alloc ?_ _) | (with_reducible refine Laid.drewN ?_ _) | (with_reducible refine Laid.drew ?_))); rintro e w11 ⟨rfl, hb⟩; refine ⟨_, rfl, ?_⟩; have n0_ := Aside0.mk (blk_below (g := gb637) (o := .cells #[.int .i32 0, .int .i64 0, .bool false] 121 (0, 0)) (by (with_reducible repeat (first | refine blk_drewN ?_ _ | refine blk_drew ?_ | refine blk_alloc ?_ _)); exact BK637.out) hb); have n1_ := Aside0.mk (below_step (by repeat (first | (with_reducible first | exact HB.out | apply below_alloc | apply pw_below_drewN | apply below_drew1 | refine below_set ?_ GE637.out) | exact HB.out)) hb); clear BK637; clear HB; have BK637 := n0_; have HB := n1_; clear n0_ n1_; (try clear hb); (try clear hb2); (try clear hk); (try clear hi); have hcz12_0 : w11.cell? ⟨gb637, 0, none⟩ = some (.int .i32 0) := (blk_cell BK637.out 0).trans rfl; have hcz12_1 : w11.cell? ⟨gb637, 1, none⟩ = some (.int .i64 0) := (blk_cell BK637.out 1).trans rfl; have hcz12_2 : w11.cell? ⟨gb637, 2, none⟩ = some (.bool false) := (blk_cell BK637.out 2).trans rfl; have hfz12_0 := blk_frozen BK637.out 0; have hfz12_1 := blk_frozen BK637.out 1; have hfz12_2 := blk_frozen BK637.out 2))
    refine bodyPost_ret (results_cell_row rfl _ _ gb637 121 #[.int .i32 t639, .int .i64 t640, .bool t641] (0, 0) _ rfl (by (with_reducible repeat (first | refine blk_drewN ?_ _ | refine blk_drew ?_ | refine blk_alloc ?_ _)); refine blk_put (cs := #[.int .i32 t639, .int .i64 t640, .bool false]) ?_ 2 _ rfl; (with_reducible repeat (first | refine blk_drewN ?_ _ | refine blk_drew ?_ | refine blk_alloc ?_ _)); refine blk_put (cs := #[.int .i32 t639, .int .i64 0, .bool false]) ?_ 1 _ rfl; (with_reducible repeat (first | refine blk_drewN ?_ _ | refine blk_drew ?_ | refine blk_alloc ?_ _)); refine blk_put (cs := #[.int .i32 0, .int .i64 0, .bool false]) ?_ 0 _ rfl; (with_reducible repeat (first | refine blk_drewN ?_ _ | refine blk_drew ?_ | refine blk_alloc ?_ _)); exact BK637.out) Tryd.underlying121 rfl (by kernel_rfl)) rfl ?_
    exact ⟨by first | rfl | (simp [errW_none, errW_some] <;> rfl) | (simp only [← hji3]; first | rfl | (simp [errW_none, errW_some] <;> rfl)) | (simp [*, errW_none, errW_some] <;> rfl), by repeat (first | (with_reducible first | exact HB.out | apply below_alloc | apply pw_below_drewN | apply below_drew1 | refine below_set ?_ GE637.out) | exact HB.out)⟩
   ·
    rw [if_neg c6] at H
    exact absurd H (by simp)
  ·
   rw [if_neg c5] at H
   exact absurd H (by simp)
 ·
  rw [if_neg c4] at H
  exact absurd H (by simp)
theorem run_field121 (W : World) (a b c : Value) : (Instr.field 121 (.agg #[a, b, c]) 1).run Tryd.prog W = .ok b W := by
 have h1 := run_underlying (P := Tryd.prog) (w := W) Tryd.underlying121
 unfold Instr.field
 simp [h1, part, asAgg]
mutual
def step_inside.l0 : Nat → List Int → Int → Int → Option (Int)
 | 0, _, _, _ => none
 | k + 1, x0, x1, x5 => if x5 ≤ 3 then (step_inside.j1 k x0 x1 x5 (decide (x5 ≤ x1))) else (step_inside.j1 k x0 x1 x5 false)
def step_inside.j1 : Nat → List Int → Int → Int → Bool → Option (Int)
 | 0, _, _, _, _ => none
 | k + 1, x0, x1, x5, x12 => if x12 = true then ((step_at.f x0 (wrap64 (x1 - x5))).bind fun bt642 => (if bt642.2.1 > x5 then (some x5) else (step_inside.l0 k x0 x1 (wrap64 (x5 + 1))))) else (some 0)
end
def step_inside.f (k : Nat) (l0 : List Int) (a1 : Int) : Option (Int) := step_inside.l0 k l0 a1 1
theorem step_inside.mono_l : ∀ k, (∀ y0 y1 y2, LeO (step_inside.l0 k y0 y1 y2) (step_inside.l0 (k + 1) y0 y1 y2)) ∧ (∀ y0 y1 y2 y3, LeO (step_inside.j1 k y0 y1 y2 y3) (step_inside.j1 (k + 1) y0 y1 y2 y3))
 | 0 => ⟨fun _ _ _ r h => by simp [step_inside.l0] at h, fun _ _ _ _ r h => by simp [step_inside.j1] at h⟩
 | k + 1 => by
  obtain ⟨ih0, ih1⟩ := step_inside.mono_l k
  refine ⟨?_, ?_⟩
  ·
   intro y0 y1 y2
   unfold step_inside.l0
   repeat' first
   | (with_reducible exact ih0 _ _ _)
   | (with_reducible exact ih1 _ _ _ _)
   | (with_reducible exact LeO.refl _)
   | (with_reducible exact LeO.none _)
   | (with_reducible refine LeO.ite ?_ ?_)
   | (with_reducible refine LeO.bind ?_ (fun _ => ?_))
   | exact ih0 _ _ _
   | exact ih1 _ _ _ _
   | exact LeO.none _
   | refine LeO.ite ?_ ?_
   | refine LeO.bind ?_ (fun _ => ?_)
  ·
   intro y0 y1 y2 y3
   unfold step_inside.j1
   repeat' first
   | (with_reducible exact ih0 _ _ _)
   | (with_reducible exact ih1 _ _ _ _)
   | (with_reducible exact LeO.refl _)
   | (with_reducible exact LeO.none _)
   | (with_reducible refine LeO.ite ?_ ?_)
   | (with_reducible refine LeO.bind ?_ (fun _ => ?_))
   | exact ih0 _ _ _
   | exact ih1 _ _ _ _
   | exact LeO.none _
   | refine LeO.ite ?_ ?_
   | refine LeO.bind ?_ (fun _ => ?_)
theorem step_inside.mono : ∀ a0 a1 k, LeO (step_inside.f k a0 a1) (step_inside.f (k + 1) a0 a1) := by
 intro a0 a1 k
 obtain ⟨ih0, ih1⟩ := step_inside.mono_l k
 unfold step_inside.f
 repeat' first
   | (with_reducible exact ih0 _ _ _)
   | (with_reducible exact ih1 _ _ _ _)
   | (with_reducible exact LeO.refl _)
   | (with_reducible exact LeO.none _)
   | (with_reducible refine LeO.ite ?_ ?_)
   | (with_reducible refine LeO.bind ?_ (fun _ => ?_))
   | exact ih0 _ _ _
   | exact ih1 _ _ _ _
   | exact LeO.none _
   | refine LeO.ite ?_ ?_
   | refine LeO.bind ?_ (fun _ => ?_)
set_option maxHeartbeats 8000000 in
set_option maxRecDepth 100000 in
theorem step_inside.calls (k : Nat) (A0 : Option Addr) (c0 : Nat) (l0 : List Int) (a1 : Int) (r : Int) (w : World) (hr0 : Kd.C (Kd.int .u8) w A0 l0.length l0) (hc0 : l0.length ≤ c0) (hG : Laid w) (h : step_inside.f k l0 a1 = some r) :
  Calls Tryd.prog 122 #[.slice A0 l0.length c0, .int .i64 a1] w fun e w' => e = .returned (.int .i64 r) ∧ Below w.heap.size w w' := by
 have hu121 := Tryd.underlying121
 have hfld := run_field121
 have HG := Aside0.mk hG
 clear hG
 have HR0 := Aside0.mk hr0
 have HC0 := Aside0.mk hc0
 clear hr0 hc0
 have HB := Aside0.mk (Below.refl w.heap.size w)
 have H : (step_inside.l0 k l0 a1 1) = some r := h
 clear h
 have H' := Aside0.mk H
 clear H
 go_enter Tryd.func122, Tryd.ntmps122
 go_wp2
 go_loopg [5] k (fun kq v5 w' => ∃ (x5_1 : Int), v5 = .int .i64 x5_1 ∧ Aside0 (step_inside.l0 kq l0 a1 x5_1 = some r) ∧ Aside0 (kq ≤ k) ∧ Aside0 (Below w.heap.size w w'))
 case atStart => exact ⟨(1), (by first | rfl | (simp; done) | (simp [*]; done)), H', ⟨Nat.le_refl _⟩, ⟨by repeat (first | (with_reducible first | exact HB.out | apply below_alloc | apply pw_below_drewN | apply below_drew1) | exact HB.out)⟩⟩
 case round =>
  clear H'
  (try clear c1); (try clear p2)
  obtain ⟨x5_1, rfl, HA, HK1, HB⟩ := hrel
  cases gk with
  | zero => exact absurd HA.out (by simp [step_inside.l0])
  | succ k1 =>
   have H := HA.out
   clear HA
   simp only [step_inside.l0] at H
   have HC3 := Aside0.mk H
   clear H
   go_upto_region 2 with (fail)
   go_cut [12] (fun v12 wc => ∃ (kq : Nat) (x12_2 : Bool), v12 = .bool x12_2 ∧ Aside0 (step_inside.j1 kq l0 a1 x5_1 x12_2 = some r) ∧ Aside0 (kq ≤ k1) ∧ Aside0 (Below w.heap.size w wc))
   case first =>
    have H := HC3.out
    clear HC3
    by_cases c4 : x5_1 ≤ 3
    ·
     rw [if_pos c4] at H
     have c4b0 : decide (x5_1 ≤ 3) = true := decide_eq_true c4
     clear c4
     (first | rw [c4b0] | (simp only [i64_w, i32_w]; rw [c4b0]) | skip)
     have H' := Aside0.mk H
     clear H
     go_wp2
     go_meet
     case rel => exact ⟨_, (decide (x5_1 ≤ a1)), (by first | rfl | (simp; done) | (simp [*]; done)), H', ⟨by have := HK1.out; first | omega | exact Nat.le_refl _⟩, ⟨by repeat (first | (with_reducible first | exact HB.out | apply below_alloc | apply pw_below_drewN | apply below_drew1) | exact HB.out)⟩⟩
    ·
     rw [if_neg c4] at H
     have c4b0 : decide (x5_1 ≤ 3) = false := decide_eq_false c4
     clear c4
     (first | rw [c4b0] | (simp only [i64_w, i32_w]; rw [c4b0]) | skip)
     have H' := Aside0.mk H
     clear H
     go_wp2
     go_meet
     case rel => exact ⟨_, (false), (by first | rfl | (simp; done) | (simp [*]; done)), H', ⟨by have := HK1.out; first | omega | exact Nat.le_refl _⟩, ⟨by repeat (first | (with_reducible first | exact HB.out | apply below_alloc | apply pw_below_drewN | apply below_drew1) | exact HB.out)⟩⟩
   case rest =>
    clear HC3
    (try clear c1); (try clear p2); (try clear c4); (try clear c4b0)
    obtain ⟨kq, x12_2, rfl, HA, HJ2, HB⟩ := hcut
    cases kq with
    | zero => exact absurd HA.out (by simp [step_inside.j1])
    | succ kj2 =>
     have H := HA.out
     clear HA
     simp only [step_inside.j1] at H
     by_cases c5 : x12_2 = true
     ·
      subst c5
      have H1 : ((step_at.f l0 (wrap64 (a1 - x5_1))).bind fun bt642 => (if bt642.2.1 > x5_1 then (some x5_1) else (step_inside.l0 kj2 l0 a1 (wrap64 (x5_1 + 1))))) = some r := by rw [if_pos rfl] at H; exact H
      clear H
      have H := H1
      clear H1
      replace H := Option.bind_eq_some_iff.mp H
      obtain ⟨⟨t642, t643, t644⟩, A60, H⟩ := H
      replace H : (if t643 > x5_1 then (some x5_1) else (step_inside.l0 kj2 l0 a1 (wrap64 (x5_1 + 1)))) = some r := H
      have A6 := Aside0.mk A60
      clear A60
      by_cases c7 : t643 > x5_1
      ·
       rw [if_pos c7] at H
       have c7b0 : decide (x5_1 < t643) = true := decide_eq_true c7
       clear c7
       obtain rfl := Option.some.inj H
       go_wp2_with (first | ((with_reducible refine gate_callee (f := 135) rfl ?_); refine goesL_ (some 19) rfl rfl Tryd.func135 (by kernel_rfl) rfl #[.slice A0 l0.length c0, .int .i64 (wrap64 (a1 - x5_1))] rfl (by (try simp only [List.map_toArray, List.map_cons, List.map_nil]); first | done | rfl | (simp only [List.length_drop, List.length_take]; rfl)) ?_; (with_reducible refine (step_at.calls _ _ l0 (wrap64 (a1 - x5_1)) t642 t643 t644 _ ?side1 ?side2 ?side3 A6.out).mono ?_); (case side1 => repeat (first | exact (Kd.C_below HR0.out HB.out) | (with_reducible refine Kd.C_alloc ?_ _) | (with_reducible refine Kd.C_drewN ?_ _) | (with_reducible refine Kd.C_drew ?_))); (case side2 => exact HC0.out); (case side3 => repeat (first | exact HG.out | exact Laid.below HG.out HB.out | (with_reducible refine Laid.alloc ?_ _) | (with_reducible refine Laid.drewN ?_ _) | (with_reducible refine Laid.drew ?_))); rintro e w8 ⟨rfl, hb⟩; refine ⟨_, rfl, ?_⟩; have n0_ := Aside0.mk (below_step (by repeat (first | (with_reducible first | exact HB.out | apply below_alloc | apply pw_below_drewN | apply below_drew1) | exact HB.out)) hb); clear HB; have HB := n0_; clear n0_; (try clear hb); (try clear hb2); (try clear hk); (try clear hi)))
       go_ret
       exact ⟨by first | rfl | (simp [errW_none, errW_some] <;> rfl) | (simp [*, errW_none, errW_some] <;> rfl), by repeat (first | (with_reducible first | exact HB.out | apply below_alloc | apply pw_below_drewN | apply below_drew1) | exact HB.out)⟩
      ·
       rw [if_neg c7] at H
       have c7b0 : decide (x5_1 < t643) = false := decide_eq_false c7
       clear c7
       have H' := Aside0.mk H
       clear H
       go_wp2_with (first | ((with_reducible refine gate_callee (f := 135) rfl ?_); refine goesL_ (some 19) rfl rfl Tryd.func135 (by kernel_rfl) rfl #[.slice A0 l0.length c0, .int .i64 (wrap64 (a1 - x5_1))] rfl (by (try simp only [List.map_toArray, List.map_cons, List.map_nil]); first | done | rfl | (simp only [List.length_drop, List.length_take]; rfl)) ?_; (with_reducible refine (step_at.calls _ _ l0 (wrap64 (a1 - x5_1)) t642 t643 t644 _ ?side1 ?side2 ?side3 A6.out).mono ?_); (case side1 => repeat (first | exact (Kd.C_below HR0.out HB.out) | (with_reducible refine Kd.C_alloc ?_ _) | (with_reducible refine Kd.C_drewN ?_ _) | (with_reducible refine Kd.C_drew ?_))); (case side2 => exact HC0.out); (case side3 => repeat (first | exact HG.out | exact Laid.below HG.out HB.out | (with_reducible refine Laid.alloc ?_ _) | (with_reducible refine Laid.drewN ?_ _) | (with_reducible refine Laid.drew ?_))); rintro e w9 ⟨rfl, hb⟩; refine ⟨_, rfl, ?_⟩; have n0_ := Aside0.mk (below_step (by repeat (first | (with_reducible first | exact HB.out | apply below_alloc | apply pw_below_drewN | apply below_drew1) | exact HB.out)) hb); clear HB; have HB := n0_; clear n0_; (try clear hb); (try clear hb2); (try clear hk); (try clear hi)))
       go_roundg kj2
       case measure => have := HK1.out; have := HJ2.out; omega
       case rel => exact ⟨(wrap64 (x5_1 + 1)), (by first | rfl | (simp; done) | (simp [*]; done)), H', ⟨by have := HK1.out; have := HJ2.out; omega⟩, ⟨by repeat (first | (with_reducible first | exact HB.out | apply below_alloc | apply pw_below_drewN | apply below_drew1) | exact HB.out)⟩⟩
     ·
      replace c5 := Bool.eq_false_iff.mpr c5
      subst c5
      have H1 : (some 0) = some r := by rw [if_neg (show ¬ (false = true) by decide)] at H; exact H
      clear H
      have H := H1
      clear H1
      obtain rfl := Option.some.inj H
      go_wp2
      go_ret
      exact ⟨by first | rfl | (simp [errW_none, errW_some] <;> rfl) | (simp [*, errW_none, errW_some] <;> rfl), by repeat (first | (with_reducible first | exact HB.out | apply below_alloc | apply pw_below_drewN | apply below_drew1) | exact HB.out)⟩
def step_Floor.f (k : Nat) (l0 : List Int) (a1 : Int) : Option (Int × Int) := if a1 < 0 then (some (0, 2)) else (if a1 > (l0.length : Int) then (some (0, 2)) else ((step_inside.f k l0 a1).bind fun t645 => (some (wrap64 (a1 - t645), 0))))
theorem step_Floor.mono : ∀ a0 a1 k, LeO (step_Floor.f k a0 a1) (step_Floor.f (k + 1) a0 a1) := by
 intro a0 a1 k
 unfold step_Floor.f
 repeat' first
   | (with_reducible exact step_inside.mono _ _ _)
   | (with_reducible exact LeO.refl _)
   | (with_reducible exact LeO.none _)
   | (with_reducible refine LeO.ite ?_ ?_)
   | (with_reducible refine LeO.bind ?_ (fun _ => ?_))
   | exact step_inside.mono _ _ _
   | exact LeO.none _
   | refine LeO.ite ?_ ?_
   | refine LeO.bind ?_ (fun _ => ?_)
set_option maxHeartbeats 8000000 in
set_option maxRecDepth 100000 in
theorem step_Floor.calls (k : Nat) (A0 : Option Addr) (c0 : Nat) (l0 : List Int) (a1 : Int) (r1 : Int) (r2 : Int) (w : World) (hr0 : Kd.C (Kd.int .u8) w A0 l0.length l0) (hc0 : l0.length ≤ c0) (hG : Laid w) (h : step_Floor.f k l0 a1 = some (r1, r2)) :
  Calls Tryd.prog 101 #[.slice A0 l0.length c0, .int .i64 a1] w fun e w' => e = .returned (.tuple #[.int .i64 r1, .int .i64 r2]) ∧ Below w.heap.size w w' := by
 have HG := Aside0.mk hG
 clear hG
 have HR0 := Aside0.mk hr0
 have HC0 := Aside0.mk hc0
 clear hr0 hc0
 have HB := Aside0.mk (Below.refl w.heap.size w)
 have H : (if a1 < 0 then (some (0, 2)) else (if a1 > (l0.length : Int) then (some (0, 2)) else ((step_inside.f k l0 a1).bind fun t645 => (some (wrap64 (a1 - t645), 0))))) = some (r1, r2) := h
 clear h
 by_cases c3 : a1 < 0
 ·
  rw [if_pos c3] at H
  have c3b0 : decide (a1 < 0) = true := decide_eq_true c3
  clear c3
  simp only [Option.some.injEq, Prod.mk.injEq] at H
  obtain ⟨rfl, rfl⟩ := H
  go_enter Tryd.func101, Tryd.ntmps101
  go_wp2
  go_ret2
  exact ⟨by first | rfl | (simp [errW_none, errW_some] <;> rfl) | (simp [*, errW_none, errW_some] <;> rfl), by repeat (first | (with_reducible first | exact HB.out | apply below_alloc | apply pw_below_drewN | apply below_drew1) | exact HB.out)⟩
 ·
  rw [if_neg c3] at H
  have c3b0 : decide (a1 < 0) = false := decide_eq_false c3
  clear c3
  by_cases c4 : a1 > (l0.length : Int)
  ·
   rw [if_pos c4] at H
   have c4b0 : decide ((l0.length : Int) < a1) = true := decide_eq_true c4
   clear c4
   simp only [Option.some.injEq, Prod.mk.injEq] at H
   obtain ⟨rfl, rfl⟩ := H
   go_enter Tryd.func101, Tryd.ntmps101
   go_wp2
   go_ret2
   exact ⟨by first | rfl | (simp [errW_none, errW_some] <;> rfl) | (simp [*, errW_none, errW_some] <;> rfl), by repeat (first | (with_reducible first | exact HB.out | apply below_alloc | apply pw_below_drewN | apply below_drew1) | exact HB.out)⟩
  ·
   rw [if_neg c4] at H
   have c4b0 : decide ((l0.length : Int) < a1) = false := decide_eq_false c4
   clear c4
   replace H := Option.bind_eq_some_iff.mp H
   obtain ⟨t645, A50, H⟩ := H
   replace H : (some (wrap64 (a1 - t645), 0)) = some (r1, r2) := H
   have A5 := Aside0.mk A50
   clear A50
   simp only [Option.some.injEq, Prod.mk.injEq] at H
   obtain ⟨rfl, rfl⟩ := H
   go_enter Tryd.func101, Tryd.ntmps101
   go_wp2_with (first | ((with_reducible refine gate_callee (f := 122) rfl ?_); refine goesL_ (some 17) rfl rfl Tryd.func122 (by kernel_rfl) rfl #[.slice A0 l0.length c0, .int .i64 a1] rfl (by (try simp only [List.map_toArray, List.map_cons, List.map_nil]); first | done | rfl | (simp only [List.length_drop, List.length_take]; rfl)) ?_; (with_reducible refine (step_inside.calls k _ _ l0 a1 t645 _ ?side1 ?side2 ?side3 A5.out).mono ?_); (case side1 => repeat (first | exact HR0.out | (with_reducible refine Kd.C_alloc ?_ _) | (with_reducible refine Kd.C_drewN ?_ _) | (with_reducible refine Kd.C_drew ?_))); (case side2 => exact HC0.out); (case side3 => repeat (first | exact HG.out | exact Laid.below HG.out HB.out | (with_reducible refine Laid.alloc ?_ _) | (with_reducible refine Laid.drewN ?_ _) | (with_reducible refine Laid.drew ?_))); rintro e w6 ⟨rfl, hb⟩; refine ⟨_, rfl, ?_⟩; have n0_ := Aside0.mk (below_step (by repeat (first | (with_reducible first | exact HB.out | apply below_alloc | apply pw_below_drewN | apply below_drew1) | exact HB.out)) hb); clear HB; have HB := n0_; clear n0_; (try clear hb); (try clear hb2); (try clear hk); (try clear hi)))
   go_ret2
   exact ⟨by first | rfl | (simp [errW_none, errW_some] <;> rfl) | (simp [*, errW_none, errW_some] <;> rfl), by repeat (first | (with_reducible first | exact HB.out | apply below_alloc | apply pw_below_drewN | apply below_drew1) | exact HB.out)⟩
end Go.Proofs.YtbomhpfckplgaaaDoor.P
namespace Go.Proofs.YtbomhpfckplgaaaDoor.P
open Go.RowKit Go.Proofs.YtbomhpfckplgaaaDoorW.PrintWords Go.Proofs.YtbomhpfckplgaaaDoorW.PrintLast Go.Proofs.YtbomhpfckplgaaaDoorW.PrintMore
attribute [local go_sem] max2_int min2_int max_two min_two max_three min_three max_four min_four   -- for this text's walks alone
set_option linter.unusedVariables false
set_option linter.unusedSimpArgs false
def lines_size.f (l0 : List Int) (a1 : Int) : Option (Int) := (rule_Size.f l0 a1).bind fun bt727 => (some bt727.1)
set_option maxHeartbeats 8000000 in
set_option maxRecDepth 100000 in
theorem lines_size.calls (A0 : Option Addr) (c0 : Nat) (l0 : List Int) (a1 : Int) (r : Int) (w : World) (hr0 : Kd.C (Kd.int .u8) w A0 l0.length l0) (hc0 : l0.length ≤ c0) (hG : Laid w) (h : lines_size.f l0 a1 = some r) :
  Calls Tryd.prog 103 #[.slice A0 l0.length c0, .int .i64 a1] w fun e w' => e = .returned (.int .i64 r) ∧ Below w.heap.size w w' := by
 have HG := Aside0.mk hG
 clear hG
 have HR0 := Aside0.mk hr0
 have HC0 := Aside0.mk hc0
 clear hr0 hc0
 have HB := Aside0.mk (Below.refl w.heap.size w)
 have H : ((rule_Size.f l0 a1).bind fun bt727 => (some bt727.1)) = some r := h
 clear h
 replace H := Option.bind_eq_some_iff.mp H
 obtain ⟨⟨t727, t728⟩, A30, H⟩ := H
 replace H : (some t727) = some r := H
 have A3 := Aside0.mk A30
 clear A30
 obtain rfl := Option.some.inj H
 go_enter Tryd.func103, Tryd.ntmps103
 go_wp2_with (first | ((with_reducible refine gate_callee (f := 28) rfl ?_); refine goesL_ (some 10) rfl rfl Tryd.func28 (by kernel_rfl) rfl #[.slice A0 l0.length c0, .int .i64 a1] rfl (by (try simp only [List.map_toArray, List.map_cons, List.map_nil]); first | done | rfl | (simp only [List.length_drop, List.length_take]; rfl)) ?_; (with_reducible refine (rule_Size.calls _ _ l0 a1 t727 t728 _ ?side1 ?side2 ?side3 A3.out).mono ?_); (case side1 => repeat (first | exact HR0.out | (with_reducible refine Kd.C_alloc ?_ _) | (with_reducible refine Kd.C_drewN ?_ _) | (with_reducible refine Kd.C_drew ?_))); (case side2 => exact HC0.out); (case side3 => repeat (first | exact HG.out | exact Laid.below HG.out HB.out | (with_reducible refine Laid.alloc ?_ _) | (with_reducible refine Laid.drewN ?_ _) | (with_reducible refine Laid.drew ?_))); rintro e w4 ⟨rfl, hb⟩; refine ⟨_, rfl, ?_⟩; have n0_ := Aside0.mk (below_step (by repeat (first | (with_reducible first | exact HB.out | apply below_alloc | apply pw_below_drewN | apply below_drew1) | exact HB.out)) hb); clear HB; have HB := n0_; clear n0_; (try clear hb); (try clear hb2); (try clear hk); (try clear hi)))
 go_ret
 exact ⟨by first | rfl | (simp [errW_none, errW_some] <;> rfl) | (simp [*, errW_none, errW_some] <;> rfl), by repeat (first | (with_reducible first | exact HB.out | apply below_alloc | apply pw_below_drewN | apply below_drew1) | exact HB.out)⟩
end Go.Proofs.YtbomhpfckplgaaaDoor.P
namespace Go.Proofs.YtbomhpfckplgaaaDoor.P
open Go.RowKit Go.Proofs.YtbomhpfckplgaaaDoorW.PrintWords Go.Proofs.YtbomhpfckplgaaaDoorW.PrintLast Go.Proofs.YtbomhpfckplgaaaDoorW.PrintMore
attribute [local go_sem] max2_int min2_int max_two min_two max_three min_three max_four min_four   -- for this text's walks alone
set_option linter.unusedVariables false
set_option linter.unusedSimpArgs false
mutual
def galleyref01_Value.j0 : Nat → List Int → Int → Option (Int)
 | 0, _, _ => none
 | k + 1, x0, x4 => galleyref01_Value.l0 k x0 x4 1
def galleyref01_Value.l0 : Nat → List Int → Int → Int → Option (Int)
 | 0, _, _, _ => none
 | k + 1, x0, x4, x5 => if x5 < (x0.length : Int) then (if 0 ≤ x5 then (galleyref01_Value.l0 k x0 (wrap64 ((wrap64 (x4 * 64)) + (Int.tmod (wrap64 (rd x0 x5)) 64))) (wrap64 (x5 + 1))) else (none)) else (some (wrap32 (x4)))
end
def galleyref01_Value.f (k : Nat) (l0 : List Int) : Option (Int) := (galleyref01_Whole.f k l0).bind fun t829 => (if t829 = true then (if 0 < (l0.length : Int) then (if (l0.length : Int) = 2 then (galleyref01_Value.j0 k l0 (Int.tmod (wrap64 (rd l0 0)) 32)) else (if (l0.length : Int) = 3 then (galleyref01_Value.j0 k l0 (Int.tmod (wrap64 (rd l0 0)) 16)) else (if (l0.length : Int) = 4 then (galleyref01_Value.j0 k l0 (Int.tmod (wrap64 (rd l0 0)) 8)) else (galleyref01_Value.j0 k l0 (wrap64 (rd l0 0)))))) else (none)) else (some (-1)))
set_option maxHeartbeats 8000000 in
set_option maxRecDepth 100000 in
theorem galleyref01_Value.calls (k : Nat) (A0 : Option Addr) (c0 : Nat) (l0 : List Int) (r : Int) (w : World) (hr0 : Kd.C (Kd.int .u8) w A0 l0.length l0) (hc0 : l0.length ≤ c0) (h : galleyref01_Value.f k l0 = some r) :
  Calls Tryd.prog 141 #[.slice A0 l0.length c0] w fun e w' => e = .returned (.int .i32 r) ∧ Drawn0 w w' := by
 have HR0 := Aside0.mk hr0
 have HC0 := Aside0.mk hc0
 clear hr0 hc0
 have H : ((galleyref01_Whole.f k l0).bind fun t829 => (if t829 = true then (if 0 < (l0.length : Int) then (if (l0.length : Int) = 2 then (galleyref01_Value.j0 k l0 (Int.tmod (wrap64 (rd l0 0)) 32)) else (if (l0.length : Int) = 3 then (galleyref01_Value.j0 k l0 (Int.tmod (wrap64 (rd l0 0)) 16)) else (if (l0.length : Int) = 4 then (galleyref01_Value.j0 k l0 (Int.tmod (wrap64 (rd l0 0)) 8)) else (galleyref01_Value.j0 k l0 (wrap64 (rd l0 0)))))) else (none)) else (some (-1)))) = some r := h
 clear h
 replace H := Option.bind_eq_some_iff.mp H
 obtain ⟨t829, A20, H⟩ := H
 replace H : (if t829 = true then (if 0 < (l0.length : Int) then (if (l0.length : Int) = 2 then (galleyref01_Value.j0 k l0 (Int.tmod (wrap64 (rd l0 0)) 32)) else (if (l0.length : Int) = 3 then (galleyref01_Value.j0 k l0 (Int.tmod (wrap64 (rd l0 0)) 16)) else (if (l0.length : Int) = 4 then (galleyref01_Value.j0 k l0 (Int.tmod (wrap64 (rd l0 0)) 8)) else (galleyref01_Value.j0 k l0 (wrap64 (rd l0 0)))))) else (none)) else (some (-1))) = some r := H
 have A2 := Aside0.mk A20
 clear A20
 by_cases c3 : t829 = true
 ·
  subst c3
  have H1 : (if 0 < (l0.length : Int) then (if (l0.length : Int) = 2 then (galleyref01_Value.j0 k l0 (Int.tmod (wrap64 (rd l0 0)) 32)) else (if (l0.length : Int) = 3 then (galleyref01_Value.j0 k l0 (Int.tmod (wrap64 (rd l0 0)) 16)) else (if (l0.length : Int) = 4 then (galleyref01_Value.j0 k l0 (Int.tmod (wrap64 (rd l0 0)) 8)) else (galleyref01_Value.j0 k l0 (wrap64 (rd l0 0)))))) else (none)) = some r := by rw [if_pos rfl] at H; exact H
  clear H
  have H := H1
  clear H1
  by_cases c4 : 0 < (l0.length : Int)
  ·
   rw [if_pos c4] at H
   have c4b0 : decide (0 < (l0.length : Int)) = true := decide_eq_true c4
   have c4b1 : decide (0 < l0.length) = true := decide_eq_true (by omega)
   clear c4
   have HC5 := Aside0.mk H
   clear H
   go_enter Tryd.func141, Tryd.ntmps141
   go_upto_block 0 with (first | ((with_reducible refine gate_callee (f := 125) rfl ?_); refine goesL_ (some 7) rfl rfl Tryd.func125 (by kernel_rfl) rfl #[.slice A0 l0.length c0] rfl (by (try simp only [List.map_toArray, List.map_cons, List.map_nil]); first | done | rfl | (simp only [List.length_drop, List.length_take]; rfl)) ?_; (with_reducible refine (galleyref01_Whole.calls k _ _ l0 true _ ?side1 ?side2 A2.out).mono ?_); (case side1 => repeat (first | exact HR0.out | (with_reducible refine Kd.C_alloc ?_ _) | (with_reducible refine Kd.C_drewN ?_ _) | (with_reducible refine Kd.C_drew ?_))); (case side2 => exact HC0.out); rintro e w' ⟨rfl, ⟨nd, rfl⟩⟩; refine ⟨_, rfl, ?_⟩; have p830 : 0 ≤ (0 : Int) := (by omega); have q830 : 0 < (l0.length : Int) := of_decide_eq_true (by first | (with_reducible assumption) | assumption); obtain ⟨ad830, e830, hx830_0⟩ := Kd.at_int HR0.out 0 p830 q830; cases e830; have qi830 : (0 < l0.length) = True := eq_true (by omega); (try rw [show ((0 : Int)).toNat = 0 from rfl] at hx830_0); (try rw [Addr.add_zero'] at hx830_0); replace p830 := eq_true p830; replace q830 := eq_true q830))
   (try simp only [Act.put, List.setIfInBounds_toArray, List.set_cons_zero, List.set_cons_succ])
   go_cut [4] (fun v4 wc => ∃ (kq : Nat) (x4_4 : Int), v4 = .int .i64 x4_4 ∧ Aside0 (galleyref01_Value.j0 kq l0 x4_4 = some r) ∧ Aside0 (kq ≤ k) ∧ Drawn0 w wc)
   case first =>
    have H := HC5.out
    clear HC5
    by_cases c6 : (l0.length : Int) = 2
    ·
     rw [if_pos c6] at H
     have c6b0 : ((l0.length : Int) == 2) = true := beq_iff_eq.mpr c6
     have c6b1 : ((l0.length : Int) != 2) = false := bne_eq_false_iff_eq.mpr c6
     clear c6
     (first | rw [c6b0] | (simp only [i64_w, i32_w]; rw [c6b0]) | skip)
     have H' := Aside0.mk H
     clear H
     go_wp2
     go_meet
     case rel => exact ⟨_, (Int.tmod (wrap64 (rd l0 0)) 32), (by first | rfl | (simp; done) | (simp [*]; done)), H', ⟨by first | omega | exact Nat.le_refl _⟩, by repeat (first | exact Drawn0.refl _ | apply Drawn0.step)⟩
    ·
     rw [if_neg c6] at H
     have c6b0 : ((l0.length : Int) == 2) = false := beq_eq_false_iff_ne.mpr c6
     have c6b1 : ((l0.length : Int) != 2) = true := bne_iff_ne.mpr c6
     (first | rw [c6b0] | (simp only [i64_w, i32_w]; rw [c6b0]) | skip)
     by_cases c7 : (l0.length : Int) = 3
     ·
      rw [if_pos c7] at H
      have c7b0 : ((l0.length : Int) == 3) = true := beq_iff_eq.mpr c7
      have c7b1 : ((l0.length : Int) != 3) = false := bne_eq_false_iff_eq.mpr c7
      clear c7
      have H' := Aside0.mk H
      clear H
      go_wp2
      go_meet
      case rel => exact ⟨_, (Int.tmod (wrap64 (rd l0 0)) 16), (by first | rfl | (simp; done) | (simp [*]; done)), H', ⟨by first | omega | exact Nat.le_refl _⟩, by repeat (first | exact Drawn0.refl _ | apply Drawn0.step)⟩
     ·
      rw [if_neg c7] at H
      have c7b0 : ((l0.length : Int) == 3) = false := beq_eq_false_iff_ne.mpr c7
      have c7b1 : ((l0.length : Int) != 3) = true := bne_iff_ne.mpr c7
      by_cases c8 : (l0.length : Int) = 4
      ·
       rw [if_pos c8] at H
       have c8b0 : ((l0.length : Int) == 4) = true := beq_iff_eq.mpr c8
       have c8b1 : ((l0.length : Int) != 4) = false := bne_eq_false_iff_eq.mpr c8
       clear c8
       have H' := Aside0.mk H
       clear H
       go_wp2
       go_meet
       case rel => exact ⟨_, (Int.tmod (wrap64 (rd l0 0)) 8), (by first | rfl | (simp; done) | (simp [*]; done)), H', ⟨by first | omega | exact Nat.le_refl _⟩, by repeat (first | exact Drawn0.refl _ | apply Drawn0.step)⟩
      ·
       rw [if_neg c8] at H
       have c8b0 : ((l0.length : Int) == 4) = false := beq_eq_false_iff_ne.mpr c8
       have c8b1 : ((l0.length : Int) != 4) = true := bne_iff_ne.mpr c8
       have H' := Aside0.mk H
       clear H
       go_wp2
       go_meet
       case rel => exact ⟨_, (wrap64 (rd l0 0)), (by first | rfl | (simp; done) | (simp [*]; done)), H', ⟨by first | omega | exact Nat.le_refl _⟩, by repeat (first | exact Drawn0.refl _ | apply Drawn0.step)⟩
   case rest =>
    clear HC5
    (try clear c1); (try clear p2); (try clear c3); (try clear c4); (try clear c4b0); (try clear c4b1); (try clear c6); (try clear c6b0); (try clear c6b1); (try clear p6); (try clear c7); (try clear c7b0); (try clear c7b1); (try clear c8); (try clear c8b0); (try clear c8b1); (try clear p8); (try clear q8); (try clear hx8); (try clear qi8); (try clear hx830_0); (try clear p830); (try clear q830)
    obtain ⟨kq, x4_4, rfl, HA, HJ4, ⟨mc4, rfl⟩⟩ := hcut
    cases kq with
    | zero => exact absurd HA.out (by simp [galleyref01_Value.j0])
    | succ kj4 =>
     have H := HA.out
     clear HA
     simp only [galleyref01_Value.j0] at H
     have H' := Aside0.mk H
     clear H
     go_wp2
     go_loopg [4, 5] kj4 (fun kq v4 v5 w' => ∃ (x4_2 : Int) (x5_2 : Int), v4 = .int .i64 x4_2 ∧ v5 = .int .i64 x5_2 ∧ Aside0 (galleyref01_Value.l0 kq l0 x4_2 x5_2 = some r) ∧ Aside0 (kq ≤ kj4) ∧ Drawn0 w w')
     case atStart => exact ⟨(x4_4), (1), (by first | rfl | (simp; done) | (simp [*]; done)), (by first | rfl | (simp; done) | (simp [*]; done)), H', ⟨Nat.le_refl _⟩, by repeat (first | exact Drawn0.refl _ | apply Drawn0.step)⟩
     case round =>
      clear H'
      (try clear c1); (try clear p2); (try clear c3); (try clear c4); (try clear c4b0); (try clear c4b1); (try clear c6); (try clear c6b0); (try clear c6b1); (try clear p6); (try clear c7); (try clear c7b0); (try clear c7b1); (try clear c8); (try clear c8b0); (try clear c8b1); (try clear p8); (try clear q8); (try clear hx8); (try clear qi8); (try clear hx830_0); (try clear p830); (try clear q830)
      obtain ⟨x4_2, x5_2, rfl, rfl, HA, HK2, ⟨m2, rfl⟩⟩ := hrel
      cases gk with
      | zero => exact absurd HA.out (by simp [galleyref01_Value.l0])
      | succ k2 =>
       have H := HA.out
       clear HA
       simp only [galleyref01_Value.l0] at H
       by_cases c9 : x5_2 < (l0.length : Int)
       ·
        rw [if_pos c9] at H
        have c9b0 : decide (x5_2 < (l0.length : Int)) = true := decide_eq_true c9
        clear c9
        by_cases c10 : 0 ≤ x5_2
        ·
         rw [if_pos c10] at H
         have c10b0 : decide (0 ≤ x5_2) = true := decide_eq_true c10
         clear c10
         have H' := Aside0.mk H
         clear H
         have p831 : 0 ≤ (x5_2 : Int) := of_decide_eq_true (by first | (with_reducible assumption) | assumption)
         have q831 : x5_2 < (l0.length : Int) := of_decide_eq_true (by first | (with_reducible assumption) | assumption)
         obtain ⟨ad831, e831, hx831_0⟩ := Kd.at_int HR0.out x5_2 p831 q831
         obtain rfl : ad830 = ad831 := (by injection e831)
         replace p831 := eq_true p831
         replace q831 := eq_true q831
         go_wp2
         go_roundg k2
         case measure => have := HJ4.out; have := HK2.out; omega
         case rel => exact ⟨(wrap64 ((wrap64 (x4_2 * 64)) + (Int.tmod (wrap64 (rd l0 x5_2)) 64))), (wrap64 (x5_2 + 1)), (by first | rfl | (simp; done) | (simp [*]; done)), (by first | rfl | (simp; done) | (simp [*]; done)), H', ⟨by have := HJ4.out; have := HK2.out; omega⟩, by repeat (first | exact Drawn0.refl _ | apply Drawn0.step)⟩
        ·
         rw [if_neg c10] at H
         exact absurd H (by simp)
       ·
        rw [if_neg c9] at H
        have c9b0 : decide (x5_2 < (l0.length : Int)) = false := decide_eq_false c9
        clear c9
        obtain rfl := Option.some.inj H
        go_wp2
        go_ret
        exact ⟨by first | rfl | (simp; done) | (simp [*]; done), by repeat (first | exact Drawn0.refl _ | apply Drawn0.step)⟩
  ·
   rw [if_neg c4] at H
   exact absurd H (by simp)
 ·
  replace c3 := Bool.eq_false_iff.mpr c3
  subst c3
  have H1 : (some (-1)) = some r := by rw [if_neg (show ¬ (false = true) by decide)] at H; exact H
  clear H
  have H := H1
  clear H1
  obtain rfl := Option.some.inj H
  go_enter Tryd.func141, Tryd.ntmps141
  go_wp2_with (first | ((with_reducible refine gate_callee (f := 125) rfl ?_); refine goesL_ (some 7) rfl rfl Tryd.func125 (by kernel_rfl) rfl #[.slice A0 l0.length c0] rfl (by (try simp only [List.map_toArray, List.map_cons, List.map_nil]); first | done | rfl | (simp only [List.length_drop, List.length_take]; rfl)) ?_; (with_reducible refine (galleyref01_Whole.calls k _ _ l0 false _ ?side1 ?side2 A2.out).mono ?_); (case side1 => repeat (first | exact HR0.out | (with_reducible refine Kd.C_alloc ?_ _) | (with_reducible refine Kd.C_drewN ?_ _) | (with_reducible refine Kd.C_drew ?_))); (case side2 => exact HC0.out); rintro e w' ⟨rfl, ⟨nd, rfl⟩⟩; refine ⟨_, rfl, ?_⟩))
  go_ret
  exact ⟨by first | rfl | (simp; done) | (simp [*]; done), by repeat (first | exact Drawn0.refl _ | apply Drawn0.step)⟩
end Go.Proofs.YtbomhpfckplgaaaDoor.P
namespace Go.Proofs.YtbomhpfckplgaaaDoor.P
open Go.RowKit Go.Proofs.YtbomhpfckplgaaaDoorW.PrintWords Go.Proofs.YtbomhpfckplgaaaDoorW.PrintLast Go.Proofs.YtbomhpfckplgaaaDoorW.PrintMore
attribute [local go_sem] max2_int min2_int max_two min_two max_three min_three max_four min_four   -- for this text's walks alone
set_option linter.unusedVariables false
set_option linter.unusedSimpArgs false
mutual
def galleyref07_Rows.l0 : Nat → List Int → List (S88) → Int → Int → Option ((List (S88)))
 | 0, _, _, _, _ => none
 | k + 1, x0, x3, x4, x5 => if x5 < (x0.length : Int) then (if 0 ≤ x5 then (if (rd x0 x5) = 13 then (galleyref07_Rows.j1 k x0 x3 x4 x5 false) else (galleyref07_Rows.j1 k x0 x3 x4 x5 ((rd x0 x5) != 10))) else (none)) else (if x3.length < 5864062014805 then (some (x3 ++ [(⟨x4, (x0.length : Int), (x0.length : Int)⟩ : S88)])) else (none))
def galleyref07_Rows.j1 : Nat → List Int → List (S88) → Int → Int → Bool → Option ((List (S88)))
 | 0, _, _, _, _, _ => none
 | k + 1, x0, x3, x4, x5, x24 => if x24 = true then (galleyref07_Rows.l0 k x0 x3 x4 (wrap64 (x5 + 1))) else (if 0 ≤ x5 then (if x5 < (x0.length : Int) then (if (rd x0 x5) = 13 then (if (wrap64 (x5 + 1)) < (x0.length : Int) then (if 0 ≤ (wrap64 (x5 + 1)) then (if (rd x0 (wrap64 (x5 + 1))) = 10 then (if x3.length < 5864062014805 then (galleyref07_Rows.l0 k x0 (x3 ++ [(⟨x4, x5, wrap64 ((wrap64 (x5 + 1)) + 1)⟩ : S88)]) (wrap64 ((wrap64 (x5 + 1)) + 1)) (wrap64 ((wrap64 ((wrap64 ((wrap64 (x5 + 1)) + 1)) - 1)) + 1))) else (none)) else (if x3.length < 5864062014805 then (galleyref07_Rows.l0 k x0 (x3 ++ [(⟨x4, x5, wrap64 (x5 + 1)⟩ : S88)]) (wrap64 (x5 + 1)) (wrap64 ((wrap64 ((wrap64 (x5 + 1)) - 1)) + 1))) else (none))) else (none)) else (if x3.length < 5864062014805 then (galleyref07_Rows.l0 k x0 (x3 ++ [(⟨x4, x5, wrap64 (x5 + 1)⟩ : S88)]) (wrap64 (x5 + 1)) (wrap64 ((wrap64 ((wrap64 (x5 + 1)) - 1)) + 1))) else (none))) else (if x3.length < 5864062014805 then (galleyref07_Rows.l0 k x0 (x3 ++ [(⟨x4, x5, wrap64 (x5 + 1)⟩ : S88)]) (wrap64 (x5 + 1)) (wrap64 ((wrap64 ((wrap64 (x5 + 1)) - 1)) + 1))) else (none))) else (none)) else (none))
end
def galleyref07_Rows.f (k : Nat) (l0 : List Int) : Option ((List (S88))) := galleyref07_Rows.l0 k l0 ([] : List (S88)) 0 0
set_option maxHeartbeats 8000000 in
set_option maxRecDepth 100000 in
theorem galleyref07_Rows.calls (k : Nat) (A0 : Option Addr) (c0 : Nat) (l0 : List Int) (r : List (S88)) (w : World) (hr0 : Kd.C (Kd.int .u8) w A0 l0.length l0) (hc0 : l0.length ≤ c0) (h : galleyref07_Rows.f k l0 = some r) :
  Calls Tryd.prog 63 #[.slice A0 l0.length c0] w fun e w' => ∃ v0_ : Value, e = .returned (v0_) ∧ Kd.R k88 88 w' w.heap.size (fun _ => True) v0_ r ∧ Below w.heap.size w w' := by
 have hu88 := Tryd.underlying88
 have HR0 := Aside0.mk hr0
 have HC0 := Aside0.mk hc0
 clear hr0 hc0
 have HB := Aside0.mk (Below.refl w.heap.size w)
 have H : (galleyref07_Rows.l0 k l0 ([] : List (S88)) 0 0) = some r := h
 clear h
 have H' := Aside0.mk H
 clear H
 go_enter Tryd.func63, Tryd.ntmps63
 go_wp2
 go_loopg [3, 4, 5] k (fun kq v3 v4 v5 w' => ∃ (x3_1 : List (S88)) (x4_1 : Int) (x5_1 : Int), v4 = .int .i64 x4_1 ∧ v5 = .int .i64 x5_1 ∧ Aside0 (galleyref07_Rows.l0 kq l0 x3_1 x4_1 x5_1 = some r) ∧ Aside0 (kq ≤ k) ∧ Aside0 (Kd.R k88 88 w' w.heap.size (fun _ => True) v3 x3_1) ∧ Aside0 (Below w.heap.size w w'))
 case atStart => exact ⟨(([] : List (S88))), (0), (0), (by first | rfl | (simp; done) | (simp [*]; done)), (by first | rfl | (simp; done) | (simp [*]; done)), H', ⟨Nat.le_refl _⟩, ⟨by first | exact Kd.R_nil _ _ _ _ _ | exact Kd.N_nil _ _ _ _ _ | exact Kd.V_nil _ _ _ _ _ | exact Kd.Q_nil _ _ _ _ _ | exact Kd.S_nil _ _ _ _ _⟩, ⟨by repeat (first | (with_reducible first | exact HB.out | apply below_alloc | apply pw_below_drewN | apply below_drew1) | exact HB.out)⟩⟩
 case round =>
  clear H'
  obtain ⟨x3_1, x4_1, x5_1, rfl, rfl, HA, HK1, HO_3, HB⟩ := hrel
  cases gk with
  | zero => exact absurd HA.out (by simp [galleyref07_Rows.l0])
  | succ k1 =>
   have H := HA.out
   clear HA
   simp only [galleyref07_Rows.l0] at H
   by_cases c2 : x5_1 < (l0.length : Int)
   ·
    rw [if_pos c2] at H
    have c2b0 : decide (x5_1 < (l0.length : Int)) = true := decide_eq_true c2
    clear c2
    have HC3 := Aside0.mk H
    clear H
    go_upto_region 6 with (fail)
    go_cut [24] (fun v24 wc => ∃ (kq : Nat) (x24_2 : Bool), v24 = .bool x24_2 ∧ Aside0 (galleyref07_Rows.j1 kq l0 x3_1 x4_1 x5_1 x24_2 = some r) ∧ Aside0 (kq ≤ k1) ∧ Aside0 (Kd.R k88 88 wc w.heap.size (fun _ => True) u3 x3_1) ∧ Aside0 (Below w.heap.size w wc))
    case first =>
     have H := HC3.out
     clear HC3
     by_cases c4 : 0 ≤ x5_1
     ·
      rw [if_pos c4] at H
      have c4b0 : decide (0 ≤ x5_1) = true := decide_eq_true c4
      clear c4
      (first | rw [c4b0] | (simp only [i64_w, i32_w]; rw [c4b0]) | skip)
      by_cases c5 : (rd l0 x5_1) = 13
      ·
       rw [if_pos c5] at H
       have c5b0 : ((rd l0 x5_1) == 13) = true := beq_iff_eq.mpr c5
       have c5b1 : ((rd l0 x5_1) != 13) = false := bne_eq_false_iff_eq.mpr c5
       clear c5
       have H' := Aside0.mk H
       clear H
       have p788 : 0 ≤ (x5_1 : Int) := of_decide_eq_true (by first | (with_reducible assumption) | assumption)
       have q788 : x5_1 < (l0.length : Int) := of_decide_eq_true (by first | (with_reducible assumption) | assumption)
       obtain ⟨ad788, e788, hx788_0⟩ := Kd.at_int HR0.out x5_1 p788 q788
       cases e788
       replace hx788_0 := (HB.out.cell (World.block_lt_of_cell? w _ hx788_0)).trans hx788_0
       replace p788 := eq_true p788
       replace q788 := eq_true q788
       go_wp2
       go_meet
       case rel => exact ⟨_, (false), (by first | rfl | (simp; done) | (simp [*]; done)), H', ⟨by have := HK1.out; first | omega | exact Nat.le_refl _⟩, ⟨by (with_reducible repeat (first | apply Kd.R_alloc | apply Kd.R_drewN | apply Kd.R_drew)); exact HO_3.out⟩, ⟨by repeat (first | (with_reducible first | exact HB.out | apply below_alloc | apply pw_below_drewN | apply below_drew1) | exact HB.out)⟩⟩
      ·
       rw [if_neg c5] at H
       have c5b0 : ((rd l0 x5_1) == 13) = false := beq_eq_false_iff_ne.mpr c5
       have c5b1 : ((rd l0 x5_1) != 13) = true := bne_iff_ne.mpr c5
       have H' := Aside0.mk H
       clear H
       have p788 : 0 ≤ (x5_1 : Int) := of_decide_eq_true (by first | (with_reducible assumption) | assumption)
       have q788 : x5_1 < (l0.length : Int) := of_decide_eq_true (by first | (with_reducible assumption) | assumption)
       obtain ⟨ad788, e788, hx788_0⟩ := Kd.at_int HR0.out x5_1 p788 q788
       cases e788
       replace hx788_0 := (HB.out.cell (World.block_lt_of_cell? w _ hx788_0)).trans hx788_0
       replace p788 := eq_true p788
       replace q788 := eq_true q788
       have p789 : 0 ≤ (x5_1 : Int) := of_decide_eq_true (by first | (with_reducible assumption) | assumption)
       have q789 : x5_1 < (l0.length : Int) := of_decide_eq_true (by first | (with_reducible assumption) | assumption)
       obtain ⟨ad789, e789, hx789_0⟩ := Kd.at_int HR0.out x5_1 p789 q789
       obtain rfl : ad788 = ad789 := (by injection e789)
       replace hx789_0 := (HB.out.cell (World.block_lt_of_cell? w _ hx789_0)).trans hx789_0
       replace p789 := eq_true p789
       replace q789 := eq_true q789
       go_wp2
       go_meet
       case rel => exact ⟨_, (((rd l0 x5_1) != 10)), (by first | rfl | (simp; done) | (simp [*]; done)), H', ⟨by have := HK1.out; first | omega | exact Nat.le_refl _⟩, ⟨by (with_reducible repeat (first | apply Kd.R_alloc | apply Kd.R_drewN | apply Kd.R_drew)); exact HO_3.out⟩, ⟨by repeat (first | (with_reducible first | exact HB.out | apply below_alloc | apply pw_below_drewN | apply below_drew1) | exact HB.out)⟩⟩
     ·
      rw [if_neg c4] at H
      exact absurd H (by simp)
    case rest =>
     clear HC3
     (try clear c2); (try clear c2b0); (try clear p2); (try clear c4); (try clear c4b0); (try clear c5); (try clear c5b0); (try clear c5b1); (try clear hx788_0); (try clear hx789_0); (try clear p788); (try clear p789); (try clear q788); (try clear q789)
     obtain ⟨kq, x24_2, rfl, HA, HJ2, HO_3, HB⟩ := hcut
     cases kq with
     | zero => exact absurd HA.out (by simp [galleyref07_Rows.j1])
     | succ kj2 =>
      have H := HA.out
      clear HA
      simp only [galleyref07_Rows.j1] at H
      by_cases c6 : x24_2 = true
      ·
       subst c6
       have H1 : (galleyref07_Rows.l0 kj2 l0 x3_1 x4_1 (wrap64 (x5_1 + 1))) = some r := by rw [if_pos rfl] at H; exact H
       clear H
       have H := H1
       clear H1
       have H' := Aside0.mk H
       clear H
       go_wp2
       go_roundg kj2
       case measure => have := HK1.out; have := HJ2.out; omega
       case rel => exact ⟨(x3_1), (x4_1), (wrap64 (x5_1 + 1)), (by first | rfl | (simp; done) | (simp [*]; done)), (by first | rfl | (simp; done) | (simp [*]; done)), H', ⟨by have := HK1.out; have := HJ2.out; omega⟩, ⟨by (with_reducible repeat (first | apply Kd.R_alloc | apply Kd.R_drewN | apply Kd.R_drew)); exact HO_3.out⟩, ⟨by repeat (first | (with_reducible first | exact HB.out | apply below_alloc | apply pw_below_drewN | apply below_drew1) | exact HB.out)⟩⟩
      ·
       replace c6 := Bool.eq_false_iff.mpr c6
       subst c6
       have H1 : (if 0 ≤ x5_1 then (if x5_1 < (l0.length : Int) then (if (rd l0 x5_1) = 13 then (if (wrap64 (x5_1 + 1)) < (l0.length : Int) then (if 0 ≤ (wrap64 (x5_1 + 1)) then (if (rd l0 (wrap64 (x5_1 + 1))) = 10 then (if x3_1.length < 5864062014805 then (galleyref07_Rows.l0 kj2 l0 (x3_1 ++ [(⟨x4_1, x5_1, wrap64 ((wrap64 (x5_1 + 1)) + 1)⟩ : S88)]) (wrap64 ((wrap64 (x5_1 + 1)) + 1)) (wrap64 ((wrap64 ((wrap64 ((wrap64 (x5_1 + 1)) + 1)) - 1)) + 1))) else (none)) else (if x3_1.length < 5864062014805 then (galleyref07_Rows.l0 kj2 l0 (x3_1 ++ [(⟨x4_1, x5_1, wrap64 (x5_1 + 1)⟩ : S88)]) (wrap64 (x5_1 + 1)) (wrap64 ((wrap64 ((wrap64 (x5_1 + 1)) - 1)) + 1))) else (none))) else (none)) else (if x3_1.length < 5864062014805 then (galleyref07_Rows.l0 kj2 l0 (x3_1 ++ [(⟨x4_1, x5_1, wrap64 (x5_1 + 1)⟩ : S88)]) (wrap64 (x5_1 + 1)) (wrap64 ((wrap64 ((wrap64 (x5_1 + 1)) - 1)) + 1))) else (none))) else (if x3_1.length < 5864062014805 then (galleyref07_Rows.l0 kj2 l0 (x3_1 ++ [(⟨x4_1, x5_1, wrap64 (x5_1 + 1)⟩ : S88)]) (wrap64 (x5_1 + 1)) (wrap64 ((wrap64 ((wrap64 (x5_1 + 1)) - 1)) + 1))) else (none))) else (none)) else (none)) = some r := by rw [if_neg (show ¬ (false = true) by decide)] at H; exact H
       clear H
       have H := H1
       clear H1
       by_cases c7 : 0 ≤ x5_1
       ·
        rw [if_pos c7] at H
        have c7b0 : decide (0 ≤ x5_1) = true := decide_eq_true c7
        clear c7
        by_cases c8 : x5_1 < (l0.length : Int)
        ·
         rw [if_pos c8] at H
         have c8b0 : decide (x5_1 < (l0.length : Int)) = true := decide_eq_true c8
         clear c8
         by_cases c9 : (rd l0 x5_1) = 13
         ·
          rw [if_pos c9] at H
          have c9b0 : ((rd l0 x5_1) == 13) = true := beq_iff_eq.mpr c9
          have c9b1 : ((rd l0 x5_1) != 13) = false := bne_eq_false_iff_eq.mpr c9
          clear c9
          by_cases c10 : (wrap64 (x5_1 + 1)) < (l0.length : Int)
          ·
           rw [if_pos c10] at H
           have c10b0 : decide ((wrap64 (x5_1 + 1)) < (l0.length : Int)) = true := decide_eq_true c10
           clear c10
           obtain ⟨ji11, hji11⟩ : ∃ j_ : Int, (wrap64 (x5_1 + 1)) = j_ := ⟨_, rfl⟩
           replace H : (if 0 ≤ (ji11) then (if (rd l0 (ji11)) = 10 then (if x3_1.length < 5864062014805 then (galleyref07_Rows.l0 kj2 l0 (x3_1 ++ [(⟨x4_1, x5_1, wrap64 ((ji11) + 1)⟩ : S88)]) (wrap64 ((ji11) + 1)) (wrap64 ((wrap64 ((wrap64 ((ji11) + 1)) - 1)) + 1))) else (none)) else (if x3_1.length < 5864062014805 then (galleyref07_Rows.l0 kj2 l0 (x3_1 ++ [(⟨x4_1, x5_1, ji11⟩ : S88)]) ji11 (wrap64 ((wrap64 ((ji11) - 1)) + 1))) else (none))) else (none)) = some r := by first | (rw [hji11] at H; exact H) | (simp only [hji11] at H ⊢; exact H)
           (try rw [hji11] at c10b0)
           have hji11w : (IntKind.i64.wrap (x5_1 + 1)) = ji11 := (i64_w _).trans hji11
           by_cases c12 : 0 ≤ (ji11)
           ·
            rw [if_pos c12] at H
            have c12b0 : decide (0 ≤ (ji11)) = true := decide_eq_true c12
            clear c12
            by_cases c13 : (rd l0 (ji11)) = 10
            ·
             rw [if_pos c13] at H
             have c13b0 : ((rd l0 (ji11)) == 10) = true := beq_iff_eq.mpr c13
             have c13b1 : ((rd l0 (ji11)) != 10) = false := bne_eq_false_iff_eq.mpr c13
             clear c13
             by_cases c14 : x3_1.length < 5864062014805
             ·
              rw [if_pos c14] at H
              have LMc14 := Aside0.mk c14
              clear c14
              obtain ⟨y792, hy792⟩ : ∃ y_ : List (S88), y_ = (x3_1 ++ [(⟨x4_1, x5_1, wrap64 ((ji11) + 1)⟩ : S88)]) := ⟨_, rfl⟩
              replace H : (galleyref07_Rows.l0 kj2 l0 y792 (wrap64 ((ji11) + 1)) (wrap64 ((wrap64 ((wrap64 ((ji11) + 1)) - 1)) + 1))) = some r := by first | (rw [hy792]; with_reducible exact H) | (have H2_ := (Option.bind_some _ _).symm.trans H; rw [hy792]; with_reducible exact H2_) | (have H2_ := (Option.bind_some _ _).symm.trans H; with_reducible exact H2_) | with_reducible exact H | (rw [hy792]; exact H) | exact H
              have Ny792 := Aside0.mk hy792
              clear hy792
              have H' := Aside0.mk H
              clear H
              have p790 : 0 ≤ (x5_1 : Int) := of_decide_eq_true (by first | (with_reducible assumption) | assumption)
              have q790 : x5_1 < (l0.length : Int) := of_decide_eq_true (by first | (with_reducible assumption) | assumption)
              obtain ⟨ad790, e790, hx790_0⟩ := Kd.at_int HR0.out x5_1 p790 q790
              cases e790
              replace hx790_0 := (HB.out.cell (World.block_lt_of_cell? w _ hx790_0)).trans hx790_0
              replace p790 := eq_true p790
              replace q790 := eq_true q790
              have p791 : 0 ≤ ((ji11) : Int) := of_decide_eq_true (by first | (with_reducible assumption) | assumption)
              have q791 : (ji11) < (l0.length : Int) := of_decide_eq_true (by first | (with_reducible assumption) | assumption)
              obtain ⟨ad791, e791, hx791_0⟩ := Kd.at_int HR0.out (ji11) p791 q791
              obtain rfl : ad790 = ad791 := (by injection e791)
              replace hx791_0 := (HB.out.cell (World.block_lt_of_cell? w _ hx791_0)).trans hx791_0
              replace p791 := eq_true p791
              replace q791 := eq_true q791
              go_wp2_with (first | ((with_reducible refine gate_builtin (b := .append) (xs := #[.tmp 47, .tmp 52]) rfl ?_); (try (refine gate_guard (by rfl) ?_; dsimp only)); at_builtin; refine Kd.R_append k88 (w0 := w) w.heap.size rfl (.tmp 47) (.tmp 52) 82 88 (.agg #[(.int .i64 0), (.int .i64 0), (.int .i64 0)]) 24 rfl Tryd.underlying82 info88 rfl (by decide) (by omega) u3 x3_1 (⟨x4_1, x5_1, wrap64 ((ji11) + 1)⟩ : S88) [.int .i64 x4_1, .int .i64 x5_1, .int .i64 (wrap64 ((ji11) + 1))] (fun _ => True) (fun _ => False) rfl rfl ?aP (fun _ hk => hk.elim) ?aF ?aO ?aB ?aS ?aL ?_; (case aP => exact k88_mkM _ _ _ (⟨x4_1, x5_1, wrap64 ((ji11) + 1)⟩ : S88)); (case aB => exact (by repeat (first | (with_reducible first | exact HB.out | apply below_alloc | apply pw_below_drewN | apply below_drew1) | exact HB.out))); (case aF => exact (fun _ _ => trivial)); (case aO => exact (by (with_reducible repeat (first | apply Kd.R_alloc | apply Kd.R_drewN | apply Kd.R_drew)); exact HO_3.out)); (case aS => exact (below_size (by repeat (first | (with_reducible first | exact HB.out | apply below_alloc | apply pw_below_drewN | apply below_drew1) | exact HB.out)))); (case aL => have := LMc14.out; omega); intro v793 w15 ho hb hg hat; rw [← Ny792.out] at ho; have n0_ := Aside0.mk (hb); have n1_ := Aside0.mk (ho); clear HB; clear HO_3; have HB := n0_; have HO794 := n1_; clear n0_ n1_; clear ho hb hg hat))
              go_roundg kj2
              case measure => have := HK1.out; have := HJ2.out; omega
              case rel => exact ⟨(y792), (wrap64 ((ji11) + 1)), (wrap64 ((wrap64 ((wrap64 ((ji11) + 1)) - 1)) + 1)), (by first | rfl | (simp; done) | (simp only [← hji11] <;> (first | rfl | simp)) | (simp [*]; done)), (by first | rfl | (simp; done) | (simp only [← hji11] <;> (first | rfl | simp)) | (simp [*]; done)), H', ⟨by have := HK1.out; have := HJ2.out; omega⟩, ⟨by (with_reducible repeat (first | apply Kd.R_alloc | apply Kd.R_drewN | apply Kd.R_drew)); exact HO794.out⟩, ⟨by repeat (first | (with_reducible first | exact HB.out | apply below_alloc | apply pw_below_drewN | apply below_drew1) | exact HB.out)⟩⟩
             ·
              rw [if_neg c14] at H
              exact absurd H (by simp)
            ·
             rw [if_neg c13] at H
             have c13b0 : ((rd l0 (ji11)) == 10) = false := beq_eq_false_iff_ne.mpr c13
             have c13b1 : ((rd l0 (ji11)) != 10) = true := bne_iff_ne.mpr c13
             by_cases c16 : x3_1.length < 5864062014805
             ·
              rw [if_pos c16] at H
              have LMc16 := Aside0.mk c16
              clear c16
              obtain ⟨y795, hy795⟩ : ∃ y_ : List (S88), y_ = (x3_1 ++ [(⟨x4_1, x5_1, ji11⟩ : S88)]) := ⟨_, rfl⟩
              replace H : (galleyref07_Rows.l0 kj2 l0 y795 ji11 (wrap64 ((wrap64 ((ji11) - 1)) + 1))) = some r := by first | (rw [hy795]; with_reducible exact H) | (have H2_ := (Option.bind_some _ _).symm.trans H; rw [hy795]; with_reducible exact H2_) | (have H2_ := (Option.bind_some _ _).symm.trans H; with_reducible exact H2_) | with_reducible exact H | (rw [hy795]; exact H) | exact H
              have Ny795 := Aside0.mk hy795
              clear hy795
              have H' := Aside0.mk H
              clear H
              have p790 : 0 ≤ (x5_1 : Int) := of_decide_eq_true (by first | (with_reducible assumption) | assumption)
              have q790 : x5_1 < (l0.length : Int) := of_decide_eq_true (by first | (with_reducible assumption) | assumption)
              obtain ⟨ad790, e790, hx790_0⟩ := Kd.at_int HR0.out x5_1 p790 q790
              cases e790
              replace hx790_0 := (HB.out.cell (World.block_lt_of_cell? w _ hx790_0)).trans hx790_0
              replace p790 := eq_true p790
              replace q790 := eq_true q790
              have p791 : 0 ≤ ((ji11) : Int) := of_decide_eq_true (by first | (with_reducible assumption) | assumption)
              have q791 : (ji11) < (l0.length : Int) := of_decide_eq_true (by first | (with_reducible assumption) | assumption)
              obtain ⟨ad791, e791, hx791_0⟩ := Kd.at_int HR0.out (ji11) p791 q791
              obtain rfl : ad790 = ad791 := (by injection e791)
              replace hx791_0 := (HB.out.cell (World.block_lt_of_cell? w _ hx791_0)).trans hx791_0
              replace p791 := eq_true p791
              replace q791 := eq_true q791
              go_wp2_with (first | ((with_reducible refine gate_builtin (b := .append) (xs := #[.tmp 47, .tmp 52]) rfl ?_); (try (refine gate_guard (by rfl) ?_; dsimp only)); at_builtin; refine Kd.R_append k88 (w0 := w) w.heap.size rfl (.tmp 47) (.tmp 52) 82 88 (.agg #[(.int .i64 0), (.int .i64 0), (.int .i64 0)]) 24 rfl Tryd.underlying82 info88 rfl (by decide) (by omega) u3 x3_1 (⟨x4_1, x5_1, ji11⟩ : S88) [.int .i64 x4_1, .int .i64 x5_1, .int .i64 ji11] (fun _ => True) (fun _ => False) rfl rfl ?aP (fun _ hk => hk.elim) ?aF ?aO ?aB ?aS ?aL ?_; (case aP => exact k88_mkM _ _ _ (⟨x4_1, x5_1, ji11⟩ : S88)); (case aB => exact (by repeat (first | (with_reducible first | exact HB.out | apply below_alloc | apply pw_below_drewN | apply below_drew1) | exact HB.out))); (case aF => exact (fun _ _ => trivial)); (case aO => exact (by (with_reducible repeat (first | apply Kd.R_alloc | apply Kd.R_drewN | apply Kd.R_drew)); exact HO_3.out)); (case aS => exact (below_size (by repeat (first | (with_reducible first | exact HB.out | apply below_alloc | apply pw_below_drewN | apply below_drew1) | exact HB.out)))); (case aL => have := LMc16.out; omega); intro v796 w17 ho hb hg hat; rw [← Ny795.out] at ho; have n0_ := Aside0.mk (hb); have n1_ := Aside0.mk (ho); clear HB; clear HO_3; have HB := n0_; have HO797 := n1_; clear n0_ n1_; clear ho hb hg hat))
              go_roundg kj2
              case measure => have := HK1.out; have := HJ2.out; omega
              case rel => exact ⟨(y795), (ji11), (wrap64 ((wrap64 ((ji11) - 1)) + 1)), (by first | rfl | (simp; done) | (simp only [← hji11] <;> (first | rfl | simp)) | (simp [*]; done)), (by first | rfl | (simp; done) | (simp only [← hji11] <;> (first | rfl | simp)) | (simp [*]; done)), H', ⟨by have := HK1.out; have := HJ2.out; omega⟩, ⟨by (with_reducible repeat (first | apply Kd.R_alloc | apply Kd.R_drewN | apply Kd.R_drew)); exact HO797.out⟩, ⟨by repeat (first | (with_reducible first | exact HB.out | apply below_alloc | apply pw_below_drewN | apply below_drew1) | exact HB.out)⟩⟩
             ·
              rw [if_neg c16] at H
              exact absurd H (by simp)
           ·
            rw [if_neg c12] at H
            exact absurd H (by simp)
          ·
           rw [if_neg c10] at H
           have c10b0 : decide ((wrap64 (x5_1 + 1)) < (l0.length : Int)) = false := decide_eq_false c10
           clear c10
           by_cases c18 : x3_1.length < 5864062014805
           ·
            rw [if_pos c18] at H
            have LMc18 := Aside0.mk c18
            clear c18
            obtain ⟨y798, hy798⟩ : ∃ y_ : List (S88), y_ = (x3_1 ++ [(⟨x4_1, x5_1, wrap64 (x5_1 + 1)⟩ : S88)]) := ⟨_, rfl⟩
            replace H : (galleyref07_Rows.l0 kj2 l0 y798 (wrap64 (x5_1 + 1)) (wrap64 ((wrap64 ((wrap64 (x5_1 + 1)) - 1)) + 1))) = some r := by first | (rw [hy798]; with_reducible exact H) | (have H2_ := (Option.bind_some _ _).symm.trans H; rw [hy798]; with_reducible exact H2_) | (have H2_ := (Option.bind_some _ _).symm.trans H; with_reducible exact H2_) | with_reducible exact H | (rw [hy798]; exact H) | exact H
            have Ny798 := Aside0.mk hy798
            clear hy798
            have H' := Aside0.mk H
            clear H
            have p790 : 0 ≤ (x5_1 : Int) := of_decide_eq_true (by first | (with_reducible assumption) | assumption)
            have q790 : x5_1 < (l0.length : Int) := of_decide_eq_true (by first | (with_reducible assumption) | assumption)
            obtain ⟨ad790, e790, hx790_0⟩ := Kd.at_int HR0.out x5_1 p790 q790
            cases e790
            replace hx790_0 := (HB.out.cell (World.block_lt_of_cell? w _ hx790_0)).trans hx790_0
            replace p790 := eq_true p790
            replace q790 := eq_true q790
            go_wp2_with (first | ((with_reducible refine gate_builtin (b := .append) (xs := #[.tmp 47, .tmp 52]) rfl ?_); (try (refine gate_guard (by rfl) ?_; dsimp only)); at_builtin; refine Kd.R_append k88 (w0 := w) w.heap.size rfl (.tmp 47) (.tmp 52) 82 88 (.agg #[(.int .i64 0), (.int .i64 0), (.int .i64 0)]) 24 rfl Tryd.underlying82 info88 rfl (by decide) (by omega) u3 x3_1 (⟨x4_1, x5_1, wrap64 (x5_1 + 1)⟩ : S88) [.int .i64 x4_1, .int .i64 x5_1, .int .i64 (wrap64 (x5_1 + 1))] (fun _ => True) (fun _ => False) rfl rfl ?aP (fun _ hk => hk.elim) ?aF ?aO ?aB ?aS ?aL ?_; (case aP => exact k88_mkM _ _ _ (⟨x4_1, x5_1, wrap64 (x5_1 + 1)⟩ : S88)); (case aB => exact (by repeat (first | (with_reducible first | exact HB.out | apply below_alloc | apply pw_below_drewN | apply below_drew1) | exact HB.out))); (case aF => exact (fun _ _ => trivial)); (case aO => exact (by (with_reducible repeat (first | apply Kd.R_alloc | apply Kd.R_drewN | apply Kd.R_drew)); exact HO_3.out)); (case aS => exact (below_size (by repeat (first | (with_reducible first | exact HB.out | apply below_alloc | apply pw_below_drewN | apply below_drew1) | exact HB.out)))); (case aL => have := LMc18.out; omega); intro v799 w19 ho hb hg hat; rw [← Ny798.out] at ho; have n0_ := Aside0.mk (hb); have n1_ := Aside0.mk (ho); clear HB; clear HO_3; have HB := n0_; have HO800 := n1_; clear n0_ n1_; clear ho hb hg hat))
            go_roundg kj2
            case measure => have := HK1.out; have := HJ2.out; omega
            case rel => exact ⟨(y798), (wrap64 (x5_1 + 1)), (wrap64 ((wrap64 ((wrap64 (x5_1 + 1)) - 1)) + 1)), (by first | rfl | (simp; done) | (simp [*]; done)), (by first | rfl | (simp; done) | (simp [*]; done)), H', ⟨by have := HK1.out; have := HJ2.out; omega⟩, ⟨by (with_reducible repeat (first | apply Kd.R_alloc | apply Kd.R_drewN | apply Kd.R_drew)); exact HO800.out⟩, ⟨by repeat (first | (with_reducible first | exact HB.out | apply below_alloc | apply pw_below_drewN | apply below_drew1) | exact HB.out)⟩⟩
           ·
            rw [if_neg c18] at H
            exact absurd H (by simp)
         ·
          rw [if_neg c9] at H
          have c9b0 : ((rd l0 x5_1) == 13) = false := beq_eq_false_iff_ne.mpr c9
          have c9b1 : ((rd l0 x5_1) != 13) = true := bne_iff_ne.mpr c9
          by_cases c20 : x3_1.length < 5864062014805
          ·
           rw [if_pos c20] at H
           have LMc20 := Aside0.mk c20
           clear c20
           obtain ⟨y801, hy801⟩ : ∃ y_ : List (S88), y_ = (x3_1 ++ [(⟨x4_1, x5_1, wrap64 (x5_1 + 1)⟩ : S88)]) := ⟨_, rfl⟩
           replace H : (galleyref07_Rows.l0 kj2 l0 y801 (wrap64 (x5_1 + 1)) (wrap64 ((wrap64 ((wrap64 (x5_1 + 1)) - 1)) + 1))) = some r := by first | (rw [hy801]; with_reducible exact H) | (have H2_ := (Option.bind_some _ _).symm.trans H; rw [hy801]; with_reducible exact H2_) | (have H2_ := (Option.bind_some _ _).symm.trans H; with_reducible exact H2_) | with_reducible exact H | (rw [hy801]; exact H) | exact H
           have Ny801 := Aside0.mk hy801
           clear hy801
           have H' := Aside0.mk H
           clear H
           have p790 : 0 ≤ (x5_1 : Int) := of_decide_eq_true (by first | (with_reducible assumption) | assumption)
           have q790 : x5_1 < (l0.length : Int) := of_decide_eq_true (by first | (with_reducible assumption) | assumption)
           obtain ⟨ad790, e790, hx790_0⟩ := Kd.at_int HR0.out x5_1 p790 q790
           cases e790
           replace hx790_0 := (HB.out.cell (World.block_lt_of_cell? w _ hx790_0)).trans hx790_0
           replace p790 := eq_true p790
           replace q790 := eq_true q790
           go_wp2_with (first | ((with_reducible refine gate_builtin (b := .append) (xs := #[.tmp 47, .tmp 52]) rfl ?_); (try (refine gate_guard (by rfl) ?_; dsimp only)); at_builtin; refine Kd.R_append k88 (w0 := w) w.heap.size rfl (.tmp 47) (.tmp 52) 82 88 (.agg #[(.int .i64 0), (.int .i64 0), (.int .i64 0)]) 24 rfl Tryd.underlying82 info88 rfl (by decide) (by omega) u3 x3_1 (⟨x4_1, x5_1, wrap64 (x5_1 + 1)⟩ : S88) [.int .i64 x4_1, .int .i64 x5_1, .int .i64 (wrap64 (x5_1 + 1))] (fun _ => True) (fun _ => False) rfl rfl ?aP (fun _ hk => hk.elim) ?aF ?aO ?aB ?aS ?aL ?_; (case aP => exact k88_mkM _ _ _ (⟨x4_1, x5_1, wrap64 (x5_1 + 1)⟩ : S88)); (case aB => exact (by repeat (first | (with_reducible first | exact HB.out | apply below_alloc | apply pw_below_drewN | apply below_drew1) | exact HB.out))); (case aF => exact (fun _ _ => trivial)); (case aO => exact (by (with_reducible repeat (first | apply Kd.R_alloc | apply Kd.R_drewN | apply Kd.R_drew)); exact HO_3.out)); (case aS => exact (below_size (by repeat (first | (with_reducible first | exact HB.out | apply below_alloc | apply pw_below_drewN | apply below_drew1) | exact HB.out)))); (case aL => have := LMc20.out; omega); intro v802 w21 ho hb hg hat; rw [← Ny801.out] at ho; have n0_ := Aside0.mk (hb); have n1_ := Aside0.mk (ho); clear HB; clear HO_3; have HB := n0_; have HO803 := n1_; clear n0_ n1_; clear ho hb hg hat))
           go_roundg kj2
           case measure => have := HK1.out; have := HJ2.out; omega
           case rel => exact ⟨(y801), (wrap64 (x5_1 + 1)), (wrap64 ((wrap64 ((wrap64 (x5_1 + 1)) - 1)) + 1)), (by first | rfl | (simp; done) | (simp [*]; done)), (by first | rfl | (simp; done) | (simp [*]; done)), H', ⟨by have := HK1.out; have := HJ2.out; omega⟩, ⟨by (with_reducible repeat (first | apply Kd.R_alloc | apply Kd.R_drewN | apply Kd.R_drew)); exact HO803.out⟩, ⟨by repeat (first | (with_reducible first | exact HB.out | apply below_alloc | apply pw_below_drewN | apply below_drew1) | exact HB.out)⟩⟩
          ·
           rw [if_neg c20] at H
           exact absurd H (by simp)
        ·
         rw [if_neg c8] at H
         exact absurd H (by simp)
       ·
        rw [if_neg c7] at H
        exact absurd H (by simp)
   ·
    rw [if_neg c2] at H
    have c2b0 : decide (x5_1 < (l0.length : Int)) = false := decide_eq_false c2
    clear c2
    by_cases c22 : x3_1.length < 5864062014805
    ·
     rw [if_pos c22] at H
     have LMc22 := Aside0.mk c22
     clear c22
     obtain ⟨y785, hy785⟩ : ∃ y_ : List (S88), y_ = (x3_1 ++ [(⟨x4_1, (l0.length : Int), (l0.length : Int)⟩ : S88)]) := ⟨_, rfl⟩
     replace H : (some y785) = some r := by first | (rw [hy785]; with_reducible exact H) | (have H2_ := (Option.bind_some _ _).symm.trans H; rw [hy785]; with_reducible exact H2_) | (have H2_ := (Option.bind_some _ _).symm.trans H; with_reducible exact H2_) | with_reducible exact H | (rw [hy785]; exact H) | exact H
     have Ny785 := Aside0.mk hy785
     clear hy785
     obtain rfl := Option.some.inj H
     go_wp2_with (first | ((with_reducible refine gate_builtin (b := .append) (xs := #[.tmp 57, .tmp 64]) rfl ?_); (try (refine gate_guard (by rfl) ?_; dsimp only)); at_builtin; refine Kd.R_append k88 (w0 := w) w.heap.size rfl (.tmp 57) (.tmp 64) 82 88 (.agg #[(.int .i64 0), (.int .i64 0), (.int .i64 0)]) 24 rfl Tryd.underlying82 info88 rfl (by decide) (by omega) u3 x3_1 (⟨x4_1, (l0.length : Int), (l0.length : Int)⟩ : S88) [.int .i64 x4_1, .int .i64 (l0.length : Int), .int .i64 (l0.length : Int)] (fun _ => True) (fun _ => False) rfl rfl ?aP (fun _ hk => hk.elim) ?aF ?aO ?aB ?aS ?aL ?_; (case aP => exact k88_mkM _ _ _ (⟨x4_1, (l0.length : Int), (l0.length : Int)⟩ : S88)); (case aB => exact (by repeat (first | (with_reducible first | exact HB.out | apply below_alloc | apply pw_below_drewN | apply below_drew1) | exact HB.out))); (case aF => exact (fun _ _ => trivial)); (case aO => exact (by (with_reducible repeat (first | apply Kd.R_alloc | apply Kd.R_drewN | apply Kd.R_drew)); exact HO_3.out)); (case aS => exact (below_size (by repeat (first | (with_reducible first | exact HB.out | apply below_alloc | apply pw_below_drewN | apply below_drew1) | exact HB.out)))); (case aL => have := LMc22.out; omega); intro v786 w23 ho hb hg hat; rw [← Ny785.out] at ho; have n0_ := Aside0.mk (hb); have n1_ := Aside0.mk (ho); clear HB; clear HO_3; have HB := n0_; have HO787 := n1_; clear n0_ n1_; clear ho hb hg hat))
     go_ret
     exact ⟨_, by first | rfl | (simp [errW_none, errW_some] <;> rfl) | (simp [*, errW_none, errW_some] <;> rfl), by (with_reducible repeat (first | apply Kd.R_alloc | apply Kd.R_drewN | apply Kd.R_drew)); exact HO787.out, by repeat (first | (with_reducible first | exact HB.out | apply below_alloc | apply pw_below_drewN | apply below_drew1) | exact HB.out)⟩
    ·
     rw [if_neg c22] at H
     exact absurd H (by simp)
end Go.Proofs.YtbomhpfckplgaaaDoor.P
