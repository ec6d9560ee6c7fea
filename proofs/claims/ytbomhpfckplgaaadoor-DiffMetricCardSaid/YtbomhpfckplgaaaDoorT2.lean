/- Texts of this claim, put together: Px7, Px8, Px9, Px10, Px11. -/
import Derived.Test.YtbomhpfckplgaaaDoorT1
namespace Go.Proofs.YtbomhpfckplgaaaDoor.P
open Go.RowKit Go.Proofs.YtbomhpfckplgaaaDoorW.PrintWords Go.Proofs.YtbomhpfckplgaaaDoorW.PrintLast Go.Proofs.YtbomhpfckplgaaaDoorW.PrintMore
attribute [local go_sem] max2_int min2_int max_two min_two max_three min_three max_four min_four   -- for this text's walks alone
set_option linter.unusedVariables false
set_option linter.unusedSimpArgs false
mutual
def galleyref02_Long.j0 : Nat → Int → Int → Int → Int → Bool → Option (Int)
 | 0, _, _, _, _, _ => none
 | k + 1, x5, x6, x7, x8, x31 => if x31 = true then (some 2) else ((galleyref02_in.f x7 128 191).bind fun t158 => (if t158 = true then (if x5 = 224 then ((galleyref02_in.f x6 160 191).bind fun t159 => (if t159 = true then (some 3) else ((galleyref02_in.f x5 225 236).bind fun t160 => (if t160 = true then ((galleyref02_in.f x6 128 191).bind fun t161 => (if t161 = true then (some 3) else (if x5 = 237 then ((galleyref02_in.f x6 128 159).bind fun t162 => (if t162 = true then (some 3) else ((galleyref02_in.f x5 238 239).bind fun t163 => (if t163 = true then ((galleyref02_in.f x6 128 191).bind fun t164 => (if t164 = true then (some 3) else (galleyref02_Long.j1 k x5 x6 x7 x8))) else (galleyref02_Long.j1 k x5 x6 x7 x8))))) else ((galleyref02_in.f x5 238 239).bind fun t165 => (if t165 = true then ((galleyref02_in.f x6 128 191).bind fun t166 => (if t166 = true then (some 3) else (galleyref02_Long.j1 k x5 x6 x7 x8))) else (galleyref02_Long.j1 k x5 x6 x7 x8)))))) else (if x5 = 237 then ((galleyref02_in.f x6 128 159).bind fun t167 => (if t167 = true then (some 3) else ((galleyref02_in.f x5 238 239).bind fun t168 => (if t168 = true then ((galleyref02_in.f x6 128 191).bind fun t169 => (if t169 = true then (some 3) else (galleyref02_Long.j1 k x5 x6 x7 x8))) else (galleyref02_Long.j1 k x5 x6 x7 x8))))) else ((galleyref02_in.f x5 238 239).bind fun t170 => (if t170 = true then ((galleyref02_in.f x6 128 191).bind fun t171 => (if t171 = true then (some 3) else (galleyref02_Long.j1 k x5 x6 x7 x8))) else (galleyref02_Long.j1 k x5 x6 x7 x8)))))))) else ((galleyref02_in.f x5 225 236).bind fun t172 => (if t172 = true then ((galleyref02_in.f x6 128 191).bind fun t173 => (if t173 = true then (some 3) else (if x5 = 237 then ((galleyref02_in.f x6 128 159).bind fun t174 => (if t174 = true then (some 3) else ((galleyref02_in.f x5 238 239).bind fun t175 => (if t175 = true then ((galleyref02_in.f x6 128 191).bind fun t176 => (if t176 = true then (some 3) else (galleyref02_Long.j1 k x5 x6 x7 x8))) else (galleyref02_Long.j1 k x5 x6 x7 x8))))) else ((galleyref02_in.f x5 238 239).bind fun t177 => (if t177 = true then ((galleyref02_in.f x6 128 191).bind fun t178 => (if t178 = true then (some 3) else (galleyref02_Long.j1 k x5 x6 x7 x8))) else (galleyref02_Long.j1 k x5 x6 x7 x8)))))) else (if x5 = 237 then ((galleyref02_in.f x6 128 159).bind fun t179 => (if t179 = true then (some 3) else ((galleyref02_in.f x5 238 239).bind fun t180 => (if t180 = true then ((galleyref02_in.f x6 128 191).bind fun t181 => (if t181 = true then (some 3) else (galleyref02_Long.j1 k x5 x6 x7 x8))) else (galleyref02_Long.j1 k x5 x6 x7 x8))))) else ((galleyref02_in.f x5 238 239).bind fun t182 => (if t182 = true then ((galleyref02_in.f x6 128 191).bind fun t183 => (if t183 = true then (some 3) else (galleyref02_Long.j1 k x5 x6 x7 x8))) else (galleyref02_Long.j1 k x5 x6 x7 x8))))))) else (galleyref02_Long.j1 k x5 x6 x7 x8)))
def galleyref02_Long.j1 : Nat → Int → Int → Int → Int → Option (Int)
 | 0, _, _, _, _ => none
 | k + 1, x5, x6, x7, x8 => (galleyref02_in.f x7 128 191).bind fun t184 => (if t184 = true then ((galleyref02_in.f x8 128 191).bind fun t185 => (galleyref02_Long.j2 k x5 x6 t185)) else (galleyref02_Long.j2 k x5 x6 false))
def galleyref02_Long.j2 : Nat → Int → Int → Bool → Option (Int)
 | 0, _, _, _ => none
 | k + 1, x5, x6, x69 => if x69 = true then (if x5 = 240 then ((galleyref02_in.f x6 144 191).bind fun t186 => (if t186 = true then (some 4) else ((galleyref02_in.f x5 241 243).bind fun t187 => (if t187 = true then ((galleyref02_in.f x6 128 191).bind fun t188 => (if t188 = true then (some 4) else (if x5 = 244 then ((galleyref02_in.f x6 128 143).bind fun t189 => (if t189 = true then (some 4) else (some 0))) else (some 0)))) else (if x5 = 244 then ((galleyref02_in.f x6 128 143).bind fun t190 => (if t190 = true then (some 4) else (some 0))) else (some 0)))))) else ((galleyref02_in.f x5 241 243).bind fun t191 => (if t191 = true then ((galleyref02_in.f x6 128 191).bind fun t192 => (if t192 = true then (some 4) else (if x5 = 244 then ((galleyref02_in.f x6 128 143).bind fun t193 => (if t193 = true then (some 4) else (some 0))) else (some 0)))) else (if x5 = 244 then ((galleyref02_in.f x6 128 143).bind fun t194 => (if t194 = true then (some 4) else (some 0))) else (some 0))))) else (some 0)
end
def galleyref02_Long.f (k : Nat) (l0 : List Int) (a1 : Int) : Option (Int) := (galleyref02_at.f l0 a1).bind fun t151 => ((galleyref02_at.f l0 (wrap64 (a1 + 1))).bind fun t152 => ((galleyref02_at.f l0 (wrap64 (a1 + 2))).bind fun t153 => ((galleyref02_at.f l0 (wrap64 (a1 + 3))).bind fun t154 => ((galleyref02_in.f t151 0 127).bind fun t155 => (if t155 = true then (some 1) else ((galleyref02_in.f t151 194 223).bind fun t156 => (if t156 = true then ((galleyref02_in.f t152 128 191).bind fun t157 => (galleyref02_Long.j0 k t151 t152 t153 t154 t157)) else (galleyref02_Long.j0 k t151 t152 t153 t154 false))))))))
set_option maxHeartbeats 8000000 in
set_option maxRecDepth 100000 in
theorem galleyref02_Long.calls (k : Nat) (A0 : Option Addr) (c0 : Nat) (l0 : List Int) (a1 : Int) (r : Int) (w : World) (hr0 : Kd.C (Kd.int .u8) w A0 l0.length l0) (hc0 : l0.length ≤ c0) (h : galleyref02_Long.f k l0 a1 = some r) :
  Calls Tryd.prog 120 #[.slice A0 l0.length c0, .int .i64 a1] w fun e w' => e = .returned (.int .i64 r) ∧ Drawn0 w w' := by
 have HR0 := Aside0.mk hr0
 have HC0 := Aside0.mk hc0
 clear hr0 hc0
 have H : ((galleyref02_at.f l0 a1).bind fun t151 => ((galleyref02_at.f l0 (wrap64 (a1 + 1))).bind fun t152 => ((galleyref02_at.f l0 (wrap64 (a1 + 2))).bind fun t153 => ((galleyref02_at.f l0 (wrap64 (a1 + 3))).bind fun t154 => ((galleyref02_in.f t151 0 127).bind fun t155 => (if t155 = true then (some 1) else ((galleyref02_in.f t151 194 223).bind fun t156 => (if t156 = true then ((galleyref02_in.f t152 128 191).bind fun t157 => (galleyref02_Long.j0 k t151 t152 t153 t154 t157)) else (galleyref02_Long.j0 k t151 t152 t153 t154 false))))))))) = some r := h
 clear h
 replace H := Option.bind_eq_some_iff.mp H
 obtain ⟨t151, A30, H⟩ := H
 replace H : ((galleyref02_at.f l0 (wrap64 (a1 + 1))).bind fun t152 => ((galleyref02_at.f l0 (wrap64 (a1 + 2))).bind fun t153 => ((galleyref02_at.f l0 (wrap64 (a1 + 3))).bind fun t154 => ((galleyref02_in.f t151 0 127).bind fun t155 => (if t155 = true then (some 1) else ((galleyref02_in.f t151 194 223).bind fun t156 => (if t156 = true then ((galleyref02_in.f t152 128 191).bind fun t157 => (galleyref02_Long.j0 k t151 t152 t153 t154 t157)) else (galleyref02_Long.j0 k t151 t152 t153 t154 false)))))))) = some r := H
 have A3 := Aside0.mk A30
 clear A30
 replace H := Option.bind_eq_some_iff.mp H
 obtain ⟨t152, A40, H⟩ := H
 replace H : ((galleyref02_at.f l0 (wrap64 (a1 + 2))).bind fun t153 => ((galleyref02_at.f l0 (wrap64 (a1 + 3))).bind fun t154 => ((galleyref02_in.f t151 0 127).bind fun t155 => (if t155 = true then (some 1) else ((galleyref02_in.f t151 194 223).bind fun t156 => (if t156 = true then ((galleyref02_in.f t152 128 191).bind fun t157 => (galleyref02_Long.j0 k t151 t152 t153 t154 t157)) else (galleyref02_Long.j0 k t151 t152 t153 t154 false))))))) = some r := H
 have A4 := Aside0.mk A40
 clear A40
 replace H := Option.bind_eq_some_iff.mp H
 obtain ⟨t153, A50, H⟩ := H
 replace H : ((galleyref02_at.f l0 (wrap64 (a1 + 3))).bind fun t154 => ((galleyref02_in.f t151 0 127).bind fun t155 => (if t155 = true then (some 1) else ((galleyref02_in.f t151 194 223).bind fun t156 => (if t156 = true then ((galleyref02_in.f t152 128 191).bind fun t157 => (galleyref02_Long.j0 k t151 t152 t153 t154 t157)) else (galleyref02_Long.j0 k t151 t152 t153 t154 false)))))) = some r := H
 have A5 := Aside0.mk A50
 clear A50
 replace H := Option.bind_eq_some_iff.mp H
 obtain ⟨t154, A60, H⟩ := H
 replace H : ((galleyref02_in.f t151 0 127).bind fun t155 => (if t155 = true then (some 1) else ((galleyref02_in.f t151 194 223).bind fun t156 => (if t156 = true then ((galleyref02_in.f t152 128 191).bind fun t157 => (galleyref02_Long.j0 k t151 t152 t153 t154 t157)) else (galleyref02_Long.j0 k t151 t152 t153 t154 false))))) = some r := H
 have A6 := Aside0.mk A60
 clear A60
 replace H := Option.bind_eq_some_iff.mp H
 obtain ⟨t155, A70, H⟩ := H
 replace H : (if t155 = true then (some 1) else ((galleyref02_in.f t151 194 223).bind fun t156 => (if t156 = true then ((galleyref02_in.f t152 128 191).bind fun t157 => (galleyref02_Long.j0 k t151 t152 t153 t154 t157)) else (galleyref02_Long.j0 k t151 t152 t153 t154 false)))) = some r := H
 have A7 := Aside0.mk A70
 clear A70
 by_cases c8 : t155 = true
 ·
  subst c8
  have H1 : (some 1) = some r := by rw [if_pos rfl] at H; exact H
  clear H
  have H := H1
  clear H1
  obtain rfl := Option.some.inj H
  go_enter Tryd.func120, Tryd.ntmps120
  go_wp2_with (first | ((with_reducible refine gate_callee (f := 132) rfl ?_); refine goesL_ (some 11) rfl rfl Tryd.func132 (by kernel_rfl) rfl #[.slice A0 l0.length c0, .int .i64 a1] rfl (by (try simp only [List.map_toArray, List.map_cons, List.map_nil]); first | done | rfl | (simp only [List.length_drop, List.length_take]; rfl)) ?_; (with_reducible refine (galleyref02_at.calls _ _ l0 a1 t151 _ ?side1 ?side2 A3.out).mono ?_); (case side1 => repeat (first | exact HR0.out | (with_reducible refine Kd.C_alloc ?_ _) | (with_reducible refine Kd.C_drewN ?_ _) | (with_reducible refine Kd.C_drew ?_))); (case side2 => exact HC0.out); rintro e w' ⟨rfl, ⟨nd, rfl⟩⟩; refine ⟨_, rfl, ?_⟩) | ((with_reducible refine gate_callee (f := 132) rfl ?_); refine goesL_ (some 15) rfl rfl Tryd.func132 (by kernel_rfl) rfl #[.slice A0 l0.length c0, .int .i64 (wrap64 (a1 + 1))] rfl (by (try simp only [List.map_toArray, List.map_cons, List.map_nil]); first | done | rfl | (simp only [List.length_drop, List.length_take]; rfl)) ?_; (with_reducible refine (galleyref02_at.calls _ _ l0 (wrap64 (a1 + 1)) t152 _ ?side1 ?side2 A4.out).mono ?_); (case side1 => repeat (first | exact HR0.out | (with_reducible refine Kd.C_alloc ?_ _) | (with_reducible refine Kd.C_drewN ?_ _) | (with_reducible refine Kd.C_drew ?_))); (case side2 => exact HC0.out); rintro e w' ⟨rfl, ⟨nd, rfl⟩⟩; refine ⟨_, rfl, ?_⟩) | ((with_reducible refine gate_callee (f := 132) rfl ?_); refine goesL_ (some 19) rfl rfl Tryd.func132 (by kernel_rfl) rfl #[.slice A0 l0.length c0, .int .i64 (wrap64 (a1 + 2))] rfl (by (try simp only [List.map_toArray, List.map_cons, List.map_nil]); first | done | rfl | (simp only [List.length_drop, List.length_take]; rfl)) ?_; (with_reducible refine (galleyref02_at.calls _ _ l0 (wrap64 (a1 + 2)) t153 _ ?side1 ?side2 A5.out).mono ?_); (case side1 => repeat (first | exact HR0.out | (with_reducible refine Kd.C_alloc ?_ _) | (with_reducible refine Kd.C_drewN ?_ _) | (with_reducible refine Kd.C_drew ?_))); (case side2 => exact HC0.out); rintro e w' ⟨rfl, ⟨nd, rfl⟩⟩; refine ⟨_, rfl, ?_⟩) | ((with_reducible refine gate_callee (f := 132) rfl ?_); refine goesL_ (some 23) rfl rfl Tryd.func132 (by kernel_rfl) rfl #[.slice A0 l0.length c0, .int .i64 (wrap64 (a1 + 3))] rfl (by (try simp only [List.map_toArray, List.map_cons, List.map_nil]); first | done | rfl | (simp only [List.length_drop, List.length_take]; rfl)) ?_; (with_reducible refine (galleyref02_at.calls _ _ l0 (wrap64 (a1 + 3)) t154 _ ?side1 ?side2 A6.out).mono ?_); (case side1 => repeat (first | exact HR0.out | (with_reducible refine Kd.C_alloc ?_ _) | (with_reducible refine Kd.C_drewN ?_ _) | (with_reducible refine Kd.C_drew ?_))); (case side2 => exact HC0.out); rintro e w' ⟨rfl, ⟨nd, rfl⟩⟩; refine ⟨_, rfl, ?_⟩) | ((with_reducible refine gate_callee (f := 133) rfl ?_); refine goesL_ (some 25) rfl rfl Tryd.func133 (by kernel_rfl) rfl #[.int .i64 t151, .int .i64 0, .int .i64 127] rfl (by (try simp only [List.map_toArray, List.map_cons, List.map_nil]); first | done | rfl | (simp only [List.length_drop, List.length_take]; rfl)) ?_; (with_reducible refine (galleyref02_in.calls t151 0 127 true _ A7.out).mono ?_); rintro e w' ⟨rfl, ⟨nd, rfl⟩⟩; refine ⟨_, rfl, ?_⟩))
  go_ret
  exact ⟨by first | rfl | (simp; done) | (simp [*]; done), by repeat (first | exact Drawn0.refl _ | apply Drawn0.step)⟩
 ·
  replace c8 := Bool.eq_false_iff.mpr c8
  subst c8
  have H1 : ((galleyref02_in.f t151 194 223).bind fun t156 => (if t156 = true then ((galleyref02_in.f t152 128 191).bind fun t157 => (galleyref02_Long.j0 k t151 t152 t153 t154 t157)) else (galleyref02_Long.j0 k t151 t152 t153 t154 false))) = some r := by rw [if_neg (show ¬ (false = true) by decide)] at H; exact H
  clear H
  have H := H1
  clear H1
  have HC9 := Aside0.mk H
  clear H
  go_enter Tryd.func120, Tryd.ntmps120
  go_upto_region 4 with (first | ((with_reducible refine gate_callee (f := 132) rfl ?_); refine goesL_ (some 11) rfl rfl Tryd.func132 (by kernel_rfl) rfl #[.slice A0 l0.length c0, .int .i64 a1] rfl (by (try simp only [List.map_toArray, List.map_cons, List.map_nil]); first | done | rfl | (simp only [List.length_drop, List.length_take]; rfl)) ?_; (with_reducible refine (galleyref02_at.calls _ _ l0 a1 t151 _ ?side1 ?side2 A3.out).mono ?_); (case side1 => repeat (first | exact HR0.out | (with_reducible refine Kd.C_alloc ?_ _) | (with_reducible refine Kd.C_drewN ?_ _) | (with_reducible refine Kd.C_drew ?_))); (case side2 => exact HC0.out); rintro e w' ⟨rfl, ⟨nd, rfl⟩⟩; refine ⟨_, rfl, ?_⟩) | ((with_reducible refine gate_callee (f := 132) rfl ?_); refine goesL_ (some 15) rfl rfl Tryd.func132 (by kernel_rfl) rfl #[.slice A0 l0.length c0, .int .i64 (wrap64 (a1 + 1))] rfl (by (try simp only [List.map_toArray, List.map_cons, List.map_nil]); first | done | rfl | (simp only [List.length_drop, List.length_take]; rfl)) ?_; (with_reducible refine (galleyref02_at.calls _ _ l0 (wrap64 (a1 + 1)) t152 _ ?side1 ?side2 A4.out).mono ?_); (case side1 => repeat (first | exact HR0.out | (with_reducible refine Kd.C_alloc ?_ _) | (with_reducible refine Kd.C_drewN ?_ _) | (with_reducible refine Kd.C_drew ?_))); (case side2 => exact HC0.out); rintro e w' ⟨rfl, ⟨nd, rfl⟩⟩; refine ⟨_, rfl, ?_⟩) | ((with_reducible refine gate_callee (f := 132) rfl ?_); refine goesL_ (some 19) rfl rfl Tryd.func132 (by kernel_rfl) rfl #[.slice A0 l0.length c0, .int .i64 (wrap64 (a1 + 2))] rfl (by (try simp only [List.map_toArray, List.map_cons, List.map_nil]); first | done | rfl | (simp only [List.length_drop, List.length_take]; rfl)) ?_; (with_reducible refine (galleyref02_at.calls _ _ l0 (wrap64 (a1 + 2)) t153 _ ?side1 ?side2 A5.out).mono ?_); (case side1 => repeat (first | exact HR0.out | (with_reducible refine Kd.C_alloc ?_ _) | (with_reducible refine Kd.C_drewN ?_ _) | (with_reducible refine Kd.C_drew ?_))); (case side2 => exact HC0.out); rintro e w' ⟨rfl, ⟨nd, rfl⟩⟩; refine ⟨_, rfl, ?_⟩) | ((with_reducible refine gate_callee (f := 132) rfl ?_); refine goesL_ (some 23) rfl rfl Tryd.func132 (by kernel_rfl) rfl #[.slice A0 l0.length c0, .int .i64 (wrap64 (a1 + 3))] rfl (by (try simp only [List.map_toArray, List.map_cons, List.map_nil]); first | done | rfl | (simp only [List.length_drop, List.length_take]; rfl)) ?_; (with_reducible refine (galleyref02_at.calls _ _ l0 (wrap64 (a1 + 3)) t154 _ ?side1 ?side2 A6.out).mono ?_); (case side1 => repeat (first | exact HR0.out | (with_reducible refine Kd.C_alloc ?_ _) | (with_reducible refine Kd.C_drewN ?_ _) | (with_reducible refine Kd.C_drew ?_))); (case side2 => exact HC0.out); rintro e w' ⟨rfl, ⟨nd, rfl⟩⟩; refine ⟨_, rfl, ?_⟩) | ((with_reducible refine gate_callee (f := 133) rfl ?_); refine goesL_ (some 25) rfl rfl Tryd.func133 (by kernel_rfl) rfl #[.int .i64 t151, .int .i64 0, .int .i64 127] rfl (by (try simp only [List.map_toArray, List.map_cons, List.map_nil]); first | done | rfl | (simp only [List.length_drop, List.length_take]; rfl)) ?_; (with_reducible refine (galleyref02_in.calls t151 0 127 false _ A7.out).mono ?_); rintro e w' ⟨rfl, ⟨nd, rfl⟩⟩; refine ⟨_, rfl, ?_⟩))
  (try simp only [Act.put, List.setIfInBounds_toArray, List.set_cons_zero, List.set_cons_succ])
  go_cut [31] (fun v31 wc => ∃ (kq : Nat) (x31_8 : Bool), v31 = .bool x31_8 ∧ Aside0 (galleyref02_Long.j0 kq t151 t152 t153 t154 x31_8 = some r) ∧ Aside0 (kq ≤ k) ∧ Drawn0 w wc)
  case first =>
   have H := HC9.out
   clear HC9
   replace H := Option.bind_eq_some_iff.mp H
   obtain ⟨t156, A100, H⟩ := H
   replace H : (if t156 = true then ((galleyref02_in.f t152 128 191).bind fun t157 => (galleyref02_Long.j0 k t151 t152 t153 t154 t157)) else (galleyref02_Long.j0 k t151 t152 t153 t154 false)) = some r := H
   have A10 := Aside0.mk A100
   clear A100
   by_cases c11 : t156 = true
   ·
    subst c11
    have H1 : ((galleyref02_in.f t152 128 191).bind fun t157 => (galleyref02_Long.j0 k t151 t152 t153 t154 t157)) = some r := by rw [if_pos rfl] at H; exact H
    clear H
    have H := H1
    clear H1
    replace H := Option.bind_eq_some_iff.mp H
    obtain ⟨t157, A120, H⟩ := H
    replace H : (galleyref02_Long.j0 k t151 t152 t153 t154 t157) = some r := H
    have A12 := Aside0.mk A120
    clear A120
    have H' := Aside0.mk H
    clear H
    go_wp2_with (first | ((with_reducible refine gate_callee (f := 133) rfl ?_); refine goesL_ (some 27) rfl rfl Tryd.func133 (by kernel_rfl) rfl #[.int .i64 t151, .int .i64 194, .int .i64 223] rfl (by (try simp only [List.map_toArray, List.map_cons, List.map_nil]); first | done | rfl | (simp only [List.length_drop, List.length_take]; rfl)) ?_; (with_reducible refine (galleyref02_in.calls t151 194 223 true _ A10.out).mono ?_); rintro e w' ⟨rfl, ⟨nd, rfl⟩⟩; refine ⟨_, rfl, ?_⟩) | (go_at_call 133; (with_reducible refine (galleyref02_in.calls t152 128 191 t157 _ A12.out).mono ?_); rintro e w' ⟨rfl, ⟨nd, rfl⟩⟩))
    go_meet
    case rel => exact ⟨_, (t157), (by first | rfl | (simp; done) | (simp [*]; done)), H', ⟨by first | omega | exact Nat.le_refl _⟩, by repeat (first | exact Drawn0.refl _ | apply Drawn0.step)⟩
   ·
    replace c11 := Bool.eq_false_iff.mpr c11
    subst c11
    have H1 : (galleyref02_Long.j0 k t151 t152 t153 t154 false) = some r := by rw [if_neg (show ¬ (false = true) by decide)] at H; exact H
    clear H
    have H := H1
    clear H1
    have H' := Aside0.mk H
    clear H
    go_wp2_with (first | ((with_reducible refine gate_callee (f := 133) rfl ?_); refine goesL_ (some 27) rfl rfl Tryd.func133 (by kernel_rfl) rfl #[.int .i64 t151, .int .i64 194, .int .i64 223] rfl (by (try simp only [List.map_toArray, List.map_cons, List.map_nil]); first | done | rfl | (simp only [List.length_drop, List.length_take]; rfl)) ?_; (with_reducible refine (galleyref02_in.calls t151 194 223 false _ A10.out).mono ?_); rintro e w' ⟨rfl, ⟨nd, rfl⟩⟩; refine ⟨_, rfl, ?_⟩))
    go_meet
    case rel => exact ⟨_, (false), (by first | rfl | (simp; done) | (simp [*]; done)), H', ⟨by first | omega | exact Nat.le_refl _⟩, by repeat (first | exact Drawn0.refl _ | apply Drawn0.step)⟩
  case rest =>
   clear HC9
   (try clear c1); (try clear p2); (try clear p6); (try clear c8); (try clear c11); (try clear c12)
   obtain ⟨kq, x31_8, rfl, HA, HJ8, ⟨mc8, rfl⟩⟩ := hcut
   cases kq with
   | zero => exact absurd HA.out (by simp [galleyref02_Long.j0])
   | succ kj8 =>
    have H := HA.out
    clear HA
    simp only [galleyref02_Long.j0] at H
    by_cases c13 : x31_8 = true
    ·
     subst c13
     have H1 : (some 2) = some r := by rw [if_pos rfl] at H; exact H
     clear H
     have H := H1
     clear H1
     obtain rfl := Option.some.inj H
     go_wp2
     go_ret
     exact ⟨by first | rfl | (simp; done) | (simp [*]; done), by repeat (first | exact Drawn0.refl _ | apply Drawn0.step)⟩
    ·
     replace c13 := Bool.eq_false_iff.mpr c13
     subst c13
     have H1 : ((galleyref02_in.f t153 128 191).bind fun t158 => (if t158 = true then (if t151 = 224 then ((galleyref02_in.f t152 160 191).bind fun t159 => (if t159 = true then (some 3) else ((galleyref02_in.f t151 225 236).bind fun t160 => (if t160 = true then ((galleyref02_in.f t152 128 191).bind fun t161 => (if t161 = true then (some 3) else (if t151 = 237 then ((galleyref02_in.f t152 128 159).bind fun t162 => (if t162 = true then (some 3) else ((galleyref02_in.f t151 238 239).bind fun t163 => (if t163 = true then ((galleyref02_in.f t152 128 191).bind fun t164 => (if t164 = true then (some 3) else (galleyref02_Long.j1 kj8 t151 t152 t153 t154))) else (galleyref02_Long.j1 kj8 t151 t152 t153 t154))))) else ((galleyref02_in.f t151 238 239).bind fun t165 => (if t165 = true then ((galleyref02_in.f t152 128 191).bind fun t166 => (if t166 = true then (some 3) else (galleyref02_Long.j1 kj8 t151 t152 t153 t154))) else (galleyref02_Long.j1 kj8 t151 t152 t153 t154)))))) else (if t151 = 237 then ((galleyref02_in.f t152 128 159).bind fun t167 => (if t167 = true then (some 3) else ((galleyref02_in.f t151 238 239).bind fun t168 => (if t168 = true then ((galleyref02_in.f t152 128 191).bind fun t169 => (if t169 = true then (some 3) else (galleyref02_Long.j1 kj8 t151 t152 t153 t154))) else (galleyref02_Long.j1 kj8 t151 t152 t153 t154))))) else ((galleyref02_in.f t151 238 239).bind fun t170 => (if t170 = true then ((galleyref02_in.f t152 128 191).bind fun t171 => (if t171 = true then (some 3) else (galleyref02_Long.j1 kj8 t151 t152 t153 t154))) else (galleyref02_Long.j1 kj8 t151 t152 t153 t154)))))))) else ((galleyref02_in.f t151 225 236).bind fun t172 => (if t172 = true then ((galleyref02_in.f t152 128 191).bind fun t173 => (if t173 = true then (some 3) else (if t151 = 237 then ((galleyref02_in.f t152 128 159).bind fun t174 => (if t174 = true then (some 3) else ((galleyref02_in.f t151 238 239).bind fun t175 => (if t175 = true then ((galleyref02_in.f t152 128 191).bind fun t176 => (if t176 = true then (some 3) else (galleyref02_Long.j1 kj8 t151 t152 t153 t154))) else (galleyref02_Long.j1 kj8 t151 t152 t153 t154))))) else ((galleyref02_in.f t151 238 239).bind fun t177 => (if t177 = true then ((galleyref02_in.f t152 128 191).bind fun t178 => (if t178 = true then (some 3) else (galleyref02_Long.j1 kj8 t151 t152 t153 t154))) else (galleyref02_Long.j1 kj8 t151 t152 t153 t154)))))) else (if t151 = 237 then ((galleyref02_in.f t152 128 159).bind fun t179 => (if t179 = true then (some 3) else ((galleyref02_in.f t151 238 239).bind fun t180 => (if t180 = true then ((galleyref02_in.f t152 128 191).bind fun t181 => (if t181 = true then (some 3) else (galleyref02_Long.j1 kj8 t151 t152 t153 t154))) else (galleyref02_Long.j1 kj8 t151 t152 t153 t154))))) else ((galleyref02_in.f t151 238 239).bind fun t182 => (if t182 = true then ((galleyref02_in.f t152 128 191).bind fun t183 => (if t183 = true then (some 3) else (galleyref02_Long.j1 kj8 t151 t152 t153 t154))) else (galleyref02_Long.j1 kj8 t151 t152 t153 t154))))))) else (galleyref02_Long.j1 kj8 t151 t152 t153 t154))) = some r := by rw [if_neg (show ¬ (false = true) by decide)] at H; exact H
     clear H
     have H := H1
     clear H1
     replace H := Option.bind_eq_some_iff.mp H
     obtain ⟨t158, A140, H⟩ := H
     replace H : (if t158 = true then (if t151 = 224 then ((galleyref02_in.f t152 160 191).bind fun t159 => (if t159 = true then (some 3) else ((galleyref02_in.f t151 225 236).bind fun t160 => (if t160 = true then ((galleyref02_in.f t152 128 191).bind fun t161 => (if t161 = true then (some 3) else (if t151 = 237 then ((galleyref02_in.f t152 128 159).bind fun t162 => (if t162 = true then (some 3) else ((galleyref02_in.f t151 238 239).bind fun t163 => (if t163 = true then ((galleyref02_in.f t152 128 191).bind fun t164 => (if t164 = true then (some 3) else (galleyref02_Long.j1 kj8 t151 t152 t153 t154))) else (galleyref02_Long.j1 kj8 t151 t152 t153 t154))))) else ((galleyref02_in.f t151 238 239).bind fun t165 => (if t165 = true then ((galleyref02_in.f t152 128 191).bind fun t166 => (if t166 = true then (some 3) else (galleyref02_Long.j1 kj8 t151 t152 t153 t154))) else (galleyref02_Long.j1 kj8 t151 t152 t153 t154)))))) else (if t151 = 237 then ((galleyref02_in.f t152 128 159).bind fun t167 => (if t167 = true then (some 3) else ((galleyref02_in.f t151 238 239).bind fun t168 => (if t168 = true then ((galleyref02_in.f t152 128 191).bind fun t169 => (if t169 = true then (some 3) else (galleyref02_Long.j1 kj8 t151 t152 t153 t154))) else (galleyref02_Long.j1 kj8 t151 t152 t153 t154))))) else ((galleyref02_in.f t151 238 239).bind fun t170 => (if t170 = true then ((galleyref02_in.f t152 128 191).bind fun t171 => (if t171 = true then (some 3) else (galleyref02_Long.j1 kj8 t151 t152 t153 t154))) else (galleyref02_Long.j1 kj8 t151 t152 t153 t154)))))))) else ((galleyref02_in.f t151 225 236).bind fun t172 => (if t172 = true then ((galleyref02_in.f t152 128 191).bind fun t173 => (if t173 = true then (some 3) else (if t151 = 237 then ((galleyref02_in.f t152 128 159).bind fun t174 => (if t174 = true then (some 3) else ((galleyref02_in.f t151 238 239).bind fun t175 => (if t175 = true then ((galleyref02_in.f t152 128 191).bind fun t176 => (if t176 = true then (some 3) else (galleyref02_Long.j1 kj8 t151 t152 t153 t154))) else (galleyref02_Long.j1 kj8 t151 t152 t153 t154))))) else ((galleyref02_in.f t151 238 239).bind fun t177 => (if t177 = true then ((galleyref02_in.f t152 128 191).bind fun t178 => (if t178 = true then (some 3) else (galleyref02_Long.j1 kj8 t151 t152 t153 t154))) else (galleyref02_Long.j1 kj8 t151 t152 t153 t154)))))) else (if t151 = 237 then ((galleyref02_in.f t152 128 159).bind fun t179 => (if t179 = true then (some 3) else ((galleyref02_in.f t151 238 239).bind fun t180 => (if t180 = true then ((galleyref02_in.f t152 128 191).bind fun t181 => (if t181 = true then (some 3) else (galleyref02_Long.j1 kj8 t151 t152 t153 t154))) else (galleyref02_Long.j1 kj8 t151 t152 t153 t154))))) else ((galleyref02_in.f t151 238 239).bind fun t182 => (if t182 = true then ((galleyref02_in.f t152 128 191).bind fun t183 => (if t183 = true then (some 3) else (galleyref02_Long.j1 kj8 t151 t152 t153 t154))) else (galleyref02_Long.j1 kj8 t151 t152 t153 t154))))))) else (galleyref02_Long.j1 kj8 t151 t152 t153 t154)) = some r := H
     have A14 := Aside0.mk A140
     clear A140
     have HC15 := Aside0.mk H
     clear H
     go_upto_if 33 with (first | ((with_reducible refine gate_callee (f := 133) rfl ?_); refine goesL_ (some 33) rfl rfl Tryd.func133 (by kernel_rfl) rfl #[.int .i64 t153, .int .i64 128, .int .i64 191] rfl (by (try simp only [List.map_toArray, List.map_cons, List.map_nil]); first | done | rfl | (simp only [List.length_drop, List.length_take]; rfl)) ?_; (with_reducible refine (galleyref02_in.calls t153 128 191 t158 _ A14.out).mono ?_); rintro e w' ⟨rfl, ⟨nd, rfl⟩⟩; refine ⟨_, rfl, ?_⟩))
     (try simp only [Act.put, List.setIfInBounds_toArray, List.set_cons_zero, List.set_cons_succ])
     go_cut [] (fun wc => ∃ (kq : Nat), Aside0 (galleyref02_Long.j1 kq t151 t152 t153 t154 = some r) ∧ Aside0 (kq ≤ kj8) ∧ Drawn0 w wc)
     case first =>
      have H := HC15.out
      clear HC15
      by_cases c16 : t158 = true
      ·
       subst c16
       have H1 : (if t151 = 224 then ((galleyref02_in.f t152 160 191).bind fun t159 => (if t159 = true then (some 3) else ((galleyref02_in.f t151 225 236).bind fun t160 => (if t160 = true then ((galleyref02_in.f t152 128 191).bind fun t161 => (if t161 = true then (some 3) else (if t151 = 237 then ((galleyref02_in.f t152 128 159).bind fun t162 => (if t162 = true then (some 3) else ((galleyref02_in.f t151 238 239).bind fun t163 => (if t163 = true then ((galleyref02_in.f t152 128 191).bind fun t164 => (if t164 = true then (some 3) else (galleyref02_Long.j1 kj8 t151 t152 t153 t154))) else (galleyref02_Long.j1 kj8 t151 t152 t153 t154))))) else ((galleyref02_in.f t151 238 239).bind fun t165 => (if t165 = true then ((galleyref02_in.f t152 128 191).bind fun t166 => (if t166 = true then (some 3) else (galleyref02_Long.j1 kj8 t151 t152 t153 t154))) else (galleyref02_Long.j1 kj8 t151 t152 t153 t154)))))) else (if t151 = 237 then ((galleyref02_in.f t152 128 159).bind fun t167 => (if t167 = true then (some 3) else ((galleyref02_in.f t151 238 239).bind fun t168 => (if t168 = true then ((galleyref02_in.f t152 128 191).bind fun t169 => (if t169 = true then (some 3) else (galleyref02_Long.j1 kj8 t151 t152 t153 t154))) else (galleyref02_Long.j1 kj8 t151 t152 t153 t154))))) else ((galleyref02_in.f t151 238 239).bind fun t170 => (if t170 = true then ((galleyref02_in.f t152 128 191).bind fun t171 => (if t171 = true then (some 3) else (galleyref02_Long.j1 kj8 t151 t152 t153 t154))) else (galleyref02_Long.j1 kj8 t151 t152 t153 t154)))))))) else ((galleyref02_in.f t151 225 236).bind fun t172 => (if t172 = true then ((galleyref02_in.f t152 128 191).bind fun t173 => (if t173 = true then (some 3) else (if t151 = 237 then ((galleyref02_in.f t152 128 159).bind fun t174 => (if t174 = true then (some 3) else ((galleyref02_in.f t151 238 239).bind fun t175 => (if t175 = true then ((galleyref02_in.f t152 128 191).bind fun t176 => (if t176 = true then (some 3) else (galleyref02_Long.j1 kj8 t151 t152 t153 t154))) else (galleyref02_Long.j1 kj8 t151 t152 t153 t154))))) else ((galleyref02_in.f t151 238 239).bind fun t177 => (if t177 = true then ((galleyref02_in.f t152 128 191).bind fun t178 => (if t178 = true then (some 3) else (galleyref02_Long.j1 kj8 t151 t152 t153 t154))) else (galleyref02_Long.j1 kj8 t151 t152 t153 t154)))))) else (if t151 = 237 then ((galleyref02_in.f t152 128 159).bind fun t179 => (if t179 = true then (some 3) else ((galleyref02_in.f t151 238 239).bind fun t180 => (if t180 = true then ((galleyref02_in.f t152 128 191).bind fun t181 => (if t181 = true then (some 3) else (galleyref02_Long.j1 kj8 t151 t152 t153 t154))) else (galleyref02_Long.j1 kj8 t151 t152 t153 t154))))) else ((galleyref02_in.f t151 238 239).bind fun t182 => (if t182 = true then ((galleyref02_in.f t152 128 191).bind fun t183 => (if t183 = true then (some 3) else (galleyref02_Long.j1 kj8 t151 t152 t153 t154))) else (galleyref02_Long.j1 kj8 t151 t152 t153 t154))))))) = some r := by rw [if_pos rfl] at H; exact H
       clear H
       have H := H1
       clear H1
       by_cases c17 : t151 = 224
       ·
        rw [if_pos c17] at H
        have c17b0 : (t151 == 224) = true := beq_iff_eq.mpr c17
        have c17b1 : (t151 != 224) = false := bne_eq_false_iff_eq.mpr c17
        clear c17
        (first | rw [c17b0] | (simp only [i64_w, i32_w]; rw [c17b0]) | skip)
        replace H := Option.bind_eq_some_iff.mp H
        obtain ⟨t159, A180, H⟩ := H
        replace H : (if t159 = true then (some 3) else ((galleyref02_in.f t151 225 236).bind fun t160 => (if t160 = true then ((galleyref02_in.f t152 128 191).bind fun t161 => (if t161 = true then (some 3) else (if t151 = 237 then ((galleyref02_in.f t152 128 159).bind fun t162 => (if t162 = true then (some 3) else ((galleyref02_in.f t151 238 239).bind fun t163 => (if t163 = true then ((galleyref02_in.f t152 128 191).bind fun t164 => (if t164 = true then (some 3) else (galleyref02_Long.j1 kj8 t151 t152 t153 t154))) else (galleyref02_Long.j1 kj8 t151 t152 t153 t154))))) else ((galleyref02_in.f t151 238 239).bind fun t165 => (if t165 = true then ((galleyref02_in.f t152 128 191).bind fun t166 => (if t166 = true then (some 3) else (galleyref02_Long.j1 kj8 t151 t152 t153 t154))) else (galleyref02_Long.j1 kj8 t151 t152 t153 t154)))))) else (if t151 = 237 then ((galleyref02_in.f t152 128 159).bind fun t167 => (if t167 = true then (some 3) else ((galleyref02_in.f t151 238 239).bind fun t168 => (if t168 = true then ((galleyref02_in.f t152 128 191).bind fun t169 => (if t169 = true then (some 3) else (galleyref02_Long.j1 kj8 t151 t152 t153 t154))) else (galleyref02_Long.j1 kj8 t151 t152 t153 t154))))) else ((galleyref02_in.f t151 238 239).bind fun t170 => (if t170 = true then ((galleyref02_in.f t152 128 191).bind fun t171 => (if t171 = true then (some 3) else (galleyref02_Long.j1 kj8 t151 t152 t153 t154))) else (galleyref02_Long.j1 kj8 t151 t152 t153 t154))))))) = some r := H
        have A18 := Aside0.mk A180
        clear A180
        by_cases c19 : t159 = true
        ·
         subst c19
         have H1 : (some 3) = some r := by rw [if_pos rfl] at H; exact H
         clear H
         have H := H1
         clear H1
         obtain rfl := Option.some.inj H
         go_wp2_with (first | (go_at_call 133; (with_reducible refine (galleyref02_in.calls t152 160 191 true _ A18.out).mono ?_); rintro e w' ⟨rfl, ⟨nd, rfl⟩⟩))
         go_ret
         exact ⟨by first | rfl | (simp; done) | (simp [*]; done), by repeat (first | exact Drawn0.refl _ | apply Drawn0.step)⟩
        ·
         replace c19 := Bool.eq_false_iff.mpr c19
         subst c19
         have H1 : ((galleyref02_in.f t151 225 236).bind fun t160 => (if t160 = true then ((galleyref02_in.f t152 128 191).bind fun t161 => (if t161 = true then (some 3) else (if t151 = 237 then ((galleyref02_in.f t152 128 159).bind fun t162 => (if t162 = true then (some 3) else ((galleyref02_in.f t151 238 239).bind fun t163 => (if t163 = true then ((galleyref02_in.f t152 128 191).bind fun t164 => (if t164 = true then (some 3) else (galleyref02_Long.j1 kj8 t151 t152 t153 t154))) else (galleyref02_Long.j1 kj8 t151 t152 t153 t154))))) else ((galleyref02_in.f t151 238 239).bind fun t165 => (if t165 = true then ((galleyref02_in.f t152 128 191).bind fun t166 => (if t166 = true then (some 3) else (galleyref02_Long.j1 kj8 t151 t152 t153 t154))) else (galleyref02_Long.j1 kj8 t151 t152 t153 t154)))))) else (if t151 = 237 then ((galleyref02_in.f t152 128 159).bind fun t167 => (if t167 = true then (some 3) else ((galleyref02_in.f t151 238 239).bind fun t168 => (if t168 = true then ((galleyref02_in.f t152 128 191).bind fun t169 => (if t169 = true then (some 3) else (galleyref02_Long.j1 kj8 t151 t152 t153 t154))) else (galleyref02_Long.j1 kj8 t151 t152 t153 t154))))) else ((galleyref02_in.f t151 238 239).bind fun t170 => (if t170 = true then ((galleyref02_in.f t152 128 191).bind fun t171 => (if t171 = true then (some 3) else (galleyref02_Long.j1 kj8 t151 t152 t153 t154))) else (galleyref02_Long.j1 kj8 t151 t152 t153 t154)))))) = some r := by rw [if_neg (show ¬ (false = true) by decide)] at H; exact H
         clear H
         have H := H1
         clear H1
         replace H := Option.bind_eq_some_iff.mp H
         obtain ⟨t160, A200, H⟩ := H
         replace H : (if t160 = true then ((galleyref02_in.f t152 128 191).bind fun t161 => (if t161 = true then (some 3) else (if t151 = 237 then ((galleyref02_in.f t152 128 159).bind fun t162 => (if t162 = true then (some 3) else ((galleyref02_in.f t151 238 239).bind fun t163 => (if t163 = true then ((galleyref02_in.f t152 128 191).bind fun t164 => (if t164 = true then (some 3) else (galleyref02_Long.j1 kj8 t151 t152 t153 t154))) else (galleyref02_Long.j1 kj8 t151 t152 t153 t154))))) else ((galleyref02_in.f t151 238 239).bind fun t165 => (if t165 = true then ((galleyref02_in.f t152 128 191).bind fun t166 => (if t166 = true then (some 3) else (galleyref02_Long.j1 kj8 t151 t152 t153 t154))) else (galleyref02_Long.j1 kj8 t151 t152 t153 t154)))))) else (if t151 = 237 then ((galleyref02_in.f t152 128 159).bind fun t167 => (if t167 = true then (some 3) else ((galleyref02_in.f t151 238 239).bind fun t168 => (if t168 = true then ((galleyref02_in.f t152 128 191).bind fun t169 => (if t169 = true then (some 3) else (galleyref02_Long.j1 kj8 t151 t152 t153 t154))) else (galleyref02_Long.j1 kj8 t151 t152 t153 t154))))) else ((galleyref02_in.f t151 238 239).bind fun t170 => (if t170 = true then ((galleyref02_in.f t152 128 191).bind fun t171 => (if t171 = true then (some 3) else (galleyref02_Long.j1 kj8 t151 t152 t153 t154))) else (galleyref02_Long.j1 kj8 t151 t152 t153 t154))))) = some r := H
         have A20 := Aside0.mk A200
         clear A200
         by_cases c21 : t160 = true
         ·
          subst c21
          have H1 : ((galleyref02_in.f t152 128 191).bind fun t161 => (if t161 = true then (some 3) else (if t151 = 237 then ((galleyref02_in.f t152 128 159).bind fun t162 => (if t162 = true then (some 3) else ((galleyref02_in.f t151 238 239).bind fun t163 => (if t163 = true then ((galleyref02_in.f t152 128 191).bind fun t164 => (if t164 = true then (some 3) else (galleyref02_Long.j1 kj8 t151 t152 t153 t154))) else (galleyref02_Long.j1 kj8 t151 t152 t153 t154))))) else ((galleyref02_in.f t151 238 239).bind fun t165 => (if t165 = true then ((galleyref02_in.f t152 128 191).bind fun t166 => (if t166 = true then (some 3) else (galleyref02_Long.j1 kj8 t151 t152 t153 t154))) else (galleyref02_Long.j1 kj8 t151 t152 t153 t154)))))) = some r := by rw [if_pos rfl] at H; exact H
          clear H
          have H := H1
          clear H1
          replace H := Option.bind_eq_some_iff.mp H
          obtain ⟨t161, A220, H⟩ := H
          replace H : (if t161 = true then (some 3) else (if t151 = 237 then ((galleyref02_in.f t152 128 159).bind fun t162 => (if t162 = true then (some 3) else ((galleyref02_in.f t151 238 239).bind fun t163 => (if t163 = true then ((galleyref02_in.f t152 128 191).bind fun t164 => (if t164 = true then (some 3) else (galleyref02_Long.j1 kj8 t151 t152 t153 t154))) else (galleyref02_Long.j1 kj8 t151 t152 t153 t154))))) else ((galleyref02_in.f t151 238 239).bind fun t165 => (if t165 = true then ((galleyref02_in.f t152 128 191).bind fun t166 => (if t166 = true then (some 3) else (galleyref02_Long.j1 kj8 t151 t152 t153 t154))) else (galleyref02_Long.j1 kj8 t151 t152 t153 t154))))) = some r := H
          have A22 := Aside0.mk A220
          clear A220
          by_cases c23 : t161 = true
          ·
           subst c23
           have H1 : (some 3) = some r := by rw [if_pos rfl] at H; exact H
           clear H
           have H := H1
           clear H1
           obtain rfl := Option.some.inj H
           go_wp2_with (first | (go_at_call 133; (with_reducible refine (galleyref02_in.calls t152 160 191 false _ A18.out).mono ?_); rintro e w' ⟨rfl, ⟨nd, rfl⟩⟩) | (go_at_call 133; (with_reducible refine (galleyref02_in.calls t151 225 236 true _ A20.out).mono ?_); rintro e w' ⟨rfl, ⟨nd, rfl⟩⟩) | (go_at_call 133; (with_reducible refine (galleyref02_in.calls t152 128 191 true _ A22.out).mono ?_); rintro e w' ⟨rfl, ⟨nd, rfl⟩⟩))
           go_ret
           exact ⟨by first | rfl | (simp; done) | (simp [*]; done), by repeat (first | exact Drawn0.refl _ | apply Drawn0.step)⟩
          ·
           replace c23 := Bool.eq_false_iff.mpr c23
           subst c23
           have H1 : (if t151 = 237 then ((galleyref02_in.f t152 128 159).bind fun t162 => (if t162 = true then (some 3) else ((galleyref02_in.f t151 238 239).bind fun t163 => (if t163 = true then ((galleyref02_in.f t152 128 191).bind fun t164 => (if t164 = true then (some 3) else (galleyref02_Long.j1 kj8 t151 t152 t153 t154))) else (galleyref02_Long.j1 kj8 t151 t152 t153 t154))))) else ((galleyref02_in.f t151 238 239).bind fun t165 => (if t165 = true then ((galleyref02_in.f t152 128 191).bind fun t166 => (if t166 = true then (some 3) else (galleyref02_Long.j1 kj8 t151 t152 t153 t154))) else (galleyref02_Long.j1 kj8 t151 t152 t153 t154)))) = some r := by rw [if_neg (show ¬ (false = true) by decide)] at H; exact H
           clear H
           have H := H1
           clear H1
           by_cases c24 : t151 = 237
           ·
            rw [if_pos c24] at H
            have c24b0 : (t151 == 237) = true := beq_iff_eq.mpr c24
            have c24b1 : (t151 != 237) = false := bne_eq_false_iff_eq.mpr c24
            clear c24
            replace H := Option.bind_eq_some_iff.mp H
            obtain ⟨t162, A250, H⟩ := H
            replace H : (if t162 = true then (some 3) else ((galleyref02_in.f t151 238 239).bind fun t163 => (if t163 = true then ((galleyref02_in.f t152 128 191).bind fun t164 => (if t164 = true then (some 3) else (galleyref02_Long.j1 kj8 t151 t152 t153 t154))) else (galleyref02_Long.j1 kj8 t151 t152 t153 t154)))) = some r := H
            have A25 := Aside0.mk A250
            clear A250
            by_cases c26 : t162 = true
            ·
             subst c26
             have H1 : (some 3) = some r := by rw [if_pos rfl] at H; exact H
             clear H
             have H := H1
             clear H1
             obtain rfl := Option.some.inj H
             go_wp2_with (first | (go_at_call 133; (with_reducible refine (galleyref02_in.calls t152 160 191 false _ A18.out).mono ?_); rintro e w' ⟨rfl, ⟨nd, rfl⟩⟩) | (go_at_call 133; (with_reducible refine (galleyref02_in.calls t151 225 236 true _ A20.out).mono ?_); rintro e w' ⟨rfl, ⟨nd, rfl⟩⟩) | (go_at_call 133; (with_reducible refine (galleyref02_in.calls t152 128 191 false _ A22.out).mono ?_); rintro e w' ⟨rfl, ⟨nd, rfl⟩⟩) | (go_at_call 133; (with_reducible refine (galleyref02_in.calls t152 128 159 true _ A25.out).mono ?_); rintro e w' ⟨rfl, ⟨nd, rfl⟩⟩))
             go_ret
             exact ⟨by first | rfl | (simp; done) | (simp [*]; done), by repeat (first | exact Drawn0.refl _ | apply Drawn0.step)⟩
            ·
             replace c26 := Bool.eq_false_iff.mpr c26
             subst c26
             have H1 : ((galleyref02_in.f t151 238 239).bind fun t163 => (if t163 = true then ((galleyref02_in.f t152 128 191).bind fun t164 => (if t164 = true then (some 3) else (galleyref02_Long.j1 kj8 t151 t152 t153 t154))) else (galleyref02_Long.j1 kj8 t151 t152 t153 t154))) = some r := by rw [if_neg (show ¬ (false = true) by decide)] at H; exact H
             clear H
             have H := H1
             clear H1
             replace H := Option.bind_eq_some_iff.mp H
             obtain ⟨t163, A270, H⟩ := H
             replace H : (if t163 = true then ((galleyref02_in.f t152 128 191).bind fun t164 => (if t164 = true then (some 3) else (galleyref02_Long.j1 kj8 t151 t152 t153 t154))) else (galleyref02_Long.j1 kj8 t151 t152 t153 t154)) = some r := H
             have A27 := Aside0.mk A270
             clear A270
             by_cases c28 : t163 = true
             ·
              subst c28
              have H1 : ((galleyref02_in.f t152 128 191).bind fun t164 => (if t164 = true then (some 3) else (galleyref02_Long.j1 kj8 t151 t152 t153 t154))) = some r := by rw [if_pos rfl] at H; exact H
              clear H
              have H := H1
              clear H1
              replace H := Option.bind_eq_some_iff.mp H
              obtain ⟨t164, A290, H⟩ := H
              replace H : (if t164 = true then (some 3) else (galleyref02_Long.j1 kj8 t151 t152 t153 t154)) = some r := H
              have A29 := Aside0.mk A290
              clear A290
              by_cases c30 : t164 = true
              ·
               subst c30
               have H1 : (some 3) = some r := by rw [if_pos rfl] at H; exact H
               clear H
               have H := H1
               clear H1
               obtain rfl := Option.some.inj H
               exact absurd (A22.out.symm.trans A29.out) (by simp)
              ·
               replace c30 := Bool.eq_false_iff.mpr c30
               subst c30
               have H1 : (galleyref02_Long.j1 kj8 t151 t152 t153 t154) = some r := by rw [if_neg (show ¬ (false = true) by decide)] at H; exact H
               clear H
               have H := H1
               clear H1
               have H' := Aside0.mk H
               clear H
               go_wp2_with (first | (go_at_call 133; (with_reducible refine (galleyref02_in.calls t152 160 191 false _ A18.out).mono ?_); rintro e w' ⟨rfl, ⟨nd, rfl⟩⟩) | (go_at_call 133; (with_reducible refine (galleyref02_in.calls t151 225 236 true _ A20.out).mono ?_); rintro e w' ⟨rfl, ⟨nd, rfl⟩⟩) | (go_at_call 133; (with_reducible refine (galleyref02_in.calls t152 128 191 false _ A22.out).mono ?_); rintro e w' ⟨rfl, ⟨nd, rfl⟩⟩) | (go_at_call 133; (with_reducible refine (galleyref02_in.calls t152 128 159 false _ A25.out).mono ?_); rintro e w' ⟨rfl, ⟨nd, rfl⟩⟩) | (go_at_call 133; (with_reducible refine (galleyref02_in.calls t151 238 239 true _ A27.out).mono ?_); rintro e w' ⟨rfl, ⟨nd, rfl⟩⟩) | (go_at_call 133; (with_reducible refine (galleyref02_in.calls t152 128 191 false _ A29.out).mono ?_); rintro e w' ⟨rfl, ⟨nd, rfl⟩⟩))
               go_meet
               case rel => exact ⟨_, H', ⟨by have := HJ8.out; first | omega | exact Nat.le_refl _⟩, by repeat (first | exact Drawn0.refl _ | apply Drawn0.step)⟩
             ·
              replace c28 := Bool.eq_false_iff.mpr c28
              subst c28
              have H1 : (galleyref02_Long.j1 kj8 t151 t152 t153 t154) = some r := by rw [if_neg (show ¬ (false = true) by decide)] at H; exact H
              clear H
              have H := H1
              clear H1
              have H' := Aside0.mk H
              clear H
              go_wp2_with (first | (go_at_call 133; (with_reducible refine (galleyref02_in.calls t152 160 191 false _ A18.out).mono ?_); rintro e w' ⟨rfl, ⟨nd, rfl⟩⟩) | (go_at_call 133; (with_reducible refine (galleyref02_in.calls t151 225 236 true _ A20.out).mono ?_); rintro e w' ⟨rfl, ⟨nd, rfl⟩⟩) | (go_at_call 133; (with_reducible refine (galleyref02_in.calls t152 128 191 false _ A22.out).mono ?_); rintro e w' ⟨rfl, ⟨nd, rfl⟩⟩) | (go_at_call 133; (with_reducible refine (galleyref02_in.calls t152 128 159 false _ A25.out).mono ?_); rintro e w' ⟨rfl, ⟨nd, rfl⟩⟩) | (go_at_call 133; (with_reducible refine (galleyref02_in.calls t151 238 239 false _ A27.out).mono ?_); rintro e w' ⟨rfl, ⟨nd, rfl⟩⟩))
              go_meet
              case rel => exact ⟨_, H', ⟨by have := HJ8.out; first | omega | exact Nat.le_refl _⟩, by repeat (first | exact Drawn0.refl _ | apply Drawn0.step)⟩
           ·
            rw [if_neg c24] at H
            have c24b0 : (t151 == 237) = false := beq_eq_false_iff_ne.mpr c24
            have c24b1 : (t151 != 237) = true := bne_iff_ne.mpr c24
            replace H := Option.bind_eq_some_iff.mp H
            obtain ⟨t165, A310, H⟩ := H
            replace H : (if t165 = true then ((galleyref02_in.f t152 128 191).bind fun t166 => (if t166 = true then (some 3) else (galleyref02_Long.j1 kj8 t151 t152 t153 t154))) else (galleyref02_Long.j1 kj8 t151 t152 t153 t154)) = some r := H
            have A31 := Aside0.mk A310
            clear A310
            by_cases c32 : t165 = true
            ·
             subst c32
             have H1 : ((galleyref02_in.f t152 128 191).bind fun t166 => (if t166 = true then (some 3) else (galleyref02_Long.j1 kj8 t151 t152 t153 t154))) = some r := by rw [if_pos rfl] at H; exact H
             clear H
             have H := H1
             clear H1
             replace H := Option.bind_eq_some_iff.mp H
             obtain ⟨t166, A330, H⟩ := H
             replace H : (if t166 = true then (some 3) else (galleyref02_Long.j1 kj8 t151 t152 t153 t154)) = some r := H
             have A33 := Aside0.mk A330
             clear A330
             by_cases c34 : t166 = true
             ·
              subst c34
              have H1 : (some 3) = some r := by rw [if_pos rfl] at H; exact H
              clear H
              have H := H1
              clear H1
              obtain rfl := Option.some.inj H
              exact absurd (A22.out.symm.trans A33.out) (by simp)
             ·
              replace c34 := Bool.eq_false_iff.mpr c34
              subst c34
              have H1 : (galleyref02_Long.j1 kj8 t151 t152 t153 t154) = some r := by rw [if_neg (show ¬ (false = true) by decide)] at H; exact H
              clear H
              have H := H1
              clear H1
              have H' := Aside0.mk H
              clear H
              go_wp2_with (first | (go_at_call 133; (with_reducible refine (galleyref02_in.calls t152 160 191 false _ A18.out).mono ?_); rintro e w' ⟨rfl, ⟨nd, rfl⟩⟩) | (go_at_call 133; (with_reducible refine (galleyref02_in.calls t151 225 236 true _ A20.out).mono ?_); rintro e w' ⟨rfl, ⟨nd, rfl⟩⟩) | (go_at_call 133; (with_reducible refine (galleyref02_in.calls t152 128 191 false _ A22.out).mono ?_); rintro e w' ⟨rfl, ⟨nd, rfl⟩⟩) | (go_at_call 133; (with_reducible refine (galleyref02_in.calls t151 238 239 true _ A31.out).mono ?_); rintro e w' ⟨rfl, ⟨nd, rfl⟩⟩) | (go_at_call 133; (with_reducible refine (galleyref02_in.calls t152 128 191 false _ A33.out).mono ?_); rintro e w' ⟨rfl, ⟨nd, rfl⟩⟩))
              go_meet
              case rel => exact ⟨_, H', ⟨by have := HJ8.out; first | omega | exact Nat.le_refl _⟩, by repeat (first | exact Drawn0.refl _ | apply Drawn0.step)⟩
            ·
             replace c32 := Bool.eq_false_iff.mpr c32
             subst c32
             have H1 : (galleyref02_Long.j1 kj8 t151 t152 t153 t154) = some r := by rw [if_neg (show ¬ (false = true) by decide)] at H; exact H
             clear H
             have H := H1
             clear H1
             have H' := Aside0.mk H
             clear H
             go_wp2_with (first | (go_at_call 133; (with_reducible refine (galleyref02_in.calls t152 160 191 false _ A18.out).mono ?_); rintro e w' ⟨rfl, ⟨nd, rfl⟩⟩) | (go_at_call 133; (with_reducible refine (galleyref02_in.calls t151 225 236 true _ A20.out).mono ?_); rintro e w' ⟨rfl, ⟨nd, rfl⟩⟩) | (go_at_call 133; (with_reducible refine (galleyref02_in.calls t152 128 191 false _ A22.out).mono ?_); rintro e w' ⟨rfl, ⟨nd, rfl⟩⟩) | (go_at_call 133; (with_reducible refine (galleyref02_in.calls t151 238 239 false _ A31.out).mono ?_); rintro e w' ⟨rfl, ⟨nd, rfl⟩⟩))
             go_meet
             case rel => exact ⟨_, H', ⟨by have := HJ8.out; first | omega | exact Nat.le_refl _⟩, by repeat (first | exact Drawn0.refl _ | apply Drawn0.step)⟩
         ·
          replace c21 := Bool.eq_false_iff.mpr c21
          subst c21
          have H1 : (if t151 = 237 then ((galleyref02_in.f t152 128 159).bind fun t167 => (if t167 = true then (some 3) else ((galleyref02_in.f t151 238 239).bind fun t168 => (if t168 = true then ((galleyref02_in.f t152 128 191).bind fun t169 => (if t169 = true then (some 3) else (galleyref02_Long.j1 kj8 t151 t152 t153 t154))) else (galleyref02_Long.j1 kj8 t151 t152 t153 t154))))) else ((galleyref02_in.f t151 238 239).bind fun t170 => (if t170 = true then ((galleyref02_in.f t152 128 191).bind fun t171 => (if t171 = true then (some 3) else (galleyref02_Long.j1 kj8 t151 t152 t153 t154))) else (galleyref02_Long.j1 kj8 t151 t152 t153 t154)))) = some r := by rw [if_neg (show ¬ (false = true) by decide)] at H; exact H
          clear H
          have H := H1
          clear H1
          by_cases c35 : t151 = 237
          ·
           rw [if_pos c35] at H
           have c35b0 : (t151 == 237) = true := beq_iff_eq.mpr c35
           have c35b1 : (t151 != 237) = false := bne_eq_false_iff_eq.mpr c35
           clear c35
           replace H := Option.bind_eq_some_iff.mp H
           obtain ⟨t167, A360, H⟩ := H
           replace H : (if t167 = true then (some 3) else ((galleyref02_in.f t151 238 239).bind fun t168 => (if t168 = true then ((galleyref02_in.f t152 128 191).bind fun t169 => (if t169 = true then (some 3) else (galleyref02_Long.j1 kj8 t151 t152 t153 t154))) else (galleyref02_Long.j1 kj8 t151 t152 t153 t154)))) = some r := H
           have A36 := Aside0.mk A360
           clear A360
           by_cases c37 : t167 = true
           ·
            subst c37
            have H1 : (some 3) = some r := by rw [if_pos rfl] at H; exact H
            clear H
            have H := H1
            clear H1
            obtain rfl := Option.some.inj H
            go_wp2_with (first | (go_at_call 133; (with_reducible refine (galleyref02_in.calls t152 160 191 false _ A18.out).mono ?_); rintro e w' ⟨rfl, ⟨nd, rfl⟩⟩) | (go_at_call 133; (with_reducible refine (galleyref02_in.calls t151 225 236 false _ A20.out).mono ?_); rintro e w' ⟨rfl, ⟨nd, rfl⟩⟩) | (go_at_call 133; (with_reducible refine (galleyref02_in.calls t152 128 159 true _ A36.out).mono ?_); rintro e w' ⟨rfl, ⟨nd, rfl⟩⟩))
            go_ret
            exact ⟨by first | rfl | (simp; done) | (simp [*]; done), by repeat (first | exact Drawn0.refl _ | apply Drawn0.step)⟩
           ·
            replace c37 := Bool.eq_false_iff.mpr c37
            subst c37
            have H1 : ((galleyref02_in.f t151 238 239).bind fun t168 => (if t168 = true then ((galleyref02_in.f t152 128 191).bind fun t169 => (if t169 = true then (some 3) else (galleyref02_Long.j1 kj8 t151 t152 t153 t154))) else (galleyref02_Long.j1 kj8 t151 t152 t153 t154))) = some r := by rw [if_neg (show ¬ (false = true) by decide)] at H; exact H
            clear H
            have H := H1
            clear H1
            replace H := Option.bind_eq_some_iff.mp H
            obtain ⟨t168, A380, H⟩ := H
            replace H : (if t168 = true then ((galleyref02_in.f t152 128 191).bind fun t169 => (if t169 = true then (some 3) else (galleyref02_Long.j1 kj8 t151 t152 t153 t154))) else (galleyref02_Long.j1 kj8 t151 t152 t153 t154)) = some r := H
            have A38 := Aside0.mk A380
            clear A380
            by_cases c39 : t168 = true
            ·
             subst c39
             have H1 : ((galleyref02_in.f t152 128 191).bind fun t169 => (if t169 = true then (some 3) else (galleyref02_Long.j1 kj8 t151 t152 t153 t154))) = some r := by rw [if_pos rfl] at H; exact H
             clear H
             have H := H1
             clear H1
             replace H := Option.bind_eq_some_iff.mp H
             obtain ⟨t169, A400, H⟩ := H
             replace H : (if t169 = true then (some 3) else (galleyref02_Long.j1 kj8 t151 t152 t153 t154)) = some r := H
             have A40 := Aside0.mk A400
             clear A400
             by_cases c41 : t169 = true
             ·
              subst c41
              have H1 : (some 3) = some r := by rw [if_pos rfl] at H; exact H
              clear H
              have H := H1
              clear H1
              obtain rfl := Option.some.inj H
              go_wp2_with (first | (go_at_call 133; (with_reducible refine (galleyref02_in.calls t152 160 191 false _ A18.out).mono ?_); rintro e w' ⟨rfl, ⟨nd, rfl⟩⟩) | (go_at_call 133; (with_reducible refine (galleyref02_in.calls t151 225 236 false _ A20.out).mono ?_); rintro e w' ⟨rfl, ⟨nd, rfl⟩⟩) | (go_at_call 133; (with_reducible refine (galleyref02_in.calls t152 128 159 false _ A36.out).mono ?_); rintro e w' ⟨rfl, ⟨nd, rfl⟩⟩) | (go_at_call 133; (with_reducible refine (galleyref02_in.calls t151 238 239 true _ A38.out).mono ?_); rintro e w' ⟨rfl, ⟨nd, rfl⟩⟩) | (go_at_call 133; (with_reducible refine (galleyref02_in.calls t152 128 191 true _ A40.out).mono ?_); rintro e w' ⟨rfl, ⟨nd, rfl⟩⟩))
              go_ret
              exact ⟨by first | rfl | (simp; done) | (simp [*]; done), by repeat (first | exact Drawn0.refl _ | apply Drawn0.step)⟩
             ·
              replace c41 := Bool.eq_false_iff.mpr c41
              subst c41
              have H1 : (galleyref02_Long.j1 kj8 t151 t152 t153 t154) = some r := by rw [if_neg (show ¬ (false = true) by decide)] at H; exact H
              clear H
              have H := H1
              clear H1
              have H' := Aside0.mk H
              clear H
              go_wp2_with (first | (go_at_call 133; (with_reducible refine (galleyref02_in.calls t152 160 191 false _ A18.out).mono ?_); rintro e w' ⟨rfl, ⟨nd, rfl⟩⟩) | (go_at_call 133; (with_reducible refine (galleyref02_in.calls t151 225 236 false _ A20.out).mono ?_); rintro e w' ⟨rfl, ⟨nd, rfl⟩⟩) | (go_at_call 133; (with_reducible refine (galleyref02_in.calls t152 128 159 false _ A36.out).mono ?_); rintro e w' ⟨rfl, ⟨nd, rfl⟩⟩) | (go_at_call 133; (with_reducible refine (galleyref02_in.calls t151 238 239 true _ A38.out).mono ?_); rintro e w' ⟨rfl, ⟨nd, rfl⟩⟩) | (go_at_call 133; (with_reducible refine (galleyref02_in.calls t152 128 191 false _ A40.out).mono ?_); rintro e w' ⟨rfl, ⟨nd, rfl⟩⟩))
              go_meet
              case rel => exact ⟨_, H', ⟨by have := HJ8.out; first | omega | exact Nat.le_refl _⟩, by repeat (first | exact Drawn0.refl _ | apply Drawn0.step)⟩
            ·
             replace c39 := Bool.eq_false_iff.mpr c39
             subst c39
             have H1 : (galleyref02_Long.j1 kj8 t151 t152 t153 t154) = some r := by rw [if_neg (show ¬ (false = true) by decide)] at H; exact H
             clear H
             have H := H1
             clear H1
             have H' := Aside0.mk H
             clear H
             go_wp2_with (first | (go_at_call 133; (with_reducible refine (galleyref02_in.calls t152 160 191 false _ A18.out).mono ?_); rintro e w' ⟨rfl, ⟨nd, rfl⟩⟩) | (go_at_call 133; (with_reducible refine (galleyref02_in.calls t151 225 236 false _ A20.out).mono ?_); rintro e w' ⟨rfl, ⟨nd, rfl⟩⟩) | (go_at_call 133; (with_reducible refine (galleyref02_in.calls t152 128 159 false _ A36.out).mono ?_); rintro e w' ⟨rfl, ⟨nd, rfl⟩⟩) | (go_at_call 133; (with_reducible refine (galleyref02_in.calls t151 238 239 false _ A38.out).mono ?_); rintro e w' ⟨rfl, ⟨nd, rfl⟩⟩))
             go_meet
             case rel => exact ⟨_, H', ⟨by have := HJ8.out; first | omega | exact Nat.le_refl _⟩, by repeat (first | exact Drawn0.refl _ | apply Drawn0.step)⟩
          ·
           rw [if_neg c35] at H
           have c35b0 : (t151 == 237) = false := beq_eq_false_iff_ne.mpr c35
           have c35b1 : (t151 != 237) = true := bne_iff_ne.mpr c35
           replace H := Option.bind_eq_some_iff.mp H
           obtain ⟨t170, A420, H⟩ := H
           replace H : (if t170 = true then ((galleyref02_in.f t152 128 191).bind fun t171 => (if t171 = true then (some 3) else (galleyref02_Long.j1 kj8 t151 t152 t153 t154))) else (galleyref02_Long.j1 kj8 t151 t152 t153 t154)) = some r := H
           have A42 := Aside0.mk A420
           clear A420
           by_cases c43 : t170 = true
           ·
            subst c43
            have H1 : ((galleyref02_in.f t152 128 191).bind fun t171 => (if t171 = true then (some 3) else (galleyref02_Long.j1 kj8 t151 t152 t153 t154))) = some r := by rw [if_pos rfl] at H; exact H
            clear H
            have H := H1
            clear H1
            replace H := Option.bind_eq_some_iff.mp H
            obtain ⟨t171, A440, H⟩ := H
            replace H : (if t171 = true then (some 3) else (galleyref02_Long.j1 kj8 t151 t152 t153 t154)) = some r := H
            have A44 := Aside0.mk A440
            clear A440
            by_cases c45 : t171 = true
            ·
             subst c45
             have H1 : (some 3) = some r := by rw [if_pos rfl] at H; exact H
             clear H
             have H := H1
             clear H1
             obtain rfl := Option.some.inj H
             go_wp2_with (first | (go_at_call 133; (with_reducible refine (galleyref02_in.calls t152 160 191 false _ A18.out).mono ?_); rintro e w' ⟨rfl, ⟨nd, rfl⟩⟩) | (go_at_call 133; (with_reducible refine (galleyref02_in.calls t151 225 236 false _ A20.out).mono ?_); rintro e w' ⟨rfl, ⟨nd, rfl⟩⟩) | (go_at_call 133; (with_reducible refine (galleyref02_in.calls t151 238 239 true _ A42.out).mono ?_); rintro e w' ⟨rfl, ⟨nd, rfl⟩⟩) | (go_at_call 133; (with_reducible refine (galleyref02_in.calls t152 128 191 true _ A44.out).mono ?_); rintro e w' ⟨rfl, ⟨nd, rfl⟩⟩))
             go_ret
             exact ⟨by first | rfl | (simp; done) | (simp [*]; done), by repeat (first | exact Drawn0.refl _ | apply Drawn0.step)⟩
            ·
             replace c45 := Bool.eq_false_iff.mpr c45
             subst c45
             have H1 : (galleyref02_Long.j1 kj8 t151 t152 t153 t154) = some r := by rw [if_neg (show ¬ (false = true) by decide)] at H; exact H
             clear H
             have H := H1
             clear H1
             have H' := Aside0.mk H
             clear H
             go_wp2_with (first | (go_at_call 133; (with_reducible refine (galleyref02_in.calls t152 160 191 false _ A18.out).mono ?_); rintro e w' ⟨rfl, ⟨nd, rfl⟩⟩) | (go_at_call 133; (with_reducible refine (galleyref02_in.calls t151 225 236 false _ A20.out).mono ?_); rintro e w' ⟨rfl, ⟨nd, rfl⟩⟩) | (go_at_call 133; (with_reducible refine (galleyref02_in.calls t151 238 239 true _ A42.out).mono ?_); rintro e w' ⟨rfl, ⟨nd, rfl⟩⟩) | (go_at_call 133; (with_reducible refine (galleyref02_in.calls t152 128 191 false _ A44.out).mono ?_); rintro e w' ⟨rfl, ⟨nd, rfl⟩⟩))
             go_meet
             case rel => exact ⟨_, H', ⟨by have := HJ8.out; first | omega | exact Nat.le_refl _⟩, by repeat (first | exact Drawn0.refl _ | apply Drawn0.step)⟩
           ·
            replace c43 := Bool.eq_false_iff.mpr c43
            subst c43
            have H1 : (galleyref02_Long.j1 kj8 t151 t152 t153 t154) = some r := by rw [if_neg (show ¬ (false = true) by decide)] at H; exact H
            clear H
            have H := H1
            clear H1
            have H' := Aside0.mk H
            clear H
            go_wp2_with (first | (go_at_call 133; (with_reducible refine (galleyref02_in.calls t152 160 191 false _ A18.out).mono ?_); rintro e w' ⟨rfl, ⟨nd, rfl⟩⟩) | (go_at_call 133; (with_reducible refine (galleyref02_in.calls t151 225 236 false _ A20.out).mono ?_); rintro e w' ⟨rfl, ⟨nd, rfl⟩⟩) | (go_at_call 133; (with_reducible refine (galleyref02_in.calls t151 238 239 false _ A42.out).mono ?_); rintro e w' ⟨rfl, ⟨nd, rfl⟩⟩))
            go_meet
            case rel => exact ⟨_, H', ⟨by have := HJ8.out; first | omega | exact Nat.le_refl _⟩, by repeat (first | exact Drawn0.refl _ | apply Drawn0.step)⟩
       ·
        rw [if_neg c17] at H
        have c17b0 : (t151 == 224) = false := beq_eq_false_iff_ne.mpr c17
        have c17b1 : (t151 != 224) = true := bne_iff_ne.mpr c17
        (first | rw [c17b0] | (simp only [i64_w, i32_w]; rw [c17b0]) | skip)
        replace H := Option.bind_eq_some_iff.mp H
        obtain ⟨t172, A460, H⟩ := H
        replace H : (if t172 = true then ((galleyref02_in.f t152 128 191).bind fun t173 => (if t173 = true then (some 3) else (if t151 = 237 then ((galleyref02_in.f t152 128 159).bind fun t174 => (if t174 = true then (some 3) else ((galleyref02_in.f t151 238 239).bind fun t175 => (if t175 = true then ((galleyref02_in.f t152 128 191).bind fun t176 => (if t176 = true then (some 3) else (galleyref02_Long.j1 kj8 t151 t152 t153 t154))) else (galleyref02_Long.j1 kj8 t151 t152 t153 t154))))) else ((galleyref02_in.f t151 238 239).bind fun t177 => (if t177 = true then ((galleyref02_in.f t152 128 191).bind fun t178 => (if t178 = true then (some 3) else (galleyref02_Long.j1 kj8 t151 t152 t153 t154))) else (galleyref02_Long.j1 kj8 t151 t152 t153 t154)))))) else (if t151 = 237 then ((galleyref02_in.f t152 128 159).bind fun t179 => (if t179 = true then (some 3) else ((galleyref02_in.f t151 238 239).bind fun t180 => (if t180 = true then ((galleyref02_in.f t152 128 191).bind fun t181 => (if t181 = true then (some 3) else (galleyref02_Long.j1 kj8 t151 t152 t153 t154))) else (galleyref02_Long.j1 kj8 t151 t152 t153 t154))))) else ((galleyref02_in.f t151 238 239).bind fun t182 => (if t182 = true then ((galleyref02_in.f t152 128 191).bind fun t183 => (if t183 = true then (some 3) else (galleyref02_Long.j1 kj8 t151 t152 t153 t154))) else (galleyref02_Long.j1 kj8 t151 t152 t153 t154))))) = some r := H
        have A46 := Aside0.mk A460
        clear A460
        by_cases c47 : t172 = true
        ·
         subst c47
         have H1 : ((galleyref02_in.f t152 128 191).bind fun t173 => (if t173 = true then (some 3) else (if t151 = 237 then ((galleyref02_in.f t152 128 159).bind fun t174 => (if t174 = true then (some 3) else ((galleyref02_in.f t151 238 239).bind fun t175 => (if t175 = true then ((galleyref02_in.f t152 128 191).bind fun t176 => (if t176 = true then (some 3) else (galleyref02_Long.j1 kj8 t151 t152 t153 t154))) else (galleyref02_Long.j1 kj8 t151 t152 t153 t154))))) else ((galleyref02_in.f t151 238 239).bind fun t177 => (if t177 = true then ((galleyref02_in.f t152 128 191).bind fun t178 => (if t178 = true then (some 3) else (galleyref02_Long.j1 kj8 t151 t152 t153 t154))) else (galleyref02_Long.j1 kj8 t151 t152 t153 t154)))))) = some r := by rw [if_pos rfl] at H; exact H
         clear H
         have H := H1
         clear H1
         replace H := Option.bind_eq_some_iff.mp H
         obtain ⟨t173, A480, H⟩ := H
         replace H : (if t173 = true then (some 3) else (if t151 = 237 then ((galleyref02_in.f t152 128 159).bind fun t174 => (if t174 = true then (some 3) else ((galleyref02_in.f t151 238 239).bind fun t175 => (if t175 = true then ((galleyref02_in.f t152 128 191).bind fun t176 => (if t176 = true then (some 3) else (galleyref02_Long.j1 kj8 t151 t152 t153 t154))) else (galleyref02_Long.j1 kj8 t151 t152 t153 t154))))) else ((galleyref02_in.f t151 238 239).bind fun t177 => (if t177 = true then ((galleyref02_in.f t152 128 191).bind fun t178 => (if t178 = true then (some 3) else (galleyref02_Long.j1 kj8 t151 t152 t153 t154))) else (galleyref02_Long.j1 kj8 t151 t152 t153 t154))))) = some r := H
         have A48 := Aside0.mk A480
         clear A480
         by_cases c49 : t173 = true
         ·
          subst c49
          have H1 : (some 3) = some r := by rw [if_pos rfl] at H; exact H
          clear H
          have H := H1
          clear H1
          obtain rfl := Option.some.inj H
          go_wp2_with (first | (go_at_call 133; (with_reducible refine (galleyref02_in.calls t151 225 236 true _ A46.out).mono ?_); rintro e w' ⟨rfl, ⟨nd, rfl⟩⟩) | (go_at_call 133; (with_reducible refine (galleyref02_in.calls t152 128 191 true _ A48.out).mono ?_); rintro e w' ⟨rfl, ⟨nd, rfl⟩⟩))
          go_ret
          exact ⟨by first | rfl | (simp; done) | (simp [*]; done), by repeat (first | exact Drawn0.refl _ | apply Drawn0.step)⟩
         ·
          replace c49 := Bool.eq_false_iff.mpr c49
          subst c49
          have H1 : (if t151 = 237 then ((galleyref02_in.f t152 128 159).bind fun t174 => (if t174 = true then (some 3) else ((galleyref02_in.f t151 238 239).bind fun t175 => (if t175 = true then ((galleyref02_in.f t152 128 191).bind fun t176 => (if t176 = true then (some 3) else (galleyref02_Long.j1 kj8 t151 t152 t153 t154))) else (galleyref02_Long.j1 kj8 t151 t152 t153 t154))))) else ((galleyref02_in.f t151 238 239).bind fun t177 => (if t177 = true then ((galleyref02_in.f t152 128 191).bind fun t178 => (if t178 = true then (some 3) else (galleyref02_Long.j1 kj8 t151 t152 t153 t154))) else (galleyref02_Long.j1 kj8 t151 t152 t153 t154)))) = some r := by rw [if_neg (show ¬ (false = true) by decide)] at H; exact H
          clear H
          have H := H1
          clear H1
          by_cases c50 : t151 = 237
          ·
           rw [if_pos c50] at H
           have c50b0 : (t151 == 237) = true := beq_iff_eq.mpr c50
           have c50b1 : (t151 != 237) = false := bne_eq_false_iff_eq.mpr c50
           clear c50
           replace H := Option.bind_eq_some_iff.mp H
           obtain ⟨t174, A510, H⟩ := H
           replace H : (if t174 = true then (some 3) else ((galleyref02_in.f t151 238 239).bind fun t175 => (if t175 = true then ((galleyref02_in.f t152 128 191).bind fun t176 => (if t176 = true then (some 3) else (galleyref02_Long.j1 kj8 t151 t152 t153 t154))) else (galleyref02_Long.j1 kj8 t151 t152 t153 t154)))) = some r := H
           have A51 := Aside0.mk A510
           clear A510
           by_cases c52 : t174 = true
           ·
            subst c52
            have H1 : (some 3) = some r := by rw [if_pos rfl] at H; exact H
            clear H
            have H := H1
            clear H1
            obtain rfl := Option.some.inj H
            go_wp2_with (first | (go_at_call 133; (with_reducible refine (galleyref02_in.calls t151 225 236 true _ A46.out).mono ?_); rintro e w' ⟨rfl, ⟨nd, rfl⟩⟩) | (go_at_call 133; (with_reducible refine (galleyref02_in.calls t152 128 191 false _ A48.out).mono ?_); rintro e w' ⟨rfl, ⟨nd, rfl⟩⟩) | (go_at_call 133; (with_reducible refine (galleyref02_in.calls t152 128 159 true _ A51.out).mono ?_); rintro e w' ⟨rfl, ⟨nd, rfl⟩⟩))
            go_ret
            exact ⟨by first | rfl | (simp; done) | (simp [*]; done), by repeat (first | exact Drawn0.refl _ | apply Drawn0.step)⟩
           ·
            replace c52 := Bool.eq_false_iff.mpr c52
            subst c52
            have H1 : ((galleyref02_in.f t151 238 239).bind fun t175 => (if t175 = true then ((galleyref02_in.f t152 128 191).bind fun t176 => (if t176 = true then (some 3) else (galleyref02_Long.j1 kj8 t151 t152 t153 t154))) else (galleyref02_Long.j1 kj8 t151 t152 t153 t154))) = some r := by rw [if_neg (show ¬ (false = true) by decide)] at H; exact H
            clear H
            have H := H1
            clear H1
            replace H := Option.bind_eq_some_iff.mp H
            obtain ⟨t175, A530, H⟩ := H
            replace H : (if t175 = true then ((galleyref02_in.f t152 128 191).bind fun t176 => (if t176 = true then (some 3) else (galleyref02_Long.j1 kj8 t151 t152 t153 t154))) else (galleyref02_Long.j1 kj8 t151 t152 t153 t154)) = some r := H
            have A53 := Aside0.mk A530
            clear A530
            by_cases c54 : t175 = true
            ·
             subst c54
             have H1 : ((galleyref02_in.f t152 128 191).bind fun t176 => (if t176 = true then (some 3) else (galleyref02_Long.j1 kj8 t151 t152 t153 t154))) = some r := by rw [if_pos rfl] at H; exact H
             clear H
             have H := H1
             clear H1
             replace H := Option.bind_eq_some_iff.mp H
             obtain ⟨t176, A550, H⟩ := H
             replace H : (if t176 = true then (some 3) else (galleyref02_Long.j1 kj8 t151 t152 t153 t154)) = some r := H
             have A55 := Aside0.mk A550
             clear A550
             by_cases c56 : t176 = true
             ·
              subst c56
              have H1 : (some 3) = some r := by rw [if_pos rfl] at H; exact H
              clear H
              have H := H1
              clear H1
              obtain rfl := Option.some.inj H
              exact absurd (A48.out.symm.trans A55.out) (by simp)
             ·
              replace c56 := Bool.eq_false_iff.mpr c56
              subst c56
              have H1 : (galleyref02_Long.j1 kj8 t151 t152 t153 t154) = some r := by rw [if_neg (show ¬ (false = true) by decide)] at H; exact H
              clear H
              have H := H1
              clear H1
              have H' := Aside0.mk H
              clear H
              go_wp2_with (first | (go_at_call 133; (with_reducible refine (galleyref02_in.calls t151 225 236 true _ A46.out).mono ?_); rintro e w' ⟨rfl, ⟨nd, rfl⟩⟩) | (go_at_call 133; (with_reducible refine (galleyref02_in.calls t152 128 191 false _ A48.out).mono ?_); rintro e w' ⟨rfl, ⟨nd, rfl⟩⟩) | (go_at_call 133; (with_reducible refine (galleyref02_in.calls t152 128 159 false _ A51.out).mono ?_); rintro e w' ⟨rfl, ⟨nd, rfl⟩⟩) | (go_at_call 133; (with_reducible refine (galleyref02_in.calls t151 238 239 true _ A53.out).mono ?_); rintro e w' ⟨rfl, ⟨nd, rfl⟩⟩) | (go_at_call 133; (with_reducible refine (galleyref02_in.calls t152 128 191 false _ A55.out).mono ?_); rintro e w' ⟨rfl, ⟨nd, rfl⟩⟩))
              go_meet
              case rel => exact ⟨_, H', ⟨by have := HJ8.out; first | omega | exact Nat.le_refl _⟩, by repeat (first | exact Drawn0.refl _ | apply Drawn0.step)⟩
            ·
             replace c54 := Bool.eq_false_iff.mpr c54
             subst c54
             have H1 : (galleyref02_Long.j1 kj8 t151 t152 t153 t154) = some r := by rw [if_neg (show ¬ (false = true) by decide)] at H; exact H
             clear H
             have H := H1
             clear H1
             have H' := Aside0.mk H
             clear H
             go_wp2_with (first | (go_at_call 133; (with_reducible refine (galleyref02_in.calls t151 225 236 true _ A46.out).mono ?_); rintro e w' ⟨rfl, ⟨nd, rfl⟩⟩) | (go_at_call 133; (with_reducible refine (galleyref02_in.calls t152 128 191 false _ A48.out).mono ?_); rintro e w' ⟨rfl, ⟨nd, rfl⟩⟩) | (go_at_call 133; (with_reducible refine (galleyref02_in.calls t152 128 159 false _ A51.out).mono ?_); rintro e w' ⟨rfl, ⟨nd, rfl⟩⟩) | (go_at_call 133; (with_reducible refine (galleyref02_in.calls t151 238 239 false _ A53.out).mono ?_); rintro e w' ⟨rfl, ⟨nd, rfl⟩⟩))
             go_meet
             case rel => exact ⟨_, H', ⟨by have := HJ8.out; first | omega | exact Nat.le_refl _⟩, by repeat (first | exact Drawn0.refl _ | apply Drawn0.step)⟩
          ·
           rw [if_neg c50] at H
           have c50b0 : (t151 == 237) = false := beq_eq_false_iff_ne.mpr c50
           have c50b1 : (t151 != 237) = true := bne_iff_ne.mpr c50
           replace H := Option.bind_eq_some_iff.mp H
           obtain ⟨t177, A570, H⟩ := H
           replace H : (if t177 = true then ((galleyref02_in.f t152 128 191).bind fun t178 => (if t178 = true then (some 3) else (galleyref02_Long.j1 kj8 t151 t152 t153 t154))) else (galleyref02_Long.j1 kj8 t151 t152 t153 t154)) = some r := H
           have A57 := Aside0.mk A570
           clear A570
           by_cases c58 : t177 = true
           ·
            subst c58
            have H1 : ((galleyref02_in.f t152 128 191).bind fun t178 => (if t178 = true then (some 3) else (galleyref02_Long.j1 kj8 t151 t152 t153 t154))) = some r := by rw [if_pos rfl] at H; exact H
            clear H
            have H := H1
            clear H1
            replace H := Option.bind_eq_some_iff.mp H
            obtain ⟨t178, A590, H⟩ := H
            replace H : (if t178 = true then (some 3) else (galleyref02_Long.j1 kj8 t151 t152 t153 t154)) = some r := H
            have A59 := Aside0.mk A590
            clear A590
            by_cases c60 : t178 = true
            ·
             subst c60
             have H1 : (some 3) = some r := by rw [if_pos rfl] at H; exact H
             clear H
             have H := H1
             clear H1
             obtain rfl := Option.some.inj H
             exact absurd (A48.out.symm.trans A59.out) (by simp)
            ·
             replace c60 := Bool.eq_false_iff.mpr c60
             subst c60
             have H1 : (galleyref02_Long.j1 kj8 t151 t152 t153 t154) = some r := by rw [if_neg (show ¬ (false = true) by decide)] at H; exact H
             clear H
             have H := H1
             clear H1
             have H' := Aside0.mk H
             clear H
             go_wp2_with (first | (go_at_call 133; (with_reducible refine (galleyref02_in.calls t151 225 236 true _ A46.out).mono ?_); rintro e w' ⟨rfl, ⟨nd, rfl⟩⟩) | (go_at_call 133; (with_reducible refine (galleyref02_in.calls t152 128 191 false _ A48.out).mono ?_); rintro e w' ⟨rfl, ⟨nd, rfl⟩⟩) | (go_at_call 133; (with_reducible refine (galleyref02_in.calls t151 238 239 true _ A57.out).mono ?_); rintro e w' ⟨rfl, ⟨nd, rfl⟩⟩) | (go_at_call 133; (with_reducible refine (galleyref02_in.calls t152 128 191 false _ A59.out).mono ?_); rintro e w' ⟨rfl, ⟨nd, rfl⟩⟩))
             go_meet
             case rel => exact ⟨_, H', ⟨by have := HJ8.out; first | omega | exact Nat.le_refl _⟩, by repeat (first | exact Drawn0.refl _ | apply Drawn0.step)⟩
           ·
            replace c58 := Bool.eq_false_iff.mpr c58
            subst c58
            have H1 : (galleyref02_Long.j1 kj8 t151 t152 t153 t154) = some r := by rw [if_neg (show ¬ (false = true) by decide)] at H; exact H
            clear H
            have H := H1
            clear H1
            have H' := Aside0.mk H
            clear H
            go_wp2_with (first | (go_at_call 133; (with_reducible refine (galleyref02_in.calls t151 225 236 true _ A46.out).mono ?_); rintro e w' ⟨rfl, ⟨nd, rfl⟩⟩) | (go_at_call 133; (with_reducible refine (galleyref02_in.calls t152 128 191 false _ A48.out).mono ?_); rintro e w' ⟨rfl, ⟨nd, rfl⟩⟩) | (go_at_call 133; (with_reducible refine (galleyref02_in.calls t151 238 239 false _ A57.out).mono ?_); rintro e w' ⟨rfl, ⟨nd, rfl⟩⟩))
            go_meet
            case rel => exact ⟨_, H', ⟨by have := HJ8.out; first | omega | exact Nat.le_refl _⟩, by repeat (first | exact Drawn0.refl _ | apply Drawn0.step)⟩
        ·
         replace c47 := Bool.eq_false_iff.mpr c47
         subst c47
         have H1 : (if t151 = 237 then ((galleyref02_in.f t152 128 159).bind fun t179 => (if t179 = true then (some 3) else ((galleyref02_in.f t151 238 239).bind fun t180 => (if t180 = true then ((galleyref02_in.f t152 128 191).bind fun t181 => (if t181 = true then (some 3) else (galleyref02_Long.j1 kj8 t151 t152 t153 t154))) else (galleyref02_Long.j1 kj8 t151 t152 t153 t154))))) else ((galleyref02_in.f t151 238 239).bind fun t182 => (if t182 = true then ((galleyref02_in.f t152 128 191).bind fun t183 => (if t183 = true then (some 3) else (galleyref02_Long.j1 kj8 t151 t152 t153 t154))) else (galleyref02_Long.j1 kj8 t151 t152 t153 t154)))) = some r := by rw [if_neg (show ¬ (false = true) by decide)] at H; exact H
         clear H
         have H := H1
         clear H1
         by_cases c61 : t151 = 237
         ·
          rw [if_pos c61] at H
          have c61b0 : (t151 == 237) = true := beq_iff_eq.mpr c61
          have c61b1 : (t151 != 237) = false := bne_eq_false_iff_eq.mpr c61
          clear c61
          replace H := Option.bind_eq_some_iff.mp H
          obtain ⟨t179, A620, H⟩ := H
          replace H : (if t179 = true then (some 3) else ((galleyref02_in.f t151 238 239).bind fun t180 => (if t180 = true then ((galleyref02_in.f t152 128 191).bind fun t181 => (if t181 = true then (some 3) else (galleyref02_Long.j1 kj8 t151 t152 t153 t154))) else (galleyref02_Long.j1 kj8 t151 t152 t153 t154)))) = some r := H
          have A62 := Aside0.mk A620
          clear A620
          by_cases c63 : t179 = true
          ·
           subst c63
           have H1 : (some 3) = some r := by rw [if_pos rfl] at H; exact H
           clear H
           have H := H1
           clear H1
           obtain rfl := Option.some.inj H
           go_wp2_with (first | (go_at_call 133; (with_reducible refine (galleyref02_in.calls t151 225 236 false _ A46.out).mono ?_); rintro e w' ⟨rfl, ⟨nd, rfl⟩⟩) | (go_at_call 133; (with_reducible refine (galleyref02_in.calls t152 128 159 true _ A62.out).mono ?_); rintro e w' ⟨rfl, ⟨nd, rfl⟩⟩))
           go_ret
           exact ⟨by first | rfl | (simp; done) | (simp [*]; done), by repeat (first | exact Drawn0.refl _ | apply Drawn0.step)⟩
          ·
           replace c63 := Bool.eq_false_iff.mpr c63
           subst c63
           have H1 : ((galleyref02_in.f t151 238 239).bind fun t180 => (if t180 = true then ((galleyref02_in.f t152 128 191).bind fun t181 => (if t181 = true then (some 3) else (galleyref02_Long.j1 kj8 t151 t152 t153 t154))) else (galleyref02_Long.j1 kj8 t151 t152 t153 t154))) = some r := by rw [if_neg (show ¬ (false = true) by decide)] at H; exact H
           clear H
           have H := H1
           clear H1
           replace H := Option.bind_eq_some_iff.mp H
           obtain ⟨t180, A640, H⟩ := H
           replace H : (if t180 = true then ((galleyref02_in.f t152 128 191).bind fun t181 => (if t181 = true then (some 3) else (galleyref02_Long.j1 kj8 t151 t152 t153 t154))) else (galleyref02_Long.j1 kj8 t151 t152 t153 t154)) = some r := H
           have A64 := Aside0.mk A640
           clear A640
           by_cases c65 : t180 = true
           ·
            subst c65
            have H1 : ((galleyref02_in.f t152 128 191).bind fun t181 => (if t181 = true then (some 3) else (galleyref02_Long.j1 kj8 t151 t152 t153 t154))) = some r := by rw [if_pos rfl] at H; exact H
            clear H
            have H := H1
            clear H1
            replace H := Option.bind_eq_some_iff.mp H
            obtain ⟨t181, A660, H⟩ := H
            replace H : (if t181 = true then (some 3) else (galleyref02_Long.j1 kj8 t151 t152 t153 t154)) = some r := H
            have A66 := Aside0.mk A660
            clear A660
            by_cases c67 : t181 = true
            ·
             subst c67
             have H1 : (some 3) = some r := by rw [if_pos rfl] at H; exact H
             clear H
             have H := H1
             clear H1
             obtain rfl := Option.some.inj H
             go_wp2_with (first | (go_at_call 133; (with_reducible refine (galleyref02_in.calls t151 225 236 false _ A46.out).mono ?_); rintro e w' ⟨rfl, ⟨nd, rfl⟩⟩) | (go_at_call 133; (with_reducible refine (galleyref02_in.calls t152 128 159 false _ A62.out).mono ?_); rintro e w' ⟨rfl, ⟨nd, rfl⟩⟩) | (go_at_call 133; (with_reducible refine (galleyref02_in.calls t151 238 239 true _ A64.out).mono ?_); rintro e w' ⟨rfl, ⟨nd, rfl⟩⟩) | (go_at_call 133; (with_reducible refine (galleyref02_in.calls t152 128 191 true _ A66.out).mono ?_); rintro e w' ⟨rfl, ⟨nd, rfl⟩⟩))
             go_ret
             exact ⟨by first | rfl | (simp; done) | (simp [*]; done), by repeat (first | exact Drawn0.refl _ | apply Drawn0.step)⟩
            ·
             replace c67 := Bool.eq_false_iff.mpr c67
             subst c67
             have H1 : (galleyref02_Long.j1 kj8 t151 t152 t153 t154) = some r := by rw [if_neg (show ¬ (false = true) by decide)] at H; exact H
             clear H
             have H := H1
             clear H1
             have H' := Aside0.mk H
             clear H
             go_wp2_with (first | (go_at_call 133; (with_reducible refine (galleyref02_in.calls t151 225 236 false _ A46.out).mono ?_); rintro e w' ⟨rfl, ⟨nd, rfl⟩⟩) | (go_at_call 133; (with_reducible refine (galleyref02_in.calls t152 128 159 false _ A62.out).mono ?_); rintro e w' ⟨rfl, ⟨nd, rfl⟩⟩) | (go_at_call 133; (with_reducible refine (galleyref02_in.calls t151 238 239 true _ A64.out).mono ?_); rintro e w' ⟨rfl, ⟨nd, rfl⟩⟩) | (go_at_call 133; (with_reducible refine (galleyref02_in.calls t152 128 191 false _ A66.out).mono ?_); rintro e w' ⟨rfl, ⟨nd, rfl⟩⟩))
             go_meet
             case rel => exact ⟨_, H', ⟨by have := HJ8.out; first | omega | exact Nat.le_refl _⟩, by repeat (first | exact Drawn0.refl _ | apply Drawn0.step)⟩
           ·
            replace c65 := Bool.eq_false_iff.mpr c65
            subst c65
            have H1 : (galleyref02_Long.j1 kj8 t151 t152 t153 t154) = some r := by rw [if_neg (show ¬ (false = true) by decide)] at H; exact H
            clear H
            have H := H1
            clear H1
            have H' := Aside0.mk H
            clear H
            go_wp2_with (first | (go_at_call 133; (with_reducible refine (galleyref02_in.calls t151 225 236 false _ A46.out).mono ?_); rintro e w' ⟨rfl, ⟨nd, rfl⟩⟩) | (go_at_call 133; (with_reducible refine (galleyref02_in.calls t152 128 159 false _ A62.out).mono ?_); rintro e w' ⟨rfl, ⟨nd, rfl⟩⟩) | (go_at_call 133; (with_reducible refine (galleyref02_in.calls t151 238 239 false _ A64.out).mono ?_); rintro e w' ⟨rfl, ⟨nd, rfl⟩⟩))
            go_meet
            case rel => exact ⟨_, H', ⟨by have := HJ8.out; first | omega | exact Nat.le_refl _⟩, by repeat (first | exact Drawn0.refl _ | apply Drawn0.step)⟩
         ·
          rw [if_neg c61] at H
          have c61b0 : (t151 == 237) = false := beq_eq_false_iff_ne.mpr c61
          have c61b1 : (t151 != 237) = true := bne_iff_ne.mpr c61
          replace H := Option.bind_eq_some_iff.mp H
          obtain ⟨t182, A680, H⟩ := H
          replace H : (if t182 = true then ((galleyref02_in.f t152 128 191).bind fun t183 => (if t183 = true then (some 3) else (galleyref02_Long.j1 kj8 t151 t152 t153 t154))) else (galleyref02_Long.j1 kj8 t151 t152 t153 t154)) = some r := H
          have A68 := Aside0.mk A680
          clear A680
          by_cases c69 : t182 = true
          ·
           subst c69
           have H1 : ((galleyref02_in.f t152 128 191).bind fun t183 => (if t183 = true then (some 3) else (galleyref02_Long.j1 kj8 t151 t152 t153 t154))) = some r := by rw [if_pos rfl] at H; exact H
           clear H
           have H := H1
           clear H1
           replace H := Option.bind_eq_some_iff.mp H
           obtain ⟨t183, A700, H⟩ := H
           replace H : (if t183 = true then (some 3) else (galleyref02_Long.j1 kj8 t151 t152 t153 t154)) = some r := H
           have A70 := Aside0.mk A700
           clear A700
           by_cases c71 : t183 = true
           ·
            subst c71
            have H1 : (some 3) = some r := by rw [if_pos rfl] at H; exact H
            clear H
            have H := H1
            clear H1
            obtain rfl := Option.some.inj H
            go_wp2_with (first | (go_at_call 133; (with_reducible refine (galleyref02_in.calls t151 225 236 false _ A46.out).mono ?_); rintro e w' ⟨rfl, ⟨nd, rfl⟩⟩) | (go_at_call 133; (with_reducible refine (galleyref02_in.calls t151 238 239 true _ A68.out).mono ?_); rintro e w' ⟨rfl, ⟨nd, rfl⟩⟩) | (go_at_call 133; (with_reducible refine (galleyref02_in.calls t152 128 191 true _ A70.out).mono ?_); rintro e w' ⟨rfl, ⟨nd, rfl⟩⟩))
            go_ret
            exact ⟨by first | rfl | (simp; done) | (simp [*]; done), by repeat (first | exact Drawn0.refl _ | apply Drawn0.step)⟩
           ·
            replace c71 := Bool.eq_false_iff.mpr c71
            subst c71
            have H1 : (galleyref02_Long.j1 kj8 t151 t152 t153 t154) = some r := by rw [if_neg (show ¬ (false = true) by decide)] at H; exact H
            clear H
            have H := H1
            clear H1
            have H' := Aside0.mk H
            clear H
            go_wp2_with (first | (go_at_call 133; (with_reducible refine (galleyref02_in.calls t151 225 236 false _ A46.out).mono ?_); rintro e w' ⟨rfl, ⟨nd, rfl⟩⟩) | (go_at_call 133; (with_reducible refine (galleyref02_in.calls t151 238 239 true _ A68.out).mono ?_); rintro e w' ⟨rfl, ⟨nd, rfl⟩⟩) | (go_at_call 133; (with_reducible refine (galleyref02_in.calls t152 128 191 false _ A70.out).mono ?_); rintro e w' ⟨rfl, ⟨nd, rfl⟩⟩))
            go_meet
            case rel => exact ⟨_, H', ⟨by have := HJ8.out; first | omega | exact Nat.le_refl _⟩, by repeat (first | exact Drawn0.refl _ | apply Drawn0.step)⟩
          ·
           replace c69 := Bool.eq_false_iff.mpr c69
           subst c69
           have H1 : (galleyref02_Long.j1 kj8 t151 t152 t153 t154) = some r := by rw [if_neg (show ¬ (false = true) by decide)] at H; exact H
           clear H
           have H := H1
           clear H1
           have H' := Aside0.mk H
           clear H
           go_wp2_with (first | (go_at_call 133; (with_reducible refine (galleyref02_in.calls t151 225 236 false _ A46.out).mono ?_); rintro e w' ⟨rfl, ⟨nd, rfl⟩⟩) | (go_at_call 133; (with_reducible refine (galleyref02_in.calls t151 238 239 false _ A68.out).mono ?_); rintro e w' ⟨rfl, ⟨nd, rfl⟩⟩))
           go_meet
           case rel => exact ⟨_, H', ⟨by have := HJ8.out; first | omega | exact Nat.le_refl _⟩, by repeat (first | exact Drawn0.refl _ | apply Drawn0.step)⟩
      ·
       replace c16 := Bool.eq_false_iff.mpr c16
       subst c16
       have H1 : (galleyref02_Long.j1 kj8 t151 t152 t153 t154) = some r := by rw [if_neg (show ¬ (false = true) by decide)] at H; exact H
       clear H
       have H := H1
       clear H1
       have H' := Aside0.mk H
       clear H
       go_wp2
       go_meet
       case rel => exact ⟨_, H', ⟨by have := HJ8.out; first | omega | exact Nat.le_refl _⟩, by repeat (first | exact Drawn0.refl _ | apply Drawn0.step)⟩
     case rest =>
      clear HC15
      (try clear c1); (try clear c2); (try clear p2); (try clear c3); (try clear c4); (try clear c5); (try clear c6); (try clear c7); (try clear c16); (try clear c17); (try clear c17b0); (try clear c17b1); (try clear c19); (try clear c21); (try clear c23); (try clear c24); (try clear c24b0); (try clear c24b1); (try clear c26); (try clear c28); (try clear c30); (try clear c32); (try clear c34); (try clear c35); (try clear c35b0); (try clear c35b1); (try clear c37); (try clear c39); (try clear c41); (try clear c43); (try clear c45); (try clear c47); (try clear c49); (try clear c50); (try clear c50b0); (try clear c50b1); (try clear c52); (try clear c54); (try clear c56); (try clear c58); (try clear c60); (try clear c61); (try clear c61b0); (try clear c61b1); (try clear c63); (try clear c65); (try clear c67); (try clear c69); (try clear c71)
      obtain ⟨kq, HA, HJ14, ⟨mc14, rfl⟩⟩ := hcut
      cases kq with
      | zero => exact absurd HA.out (by simp [galleyref02_Long.j1])
      | succ kj14 =>
       have H := HA.out
       clear HA
       simp only [galleyref02_Long.j1] at H
       have HC72 := Aside0.mk H
       clear H
       go_upto_region 9 with (fail)
       go_cut [69] (fun v69 wc => ∃ (kq : Nat) (x69_71 : Bool), v69 = .bool x69_71 ∧ Aside0 (galleyref02_Long.j2 kq t151 t152 x69_71 = some r) ∧ Aside0 (kq ≤ kj14) ∧ Drawn0 w wc)
       case first =>
        have H := HC72.out
        clear HC72
        replace H := Option.bind_eq_some_iff.mp H
        obtain ⟨t184, A730, H⟩ := H
        replace H : (if t184 = true then ((galleyref02_in.f t154 128 191).bind fun t185 => (galleyref02_Long.j2 kj14 t151 t152 t185)) else (galleyref02_Long.j2 kj14 t151 t152 false)) = some r := H
        have A73 := Aside0.mk A730
        clear A730
        by_cases c74 : t184 = true
        ·
         subst c74
         have H1 : ((galleyref02_in.f t154 128 191).bind fun t185 => (galleyref02_Long.j2 kj14 t151 t152 t185)) = some r := by rw [if_pos rfl] at H; exact H
         clear H
         have H := H1
         clear H1
         replace H := Option.bind_eq_some_iff.mp H
         obtain ⟨t185, A750, H⟩ := H
         replace H : (galleyref02_Long.j2 kj14 t151 t152 t185) = some r := H
         have A75 := Aside0.mk A750
         clear A750
         have H' := Aside0.mk H
         clear H
         go_wp2_with (first | ((with_reducible refine gate_callee (f := 133) rfl ?_); refine goesL_ (some 65) rfl rfl Tryd.func133 (by kernel_rfl) rfl #[.int .i64 t153, .int .i64 128, .int .i64 191] rfl (by (try simp only [List.map_toArray, List.map_cons, List.map_nil]); first | done | rfl | (simp only [List.length_drop, List.length_take]; rfl)) ?_; (with_reducible refine (galleyref02_in.calls t153 128 191 true _ A73.out).mono ?_); rintro e w' ⟨rfl, ⟨nd, rfl⟩⟩; refine ⟨_, rfl, ?_⟩) | (go_at_call 133; (with_reducible refine (galleyref02_in.calls t154 128 191 t185 _ A75.out).mono ?_); rintro e w' ⟨rfl, ⟨nd, rfl⟩⟩))
         go_meet
         case rel => exact ⟨_, (t185), (by first | rfl | (simp; done) | (simp [*]; done)), H', ⟨by have := HJ8.out; have := HJ14.out; first | omega | exact Nat.le_refl _⟩, by repeat (first | exact Drawn0.refl _ | apply Drawn0.step)⟩
        ·
         replace c74 := Bool.eq_false_iff.mpr c74
         subst c74
         have H1 : (galleyref02_Long.j2 kj14 t151 t152 false) = some r := by rw [if_neg (show ¬ (false = true) by decide)] at H; exact H
         clear H
         have H := H1
         clear H1
         have H' := Aside0.mk H
         clear H
         go_wp2_with (first | ((with_reducible refine gate_callee (f := 133) rfl ?_); refine goesL_ (some 65) rfl rfl Tryd.func133 (by kernel_rfl) rfl #[.int .i64 t153, .int .i64 128, .int .i64 191] rfl (by (try simp only [List.map_toArray, List.map_cons, List.map_nil]); first | done | rfl | (simp only [List.length_drop, List.length_take]; rfl)) ?_; (with_reducible refine (galleyref02_in.calls t153 128 191 false _ A73.out).mono ?_); rintro e w' ⟨rfl, ⟨nd, rfl⟩⟩; refine ⟨_, rfl, ?_⟩))
         go_meet
         case rel => exact ⟨_, (false), (by first | rfl | (simp; done) | (simp [*]; done)), H', ⟨by have := HJ8.out; have := HJ14.out; first | omega | exact Nat.le_refl _⟩, by repeat (first | exact Drawn0.refl _ | apply Drawn0.step)⟩
       case rest =>
        clear HC72
        (try clear c1); (try clear c2); (try clear p2); (try clear c3); (try clear c4); (try clear c5); (try clear c6); (try clear c7); (try clear c13); (try clear c14); (try clear c16); (try clear c17); (try clear c17b0); (try clear c17b1); (try clear c19); (try clear c21); (try clear c23); (try clear c24); (try clear c24b0); (try clear c24b1); (try clear c26); (try clear c28); (try clear c30); (try clear c32); (try clear c34); (try clear c35); (try clear c35b0); (try clear c35b1); (try clear c37); (try clear c39); (try clear c41); (try clear c43); (try clear c45); (try clear c47); (try clear c49); (try clear c50); (try clear c50b0); (try clear c50b1); (try clear c52); (try clear c54); (try clear c56); (try clear c58); (try clear c60); (try clear c61); (try clear c61b0); (try clear c61b1); (try clear c63); (try clear c65); (try clear c67); (try clear c69); (try clear c71); (try clear c74)
        obtain ⟨kq, x69_71, rfl, HA, HJ71, ⟨mc71, rfl⟩⟩ := hcut
        cases kq with
        | zero => exact absurd HA.out (by simp [galleyref02_Long.j2])
        | succ kj71 =>
         have H := HA.out
         clear HA
         simp only [galleyref02_Long.j2] at H
         by_cases c76 : x69_71 = true
         ·
          subst c76
          have H1 : (if t151 = 240 then ((galleyref02_in.f t152 144 191).bind fun t186 => (if t186 = true then (some 4) else ((galleyref02_in.f t151 241 243).bind fun t187 => (if t187 = true then ((galleyref02_in.f t152 128 191).bind fun t188 => (if t188 = true then (some 4) else (if t151 = 244 then ((galleyref02_in.f t152 128 143).bind fun t189 => (if t189 = true then (some 4) else (some 0))) else (some 0)))) else (if t151 = 244 then ((galleyref02_in.f t152 128 143).bind fun t190 => (if t190 = true then (some 4) else (some 0))) else (some 0)))))) else ((galleyref02_in.f t151 241 243).bind fun t191 => (if t191 = true then ((galleyref02_in.f t152 128 191).bind fun t192 => (if t192 = true then (some 4) else (if t151 = 244 then ((galleyref02_in.f t152 128 143).bind fun t193 => (if t193 = true then (some 4) else (some 0))) else (some 0)))) else (if t151 = 244 then ((galleyref02_in.f t152 128 143).bind fun t194 => (if t194 = true then (some 4) else (some 0))) else (some 0))))) = some r := by rw [if_pos rfl] at H; exact H
          clear H
          have H := H1
          clear H1
          by_cases c77 : t151 = 240
          ·
           rw [if_pos c77] at H
           have c77b0 : (t151 == 240) = true := beq_iff_eq.mpr c77
           have c77b1 : (t151 != 240) = false := bne_eq_false_iff_eq.mpr c77
           clear c77
           replace H := Option.bind_eq_some_iff.mp H
           obtain ⟨t186, A780, H⟩ := H
           replace H : (if t186 = true then (some 4) else ((galleyref02_in.f t151 241 243).bind fun t187 => (if t187 = true then ((galleyref02_in.f t152 128 191).bind fun t188 => (if t188 = true then (some 4) else (if t151 = 244 then ((galleyref02_in.f t152 128 143).bind fun t189 => (if t189 = true then (some 4) else (some 0))) else (some 0)))) else (if t151 = 244 then ((galleyref02_in.f t152 128 143).bind fun t190 => (if t190 = true then (some 4) else (some 0))) else (some 0))))) = some r := H
           have A78 := Aside0.mk A780
           clear A780
           by_cases c79 : t186 = true
           ·
            subst c79
            have H1 : (some 4) = some r := by rw [if_pos rfl] at H; exact H
            clear H
            have H := H1
            clear H1
            obtain rfl := Option.some.inj H
            go_wp2_with (first | (go_at_call 133; (with_reducible refine (galleyref02_in.calls t152 144 191 true _ A78.out).mono ?_); rintro e w' ⟨rfl, ⟨nd, rfl⟩⟩))
            go_ret
            exact ⟨by first | rfl | (simp; done) | (simp [*]; done), by repeat (first | exact Drawn0.refl _ | apply Drawn0.step)⟩
           ·
            replace c79 := Bool.eq_false_iff.mpr c79
            subst c79
            have H1 : ((galleyref02_in.f t151 241 243).bind fun t187 => (if t187 = true then ((galleyref02_in.f t152 128 191).bind fun t188 => (if t188 = true then (some 4) else (if t151 = 244 then ((galleyref02_in.f t152 128 143).bind fun t189 => (if t189 = true then (some 4) else (some 0))) else (some 0)))) else (if t151 = 244 then ((galleyref02_in.f t152 128 143).bind fun t190 => (if t190 = true then (some 4) else (some 0))) else (some 0)))) = some r := by rw [if_neg (show ¬ (false = true) by decide)] at H; exact H
            clear H
            have H := H1
            clear H1
            replace H := Option.bind_eq_some_iff.mp H
            obtain ⟨t187, A800, H⟩ := H
            replace H : (if t187 = true then ((galleyref02_in.f t152 128 191).bind fun t188 => (if t188 = true then (some 4) else (if t151 = 244 then ((galleyref02_in.f t152 128 143).bind fun t189 => (if t189 = true then (some 4) else (some 0))) else (some 0)))) else (if t151 = 244 then ((galleyref02_in.f t152 128 143).bind fun t190 => (if t190 = true then (some 4) else (some 0))) else (some 0))) = some r := H
            have A80 := Aside0.mk A800
            clear A800
            by_cases c81 : t187 = true
            ·
             subst c81
             have H1 : ((galleyref02_in.f t152 128 191).bind fun t188 => (if t188 = true then (some 4) else (if t151 = 244 then ((galleyref02_in.f t152 128 143).bind fun t189 => (if t189 = true then (some 4) else (some 0))) else (some 0)))) = some r := by rw [if_pos rfl] at H; exact H
             clear H
             have H := H1
             clear H1
             replace H := Option.bind_eq_some_iff.mp H
             obtain ⟨t188, A820, H⟩ := H
             replace H : (if t188 = true then (some 4) else (if t151 = 244 then ((galleyref02_in.f t152 128 143).bind fun t189 => (if t189 = true then (some 4) else (some 0))) else (some 0))) = some r := H
             have A82 := Aside0.mk A820
             clear A820
             by_cases c83 : t188 = true
             ·
              subst c83
              have H1 : (some 4) = some r := by rw [if_pos rfl] at H; exact H
              clear H
              have H := H1
              clear H1
              obtain rfl := Option.some.inj H
              go_wp2_with (first | (go_at_call 133; (with_reducible refine (galleyref02_in.calls t152 144 191 false _ A78.out).mono ?_); rintro e w' ⟨rfl, ⟨nd, rfl⟩⟩) | (go_at_call 133; (with_reducible refine (galleyref02_in.calls t151 241 243 true _ A80.out).mono ?_); rintro e w' ⟨rfl, ⟨nd, rfl⟩⟩) | (go_at_call 133; (with_reducible refine (galleyref02_in.calls t152 128 191 true _ A82.out).mono ?_); rintro e w' ⟨rfl, ⟨nd, rfl⟩⟩))
              go_ret
              exact ⟨by first | rfl | (simp; done) | (simp [*]; done), by repeat (first | exact Drawn0.refl _ | apply Drawn0.step)⟩
             ·
              replace c83 := Bool.eq_false_iff.mpr c83
              subst c83
              have H1 : (if t151 = 244 then ((galleyref02_in.f t152 128 143).bind fun t189 => (if t189 = true then (some 4) else (some 0))) else (some 0)) = some r := by rw [if_neg (show ¬ (false = true) by decide)] at H; exact H
              clear H
              have H := H1
              clear H1
              by_cases c84 : t151 = 244
              ·
               rw [if_pos c84] at H
               have c84b0 : (t151 == 244) = true := beq_iff_eq.mpr c84
               have c84b1 : (t151 != 244) = false := bne_eq_false_iff_eq.mpr c84
               clear c84
               replace H := Option.bind_eq_some_iff.mp H
               obtain ⟨t189, A850, H⟩ := H
               replace H : (if t189 = true then (some 4) else (some 0)) = some r := H
               have A85 := Aside0.mk A850
               clear A850
               by_cases c86 : t189 = true
               ·
                subst c86
                have H1 : (some 4) = some r := by rw [if_pos rfl] at H; exact H
                clear H
                have H := H1
                clear H1
                obtain rfl := Option.some.inj H
                go_wp2_with (first | (go_at_call 133; (with_reducible refine (galleyref02_in.calls t152 144 191 false _ A78.out).mono ?_); rintro e w' ⟨rfl, ⟨nd, rfl⟩⟩) | (go_at_call 133; (with_reducible refine (galleyref02_in.calls t151 241 243 true _ A80.out).mono ?_); rintro e w' ⟨rfl, ⟨nd, rfl⟩⟩) | (go_at_call 133; (with_reducible refine (galleyref02_in.calls t152 128 191 false _ A82.out).mono ?_); rintro e w' ⟨rfl, ⟨nd, rfl⟩⟩) | (go_at_call 133; (with_reducible refine (galleyref02_in.calls t152 128 143 true _ A85.out).mono ?_); rintro e w' ⟨rfl, ⟨nd, rfl⟩⟩))
                go_ret
                exact ⟨by first | rfl | (simp; done) | (simp [*]; done), by repeat (first | exact Drawn0.refl _ | apply Drawn0.step)⟩
               ·
                replace c86 := Bool.eq_false_iff.mpr c86
                subst c86
                have H1 : (some 0) = some r := by rw [if_neg (show ¬ (false = true) by decide)] at H; exact H
                clear H
                have H := H1
                clear H1
                obtain rfl := Option.some.inj H
                go_wp2_with (first | (go_at_call 133; (with_reducible refine (galleyref02_in.calls t152 144 191 false _ A78.out).mono ?_); rintro e w' ⟨rfl, ⟨nd, rfl⟩⟩) | (go_at_call 133; (with_reducible refine (galleyref02_in.calls t151 241 243 true _ A80.out).mono ?_); rintro e w' ⟨rfl, ⟨nd, rfl⟩⟩) | (go_at_call 133; (with_reducible refine (galleyref02_in.calls t152 128 191 false _ A82.out).mono ?_); rintro e w' ⟨rfl, ⟨nd, rfl⟩⟩) | (go_at_call 133; (with_reducible refine (galleyref02_in.calls t152 128 143 false _ A85.out).mono ?_); rintro e w' ⟨rfl, ⟨nd, rfl⟩⟩))
                go_ret
                exact ⟨by first | rfl | (simp; done) | (simp [*]; done), by repeat (first | exact Drawn0.refl _ | apply Drawn0.step)⟩
              ·
               rw [if_neg c84] at H
               have c84b0 : (t151 == 244) = false := beq_eq_false_iff_ne.mpr c84
               have c84b1 : (t151 != 244) = true := bne_iff_ne.mpr c84
               obtain rfl := Option.some.inj H
               go_wp2_with (first | (go_at_call 133; (with_reducible refine (galleyref02_in.calls t152 144 191 false _ A78.out).mono ?_); rintro e w' ⟨rfl, ⟨nd, rfl⟩⟩) | (go_at_call 133; (with_reducible refine (galleyref02_in.calls t151 241 243 true _ A80.out).mono ?_); rintro e w' ⟨rfl, ⟨nd, rfl⟩⟩) | (go_at_call 133; (with_reducible refine (galleyref02_in.calls t152 128 191 false _ A82.out).mono ?_); rintro e w' ⟨rfl, ⟨nd, rfl⟩⟩))
               go_ret
               exact ⟨by first | rfl | (simp; done) | (simp [*]; done), by repeat (first | exact Drawn0.refl _ | apply Drawn0.step)⟩
            ·
             replace c81 := Bool.eq_false_iff.mpr c81
             subst c81
             have H1 : (if t151 = 244 then ((galleyref02_in.f t152 128 143).bind fun t190 => (if t190 = true then (some 4) else (some 0))) else (some 0)) = some r := by rw [if_neg (show ¬ (false = true) by decide)] at H; exact H
             clear H
             have H := H1
             clear H1
             by_cases c87 : t151 = 244
             ·
              rw [if_pos c87] at H
              have c87b0 : (t151 == 244) = true := beq_iff_eq.mpr c87
              have c87b1 : (t151 != 244) = false := bne_eq_false_iff_eq.mpr c87
              clear c87
              replace H := Option.bind_eq_some_iff.mp H
              obtain ⟨t190, A880, H⟩ := H
              replace H : (if t190 = true then (some 4) else (some 0)) = some r := H
              have A88 := Aside0.mk A880
              clear A880
              by_cases c89 : t190 = true
              ·
               subst c89
               have H1 : (some 4) = some r := by rw [if_pos rfl] at H; exact H
               clear H
               have H := H1
               clear H1
               obtain rfl := Option.some.inj H
               go_wp2_with (first | (go_at_call 133; (with_reducible refine (galleyref02_in.calls t152 144 191 false _ A78.out).mono ?_); rintro e w' ⟨rfl, ⟨nd, rfl⟩⟩) | (go_at_call 133; (with_reducible refine (galleyref02_in.calls t151 241 243 false _ A80.out).mono ?_); rintro e w' ⟨rfl, ⟨nd, rfl⟩⟩) | (go_at_call 133; (with_reducible refine (galleyref02_in.calls t152 128 143 true _ A88.out).mono ?_); rintro e w' ⟨rfl, ⟨nd, rfl⟩⟩))
               go_ret
               exact ⟨by first | rfl | (simp; done) | (simp [*]; done), by repeat (first | exact Drawn0.refl _ | apply Drawn0.step)⟩
              ·
               replace c89 := Bool.eq_false_iff.mpr c89
               subst c89
               have H1 : (some 0) = some r := by rw [if_neg (show ¬ (false = true) by decide)] at H; exact H
               clear H
               have H := H1
               clear H1
               obtain rfl := Option.some.inj H
               go_wp2_with (first | (go_at_call 133; (with_reducible refine (galleyref02_in.calls t152 144 191 false _ A78.out).mono ?_); rintro e w' ⟨rfl, ⟨nd, rfl⟩⟩) | (go_at_call 133; (with_reducible refine (galleyref02_in.calls t151 241 243 false _ A80.out).mono ?_); rintro e w' ⟨rfl, ⟨nd, rfl⟩⟩) | (go_at_call 133; (with_reducible refine (galleyref02_in.calls t152 128 143 false _ A88.out).mono ?_); rintro e w' ⟨rfl, ⟨nd, rfl⟩⟩))
               go_ret
               exact ⟨by first | rfl | (simp; done) | (simp [*]; done), by repeat (first | exact Drawn0.refl _ | apply Drawn0.step)⟩
             ·
              rw [if_neg c87] at H
              have c87b0 : (t151 == 244) = false := beq_eq_false_iff_ne.mpr c87
              have c87b1 : (t151 != 244) = true := bne_iff_ne.mpr c87
              obtain rfl := Option.some.inj H
              go_wp2_with (first | (go_at_call 133; (with_reducible refine (galleyref02_in.calls t152 144 191 false _ A78.out).mono ?_); rintro e w' ⟨rfl, ⟨nd, rfl⟩⟩) | (go_at_call 133; (with_reducible refine (galleyref02_in.calls t151 241 243 false _ A80.out).mono ?_); rintro e w' ⟨rfl, ⟨nd, rfl⟩⟩))
              go_ret
              exact ⟨by first | rfl | (simp; done) | (simp [*]; done), by repeat (first | exact Drawn0.refl _ | apply Drawn0.step)⟩
          ·
           rw [if_neg c77] at H
           have c77b0 : (t151 == 240) = false := beq_eq_false_iff_ne.mpr c77
           have c77b1 : (t151 != 240) = true := bne_iff_ne.mpr c77
           replace H := Option.bind_eq_some_iff.mp H
           obtain ⟨t191, A900, H⟩ := H
           replace H : (if t191 = true then ((galleyref02_in.f t152 128 191).bind fun t192 => (if t192 = true then (some 4) else (if t151 = 244 then ((galleyref02_in.f t152 128 143).bind fun t193 => (if t193 = true then (some 4) else (some 0))) else (some 0)))) else (if t151 = 244 then ((galleyref02_in.f t152 128 143).bind fun t194 => (if t194 = true then (some 4) else (some 0))) else (some 0))) = some r := H
           have A90 := Aside0.mk A900
           clear A900
           by_cases c91 : t191 = true
           ·
            subst c91
            have H1 : ((galleyref02_in.f t152 128 191).bind fun t192 => (if t192 = true then (some 4) else (if t151 = 244 then ((galleyref02_in.f t152 128 143).bind fun t193 => (if t193 = true then (some 4) else (some 0))) else (some 0)))) = some r := by rw [if_pos rfl] at H; exact H
            clear H
            have H := H1
            clear H1
            replace H := Option.bind_eq_some_iff.mp H
            obtain ⟨t192, A920, H⟩ := H
            replace H : (if t192 = true then (some 4) else (if t151 = 244 then ((galleyref02_in.f t152 128 143).bind fun t193 => (if t193 = true then (some 4) else (some 0))) else (some 0))) = some r := H
            have A92 := Aside0.mk A920
            clear A920
            by_cases c93 : t192 = true
            ·
             subst c93
             have H1 : (some 4) = some r := by rw [if_pos rfl] at H; exact H
             clear H
             have H := H1
             clear H1
             obtain rfl := Option.some.inj H
             go_wp2_with (first | (go_at_call 133; (with_reducible refine (galleyref02_in.calls t151 241 243 true _ A90.out).mono ?_); rintro e w' ⟨rfl, ⟨nd, rfl⟩⟩) | (go_at_call 133; (with_reducible refine (galleyref02_in.calls t152 128 191 true _ A92.out).mono ?_); rintro e w' ⟨rfl, ⟨nd, rfl⟩⟩))
             go_ret
             exact ⟨by first | rfl | (simp; done) | (simp [*]; done), by repeat (first | exact Drawn0.refl _ | apply Drawn0.step)⟩
            ·
             replace c93 := Bool.eq_false_iff.mpr c93
             subst c93
             have H1 : (if t151 = 244 then ((galleyref02_in.f t152 128 143).bind fun t193 => (if t193 = true then (some 4) else (some 0))) else (some 0)) = some r := by rw [if_neg (show ¬ (false = true) by decide)] at H; exact H
             clear H
             have H := H1
             clear H1
             by_cases c94 : t151 = 244
             ·
              rw [if_pos c94] at H
              have c94b0 : (t151 == 244) = true := beq_iff_eq.mpr c94
              have c94b1 : (t151 != 244) = false := bne_eq_false_iff_eq.mpr c94
              clear c94
              replace H := Option.bind_eq_some_iff.mp H
              obtain ⟨t193, A950, H⟩ := H
              replace H : (if t193 = true then (some 4) else (some 0)) = some r := H
              have A95 := Aside0.mk A950
              clear A950
              by_cases c96 : t193 = true
              ·
               subst c96
               have H1 : (some 4) = some r := by rw [if_pos rfl] at H; exact H
               clear H
               have H := H1
               clear H1
               obtain rfl := Option.some.inj H
               go_wp2_with (first | (go_at_call 133; (with_reducible refine (galleyref02_in.calls t151 241 243 true _ A90.out).mono ?_); rintro e w' ⟨rfl, ⟨nd, rfl⟩⟩) | (go_at_call 133; (with_reducible refine (galleyref02_in.calls t152 128 191 false _ A92.out).mono ?_); rintro e w' ⟨rfl, ⟨nd, rfl⟩⟩) | (go_at_call 133; (with_reducible refine (galleyref02_in.calls t152 128 143 true _ A95.out).mono ?_); rintro e w' ⟨rfl, ⟨nd, rfl⟩⟩))
               go_ret
               exact ⟨by first | rfl | (simp; done) | (simp [*]; done), by repeat (first | exact Drawn0.refl _ | apply Drawn0.step)⟩
              ·
               replace c96 := Bool.eq_false_iff.mpr c96
               subst c96
               have H1 : (some 0) = some r := by rw [if_neg (show ¬ (false = true) by decide)] at H; exact H
               clear H
               have H := H1
               clear H1
               obtain rfl := Option.some.inj H
               go_wp2_with (first | (go_at_call 133; (with_reducible refine (galleyref02_in.calls t151 241 243 true _ A90.out).mono ?_); rintro e w' ⟨rfl, ⟨nd, rfl⟩⟩) | (go_at_call 133; (with_reducible refine (galleyref02_in.calls t152 128 191 false _ A92.out).mono ?_); rintro e w' ⟨rfl, ⟨nd, rfl⟩⟩) | (go_at_call 133; (with_reducible refine (galleyref02_in.calls t152 128 143 false _ A95.out).mono ?_); rintro e w' ⟨rfl, ⟨nd, rfl⟩⟩))
               go_ret
               exact ⟨by first | rfl | (simp; done) | (simp [*]; done), by repeat (first | exact Drawn0.refl _ | apply Drawn0.step)⟩
             ·
              rw [if_neg c94] at H
              have c94b0 : (t151 == 244) = false := beq_eq_false_iff_ne.mpr c94
              have c94b1 : (t151 != 244) = true := bne_iff_ne.mpr c94
              obtain rfl := Option.some.inj H
              go_wp2_with (first | (go_at_call 133; (with_reducible refine (galleyref02_in.calls t151 241 243 true _ A90.out).mono ?_); rintro e w' ⟨rfl, ⟨nd, rfl⟩⟩) | (go_at_call 133; (with_reducible refine (galleyref02_in.calls t152 128 191 false _ A92.out).mono ?_); rintro e w' ⟨rfl, ⟨nd, rfl⟩⟩))
              go_ret
              exact ⟨by first | rfl | (simp; done) | (simp [*]; done), by repeat (first | exact Drawn0.refl _ | apply Drawn0.step)⟩
           ·
            replace c91 := Bool.eq_false_iff.mpr c91
            subst c91
            have H1 : (if t151 = 244 then ((galleyref02_in.f t152 128 143).bind fun t194 => (if t194 = true then (some 4) else (some 0))) else (some 0)) = some r := by rw [if_neg (show ¬ (false = true) by decide)] at H; exact H
            clear H
            have H := H1
            clear H1
            by_cases c97 : t151 = 244
            ·
             rw [if_pos c97] at H
             have c97b0 : (t151 == 244) = true := beq_iff_eq.mpr c97
             have c97b1 : (t151 != 244) = false := bne_eq_false_iff_eq.mpr c97
             clear c97
             replace H := Option.bind_eq_some_iff.mp H
             obtain ⟨t194, A980, H⟩ := H
             replace H : (if t194 = true then (some 4) else (some 0)) = some r := H
             have A98 := Aside0.mk A980
             clear A980
             by_cases c99 : t194 = true
             ·
              subst c99
              have H1 : (some 4) = some r := by rw [if_pos rfl] at H; exact H
              clear H
              have H := H1
              clear H1
              obtain rfl := Option.some.inj H
              go_wp2_with (first | (go_at_call 133; (with_reducible refine (galleyref02_in.calls t151 241 243 false _ A90.out).mono ?_); rintro e w' ⟨rfl, ⟨nd, rfl⟩⟩) | (go_at_call 133; (with_reducible refine (galleyref02_in.calls t152 128 143 true _ A98.out).mono ?_); rintro e w' ⟨rfl, ⟨nd, rfl⟩⟩))
              go_ret
              exact ⟨by first | rfl | (simp; done) | (simp [*]; done), by repeat (first | exact Drawn0.refl _ | apply Drawn0.step)⟩
             ·
              replace c99 := Bool.eq_false_iff.mpr c99
              subst c99
              have H1 : (some 0) = some r := by rw [if_neg (show ¬ (false = true) by decide)] at H; exact H
              clear H
              have H := H1
              clear H1
              obtain rfl := Option.some.inj H
              go_wp2_with (first | (go_at_call 133; (with_reducible refine (galleyref02_in.calls t151 241 243 false _ A90.out).mono ?_); rintro e w' ⟨rfl, ⟨nd, rfl⟩⟩) | (go_at_call 133; (with_reducible refine (galleyref02_in.calls t152 128 143 false _ A98.out).mono ?_); rintro e w' ⟨rfl, ⟨nd, rfl⟩⟩))
              go_ret
              exact ⟨by first | rfl | (simp; done) | (simp [*]; done), by repeat (first | exact Drawn0.refl _ | apply Drawn0.step)⟩
            ·
             rw [if_neg c97] at H
             have c97b0 : (t151 == 244) = false := beq_eq_false_iff_ne.mpr c97
             have c97b1 : (t151 != 244) = true := bne_iff_ne.mpr c97
             obtain rfl := Option.some.inj H
             go_wp2_with (first | (go_at_call 133; (with_reducible refine (galleyref02_in.calls t151 241 243 false _ A90.out).mono ?_); rintro e w' ⟨rfl, ⟨nd, rfl⟩⟩))
             go_ret
             exact ⟨by first | rfl | (simp; done) | (simp [*]; done), by repeat (first | exact Drawn0.refl _ | apply Drawn0.step)⟩
         ·
          replace c76 := Bool.eq_false_iff.mpr c76
          subst c76
          have H1 : (some 0) = some r := by rw [if_neg (show ¬ (false = true) by decide)] at H; exact H
          clear H
          have H := H1
          clear H1
          obtain rfl := Option.some.inj H
          go_wp2
          go_ret
          exact ⟨by first | rfl | (simp; done) | (simp [*]; done), by repeat (first | exact Drawn0.refl _ | apply Drawn0.step)⟩
end Go.Proofs.YtbomhpfckplgaaaDoor.P
namespace Go.Proofs.YtbomhpfckplgaaaDoor.P
open Go.RowKit Go.Proofs.YtbomhpfckplgaaaDoorW.PrintWords Go.Proofs.YtbomhpfckplgaaaDoorW.PrintLast Go.Proofs.YtbomhpfckplgaaaDoorW.PrintMore
attribute [local go_sem] max2_int min2_int max_two min_two max_three min_three max_four min_four   -- for this text's walks alone
set_option linter.unusedVariables false
set_option linter.unusedSimpArgs false
def galleyref02_Inside.l0 : Nat → List Int → Int → Int → Option (Bool)
 | 0, _, _, _ => none
 | k + 1, x0, x1, x5 => if x5 ≤ 3 then (if (wrap64 (x1 - x5)) ≥ 0 then ((galleyref02_Long.f k x0 (wrap64 (x1 - x5))).bind fun t195 => (if t195 > x5 then (some true) else (galleyref02_Inside.l0 k x0 x1 (wrap64 (x5 + 1))))) else (galleyref02_Inside.l0 k x0 x1 (wrap64 (x5 + 1)))) else (some false)
def galleyref02_Inside.f (k : Nat) (l0 : List Int) (a1 : Int) : Option (Bool) := galleyref02_Inside.l0 k l0 a1 1
set_option maxHeartbeats 8000000 in
set_option maxRecDepth 100000 in
theorem galleyref02_Inside.calls (k : Nat) (A0 : Option Addr) (c0 : Nat) (l0 : List Int) (a1 : Int) (r : Bool) (w : World) (hr0 : Kd.C (Kd.int .u8) w A0 l0.length l0) (hc0 : l0.length ≤ c0) (h : galleyref02_Inside.f k l0 a1 = some r) :
  Calls Tryd.prog 99 #[.slice A0 l0.length c0, .int .i64 a1] w fun e w' => e = .returned (.bool r) ∧ Drawn0 w w' := by
 have HR0 := Aside0.mk hr0
 have HC0 := Aside0.mk hc0
 clear hr0 hc0
 have H : (galleyref02_Inside.l0 k l0 a1 1) = some r := h
 clear h
 have H' := Aside0.mk H
 clear H
 go_enter Tryd.func99, Tryd.ntmps99
 go_wp2
 go_loopg [5] k (fun kq v5 w' => ∃ (x5_1 : Int), v5 = .int .i64 x5_1 ∧ Aside0 (galleyref02_Inside.l0 kq l0 a1 x5_1 = some r) ∧ Aside0 (kq ≤ k) ∧ Drawn0 w w')
 case atStart => exact ⟨(1), (by first | rfl | (simp; done) | (simp [*]; done)), H', ⟨Nat.le_refl _⟩, by repeat (first | exact Drawn0.refl _ | apply Drawn0.step)⟩
 case round =>
  clear H'
  (try clear p2)
  obtain ⟨x5_1, rfl, HA, HK1, ⟨m1, rfl⟩⟩ := hrel
  cases gk with
  | zero => exact absurd HA.out (by simp [galleyref02_Inside.l0])
  | succ k1 =>
   have H := HA.out
   clear HA
   simp only [galleyref02_Inside.l0] at H
   by_cases c3 : x5_1 ≤ 3
   ·
    rw [if_pos c3] at H
    have c3b0 : decide (x5_1 ≤ 3) = true := decide_eq_true c3
    clear c3
    by_cases c4 : (wrap64 (a1 - x5_1)) ≥ 0
    ·
     rw [if_pos c4] at H
     have c4b0 : decide (0 ≤ (wrap64 (a1 - x5_1))) = true := decide_eq_true c4
     clear c4
     replace H := Option.bind_eq_some_iff.mp H
     obtain ⟨t195, A50, H⟩ := H
     replace H : (if t195 > x5_1 then (some true) else (galleyref02_Inside.l0 k1 l0 a1 (wrap64 (x5_1 + 1)))) = some r := H
     have A5 := Aside0.mk A50
     clear A50
     by_cases c6 : t195 > x5_1
     ·
      rw [if_pos c6] at H
      have c6b0 : decide (x5_1 < t195) = true := decide_eq_true c6
      clear c6
      obtain rfl := Option.some.inj H
      go_wp2_with (first | (go_at_call 120; (with_reducible refine (galleyref02_Long.calls k1 _ _ l0 (wrap64 (a1 - x5_1)) t195 _ ?side1 ?side2 A5.out).mono ?_); (case side1 => repeat (first | exact HR0.out | (with_reducible refine Kd.C_alloc ?_ _) | (with_reducible refine Kd.C_drewN ?_ _) | (with_reducible refine Kd.C_drew ?_))); (case side2 => exact HC0.out); rintro e w' ⟨rfl, ⟨nd, rfl⟩⟩))
      go_ret
      exact ⟨by first | rfl | (simp; done) | (simp [*]; done), by repeat (first | exact Drawn0.refl _ | apply Drawn0.step)⟩
     ·
      rw [if_neg c6] at H
      have c6b0 : decide (x5_1 < t195) = false := decide_eq_false c6
      clear c6
      have H' := Aside0.mk H
      clear H
      go_wp2_with (first | (go_at_call 120; (with_reducible refine (galleyref02_Long.calls k1 _ _ l0 (wrap64 (a1 - x5_1)) t195 _ ?side1 ?side2 A5.out).mono ?_); (case side1 => repeat (first | exact HR0.out | (with_reducible refine Kd.C_alloc ?_ _) | (with_reducible refine Kd.C_drewN ?_ _) | (with_reducible refine Kd.C_drew ?_))); (case side2 => exact HC0.out); rintro e w' ⟨rfl, ⟨nd, rfl⟩⟩))
      go_roundg k1
      case measure => have := HK1.out; omega
      case rel => exact ⟨(wrap64 (x5_1 + 1)), (by first | rfl | (simp; done) | (simp [*]; done)), H', ⟨by have := HK1.out; omega⟩, by repeat (first | exact Drawn0.refl _ | apply Drawn0.step)⟩
    ·
     rw [if_neg c4] at H
     have c4b0 : decide (0 ≤ (wrap64 (a1 - x5_1))) = false := decide_eq_false c4
     clear c4
     have H' := Aside0.mk H
     clear H
     go_wp2
     go_roundg k1
     case measure => have := HK1.out; omega
     case rel => exact ⟨(wrap64 (x5_1 + 1)), (by first | rfl | (simp; done) | (simp [*]; done)), H', ⟨by have := HK1.out; omega⟩, by repeat (first | exact Drawn0.refl _ | apply Drawn0.step)⟩
   ·
    rw [if_neg c3] at H
    have c3b0 : decide (x5_1 ≤ 3) = false := decide_eq_false c3
    clear c3
    obtain rfl := Option.some.inj H
    go_wp2
    go_ret
    exact ⟨by first | rfl | (simp; done) | (simp [*]; done), by repeat (first | exact Drawn0.refl _ | apply Drawn0.step)⟩
def galleyref02_Edges.l0 : Nat → List Int → List Int → Int → Option (List Int)
 | 0, _, _, _ => none
 | k + 1, x0, x3, x4 => if x4 ≤ (x0.length : Int) then ((galleyref02_Inside.f k x0 x4).bind fun t196 => (if t196 = true then (galleyref02_Edges.l0 k x0 x3 (wrap64 (x4 + 1))) else (if x3.length < 17592186044416 then (galleyref02_Edges.l0 k x0 (x3 ++ [x4]) (wrap64 (x4 + 1))) else (none)))) else (some x3)
def galleyref02_Edges.f (k : Nat) (l0 : List Int) : Option (List Int) := galleyref02_Edges.l0 k l0 ([] : List Int) 0
set_option maxHeartbeats 8000000 in
set_option maxRecDepth 100000 in
theorem galleyref02_Edges.calls (k : Nat) (A0 : Option Addr) (c0 : Nat) (l0 : List Int) (r : List Int) (w : World) (hr0 : Kd.C (Kd.int .u8) w A0 l0.length l0) (hc0 : l0.length ≤ c0) (h : galleyref02_Edges.f k l0 = some r) :
  Calls Tryd.prog 90 #[.slice A0 l0.length c0] w fun e w' => ∃ v0_ : Value, e = .returned (v0_) ∧ Kd.R (Kd.int .i64) 3 w' w.heap.size (fun _ => True) v0_ r ∧ Below w.heap.size w w' := by
 have HR0 := Aside0.mk hr0
 have HC0 := Aside0.mk hc0
 clear hr0 hc0
 have HB := Aside0.mk (Below.refl w.heap.size w)
 have H : (galleyref02_Edges.l0 k l0 ([] : List Int) 0) = some r := h
 clear h
 have H' := Aside0.mk H
 clear H
 go_enter Tryd.func90, Tryd.ntmps90
 go_wp2
 go_loopg [3, 4] k (fun kq v3 v4 w' => ∃ (x3_1 : List Int) (x4_1 : Int), v4 = .int .i64 x4_1 ∧ Aside0 (galleyref02_Edges.l0 kq l0 x3_1 x4_1 = some r) ∧ Aside0 (kq ≤ k) ∧ Aside0 (Kd.R (Kd.int .i64) 3 w' w.heap.size (fun _ => True) v3 x3_1) ∧ Aside0 (Below w.heap.size w w'))
 case atStart => exact ⟨(([] : List Int)), (0), (by first | rfl | (simp; done) | (simp [*]; done)), H', ⟨Nat.le_refl _⟩, ⟨by first | exact Kd.R_nil _ _ _ _ _ | exact Kd.N_nil _ _ _ _ _ | exact Kd.V_nil _ _ _ _ _ | exact Kd.Q_nil _ _ _ _ _ | exact Kd.S_nil _ _ _ _ _⟩, ⟨by repeat (first | (with_reducible first | exact HB.out | apply below_alloc | apply pw_below_drewN | apply below_drew1) | exact HB.out)⟩⟩
 case round =>
  clear H'
  obtain ⟨x3_1, x4_1, rfl, HA, HK1, HO_3, HB⟩ := hrel
  cases gk with
  | zero => exact absurd HA.out (by simp [galleyref02_Edges.l0])
  | succ k1 =>
   have H := HA.out
   clear HA
   simp only [galleyref02_Edges.l0] at H
   by_cases c2 : x4_1 ≤ (l0.length : Int)
   ·
    rw [if_pos c2] at H
    have c2b0 : decide (x4_1 ≤ (l0.length : Int)) = true := decide_eq_true c2
    clear c2
    replace H := Option.bind_eq_some_iff.mp H
    obtain ⟨t196, A30, H⟩ := H
    replace H : (if t196 = true then (galleyref02_Edges.l0 k1 l0 x3_1 (wrap64 (x4_1 + 1))) else (if x3_1.length < 17592186044416 then (galleyref02_Edges.l0 k1 l0 (x3_1 ++ [x4_1]) (wrap64 (x4_1 + 1))) else (none))) = some r := H
    have A3 := Aside0.mk A30
    clear A30
    by_cases c4 : t196 = true
    ·
     subst c4
     have H1 : (galleyref02_Edges.l0 k1 l0 x3_1 (wrap64 (x4_1 + 1))) = some r := by rw [if_pos rfl] at H; exact H
     clear H
     have H := H1
     clear H1
     have H' := Aside0.mk H
     clear H
     go_wp2_with (first | ((with_reducible refine gate_callee (f := 99) rfl ?_); refine goesL_ (some 13) rfl rfl Tryd.func99 (by kernel_rfl) rfl #[.slice A0 l0.length c0, .int .i64 x4_1] rfl (by (try simp only [List.map_toArray, List.map_cons, List.map_nil]); first | done | rfl | (simp only [List.length_drop, List.length_take]; rfl)) ?_; (with_reducible refine (galleyref02_Inside.calls k1 _ _ l0 x4_1 true _ ?side1 ?side2 A3.out).mono ?_); (case side1 => repeat (first | exact (Kd.C_below HR0.out HB.out) | (with_reducible refine Kd.C_alloc ?_ _) | (with_reducible refine Kd.C_drewN ?_ _) | (with_reducible refine Kd.C_drew ?_))); (case side2 => exact HC0.out); rintro e w' ⟨rfl, ⟨nd, rfl⟩⟩; refine ⟨_, rfl, ?_⟩))
     go_roundg k1
     case measure => have := HK1.out; omega
     case rel => exact ⟨(x3_1), (wrap64 (x4_1 + 1)), (by first | rfl | (simp; done) | (simp [*]; done)), H', ⟨by have := HK1.out; omega⟩, ⟨by (with_reducible repeat (first | apply Kd.R_alloc | apply Kd.R_drewN | apply Kd.R_drew)); exact HO_3.out⟩, ⟨by repeat (first | (with_reducible first | exact HB.out | apply below_alloc | apply pw_below_drewN | apply below_drew1) | exact HB.out)⟩⟩
    ·
     replace c4 := Bool.eq_false_iff.mpr c4
     subst c4
     have H1 : (if x3_1.length < 17592186044416 then (galleyref02_Edges.l0 k1 l0 (x3_1 ++ [x4_1]) (wrap64 (x4_1 + 1))) else (none)) = some r := by rw [if_neg (show ¬ (false = true) by decide)] at H; exact H
     clear H
     have H := H1
     clear H1
     by_cases c5 : x3_1.length < 17592186044416
     ·
      rw [if_pos c5] at H
      have LMc5 := Aside0.mk c5
      clear c5
      obtain ⟨y197, hy197⟩ : ∃ y_ : List Int, y_ = (x3_1 ++ [x4_1]) := ⟨_, rfl⟩
      replace H : (galleyref02_Edges.l0 k1 l0 y197 (wrap64 (x4_1 + 1))) = some r := by first | (rw [hy197]; with_reducible exact H) | (have H2_ := (Option.bind_some _ _).symm.trans H; rw [hy197]; with_reducible exact H2_) | (have H2_ := (Option.bind_some _ _).symm.trans H; with_reducible exact H2_) | with_reducible exact H | (rw [hy197]; exact H) | exact H
      have Ny197 := Aside0.mk hy197
      clear hy197
      have H' := Aside0.mk H
      clear H
      go_wp2_with (first | ((with_reducible refine gate_callee (f := 99) rfl ?_); refine goesL_ (some 13) rfl rfl Tryd.func99 (by kernel_rfl) rfl #[.slice A0 l0.length c0, .int .i64 x4_1] rfl (by (try simp only [List.map_toArray, List.map_cons, List.map_nil]); first | done | rfl | (simp only [List.length_drop, List.length_take]; rfl)) ?_; (with_reducible refine (galleyref02_Inside.calls k1 _ _ l0 x4_1 false _ ?side1 ?side2 A3.out).mono ?_); (case side1 => repeat (first | exact (Kd.C_below HR0.out HB.out) | (with_reducible refine Kd.C_alloc ?_ _) | (with_reducible refine Kd.C_drewN ?_ _) | (with_reducible refine Kd.C_drew ?_))); (case side2 => exact HC0.out); rintro e w' ⟨rfl, ⟨nd, rfl⟩⟩; refine ⟨_, rfl, ?_⟩) | ((with_reducible refine gate_builtin (b := .append) (xs := #[.tmp 15, .tmp 17]) rfl ?_); at_builtin; refine Kd.R_append (Kd.int .i64) (w0 := w) w.heap.size rfl (.tmp 15) (.tmp 17) 29 3 (.int .i64 0) 8 rfl Tryd.underlying29 info3 rfl (by decide) (by omega) u3 x3_1 x4_1 [.int .i64 x4_1] (fun _ => True) (fun _ => False) rfl rfl ?aP (fun _ hk => hk.elim) ?aF ?aO ?aB ?aS ?aL ?_; (case aP => exact rfl); (case aB => exact (by repeat (first | (with_reducible first | exact HB.out | apply below_alloc | apply pw_below_drewN | apply below_drew1) | exact HB.out))); (case aF => exact (fun _ _ => trivial)); (case aO => exact (by (with_reducible repeat (first | apply Kd.R_alloc | apply Kd.R_drewN | apply Kd.R_drew)); exact HO_3.out)); (case aS => exact (below_size (by repeat (first | (with_reducible first | exact HB.out | apply below_alloc | apply pw_below_drewN | apply below_drew1) | exact HB.out)))); (case aL => have := LMc5.out; omega); intro v198 w6 ho hb hg hat; rw [← Ny197.out] at ho; have n0_ := Aside0.mk (hb); have n1_ := Aside0.mk (ho); clear HB; clear HO_3; have HB := n0_; have HO199 := n1_; clear n0_ n1_; clear ho hb hg hat))
      go_roundg k1
      case measure => have := HK1.out; omega
      case rel => exact ⟨(y197), (wrap64 (x4_1 + 1)), (by first | rfl | (simp; done) | (simp [*]; done)), H', ⟨by have := HK1.out; omega⟩, ⟨by (with_reducible repeat (first | apply Kd.R_alloc | apply Kd.R_drewN | apply Kd.R_drew)); exact HO199.out⟩, ⟨by repeat (first | (with_reducible first | exact HB.out | apply below_alloc | apply pw_below_drewN | apply below_drew1) | exact HB.out)⟩⟩
     ·
      rw [if_neg c5] at H
      exact absurd H (by simp)
   ·
    rw [if_neg c2] at H
    have c2b0 : decide (x4_1 ≤ (l0.length : Int)) = false := decide_eq_false c2
    clear c2
    obtain rfl := Option.some.inj H
    go_wp2
    go_ret
    exact ⟨_, by first | rfl | (simp [errW_none, errW_some] <;> rfl) | (simp [*, errW_none, errW_some] <;> rfl), by (with_reducible repeat (first | apply Kd.R_alloc | apply Kd.R_drewN | apply Kd.R_drew)); exact HO_3.out, by repeat (first | (with_reducible first | exact HB.out | apply below_alloc | apply pw_below_drewN | apply below_drew1) | exact HB.out)⟩
end Go.Proofs.YtbomhpfckplgaaaDoor.P
namespace Go.Proofs.YtbomhpfckplgaaaDoor.P
open Go.RowKit Go.Proofs.YtbomhpfckplgaaaDoorW.PrintWords Go.Proofs.YtbomhpfckplgaaaDoorW.PrintLast Go.Proofs.YtbomhpfckplgaaaDoorW.PrintMore
attribute [local go_sem] max2_int min2_int max_two min_two max_three min_three max_four min_four   -- for this text's walks alone
set_option linter.unusedVariables false
set_option linter.unusedSimpArgs false
end Go.Proofs.YtbomhpfckplgaaaDoor.P
namespace Go.Proofs.YtbomhpfckplgaaaDoor.P
open Go.RowKit Go.Proofs.YtbomhpfckplgaaaDoorW.PrintWords Go.Proofs.YtbomhpfckplgaaaDoorW.PrintLast Go.Proofs.YtbomhpfckplgaaaDoorW.PrintMore
attribute [local go_sem] max2_int min2_int max_two min_two max_three min_three max_four min_four   -- for this text's walks alone
set_option linter.unusedVariables false
set_option linter.unusedSimpArgs false
end Go.Proofs.YtbomhpfckplgaaaDoor.P
namespace Go.Proofs.YtbomhpfckplgaaaDoor.P
open Go.RowKit Go.Proofs.YtbomhpfckplgaaaDoorW.PrintWords Go.Proofs.YtbomhpfckplgaaaDoorW.PrintLast Go.Proofs.YtbomhpfckplgaaaDoorW.PrintMore
attribute [local go_sem] max2_int min2_int max_two min_two max_three min_three max_four min_four   -- for this text's walks alone
set_option linter.unusedVariables false
set_option linter.unusedSimpArgs false
end Go.Proofs.YtbomhpfckplgaaaDoor.P
