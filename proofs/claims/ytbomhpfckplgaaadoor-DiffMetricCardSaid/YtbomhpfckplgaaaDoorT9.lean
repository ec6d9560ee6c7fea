/- What the metric needs beyond the distance. -/
import Derived.Test.YtbomhpfckplgaaaDoorT0
import Derived.Test.YtbomhpfckplgaaaDoorT1
import Derived.Test.YtbomhpfckplgaaaDoorT2
import Derived.Test.YtbomhpfckplgaaaDoorT3
import Derived.Test.YtbomhpfckplgaaaDoorT4
import Derived.Test.YtbomhpfckplgaaaDoorT5
import Derived.Test.YtbomhpfckplgaaaDoorT6
import Derived.Test.YtbomhpfckplgaaaDoorT7
import Derived.Test.YtbomhpfckplgaaaDoorT8
namespace Go.Proofs.YtbomhpfckplgaaaDoor.P.LCS
set_option linter.unusedSectionVars false
set_option linter.unusedVariables false
variable {α : Type} [DecidableEq α]
theorem lcs_le_right (a b : List α) : lcs a b ≤ b.length := by rw [lcs_comm]; exact lcs_le_left _ _
theorem lcs_self (a : List α) : lcs a a = a.length := Nat.le_antisymm (lcs_le_left a a) ((lcs_is a a).2 a (List.Sublist.refl _) (List.Sublist.refl _))
theorem lcs_full {a b : List α} (h : lcs a b = a.length) (k : lcs a b = b.length) : a = b := by
  obtain ⟨⟨s, h1, h2, h4⟩, _⟩ := lcs_is a b
  have e1 := h1.eq_of_length (by omega)
  have e2 := h2.eq_of_length (by omega)
  rw [← e1, ← e2]

def dist (a b : List α) : Nat := a.length + b.length - 2 * lcs a b
theorem dist_int (a b : List α) : (dist a b : Int) = (a.length : Int) + b.length - 2 * lcs a b := by
  have h1 := lcs_le_left a b
  have h2 := lcs_le_right a b
  unfold dist; omega
theorem common_of_sub {s t b : List α} (h : s.Sublist b) (k : t.Sublist b) : ∃ u : List α, u.Sublist s ∧ u.Sublist t ∧ s.length + t.length ≤ b.length + u.length := by
  induction b generalizing s t with
  | nil =>
    rw [List.sublist_nil] at h k
    subst h; subst k
    exact ⟨[], List.Sublist.refl _, List.Sublist.refl _, by simp⟩
  | cons x b ih =>
    cases h with
    | cons _ h =>
      cases k with
      | cons _ k =>
        obtain ⟨u, u1, u2, u3⟩ := ih h k
        exact ⟨u, u1, u2, by simp; omega⟩
      | cons_cons _ k =>
        obtain ⟨u, u1, u2, u3⟩ := ih h k
        exact ⟨u, u1, u2.cons _, by simp; omega⟩
    | cons_cons _ h =>
      cases k with
      | cons _ k =>
        obtain ⟨u, u1, u2, u3⟩ := ih h k
        exact ⟨u, u1.cons _, u2, by simp; omega⟩
      | cons_cons _ k =>
        obtain ⟨u, u1, u2, u3⟩ := ih h k
        exact ⟨x :: u, u1.cons_cons x, u2.cons_cons x, by simp; omega⟩
theorem lcs_triangle (a b c : List α) : lcs a b + lcs b c ≤ b.length + lcs a c := by
  obtain ⟨⟨s, s1, s2, s3⟩, _⟩ := lcs_is a b
  obtain ⟨⟨t, t1, t2, t3⟩, _⟩ := lcs_is b c
  obtain ⟨u, u1, u2, u3⟩ := common_of_sub s2 t1
  have := lcs_ge (u1.trans s1) (u2.trans t2)
  omega
end Go.Proofs.YtbomhpfckplgaaaDoor.P.LCS
namespace Go.Proofs.YtbomhpfckplgaaaDoor.P
open Go Go.RowKit Go.Proofs.YtbomhpfckplgaaaDoorW.PrintWords Utf
theorem stepsB_length {l : List Int} (hl : Bytes l) : (stepsB l).length = (stepsL l).length := by rw [stepsB_L hl, List.length_map]
end Go.Proofs.YtbomhpfckplgaaaDoor.P
namespace Go.Proofs.YtbomhpfckplgaaaDoor.P
open Go.RowKit Go.Proofs.YtbomhpfckplgaaaDoorW.PrintWords Go.Proofs.YtbomhpfckplgaaaDoorW.PrintLast Go.Proofs.YtbomhpfckplgaaaDoorW.PrintMore
attribute [local go_sem] max2_int min2_int max_two min_two max_three min_three max_four min_four   -- for this text's walks alone
set_option linter.unusedVariables false
set_option linter.unusedSimpArgs false
mutual
def galleylaw19_DiffMetric.j0 : Nat → List Int → List Int → List Int → Bool → Option (Bool)
 | 0, _, _, _, _ => none
 | k + 1, x0, x1, x2, x26 => if x26 = true then (some true) else ((galleylaw19_own.f x0).bind fun t1417 => ((galleylaw19_own.f x1).bind fun t1420 => ((diff_Distance.f t1417 t1420).bind fun bt1423 => ((galleylaw19_own.f x1).bind fun t1425 => ((galleylaw19_own.f x0).bind fun t1428 => ((diff_Distance.f t1425 t1428).bind fun bt1431 => ((galleylaw19_own.f x1).bind fun t1433 => ((galleylaw19_own.f x2).bind fun t1436 => ((diff_Distance.f t1433 t1436).bind fun bt1439 => ((galleylaw19_own.f x0).bind fun t1441 => ((galleylaw19_own.f x2).bind fun t1444 => ((diff_Distance.f t1441 t1444).bind fun bt1447 => (if bt1423.2 = 0 then (if bt1431.2 = 0 then (if bt1439.2 = 0 then (galleylaw19_DiffMetric.j1 k x0 x1 bt1423.1 bt1431.1 bt1439.1 bt1447.1 (bt1447.2 != 0)) else (galleylaw19_DiffMetric.j1 k x0 x1 bt1423.1 bt1431.1 bt1439.1 bt1447.1 true)) else (galleylaw19_DiffMetric.j1 k x0 x1 bt1423.1 bt1431.1 bt1439.1 bt1447.1 true)) else (galleylaw19_DiffMetric.j1 k x0 x1 bt1423.1 bt1431.1 bt1439.1 bt1447.1 true))))))))))))))
def galleylaw19_DiffMetric.j1 : Nat → List Int → List Int → Int → Int → Int → Int → Bool → Option (Bool)
 | 0, _, _, _, _, _, _, _ => none
 | k + 1, x0, x1, x7, x9, x11, x13, x72 => if x72 = true then (some false) else ((galleyref19_Steps.f k x0).bind fun t1449 => ((galleyref19_Steps.f k x1).bind fun t1452 => (if ((x7 == 0) == ((strOfNums x0).toList == (strOfNums x1).toList)) = true then (if x7 = x9 then (if x13 ≤ (wrap64 (x7 + x11)) then (if x7 ≥ (wrap64 ((t1449.length : Int) - (t1452.length : Int))) then (if x7 ≥ (wrap64 ((t1452.length : Int) - (t1449.length : Int))) then (some (decide (x7 ≤ (wrap64 ((t1449.length : Int) + (t1452.length : Int)))))) else (some false)) else (some false)) else (some false)) else (some false)) else (some false))))
end
def galleylaw19_DiffMetric.f (k : Nat) (l0 : List Int) (l1 : List Int) (l2 : List Int) : Option (Bool) := (galleylaw19_wakes.f k).bind fun t1414 => (if t1414 = true then ((galleylaw19_long.f l0 l1).bind fun t1415 => (if t1415 = true then (galleylaw19_DiffMetric.j0 k l0 l1 l2 true) else ((galleylaw19_long.f l1 l2).bind fun t1416 => (galleylaw19_DiffMetric.j0 k l0 l1 l2 t1416)))) else (some false))
set_option maxHeartbeats 8000000 in
set_option maxRecDepth 100000 in
theorem galleylaw19_DiffMetric.calls (k : Nat) (A0 : Option Addr) (c0 : Nat) (l0 : List Int) (A1 : Option Addr) (c1 : Nat) (l1 : List Int) (A2 : Option Addr) (c2 : Nat) (l2 : List Int) (r : Bool) (w : World) (hr0 : Kd.C (Kd.int .u8) w A0 l0.length l0) (hc0 : l0.length ≤ c0) (hr1 : Kd.C (Kd.int .u8) w A1 l1.length l1) (hc1 : l1.length ≤ c1) (hr2 : Kd.C (Kd.int .u8) w A2 l2.length l2) (hc2 : l2.length ≤ c2) (hG : Laid w) (h : galleylaw19_DiffMetric.f k l0 l1 l2 = some r) :
  Calls Tryd.prog 26 #[.slice A0 l0.length c0, .slice A1 l1.length c1, .slice A2 l2.length c2] w fun e w' => e = .returned (.bool r) ∧ Below w.heap.size w w' := by
 have HG := Aside0.mk hG
 clear hG
 have HR0 := Aside0.mk hr0
 have HC0 := Aside0.mk hc0
 clear hr0 hc0
 have HR1 := Aside0.mk hr1
 have HC1 := Aside0.mk hc1
 clear hr1 hc1
 have HR2 := Aside0.mk hr2
 have HC2 := Aside0.mk hc2
 clear hr2 hc2
 have HB := Aside0.mk (Below.refl w.heap.size w)
 have H : ((galleylaw19_wakes.f k).bind fun t1414 => (if t1414 = true then ((galleylaw19_long.f l0 l1).bind fun t1415 => (if t1415 = true then (galleylaw19_DiffMetric.j0 k l0 l1 l2 true) else ((galleylaw19_long.f l1 l2).bind fun t1416 => (galleylaw19_DiffMetric.j0 k l0 l1 l2 t1416)))) else (some false))) = some r := h
 clear h
 replace H := Option.bind_eq_some_iff.mp H
 obtain ⟨t1414, A40, H⟩ := H
 replace H : (if t1414 = true then ((galleylaw19_long.f l0 l1).bind fun t1415 => (if t1415 = true then (galleylaw19_DiffMetric.j0 k l0 l1 l2 true) else ((galleylaw19_long.f l1 l2).bind fun t1416 => (galleylaw19_DiffMetric.j0 k l0 l1 l2 t1416)))) else (some false)) = some r := H
 have A4 := Aside0.mk A40
 clear A40
 by_cases c5 : t1414 = true
 ·
  subst c5
  have H1 : ((galleylaw19_long.f l0 l1).bind fun t1415 => (if t1415 = true then (galleylaw19_DiffMetric.j0 k l0 l1 l2 true) else ((galleylaw19_long.f l1 l2).bind fun t1416 => (galleylaw19_DiffMetric.j0 k l0 l1 l2 t1416)))) = some r := by rw [if_pos rfl] at H; exact H
  clear H
  have H := H1
  clear H1
  have HC6 := Aside0.mk H
  clear H
  go_enter Tryd.func26, Tryd.ntmps26
  go_upto_region 3 with (first | ((with_reducible refine gate_callee (f := 41) rfl ?_); refine goesL_ (some 17) rfl rfl Tryd.func41 (by kernel_rfl) rfl #[] rfl (by (try simp only [List.map_toArray, List.map_cons, List.map_nil]); first | done | rfl | (simp only [List.length_drop, List.length_take]; rfl)) ?_; (with_reducible refine (galleylaw19_wakes.calls k  true _ ?side1 A4.out).mono ?_); (case side1 => repeat (first | exact HG.out | exact Laid.below HG.out HB.out | (with_reducible refine Laid.alloc ?_ _) | (with_reducible refine Laid.drewN ?_ _) | (with_reducible refine Laid.drew ?_))); rintro e w7 ⟨rfl, hb⟩; refine ⟨_, rfl, ?_⟩; have n0_ := Aside0.mk (below_step (by repeat (first | (with_reducible first | exact HB.out | apply below_alloc | apply pw_below_drewN | apply below_drew1) | exact HB.out)) hb); clear HB; have HB := n0_; clear n0_; (try clear hb); (try clear hb2); (try clear hk); (try clear hi)))
  (try simp only [Act.put, List.setIfInBounds_toArray, List.set_cons_zero, List.set_cons_succ])
  go_cut [26] (fun v26 wc => ∃ (kq : Nat) (x26_5 : Bool), v26 = .bool x26_5 ∧ Aside0 (galleylaw19_DiffMetric.j0 kq l0 l1 l2 x26_5 = some r) ∧ Aside0 (kq ≤ k) ∧ Aside0 (Below w.heap.size w wc))
  case first =>
   have H := HC6.out
   clear HC6
   replace H := Option.bind_eq_some_iff.mp H
   obtain ⟨t1415, A80, H⟩ := H
   replace H : (if t1415 = true then (galleylaw19_DiffMetric.j0 k l0 l1 l2 true) else ((galleylaw19_long.f l1 l2).bind fun t1416 => (galleylaw19_DiffMetric.j0 k l0 l1 l2 t1416))) = some r := H
   have A8 := Aside0.mk A80
   clear A80
   by_cases c9 : t1415 = true
   ·
    subst c9
    have H1 : (galleylaw19_DiffMetric.j0 k l0 l1 l2 true) = some r := by rw [if_pos rfl] at H; exact H
    clear H
    have H := H1
    clear H1
    have H' := Aside0.mk H
    clear H
    go_wp2_with (first | ((with_reducible refine gate_callee (f := 42) rfl ?_); refine goesL_ (some 21) rfl rfl Tryd.func42 (by kernel_rfl) rfl #[.slice A0 l0.length c0, .slice A1 l1.length c1] rfl (by (try simp only [List.map_toArray, List.map_cons, List.map_nil]); first | done | rfl | (simp only [List.length_drop, List.length_take]; rfl)) ?_; (with_reducible refine (galleylaw19_long.calls _ _ l0 _ _ l1 true _ ?side1 ?side2 ?side3 ?side4 A8.out).mono ?_); (case side1 => repeat (first | exact (Kd.C_below HR0.out HB.out) | (with_reducible refine Kd.C_alloc ?_ _) | (with_reducible refine Kd.C_drewN ?_ _) | (with_reducible refine Kd.C_drew ?_))); (case side2 => exact HC0.out); (case side3 => repeat (first | exact (Kd.C_below HR1.out HB.out) | (with_reducible refine Kd.C_alloc ?_ _) | (with_reducible refine Kd.C_drewN ?_ _) | (with_reducible refine Kd.C_drew ?_))); (case side4 => exact HC1.out); rintro e w' ⟨rfl, ⟨nd, rfl⟩⟩; refine ⟨_, rfl, ?_⟩))
    go_meet
    case rel => exact ⟨_, (true), (by first | rfl | (simp; done) | (simp [*]; done)), H', ⟨by first | omega | exact Nat.le_refl _⟩, ⟨by repeat (first | (with_reducible first | exact HB.out | apply below_alloc | apply pw_below_drewN | apply below_drew1) | exact HB.out)⟩⟩
   ·
    replace c9 := Bool.eq_false_iff.mpr c9
    subst c9
    have H1 : ((galleylaw19_long.f l1 l2).bind fun t1416 => (galleylaw19_DiffMetric.j0 k l0 l1 l2 t1416)) = some r := by rw [if_neg (show ¬ (false = true) by decide)] at H; exact H
    clear H
    have H := H1
    clear H1
    replace H := Option.bind_eq_some_iff.mp H
    obtain ⟨t1416, A100, H⟩ := H
    replace H : (galleylaw19_DiffMetric.j0 k l0 l1 l2 t1416) = some r := H
    have A10 := Aside0.mk A100
    clear A100
    have H' := Aside0.mk H
    clear H
    go_wp2_with (first | ((with_reducible refine gate_callee (f := 42) rfl ?_); refine goesL_ (some 21) rfl rfl Tryd.func42 (by kernel_rfl) rfl #[.slice A0 l0.length c0, .slice A1 l1.length c1] rfl (by (try simp only [List.map_toArray, List.map_cons, List.map_nil]); first | done | rfl | (simp only [List.length_drop, List.length_take]; rfl)) ?_; (with_reducible refine (galleylaw19_long.calls _ _ l0 _ _ l1 false _ ?side1 ?side2 ?side3 ?side4 A8.out).mono ?_); (case side1 => repeat (first | exact (Kd.C_below HR0.out HB.out) | (with_reducible refine Kd.C_alloc ?_ _) | (with_reducible refine Kd.C_drewN ?_ _) | (with_reducible refine Kd.C_drew ?_))); (case side2 => exact HC0.out); (case side3 => repeat (first | exact (Kd.C_below HR1.out HB.out) | (with_reducible refine Kd.C_alloc ?_ _) | (with_reducible refine Kd.C_drewN ?_ _) | (with_reducible refine Kd.C_drew ?_))); (case side4 => exact HC1.out); rintro e w' ⟨rfl, ⟨nd, rfl⟩⟩; refine ⟨_, rfl, ?_⟩) | (go_at_call 42; (with_reducible refine (galleylaw19_long.calls _ _ l1 _ _ l2 t1416 _ ?side1 ?side2 ?side3 ?side4 A10.out).mono ?_); (case side1 => repeat (first | exact (Kd.C_below HR1.out (by repeat (first | (with_reducible first | exact HB.out | apply below_alloc | apply pw_below_drewN | apply below_drew1) | exact HB.out))) | (with_reducible refine Kd.C_alloc ?_ _) | (with_reducible refine Kd.C_drewN ?_ _) | (with_reducible refine Kd.C_drew ?_))); (case side2 => exact HC1.out); (case side3 => repeat (first | exact (Kd.C_below HR2.out (by repeat (first | (with_reducible first | exact HB.out | apply below_alloc | apply pw_below_drewN | apply below_drew1) | exact HB.out))) | (with_reducible refine Kd.C_alloc ?_ _) | (with_reducible refine Kd.C_drewN ?_ _) | (with_reducible refine Kd.C_drew ?_))); (case side4 => exact HC2.out); rintro e w' ⟨rfl, ⟨nd, rfl⟩⟩))
    go_meet
    case rel => exact ⟨_, (t1416), (by first | rfl | (simp; done) | (simp [*]; done)), H', ⟨by first | omega | exact Nat.le_refl _⟩, ⟨by repeat (first | (with_reducible first | exact HB.out | apply below_alloc | apply pw_below_drewN | apply below_drew1) | exact HB.out)⟩⟩
  case rest =>
   clear HC6
   (try clear c1); (try clear c2); (try clear p2); (try clear c4); (try clear c5); (try clear c9)
   obtain ⟨kq, x26_5, rfl, HA, HJ5, HB⟩ := hcut
   cases kq with
   | zero => exact absurd HA.out (by simp [galleylaw19_DiffMetric.j0])
   | succ kj5 =>
    have H := HA.out
    clear HA
    simp only [galleylaw19_DiffMetric.j0] at H
    by_cases c11 : x26_5 = true
    ·
     subst c11
     have H1 : (some true) = some r := by rw [if_pos rfl] at H; exact H
     clear H
     have H := H1
     clear H1
     obtain rfl := Option.some.inj H
     go_wp2
     go_ret
     exact ⟨by first | rfl | (simp [errW_none, errW_some] <;> rfl) | (simp [*, errW_none, errW_some] <;> rfl), by repeat (first | (with_reducible first | exact HB.out | apply below_alloc | apply pw_below_drewN | apply below_drew1) | exact HB.out)⟩
    ·
     replace c11 := Bool.eq_false_iff.mpr c11
     subst c11
     have H1 : ((galleylaw19_own.f l0).bind fun t1417 => ((galleylaw19_own.f l1).bind fun t1420 => ((diff_Distance.f t1417 t1420).bind fun bt1423 => ((galleylaw19_own.f l1).bind fun t1425 => ((galleylaw19_own.f l0).bind fun t1428 => ((diff_Distance.f t1425 t1428).bind fun bt1431 => ((galleylaw19_own.f l1).bind fun t1433 => ((galleylaw19_own.f l2).bind fun t1436 => ((diff_Distance.f t1433 t1436).bind fun bt1439 => ((galleylaw19_own.f l0).bind fun t1441 => ((galleylaw19_own.f l2).bind fun t1444 => ((diff_Distance.f t1441 t1444).bind fun bt1447 => (if bt1423.2 = 0 then (if bt1431.2 = 0 then (if bt1439.2 = 0 then (galleylaw19_DiffMetric.j1 kj5 l0 l1 bt1423.1 bt1431.1 bt1439.1 bt1447.1 (bt1447.2 != 0)) else (galleylaw19_DiffMetric.j1 kj5 l0 l1 bt1423.1 bt1431.1 bt1439.1 bt1447.1 true)) else (galleylaw19_DiffMetric.j1 kj5 l0 l1 bt1423.1 bt1431.1 bt1439.1 bt1447.1 true)) else (galleylaw19_DiffMetric.j1 kj5 l0 l1 bt1423.1 bt1431.1 bt1439.1 bt1447.1 true)))))))))))))) = some r := by rw [if_neg (show ¬ (false = true) by decide)] at H; exact H
     clear H
     have H := H1
     clear H1
     replace H := Option.bind_eq_some_iff.mp H
     obtain ⟨t1417, A120, H⟩ := H
     replace H : ((galleylaw19_own.f l1).bind fun t1420 => ((diff_Distance.f t1417 t1420).bind fun bt1423 => ((galleylaw19_own.f l1).bind fun t1425 => ((galleylaw19_own.f l0).bind fun t1428 => ((diff_Distance.f t1425 t1428).bind fun bt1431 => ((galleylaw19_own.f l1).bind fun t1433 => ((galleylaw19_own.f l2).bind fun t1436 => ((diff_Distance.f t1433 t1436).bind fun bt1439 => ((galleylaw19_own.f l0).bind fun t1441 => ((galleylaw19_own.f l2).bind fun t1444 => ((diff_Distance.f t1441 t1444).bind fun bt1447 => (if bt1423.2 = 0 then (if bt1431.2 = 0 then (if bt1439.2 = 0 then (galleylaw19_DiffMetric.j1 kj5 l0 l1 bt1423.1 bt1431.1 bt1439.1 bt1447.1 (bt1447.2 != 0)) else (galleylaw19_DiffMetric.j1 kj5 l0 l1 bt1423.1 bt1431.1 bt1439.1 bt1447.1 true)) else (galleylaw19_DiffMetric.j1 kj5 l0 l1 bt1423.1 bt1431.1 bt1439.1 bt1447.1 true)) else (galleylaw19_DiffMetric.j1 kj5 l0 l1 bt1423.1 bt1431.1 bt1439.1 bt1447.1 true))))))))))))) = some r := H
     have A12 := Aside0.mk A120
     clear A120
     replace H := Option.bind_eq_some_iff.mp H
     obtain ⟨t1420, A130, H⟩ := H
     replace H : ((diff_Distance.f t1417 t1420).bind fun bt1423 => ((galleylaw19_own.f l1).bind fun t1425 => ((galleylaw19_own.f l0).bind fun t1428 => ((diff_Distance.f t1425 t1428).bind fun bt1431 => ((galleylaw19_own.f l1).bind fun t1433 => ((galleylaw19_own.f l2).bind fun t1436 => ((diff_Distance.f t1433 t1436).bind fun bt1439 => ((galleylaw19_own.f l0).bind fun t1441 => ((galleylaw19_own.f l2).bind fun t1444 => ((diff_Distance.f t1441 t1444).bind fun bt1447 => (if bt1423.2 = 0 then (if bt1431.2 = 0 then (if bt1439.2 = 0 then (galleylaw19_DiffMetric.j1 kj5 l0 l1 bt1423.1 bt1431.1 bt1439.1 bt1447.1 (bt1447.2 != 0)) else (galleylaw19_DiffMetric.j1 kj5 l0 l1 bt1423.1 bt1431.1 bt1439.1 bt1447.1 true)) else (galleylaw19_DiffMetric.j1 kj5 l0 l1 bt1423.1 bt1431.1 bt1439.1 bt1447.1 true)) else (galleylaw19_DiffMetric.j1 kj5 l0 l1 bt1423.1 bt1431.1 bt1439.1 bt1447.1 true)))))))))))) = some r := H
     have A13 := Aside0.mk A130
     clear A130
     replace H := Option.bind_eq_some_iff.mp H
     obtain ⟨⟨t1423, t1424⟩, A140, H⟩ := H
     replace H : ((galleylaw19_own.f l1).bind fun t1425 => ((galleylaw19_own.f l0).bind fun t1428 => ((diff_Distance.f t1425 t1428).bind fun bt1431 => ((galleylaw19_own.f l1).bind fun t1433 => ((galleylaw19_own.f l2).bind fun t1436 => ((diff_Distance.f t1433 t1436).bind fun bt1439 => ((galleylaw19_own.f l0).bind fun t1441 => ((galleylaw19_own.f l2).bind fun t1444 => ((diff_Distance.f t1441 t1444).bind fun bt1447 => (if t1424 = 0 then (if bt1431.2 = 0 then (if bt1439.2 = 0 then (galleylaw19_DiffMetric.j1 kj5 l0 l1 t1423 bt1431.1 bt1439.1 bt1447.1 (bt1447.2 != 0)) else (galleylaw19_DiffMetric.j1 kj5 l0 l1 t1423 bt1431.1 bt1439.1 bt1447.1 true)) else (galleylaw19_DiffMetric.j1 kj5 l0 l1 t1423 bt1431.1 bt1439.1 bt1447.1 true)) else (galleylaw19_DiffMetric.j1 kj5 l0 l1 t1423 bt1431.1 bt1439.1 bt1447.1 true))))))))))) = some r := H
     have A14 := Aside0.mk A140
     clear A140
     replace H := Option.bind_eq_some_iff.mp H
     obtain ⟨t1425, A150, H⟩ := H
     replace H : ((galleylaw19_own.f l0).bind fun t1428 => ((diff_Distance.f t1425 t1428).bind fun bt1431 => ((galleylaw19_own.f l1).bind fun t1433 => ((galleylaw19_own.f l2).bind fun t1436 => ((diff_Distance.f t1433 t1436).bind fun bt1439 => ((galleylaw19_own.f l0).bind fun t1441 => ((galleylaw19_own.f l2).bind fun t1444 => ((diff_Distance.f t1441 t1444).bind fun bt1447 => (if t1424 = 0 then (if bt1431.2 = 0 then (if bt1439.2 = 0 then (galleylaw19_DiffMetric.j1 kj5 l0 l1 t1423 bt1431.1 bt1439.1 bt1447.1 (bt1447.2 != 0)) else (galleylaw19_DiffMetric.j1 kj5 l0 l1 t1423 bt1431.1 bt1439.1 bt1447.1 true)) else (galleylaw19_DiffMetric.j1 kj5 l0 l1 t1423 bt1431.1 bt1439.1 bt1447.1 true)) else (galleylaw19_DiffMetric.j1 kj5 l0 l1 t1423 bt1431.1 bt1439.1 bt1447.1 true)))))))))) = some r := H
     have A15 := Aside0.mk A150
     clear A150
     replace H := Option.bind_eq_some_iff.mp H
     obtain ⟨t1428, A160, H⟩ := H
     replace H : ((diff_Distance.f t1425 t1428).bind fun bt1431 => ((galleylaw19_own.f l1).bind fun t1433 => ((galleylaw19_own.f l2).bind fun t1436 => ((diff_Distance.f t1433 t1436).bind fun bt1439 => ((galleylaw19_own.f l0).bind fun t1441 => ((galleylaw19_own.f l2).bind fun t1444 => ((diff_Distance.f t1441 t1444).bind fun bt1447 => (if t1424 = 0 then (if bt1431.2 = 0 then (if bt1439.2 = 0 then (galleylaw19_DiffMetric.j1 kj5 l0 l1 t1423 bt1431.1 bt1439.1 bt1447.1 (bt1447.2 != 0)) else (galleylaw19_DiffMetric.j1 kj5 l0 l1 t1423 bt1431.1 bt1439.1 bt1447.1 true)) else (galleylaw19_DiffMetric.j1 kj5 l0 l1 t1423 bt1431.1 bt1439.1 bt1447.1 true)) else (galleylaw19_DiffMetric.j1 kj5 l0 l1 t1423 bt1431.1 bt1439.1 bt1447.1 true))))))))) = some r := H
     have A16 := Aside0.mk A160
     clear A160
     replace H := Option.bind_eq_some_iff.mp H
     obtain ⟨⟨t1431, t1432⟩, A170, H⟩ := H
     replace H : ((galleylaw19_own.f l1).bind fun t1433 => ((galleylaw19_own.f l2).bind fun t1436 => ((diff_Distance.f t1433 t1436).bind fun bt1439 => ((galleylaw19_own.f l0).bind fun t1441 => ((galleylaw19_own.f l2).bind fun t1444 => ((diff_Distance.f t1441 t1444).bind fun bt1447 => (if t1424 = 0 then (if t1432 = 0 then (if bt1439.2 = 0 then (galleylaw19_DiffMetric.j1 kj5 l0 l1 t1423 t1431 bt1439.1 bt1447.1 (bt1447.2 != 0)) else (galleylaw19_DiffMetric.j1 kj5 l0 l1 t1423 t1431 bt1439.1 bt1447.1 true)) else (galleylaw19_DiffMetric.j1 kj5 l0 l1 t1423 t1431 bt1439.1 bt1447.1 true)) else (galleylaw19_DiffMetric.j1 kj5 l0 l1 t1423 t1431 bt1439.1 bt1447.1 true)))))))) = some r := H
     have A17 := Aside0.mk A170
     clear A170
     replace H := Option.bind_eq_some_iff.mp H
     obtain ⟨t1433, A180, H⟩ := H
     replace H : ((galleylaw19_own.f l2).bind fun t1436 => ((diff_Distance.f t1433 t1436).bind fun bt1439 => ((galleylaw19_own.f l0).bind fun t1441 => ((galleylaw19_own.f l2).bind fun t1444 => ((diff_Distance.f t1441 t1444).bind fun bt1447 => (if t1424 = 0 then (if t1432 = 0 then (if bt1439.2 = 0 then (galleylaw19_DiffMetric.j1 kj5 l0 l1 t1423 t1431 bt1439.1 bt1447.1 (bt1447.2 != 0)) else (galleylaw19_DiffMetric.j1 kj5 l0 l1 t1423 t1431 bt1439.1 bt1447.1 true)) else (galleylaw19_DiffMetric.j1 kj5 l0 l1 t1423 t1431 bt1439.1 bt1447.1 true)) else (galleylaw19_DiffMetric.j1 kj5 l0 l1 t1423 t1431 bt1439.1 bt1447.1 true))))))) = some r := H
     have A18 := Aside0.mk A180
     clear A180
     replace H := Option.bind_eq_some_iff.mp H
     obtain ⟨t1436, A190, H⟩ := H
     replace H : ((diff_Distance.f t1433 t1436).bind fun bt1439 => ((galleylaw19_own.f l0).bind fun t1441 => ((galleylaw19_own.f l2).bind fun t1444 => ((diff_Distance.f t1441 t1444).bind fun bt1447 => (if t1424 = 0 then (if t1432 = 0 then (if bt1439.2 = 0 then (galleylaw19_DiffMetric.j1 kj5 l0 l1 t1423 t1431 bt1439.1 bt1447.1 (bt1447.2 != 0)) else (galleylaw19_DiffMetric.j1 kj5 l0 l1 t1423 t1431 bt1439.1 bt1447.1 true)) else (galleylaw19_DiffMetric.j1 kj5 l0 l1 t1423 t1431 bt1439.1 bt1447.1 true)) else (galleylaw19_DiffMetric.j1 kj5 l0 l1 t1423 t1431 bt1439.1 bt1447.1 true)))))) = some r := H
     have A19 := Aside0.mk A190
     clear A190
     replace H := Option.bind_eq_some_iff.mp H
     obtain ⟨⟨t1439, t1440⟩, A200, H⟩ := H
     replace H : ((galleylaw19_own.f l0).bind fun t1441 => ((galleylaw19_own.f l2).bind fun t1444 => ((diff_Distance.f t1441 t1444).bind fun bt1447 => (if t1424 = 0 then (if t1432 = 0 then (if t1440 = 0 then (galleylaw19_DiffMetric.j1 kj5 l0 l1 t1423 t1431 t1439 bt1447.1 (bt1447.2 != 0)) else (galleylaw19_DiffMetric.j1 kj5 l0 l1 t1423 t1431 t1439 bt1447.1 true)) else (galleylaw19_DiffMetric.j1 kj5 l0 l1 t1423 t1431 t1439 bt1447.1 true)) else (galleylaw19_DiffMetric.j1 kj5 l0 l1 t1423 t1431 t1439 bt1447.1 true))))) = some r := H
     have A20 := Aside0.mk A200
     clear A200
     replace H := Option.bind_eq_some_iff.mp H
     obtain ⟨t1441, A210, H⟩ := H
     replace H : ((galleylaw19_own.f l2).bind fun t1444 => ((diff_Distance.f t1441 t1444).bind fun bt1447 => (if t1424 = 0 then (if t1432 = 0 then (if t1440 = 0 then (galleylaw19_DiffMetric.j1 kj5 l0 l1 t1423 t1431 t1439 bt1447.1 (bt1447.2 != 0)) else (galleylaw19_DiffMetric.j1 kj5 l0 l1 t1423 t1431 t1439 bt1447.1 true)) else (galleylaw19_DiffMetric.j1 kj5 l0 l1 t1423 t1431 t1439 bt1447.1 true)) else (galleylaw19_DiffMetric.j1 kj5 l0 l1 t1423 t1431 t1439 bt1447.1 true)))) = some r := H
     have A21 := Aside0.mk A210
     clear A210
     replace H := Option.bind_eq_some_iff.mp H
     obtain ⟨t1444, A220, H⟩ := H
     replace H : ((diff_Distance.f t1441 t1444).bind fun bt1447 => (if t1424 = 0 then (if t1432 = 0 then (if t1440 = 0 then (galleylaw19_DiffMetric.j1 kj5 l0 l1 t1423 t1431 t1439 bt1447.1 (bt1447.2 != 0)) else (galleylaw19_DiffMetric.j1 kj5 l0 l1 t1423 t1431 t1439 bt1447.1 true)) else (galleylaw19_DiffMetric.j1 kj5 l0 l1 t1423 t1431 t1439 bt1447.1 true)) else (galleylaw19_DiffMetric.j1 kj5 l0 l1 t1423 t1431 t1439 bt1447.1 true))) = some r := H
     have A22 := Aside0.mk A220
     clear A220
     replace H := Option.bind_eq_some_iff.mp H
     obtain ⟨⟨t1447, t1448⟩, A230, H⟩ := H
     replace H : (if t1424 = 0 then (if t1432 = 0 then (if t1440 = 0 then (galleylaw19_DiffMetric.j1 kj5 l0 l1 t1423 t1431 t1439 t1447 (t1448 != 0)) else (galleylaw19_DiffMetric.j1 kj5 l0 l1 t1423 t1431 t1439 t1447 true)) else (galleylaw19_DiffMetric.j1 kj5 l0 l1 t1423 t1431 t1439 t1447 true)) else (galleylaw19_DiffMetric.j1 kj5 l0 l1 t1423 t1431 t1439 t1447 true)) = some r := H
     have A23 := Aside0.mk A230
     clear A230
     have HC24 := Aside0.mk H
     clear H
     go_upto_region 9 with (first | ((with_reducible refine gate_callee (f := 43) rfl ?_); refine goesL_ (some 29) rfl rfl Tryd.func43 (by kernel_rfl) rfl #[.slice A0 l0.length c0] rfl (by (try simp only [List.map_toArray, List.map_cons, List.map_nil]); first | done | rfl | (simp only [List.length_drop, List.length_take]; rfl)) ?_; (with_reducible refine (galleylaw19_own.calls _ _ l0 t1417 _ ?side1 ?side2 A12.out).mono ?_); (case side1 => repeat (first | exact (Kd.C_below HR0.out HB.out) | (with_reducible refine Kd.C_alloc ?_ _) | (with_reducible refine Kd.C_drewN ?_ _) | (with_reducible refine Kd.C_drew ?_))); (case side2 => exact HC0.out); rintro e w25 ⟨v1418, rfl, ho0, hb⟩; refine ⟨_, rfl, ?_⟩; have n0_ := Aside0.mk (Kd.R_lower ho0 (below_size (by repeat (first | (with_reducible first | exact HB.out | apply below_alloc | apply pw_below_drewN | apply below_drew1) | exact HB.out)))); have n1_ := Aside0.mk (below_step (by repeat (first | (with_reducible first | exact HB.out | apply below_alloc | apply pw_below_drewN | apply below_drew1) | exact HB.out)) hb); clear HB; have HO1419 := n0_; have HB := n1_; clear n0_ n1_; (try clear hb); (try clear hb2); (try clear hk); (try clear hi); (try clear ho0)) | ((with_reducible refine gate_callee (f := 43) rfl ?_); refine goesL_ (some 31) rfl rfl Tryd.func43 (by kernel_rfl) rfl #[.slice A1 l1.length c1] rfl (by (try simp only [List.map_toArray, List.map_cons, List.map_nil]); first | done | rfl | (simp only [List.length_drop, List.length_take]; rfl)) ?_; (with_reducible refine (galleylaw19_own.calls _ _ l1 t1420 _ ?side1 ?side2 A13.out).mono ?_); (case side1 => repeat (first | exact (Kd.C_below HR1.out HB.out) | (with_reducible refine Kd.C_alloc ?_ _) | (with_reducible refine Kd.C_drewN ?_ _) | (with_reducible refine Kd.C_drew ?_))); (case side2 => exact HC1.out); rintro e w26 ⟨v1421, rfl, ho0, hb⟩; refine ⟨_, rfl, ?_⟩; have n0_ := Aside0.mk (Kd.R_elder' (by (with_reducible repeat (first | apply Kd.R_alloc | apply Kd.R_drewN | apply Kd.R_drew)); exact HO1419.out) (Kd.R_base ho0) hb); have n1_ := Aside0.mk (Kd.R_lower (Kd.R_new' ho0 (Kd.R_lt (by (with_reducible repeat (first | apply Kd.R_alloc | apply Kd.R_drewN | apply Kd.R_drew)); exact HO1419.out))) (below_size (by repeat (first | (with_reducible first | exact HB.out | apply below_alloc | apply pw_below_drewN | apply below_drew1) | exact HB.out)))); have n2_ := Aside0.mk (below_step (by repeat (first | (with_reducible first | exact HB.out | apply below_alloc | apply pw_below_drewN | apply below_drew1) | exact HB.out)) hb); clear HO1419; clear HB; have HO1419 := n0_; have HO1422 := n1_; have HB := n2_; clear n0_ n1_ n2_; (try clear hb); (try clear hb2); (try clear hk); (try clear hi); (try clear ho0); obtain ⟨Ao27, co27, eo27⟩ := Kd.R_slice HO1419.out; subst eo27; obtain ⟨Ao28, co28, eo28⟩ := Kd.R_slice HO1422.out; subst eo28) | ((with_reducible refine gate_callee (f := 46) rfl ?_); refine goesL_ (some 32) rfl rfl Tryd.func46 (by kernel_rfl) rfl #[.slice Ao27 t1417.length co27, .slice Ao28 t1420.length co28] rfl (by (try simp only [List.map_toArray, List.map_cons, List.map_nil]); first | done | rfl | (simp only [List.length_drop, List.length_take]; rfl)) ?_; (with_reducible refine (diff_Distance.calls _ _ t1417 _ _ t1420 t1423 t1424 _ ?side1 ?side2 ?side3 ?side4 ?side5 A14.out).mono ?_); (case side1 => repeat (first | exact (Kd.R_reads' HO1419.out).2.2 | (with_reducible refine Kd.C_alloc ?_ _) | (with_reducible refine Kd.C_drewN ?_ _) | (with_reducible refine Kd.C_drew ?_))); (case side2 => exact (Kd.R_reads' HO1419.out).2.1); (case side3 => repeat (first | exact (Kd.R_reads' HO1422.out).2.2 | (with_reducible refine Kd.C_alloc ?_ _) | (with_reducible refine Kd.C_drewN ?_ _) | (with_reducible refine Kd.C_drew ?_))); (case side4 => exact (Kd.R_reads' HO1422.out).2.1); (case side5 => repeat (first | exact HG.out | exact Laid.below HG.out HB.out | (with_reducible refine Laid.alloc ?_ _) | (with_reducible refine Laid.drewN ?_ _) | (with_reducible refine Laid.drew ?_))); rintro e w29 ⟨rfl, hb⟩; refine ⟨_, rfl, ?_⟩; have n0_ := Aside0.mk (Kd.R_below (by (with_reducible repeat (first | apply Kd.R_alloc | apply Kd.R_drewN | apply Kd.R_drew)); exact HO1419.out) hb); have n1_ := Aside0.mk (Kd.R_below (by (with_reducible repeat (first | apply Kd.R_alloc | apply Kd.R_drewN | apply Kd.R_drew)); exact HO1422.out) hb); have n2_ := Aside0.mk (below_step (by repeat (first | (with_reducible first | exact HB.out | apply below_alloc | apply pw_below_drewN | apply below_drew1) | exact HB.out)) hb); clear HO1419; clear HO1422; clear HB; have HO1419 := n0_; have HO1422 := n1_; have HB := n2_; clear n0_ n1_ n2_; (try clear hb); (try clear hb2); (try clear hk); (try clear hi)) | ((with_reducible refine gate_callee (f := 43) rfl ?_); refine goesL_ (some 37) rfl rfl Tryd.func43 (by kernel_rfl) rfl #[.slice A1 l1.length c1] rfl (by (try simp only [List.map_toArray, List.map_cons, List.map_nil]); first | done | rfl | (simp only [List.length_drop, List.length_take]; rfl)) ?_; (with_reducible refine (galleylaw19_own.calls _ _ l1 t1425 _ ?side1 ?side2 A15.out).mono ?_); (case side1 => repeat (first | exact (Kd.C_below HR1.out HB.out) | (with_reducible refine Kd.C_alloc ?_ _) | (with_reducible refine Kd.C_drewN ?_ _) | (with_reducible refine Kd.C_drew ?_))); (case side2 => exact HC1.out); rintro e w30 ⟨v1426, rfl, ho0, hb⟩; refine ⟨_, rfl, ?_⟩; have n0_ := Aside0.mk (Kd.R_elder' (by (with_reducible repeat (first | apply Kd.R_alloc | apply Kd.R_drewN | apply Kd.R_drew)); exact HO1419.out) (Kd.R_base ho0) hb); have n1_ := Aside0.mk (Kd.R_elder' (by (with_reducible repeat (first | apply Kd.R_alloc | apply Kd.R_drewN | apply Kd.R_drew)); exact HO1422.out) (Kd.R_base ho0) hb); have n2_ := Aside0.mk (Kd.R_lower (Kd.R_new' (Kd.R_new' ho0 (Kd.R_lt (by (with_reducible repeat (first | apply Kd.R_alloc | apply Kd.R_drewN | apply Kd.R_drew)); exact HO1419.out))) (Kd.R_lt (by (with_reducible repeat (first | apply Kd.R_alloc | apply Kd.R_drewN | apply Kd.R_drew)); exact HO1422.out))) (below_size (by repeat (first | (with_reducible first | exact HB.out | apply below_alloc | apply pw_below_drewN | apply below_drew1) | exact HB.out)))); have n3_ := Aside0.mk (below_step (by repeat (first | (with_reducible first | exact HB.out | apply below_alloc | apply pw_below_drewN | apply below_drew1) | exact HB.out)) hb); clear HO1419; clear HO1422; clear HB; have HO1419 := n0_; have HO1422 := n1_; have HO1427 := n2_; have HB := n3_; clear n0_ n1_ n2_ n3_; (try clear hb); (try clear hb2); (try clear hk); (try clear hi); (try clear ho0)) | ((with_reducible refine gate_callee (f := 43) rfl ?_); refine goesL_ (some 39) rfl rfl Tryd.func43 (by kernel_rfl) rfl #[.slice A0 l0.length c0] rfl (by (try simp only [List.map_toArray, List.map_cons, List.map_nil]); first | done | rfl | (simp only [List.length_drop, List.length_take]; rfl)) ?_; (with_reducible refine (galleylaw19_own.calls _ _ l0 t1428 _ ?side1 ?side2 A16.out).mono ?_); (case side1 => repeat (first | exact (Kd.C_below HR0.out HB.out) | (with_reducible refine Kd.C_alloc ?_ _) | (with_reducible refine Kd.C_drewN ?_ _) | (with_reducible refine Kd.C_drew ?_))); (case side2 => exact HC0.out); rintro e w31 ⟨v1429, rfl, ho0, hb⟩; refine ⟨_, rfl, ?_⟩; have n0_ := Aside0.mk (Kd.R_elder' (by (with_reducible repeat (first | apply Kd.R_alloc | apply Kd.R_drewN | apply Kd.R_drew)); exact HO1419.out) (Kd.R_base ho0) hb); have n1_ := Aside0.mk (Kd.R_elder' (by (with_reducible repeat (first | apply Kd.R_alloc | apply Kd.R_drewN | apply Kd.R_drew)); exact HO1422.out) (Kd.R_base ho0) hb); have n2_ := Aside0.mk (Kd.R_elder' (by (with_reducible repeat (first | apply Kd.R_alloc | apply Kd.R_drewN | apply Kd.R_drew)); exact HO1427.out) (Kd.R_base ho0) hb); have n3_ := Aside0.mk (Kd.R_lower (Kd.R_new' (Kd.R_new' (Kd.R_new' ho0 (Kd.R_lt (by (with_reducible repeat (first | apply Kd.R_alloc | apply Kd.R_drewN | apply Kd.R_drew)); exact HO1419.out))) (Kd.R_lt (by (with_reducible repeat (first | apply Kd.R_alloc | apply Kd.R_drewN | apply Kd.R_drew)); exact HO1422.out))) (Kd.R_lt (by (with_reducible repeat (first | apply Kd.R_alloc | apply Kd.R_drewN | apply Kd.R_drew)); exact HO1427.out))) (below_size (by repeat (first | (with_reducible first | exact HB.out | apply below_alloc | apply pw_below_drewN | apply below_drew1) | exact HB.out)))); have n4_ := Aside0.mk (below_step (by repeat (first | (with_reducible first | exact HB.out | apply below_alloc | apply pw_below_drewN | apply below_drew1) | exact HB.out)) hb); clear HO1419; clear HO1422; clear HO1427; clear HB; have HO1419 := n0_; have HO1422 := n1_; have HO1427 := n2_; have HO1430 := n3_; have HB := n4_; clear n0_ n1_ n2_ n3_ n4_; (try clear hb); (try clear hb2); (try clear hk); (try clear hi); (try clear ho0); obtain ⟨Ao32, co32, eo32⟩ := Kd.R_slice HO1427.out; subst eo32; obtain ⟨Ao33, co33, eo33⟩ := Kd.R_slice HO1430.out; subst eo33) | ((with_reducible refine gate_callee (f := 46) rfl ?_); refine goesL_ (some 40) rfl rfl Tryd.func46 (by kernel_rfl) rfl #[.slice Ao32 t1425.length co32, .slice Ao33 t1428.length co33] rfl (by (try simp only [List.map_toArray, List.map_cons, List.map_nil]); first | done | rfl | (simp only [List.length_drop, List.length_take]; rfl)) ?_; (with_reducible refine (diff_Distance.calls _ _ t1425 _ _ t1428 t1431 t1432 _ ?side1 ?side2 ?side3 ?side4 ?side5 A17.out).mono ?_); (case side1 => repeat (first | exact (Kd.R_reads' HO1427.out).2.2 | (with_reducible refine Kd.C_alloc ?_ _) | (with_reducible refine Kd.C_drewN ?_ _) | (with_reducible refine Kd.C_drew ?_))); (case side2 => exact (Kd.R_reads' HO1427.out).2.1); (case side3 => repeat (first | exact (Kd.R_reads' HO1430.out).2.2 | (with_reducible refine Kd.C_alloc ?_ _) | (with_reducible refine Kd.C_drewN ?_ _) | (with_reducible refine Kd.C_drew ?_))); (case side4 => exact (Kd.R_reads' HO1430.out).2.1); (case side5 => repeat (first | exact HG.out | exact Laid.below HG.out HB.out | (with_reducible refine Laid.alloc ?_ _) | (with_reducible refine Laid.drewN ?_ _) | (with_reducible refine Laid.drew ?_))); rintro e w34 ⟨rfl, hb⟩; refine ⟨_, rfl, ?_⟩; have n0_ := Aside0.mk (Kd.R_below (by (with_reducible repeat (first | apply Kd.R_alloc | apply Kd.R_drewN | apply Kd.R_drew)); exact HO1419.out) hb); have n1_ := Aside0.mk (Kd.R_below (by (with_reducible repeat (first | apply Kd.R_alloc | apply Kd.R_drewN | apply Kd.R_drew)); exact HO1422.out) hb); have n2_ := Aside0.mk (Kd.R_below (by (with_reducible repeat (first | apply Kd.R_alloc | apply Kd.R_drewN | apply Kd.R_drew)); exact HO1427.out) hb); have n3_ := Aside0.mk (Kd.R_below (by (with_reducible repeat (first | apply Kd.R_alloc | apply Kd.R_drewN | apply Kd.R_drew)); exact HO1430.out) hb); have n4_ := Aside0.mk (below_step (by repeat (first | (with_reducible first | exact HB.out | apply below_alloc | apply pw_below_drewN | apply below_drew1) | exact HB.out)) hb); clear HO1419; clear HO1422; clear HO1427; clear HO1430; clear HB; have HO1419 := n0_; have HO1422 := n1_; have HO1427 := n2_; have HO1430 := n3_; have HB := n4_; clear n0_ n1_ n2_ n3_ n4_; (try clear hb); (try clear hb2); (try clear hk); (try clear hi)) | ((with_reducible refine gate_callee (f := 43) rfl ?_); refine goesL_ (some 45) rfl rfl Tryd.func43 (by kernel_rfl) rfl #[.slice A1 l1.length c1] rfl (by (try simp only [List.map_toArray, List.map_cons, List.map_nil]); first | done | rfl | (simp only [List.length_drop, List.length_take]; rfl)) ?_; (with_reducible refine (galleylaw19_own.calls _ _ l1 t1433 _ ?side1 ?side2 A18.out).mono ?_); (case side1 => repeat (first | exact (Kd.C_below HR1.out HB.out) | (with_reducible refine Kd.C_alloc ?_ _) | (with_reducible refine Kd.C_drewN ?_ _) | (with_reducible refine Kd.C_drew ?_))); (case side2 => exact HC1.out); rintro e w35 ⟨v1434, rfl, ho0, hb⟩; refine ⟨_, rfl, ?_⟩; have n0_ := Aside0.mk (Kd.R_elder' (by (with_reducible repeat (first | apply Kd.R_alloc | apply Kd.R_drewN | apply Kd.R_drew)); exact HO1419.out) (Kd.R_base ho0) hb); have n1_ := Aside0.mk (Kd.R_elder' (by (with_reducible repeat (first | apply Kd.R_alloc | apply Kd.R_drewN | apply Kd.R_drew)); exact HO1422.out) (Kd.R_base ho0) hb); have n2_ := Aside0.mk (Kd.R_elder' (by (with_reducible repeat (first | apply Kd.R_alloc | apply Kd.R_drewN | apply Kd.R_drew)); exact HO1427.out) (Kd.R_base ho0) hb); have n3_ := Aside0.mk (Kd.R_elder' (by (with_reducible repeat (first | apply Kd.R_alloc | apply Kd.R_drewN | apply Kd.R_drew)); exact HO1430.out) (Kd.R_base ho0) hb); have n4_ := Aside0.mk (Kd.R_lower (Kd.R_new' (Kd.R_new' (Kd.R_new' (Kd.R_new' ho0 (Kd.R_lt (by (with_reducible repeat (first | apply Kd.R_alloc | apply Kd.R_drewN | apply Kd.R_drew)); exact HO1419.out))) (Kd.R_lt (by (with_reducible repeat (first | apply Kd.R_alloc | apply Kd.R_drewN | apply Kd.R_drew)); exact HO1422.out))) (Kd.R_lt (by (with_reducible repeat (first | apply Kd.R_alloc | apply Kd.R_drewN | apply Kd.R_drew)); exact HO1427.out))) (Kd.R_lt (by (with_reducible repeat (first | apply Kd.R_alloc | apply Kd.R_drewN | apply Kd.R_drew)); exact HO1430.out))) (below_size (by repeat (first | (with_reducible first | exact HB.out | apply below_alloc | apply pw_below_drewN | apply below_drew1) | exact HB.out)))); have n5_ := Aside0.mk (below_step (by repeat (first | (with_reducible first | exact HB.out | apply below_alloc | apply pw_below_drewN | apply below_drew1) | exact HB.out)) hb); clear HO1419; clear HO1422; clear HO1427; clear HO1430; clear HB; have HO1419 := n0_; have HO1422 := n1_; have HO1427 := n2_; have HO1430 := n3_; have HO1435 := n4_; have HB := n5_; clear n0_ n1_ n2_ n3_ n4_ n5_; (try clear hb); (try clear hb2); (try clear hk); (try clear hi); (try clear ho0)) | ((with_reducible refine gate_callee (f := 43) rfl ?_); refine goesL_ (some 47) rfl rfl Tryd.func43 (by kernel_rfl) rfl #[.slice A2 l2.length c2] rfl (by (try simp only [List.map_toArray, List.map_cons, List.map_nil]); first | done | rfl | (simp only [List.length_drop, List.length_take]; rfl)) ?_; (with_reducible refine (galleylaw19_own.calls _ _ l2 t1436 _ ?side1 ?side2 A19.out).mono ?_); (case side1 => repeat (first | exact (Kd.C_below HR2.out HB.out) | (with_reducible refine Kd.C_alloc ?_ _) | (with_reducible refine Kd.C_drewN ?_ _) | (with_reducible refine Kd.C_drew ?_))); (case side2 => exact HC2.out); rintro e w36 ⟨v1437, rfl, ho0, hb⟩; refine ⟨_, rfl, ?_⟩; have n0_ := Aside0.mk (Kd.R_elder' (by (with_reducible repeat (first | apply Kd.R_alloc | apply Kd.R_drewN | apply Kd.R_drew)); exact HO1419.out) (Kd.R_base ho0) hb); have n1_ := Aside0.mk (Kd.R_elder' (by (with_reducible repeat (first | apply Kd.R_alloc | apply Kd.R_drewN | apply Kd.R_drew)); exact HO1422.out) (Kd.R_base ho0) hb); have n2_ := Aside0.mk (Kd.R_elder' (by (with_reducible repeat (first | apply Kd.R_alloc | apply Kd.R_drewN | apply Kd.R_drew)); exact HO1427.out) (Kd.R_base ho0) hb); have n3_ := Aside0.mk (Kd.R_elder' (by (with_reducible repeat (first | apply Kd.R_alloc | apply Kd.R_drewN | apply Kd.R_drew)); exact HO1430.out) (Kd.R_base ho0) hb); have n4_ := Aside0.mk (Kd.R_elder' (by (with_reducible repeat (first | apply Kd.R_alloc | apply Kd.R_drewN | apply Kd.R_drew)); exact HO1435.out) (Kd.R_base ho0) hb); have n5_ := Aside0.mk (Kd.R_lower (Kd.R_new' (Kd.R_new' (Kd.R_new' (Kd.R_new' (Kd.R_new' ho0 (Kd.R_lt (by (with_reducible repeat (first | apply Kd.R_alloc | apply Kd.R_drewN | apply Kd.R_drew)); exact HO1419.out))) (Kd.R_lt (by (with_reducible repeat (first | apply Kd.R_alloc | apply Kd.R_drewN | apply Kd.R_drew)); exact HO1422.out))) (Kd.R_lt (by (with_reducible repeat (first | apply Kd.R_alloc | apply Kd.R_drewN | apply Kd.R_drew)); exact HO1427.out))) (Kd.R_lt (by (with_reducible repeat (first | apply Kd.R_alloc | apply Kd.R_drewN | apply Kd.R_drew)); exact HO1430.out))) (Kd.R_lt (by (with_reducible repeat (first | apply Kd.R_alloc | apply Kd.R_drewN | apply Kd.R_drew)); exact HO1435.out))) (below_size (by repeat (first | (with_reducible first | exact HB.out | apply below_alloc | apply pw_below_drewN | apply below_drew1) | exact HB.out)))); have n6_ := Aside0.mk (below_step (by repeat (first | (with_reducible first | exact HB.out | apply below_alloc | apply pw_below_drewN | apply below_drew1) | exact HB.out)) hb); clear HO1419; clear HO1422; clear HO1427; clear HO1430; clear HO1435; clear HB; have HO1419 := n0_; have HO1422 := n1_; have HO1427 := n2_; have HO1430 := n3_; have HO1435 := n4_; have HO1438 := n5_; have HB := n6_; clear n0_ n1_ n2_ n3_ n4_ n5_ n6_; (try clear hb); (try clear hb2); (try clear hk); (try clear hi); (try clear ho0); obtain ⟨Ao37, co37, eo37⟩ := Kd.R_slice HO1435.out; subst eo37; obtain ⟨Ao38, co38, eo38⟩ := Kd.R_slice HO1438.out; subst eo38) | ((with_reducible refine gate_callee (f := 46) rfl ?_); refine goesL_ (some 48) rfl rfl Tryd.func46 (by kernel_rfl) rfl #[.slice Ao37 t1433.length co37, .slice Ao38 t1436.length co38] rfl (by (try simp only [List.map_toArray, List.map_cons, List.map_nil]); first | done | rfl | (simp only [List.length_drop, List.length_take]; rfl)) ?_; (with_reducible refine (diff_Distance.calls _ _ t1433 _ _ t1436 t1439 t1440 _ ?side1 ?side2 ?side3 ?side4 ?side5 A20.out).mono ?_); (case side1 => repeat (first | exact (Kd.R_reads' HO1435.out).2.2 | (with_reducible refine Kd.C_alloc ?_ _) | (with_reducible refine Kd.C_drewN ?_ _) | (with_reducible refine Kd.C_drew ?_))); (case side2 => exact (Kd.R_reads' HO1435.out).2.1); (case side3 => repeat (first | exact (Kd.R_reads' HO1438.out).2.2 | (with_reducible refine Kd.C_alloc ?_ _) | (with_reducible refine Kd.C_drewN ?_ _) | (with_reducible refine Kd.C_drew ?_))); (case side4 => exact (Kd.R_reads' HO1438.out).2.1); (case side5 => repeat (first | exact HG.out | exact Laid.below HG.out HB.out | (with_reducible refine Laid.alloc ?_ _) | (with_reducible refine Laid.drewN ?_ _) | (with_reducible refine Laid.drew ?_))); rintro e w39 ⟨rfl, hb⟩; refine ⟨_, rfl, ?_⟩; have n0_ := Aside0.mk (Kd.R_below (by (with_reducible repeat (first | apply Kd.R_alloc | apply Kd.R_drewN | apply Kd.R_drew)); exact HO1419.out) hb); have n1_ := Aside0.mk (Kd.R_below (by (with_reducible repeat (first | apply Kd.R_alloc | apply Kd.R_drewN | apply Kd.R_drew)); exact HO1422.out) hb); have n2_ := Aside0.mk (Kd.R_below (by (with_reducible repeat (first | apply Kd.R_alloc | apply Kd.R_drewN | apply Kd.R_drew)); exact HO1427.out) hb); have n3_ := Aside0.mk (Kd.R_below (by (with_reducible repeat (first | apply Kd.R_alloc | apply Kd.R_drewN | apply Kd.R_drew)); exact HO1430.out) hb); have n4_ := Aside0.mk (Kd.R_below (by (with_reducible repeat (first | apply Kd.R_alloc | apply Kd.R_drewN | apply Kd.R_drew)); exact HO1435.out) hb); have n5_ := Aside0.mk (Kd.R_below (by (with_reducible repeat (first | apply Kd.R_alloc | apply Kd.R_drewN | apply Kd.R_drew)); exact HO1438.out) hb); have n6_ := Aside0.mk (below_step (by repeat (first | (with_reducible first | exact HB.out | apply below_alloc | apply pw_below_drewN | apply below_drew1) | exact HB.out)) hb); clear HO1419; clear HO1422; clear HO1427; clear HO1430; clear HO1435; clear HO1438; clear HB; have HO1419 := n0_; have HO1422 := n1_; have HO1427 := n2_; have HO1430 := n3_; have HO1435 := n4_; have HO1438 := n5_; have HB := n6_; clear n0_ n1_ n2_ n3_ n4_ n5_ n6_; (try clear hb); (try clear hb2); (try clear hk); (try clear hi)) | ((with_reducible refine gate_callee (f := 43) rfl ?_); refine goesL_ (some 53) rfl rfl Tryd.func43 (by kernel_rfl) rfl #[.slice A0 l0.length c0] rfl (by (try simp only [List.map_toArray, List.map_cons, List.map_nil]); first | done | rfl | (simp only [List.length_drop, List.length_take]; rfl)) ?_; (with_reducible refine (galleylaw19_own.calls _ _ l0 t1441 _ ?side1 ?side2 A21.out).mono ?_); (case side1 => repeat (first | exact (Kd.C_below HR0.out HB.out) | (with_reducible refine Kd.C_alloc ?_ _) | (with_reducible refine Kd.C_drewN ?_ _) | (with_reducible refine Kd.C_drew ?_))); (case side2 => exact HC0.out); rintro e w40 ⟨v1442, rfl, ho0, hb⟩; refine ⟨_, rfl, ?_⟩; have n0_ := Aside0.mk (Kd.R_elder' (by (with_reducible repeat (first | apply Kd.R_alloc | apply Kd.R_drewN | apply Kd.R_drew)); exact HO1419.out) (Kd.R_base ho0) hb); have n1_ := Aside0.mk (Kd.R_elder' (by (with_reducible repeat (first | apply Kd.R_alloc | apply Kd.R_drewN | apply Kd.R_drew)); exact HO1422.out) (Kd.R_base ho0) hb); have n2_ := Aside0.mk (Kd.R_elder' (by (with_reducible repeat (first | apply Kd.R_alloc | apply Kd.R_drewN | apply Kd.R_drew)); exact HO1427.out) (Kd.R_base ho0) hb); have n3_ := Aside0.mk (Kd.R_elder' (by (with_reducible repeat (first | apply Kd.R_alloc | apply Kd.R_drewN | apply Kd.R_drew)); exact HO1430.out) (Kd.R_base ho0) hb); have n4_ := Aside0.mk (Kd.R_elder' (by (with_reducible repeat (first | apply Kd.R_alloc | apply Kd.R_drewN | apply Kd.R_drew)); exact HO1435.out) (Kd.R_base ho0) hb); have n5_ := Aside0.mk (Kd.R_elder' (by (with_reducible repeat (first | apply Kd.R_alloc | apply Kd.R_drewN | apply Kd.R_drew)); exact HO1438.out) (Kd.R_base ho0) hb); have n6_ := Aside0.mk (Kd.R_lower (Kd.R_new' (Kd.R_new' (Kd.R_new' (Kd.R_new' (Kd.R_new' (Kd.R_new' ho0 (Kd.R_lt (by (with_reducible repeat (first | apply Kd.R_alloc | apply Kd.R_drewN | apply Kd.R_drew)); exact HO1419.out))) (Kd.R_lt (by (with_reducible repeat (first | apply Kd.R_alloc | apply Kd.R_drewN | apply Kd.R_drew)); exact HO1422.out))) (Kd.R_lt (by (with_reducible repeat (first | apply Kd.R_alloc | apply Kd.R_drewN | apply Kd.R_drew)); exact HO1427.out))) (Kd.R_lt (by (with_reducible repeat (first | apply Kd.R_alloc | apply Kd.R_drewN | apply Kd.R_drew)); exact HO1430.out))) (Kd.R_lt (by (with_reducible repeat (first | apply Kd.R_alloc | apply Kd.R_drewN | apply Kd.R_drew)); exact HO1435.out))) (Kd.R_lt (by (with_reducible repeat (first | apply Kd.R_alloc | apply Kd.R_drewN | apply Kd.R_drew)); exact HO1438.out))) (below_size (by repeat (first | (with_reducible first | exact HB.out | apply below_alloc | apply pw_below_drewN | apply below_drew1) | exact HB.out)))); have n7_ := Aside0.mk (below_step (by repeat (first | (with_reducible first | exact HB.out | apply below_alloc | apply pw_below_drewN | apply below_drew1) | exact HB.out)) hb); clear HO1419; clear HO1422; clear HO1427; clear HO1430; clear HO1435; clear HO1438; clear HB; have HO1419 := n0_; have HO1422 := n1_; have HO1427 := n2_; have HO1430 := n3_; have HO1435 := n4_; have HO1438 := n5_; have HO1443 := n6_; have HB := n7_; clear n0_ n1_ n2_ n3_ n4_ n5_ n6_ n7_; (try clear hb); (try clear hb2); (try clear hk); (try clear hi); (try clear ho0)) | ((with_reducible refine gate_callee (f := 43) rfl ?_); refine goesL_ (some 55) rfl rfl Tryd.func43 (by kernel_rfl) rfl #[.slice A2 l2.length c2] rfl (by (try simp only [List.map_toArray, List.map_cons, List.map_nil]); first | done | rfl | (simp only [List.length_drop, List.length_take]; rfl)) ?_; (with_reducible refine (galleylaw19_own.calls _ _ l2 t1444 _ ?side1 ?side2 A22.out).mono ?_); (case side1 => repeat (first | exact (Kd.C_below HR2.out HB.out) | (with_reducible refine Kd.C_alloc ?_ _) | (with_reducible refine Kd.C_drewN ?_ _) | (with_reducible refine Kd.C_drew ?_))); (case side2 => exact HC2.out); rintro e w41 ⟨v1445, rfl, ho0, hb⟩; refine ⟨_, rfl, ?_⟩; have n0_ := Aside0.mk (Kd.R_elder' (by (with_reducible repeat (first | apply Kd.R_alloc | apply Kd.R_drewN | apply Kd.R_drew)); exact HO1419.out) (Kd.R_base ho0) hb); have n1_ := Aside0.mk (Kd.R_elder' (by (with_reducible repeat (first | apply Kd.R_alloc | apply Kd.R_drewN | apply Kd.R_drew)); exact HO1422.out) (Kd.R_base ho0) hb); have n2_ := Aside0.mk (Kd.R_elder' (by (with_reducible repeat (first | apply Kd.R_alloc | apply Kd.R_drewN | apply Kd.R_drew)); exact HO1427.out) (Kd.R_base ho0) hb); have n3_ := Aside0.mk (Kd.R_elder' (by (with_reducible repeat (first | apply Kd.R_alloc | apply Kd.R_drewN | apply Kd.R_drew)); exact HO1430.out) (Kd.R_base ho0) hb); have n4_ := Aside0.mk (Kd.R_elder' (by (with_reducible repeat (first | apply Kd.R_alloc | apply Kd.R_drewN | apply Kd.R_drew)); exact HO1435.out) (Kd.R_base ho0) hb); have n5_ := Aside0.mk (Kd.R_elder' (by (with_reducible repeat (first | apply Kd.R_alloc | apply Kd.R_drewN | apply Kd.R_drew)); exact HO1438.out) (Kd.R_base ho0) hb); have n6_ := Aside0.mk (Kd.R_elder' (by (with_reducible repeat (first | apply Kd.R_alloc | apply Kd.R_drewN | apply Kd.R_drew)); exact HO1443.out) (Kd.R_base ho0) hb); have n7_ := Aside0.mk (Kd.R_lower (Kd.R_new' (Kd.R_new' (Kd.R_new' (Kd.R_new' (Kd.R_new' (Kd.R_new' (Kd.R_new' ho0 (Kd.R_lt (by (with_reducible repeat (first | apply Kd.R_alloc | apply Kd.R_drewN | apply Kd.R_drew)); exact HO1419.out))) (Kd.R_lt (by (with_reducible repeat (first | apply Kd.R_alloc | apply Kd.R_drewN | apply Kd.R_drew)); exact HO1422.out))) (Kd.R_lt (by (with_reducible repeat (first | apply Kd.R_alloc | apply Kd.R_drewN | apply Kd.R_drew)); exact HO1427.out))) (Kd.R_lt (by (with_reducible repeat (first | apply Kd.R_alloc | apply Kd.R_drewN | apply Kd.R_drew)); exact HO1430.out))) (Kd.R_lt (by (with_reducible repeat (first | apply Kd.R_alloc | apply Kd.R_drewN | apply Kd.R_drew)); exact HO1435.out))) (Kd.R_lt (by (with_reducible repeat (first | apply Kd.R_alloc | apply Kd.R_drewN | apply Kd.R_drew)); exact HO1438.out))) (Kd.R_lt (by (with_reducible repeat (first | apply Kd.R_alloc | apply Kd.R_drewN | apply Kd.R_drew)); exact HO1443.out))) (below_size (by repeat (first | (with_reducible first | exact HB.out | apply below_alloc | apply pw_below_drewN | apply below_drew1) | exact HB.out)))); have n8_ := Aside0.mk (below_step (by repeat (first | (with_reducible first | exact HB.out | apply below_alloc | apply pw_below_drewN | apply below_drew1) | exact HB.out)) hb); clear HO1419; clear HO1422; clear HO1427; clear HO1430; clear HO1435; clear HO1438; clear HO1443; clear HB; have HO1419 := n0_; have HO1422 := n1_; have HO1427 := n2_; have HO1430 := n3_; have HO1435 := n4_; have HO1438 := n5_; have HO1443 := n6_; have HO1446 := n7_; have HB := n8_; clear n0_ n1_ n2_ n3_ n4_ n5_ n6_ n7_ n8_; (try clear hb); (try clear hb2); (try clear hk); (try clear hi); (try clear ho0); obtain ⟨Ao42, co42, eo42⟩ := Kd.R_slice HO1443.out; subst eo42; obtain ⟨Ao43, co43, eo43⟩ := Kd.R_slice HO1446.out; subst eo43) | ((with_reducible refine gate_callee (f := 46) rfl ?_); refine goesL_ (some 56) rfl rfl Tryd.func46 (by kernel_rfl) rfl #[.slice Ao42 t1441.length co42, .slice Ao43 t1444.length co43] rfl (by (try simp only [List.map_toArray, List.map_cons, List.map_nil]); first | done | rfl | (simp only [List.length_drop, List.length_take]; rfl)) ?_; (with_reducible refine (diff_Distance.calls _ _ t1441 _ _ t1444 t1447 t1448 _ ?side1 ?side2 ?side3 ?side4 ?side5 A23.out).mono ?_); (case side1 => repeat (first | exact (Kd.R_reads' HO1443.out).2.2 | (with_reducible refine Kd.C_alloc ?_ _) | (with_reducible refine Kd.C_drewN ?_ _) | (with_reducible refine Kd.C_drew ?_))); (case side2 => exact (Kd.R_reads' HO1443.out).2.1); (case side3 => repeat (first | exact (Kd.R_reads' HO1446.out).2.2 | (with_reducible refine Kd.C_alloc ?_ _) | (with_reducible refine Kd.C_drewN ?_ _) | (with_reducible refine Kd.C_drew ?_))); (case side4 => exact (Kd.R_reads' HO1446.out).2.1); (case side5 => repeat (first | exact HG.out | exact Laid.below HG.out HB.out | (with_reducible refine Laid.alloc ?_ _) | (with_reducible refine Laid.drewN ?_ _) | (with_reducible refine Laid.drew ?_))); rintro e w44 ⟨rfl, hb⟩; refine ⟨_, rfl, ?_⟩; have n0_ := Aside0.mk (Kd.R_below (by (with_reducible repeat (first | apply Kd.R_alloc | apply Kd.R_drewN | apply Kd.R_drew)); exact HO1419.out) hb); have n1_ := Aside0.mk (Kd.R_below (by (with_reducible repeat (first | apply Kd.R_alloc | apply Kd.R_drewN | apply Kd.R_drew)); exact HO1422.out) hb); have n2_ := Aside0.mk (Kd.R_below (by (with_reducible repeat (first | apply Kd.R_alloc | apply Kd.R_drewN | apply Kd.R_drew)); exact HO1427.out) hb); have n3_ := Aside0.mk (Kd.R_below (by (with_reducible repeat (first | apply Kd.R_alloc | apply Kd.R_drewN | apply Kd.R_drew)); exact HO1430.out) hb); have n4_ := Aside0.mk (Kd.R_below (by (with_reducible repeat (first | apply Kd.R_alloc | apply Kd.R_drewN | apply Kd.R_drew)); exact HO1435.out) hb); have n5_ := Aside0.mk (Kd.R_below (by (with_reducible repeat (first | apply Kd.R_alloc | apply Kd.R_drewN | apply Kd.R_drew)); exact HO1438.out) hb); have n6_ := Aside0.mk (Kd.R_below (by (with_reducible repeat (first | apply Kd.R_alloc | apply Kd.R_drewN | apply Kd.R_drew)); exact HO1443.out) hb); have n7_ := Aside0.mk (Kd.R_below (by (with_reducible repeat (first | apply Kd.R_alloc | apply Kd.R_drewN | apply Kd.R_drew)); exact HO1446.out) hb); have n8_ := Aside0.mk (below_step (by repeat (first | (with_reducible first | exact HB.out | apply below_alloc | apply pw_below_drewN | apply below_drew1) | exact HB.out)) hb); clear HO1419; clear HO1422; clear HO1427; clear HO1430; clear HO1435; clear HO1438; clear HO1443; clear HO1446; clear HB; have HO1419 := n0_; have HO1422 := n1_; have HO1427 := n2_; have HO1430 := n3_; have HO1435 := n4_; have HO1438 := n5_; have HO1443 := n6_; have HO1446 := n7_; have HB := n8_; clear n0_ n1_ n2_ n3_ n4_ n5_ n6_ n7_ n8_; (try clear hb); (try clear hb2); (try clear hk); (try clear hi)))
     (try simp only [Act.put, List.setIfInBounds_toArray, List.set_cons_zero, List.set_cons_succ])
     go_cut [72] (fun v72 wc => ∃ (kq : Nat) (x72_23 : Bool), v72 = .bool x72_23 ∧ Aside0 (galleylaw19_DiffMetric.j1 kq l0 l1 t1423 t1431 t1439 t1447 x72_23 = some r) ∧ Aside0 (kq ≤ kj5) ∧ Aside0 (Below w.heap.size w wc))
     case first =>
      have H := HC24.out
      clear HC24
      by_cases c45 : t1424 = 0
      ·
       rw [if_pos c45] at H
       have c45b0 : (t1424 == 0) = true := beq_iff_eq.mpr c45
       have c45b1 : (t1424 != 0) = false := bne_eq_false_iff_eq.mpr c45
       clear c45
       (first | rw [c45b0] | (simp only [i64_w, i32_w]; rw [c45b0]) | skip)
       by_cases c46 : t1432 = 0
       ·
        rw [if_pos c46] at H
        have c46b0 : (t1432 == 0) = true := beq_iff_eq.mpr c46
        have c46b1 : (t1432 != 0) = false := bne_eq_false_iff_eq.mpr c46
        clear c46
        by_cases c47 : t1440 = 0
        ·
         rw [if_pos c47] at H
         have c47b0 : (t1440 == 0) = true := beq_iff_eq.mpr c47
         have c47b1 : (t1440 != 0) = false := bne_eq_false_iff_eq.mpr c47
         clear c47
         have H' := Aside0.mk H
         clear H
         go_wp2
         go_meet
         case rel => exact ⟨_, ((t1448 != 0)), (by first | rfl | (simp; done) | (simp [*]; done)), H', ⟨by have := HJ5.out; first | omega | exact Nat.le_refl _⟩, ⟨by repeat (first | (with_reducible first | exact HB.out | apply below_alloc | apply pw_below_drewN | apply below_drew1) | exact HB.out)⟩⟩
        ·
         rw [if_neg c47] at H
         have c47b0 : (t1440 == 0) = false := beq_eq_false_iff_ne.mpr c47
         have c47b1 : (t1440 != 0) = true := bne_iff_ne.mpr c47
         have H' := Aside0.mk H
         clear H
         go_wp2
         go_meet
         case rel => exact ⟨_, (true), (by first | rfl | (simp; done) | (simp [*]; done)), H', ⟨by have := HJ5.out; first | omega | exact Nat.le_refl _⟩, ⟨by repeat (first | (with_reducible first | exact HB.out | apply below_alloc | apply pw_below_drewN | apply below_drew1) | exact HB.out)⟩⟩
       ·
        rw [if_neg c46] at H
        have c46b0 : (t1432 == 0) = false := beq_eq_false_iff_ne.mpr c46
        have c46b1 : (t1432 != 0) = true := bne_iff_ne.mpr c46
        have H' := Aside0.mk H
        clear H
        go_wp2
        go_meet
        case rel => exact ⟨_, (true), (by first | rfl | (simp; done) | (simp [*]; done)), H', ⟨by have := HJ5.out; first | omega | exact Nat.le_refl _⟩, ⟨by repeat (first | (with_reducible first | exact HB.out | apply below_alloc | apply pw_below_drewN | apply below_drew1) | exact HB.out)⟩⟩
      ·
       rw [if_neg c45] at H
       have c45b0 : (t1424 == 0) = false := beq_eq_false_iff_ne.mpr c45
       have c45b1 : (t1424 != 0) = true := bne_iff_ne.mpr c45
       (first | rw [c45b0] | (simp only [i64_w, i32_w]; rw [c45b0]) | skip)
       have H' := Aside0.mk H
       clear H
       go_wp2
       go_meet
       case rel => exact ⟨_, (true), (by first | rfl | (simp; done) | (simp [*]; done)), H', ⟨by have := HJ5.out; first | omega | exact Nat.le_refl _⟩, ⟨by repeat (first | (with_reducible first | exact HB.out | apply below_alloc | apply pw_below_drewN | apply below_drew1) | exact HB.out)⟩⟩
     case rest =>
      clear HC24
      (try clear c1); (try clear c2); (try clear p2); (try clear c4); (try clear c5); (try clear c9); (try clear c11); (try clear c26); (try clear c41); (try clear c42); (try clear c43); (try clear c45); (try clear c45b0); (try clear c45b1); (try clear c46); (try clear c46b0); (try clear c46b1); (try clear c47); (try clear c47b0); (try clear c47b1)
      obtain ⟨kq, x72_23, rfl, HA, HJ23, HB⟩ := hcut
      cases kq with
      | zero => exact absurd HA.out (by simp [galleylaw19_DiffMetric.j1])
      | succ kj23 =>
       have H := HA.out
       clear HA
       simp only [galleylaw19_DiffMetric.j1] at H
       by_cases c48 : x72_23 = true
       ·
        subst c48
        have H1 : (some false) = some r := by rw [if_pos rfl] at H; exact H
        clear H
        have H := H1
        clear H1
        obtain rfl := Option.some.inj H
        go_wp2
        go_ret
        exact ⟨by first | rfl | (simp [errW_none, errW_some] <;> rfl) | (simp [*, errW_none, errW_some] <;> rfl), by repeat (first | (with_reducible first | exact HB.out | apply below_alloc | apply pw_below_drewN | apply below_drew1) | exact HB.out)⟩
       ·
        replace c48 := Bool.eq_false_iff.mpr c48
        subst c48
        have H1 : ((galleyref19_Steps.f kj23 l0).bind fun t1449 => ((galleyref19_Steps.f kj23 l1).bind fun t1452 => (if ((t1423 == 0) == ((strOfNums l0).toList == (strOfNums l1).toList)) = true then (if t1423 = t1431 then (if t1447 ≤ (wrap64 (t1423 + t1439)) then (if t1423 ≥ (wrap64 ((t1449.length : Int) - (t1452.length : Int))) then (if t1423 ≥ (wrap64 ((t1452.length : Int) - (t1449.length : Int))) then (some (decide (t1423 ≤ (wrap64 ((t1449.length : Int) + (t1452.length : Int)))))) else (some false)) else (some false)) else (some false)) else (some false)) else (some false)))) = some r := by rw [if_neg (show ¬ (false = true) by decide)] at H; exact H
        clear H
        have H := H1
        clear H1
        replace H := Option.bind_eq_some_iff.mp H
        obtain ⟨t1449, A490, H⟩ := H
        replace H : ((galleyref19_Steps.f kj23 l1).bind fun t1452 => (if ((t1423 == 0) == ((strOfNums l0).toList == (strOfNums l1).toList)) = true then (if t1423 = t1431 then (if t1447 ≤ (wrap64 (t1423 + t1439)) then (if t1423 ≥ (wrap64 ((t1449.length : Int) - (t1452.length : Int))) then (if t1423 ≥ (wrap64 ((t1452.length : Int) - (t1449.length : Int))) then (some (decide (t1423 ≤ (wrap64 ((t1449.length : Int) + (t1452.length : Int)))))) else (some false)) else (some false)) else (some false)) else (some false)) else (some false))) = some r := H
        have A49 := Aside0.mk A490
        clear A490
        replace H := Option.bind_eq_some_iff.mp H
        obtain ⟨t1452, A500, H⟩ := H
        replace H : (if ((t1423 == 0) == ((strOfNums l0).toList == (strOfNums l1).toList)) = true then (if t1423 = t1431 then (if t1447 ≤ (wrap64 (t1423 + t1439)) then (if t1423 ≥ (wrap64 ((t1449.length : Int) - (t1452.length : Int))) then (if t1423 ≥ (wrap64 ((t1452.length : Int) - (t1449.length : Int))) then (some (decide (t1423 ≤ (wrap64 ((t1449.length : Int) + (t1452.length : Int)))))) else (some false)) else (some false)) else (some false)) else (some false)) else (some false)) = some r := H
        have A50 := Aside0.mk A500
        clear A500
        by_cases c51 : ((t1423 == 0) == ((strOfNums l0).toList == (strOfNums l1).toList)) = true
        ·
         rw [if_pos c51] at H
         have c51b0 : ((t1423 == 0) == ((strOfNums l0).toList == (strOfNums l1).toList)) = true := c51
         (try (have c51b1 : decide ((t1423 == 0) = ((strOfNums l0).toList == (strOfNums l1).toList)) = true := by simpa using c51))
         (try (have c51b2 : ((t1423 == 0) == ((strOfNums l0).toList == (strOfNums l1).toList)) = true := by simpa using c51))
         clear c51
         by_cases c52 : t1423 = t1431
         ·
          rw [if_pos c52] at H
          have c52b0 : (t1423 == t1431) = true := beq_iff_eq.mpr c52
          have c52b1 : (t1423 != t1431) = false := bne_eq_false_iff_eq.mpr c52
          clear c52
          by_cases c53 : t1447 ≤ (wrap64 (t1423 + t1439))
          ·
           rw [if_pos c53] at H
           have c53b0 : decide (t1447 ≤ (wrap64 (t1423 + t1439))) = true := decide_eq_true c53
           clear c53
           by_cases c54 : t1423 ≥ (wrap64 ((t1449.length : Int) - (t1452.length : Int)))
           ·
            rw [if_pos c54] at H
            have c54b0 : decide ((wrap64 ((t1449.length : Int) - (t1452.length : Int))) ≤ t1423) = true := decide_eq_true c54
            clear c54
            by_cases c55 : t1423 ≥ (wrap64 ((t1452.length : Int) - (t1449.length : Int)))
            ·
             rw [if_pos c55] at H
             have c55b0 : decide ((wrap64 ((t1452.length : Int) - (t1449.length : Int))) ≤ t1423) = true := decide_eq_true c55
             clear c55
             obtain rfl := Option.some.inj H
             go_wp2_with (first | ((with_reducible refine gate_callee (f := 77) rfl ?_); refine goesL_ (some 74) rfl rfl Tryd.func77 (by kernel_rfl) rfl #[.slice A0 l0.length c0] rfl (by (try simp only [List.map_toArray, List.map_cons, List.map_nil]); first | done | rfl | (simp only [List.length_drop, List.length_take]; rfl)) ?_; (with_reducible refine (galleyref19_Steps.calls kj23 _ _ l0 t1449 _ ?side1 ?side2 A49.out).mono ?_); (case side1 => repeat (first | exact (Kd.C_below HR0.out HB.out) | (with_reducible refine Kd.C_alloc ?_ _) | (with_reducible refine Kd.C_drewN ?_ _) | (with_reducible refine Kd.C_drew ?_))); (case side2 => exact HC0.out); rintro e w56 ⟨v1450, rfl, ho0, hb⟩; refine ⟨_, rfl, ?_⟩; have n0_ := Aside0.mk (Kd.R_lower ho0 (below_size (by repeat (first | (with_reducible first | exact HB.out | apply below_alloc | apply pw_below_drewN | apply below_drew1) | exact HB.out)))); have n1_ := Aside0.mk (below_step (by repeat (first | (with_reducible first | exact HB.out | apply below_alloc | apply pw_below_drewN | apply below_drew1) | exact HB.out)) hb); clear HB; have HO1451 := n0_; have HB := n1_; clear n0_ n1_; (try clear hb); (try clear hb2); (try clear hk); (try clear hi); (try clear ho0); obtain ⟨Ao57, co57, eo57⟩ := Kd.R_slice HO1451.out; subst eo57) | ((with_reducible refine gate_callee (f := 77) rfl ?_); refine goesL_ (some 77) rfl rfl Tryd.func77 (by kernel_rfl) rfl #[.slice A1 l1.length c1] rfl (by (try simp only [List.map_toArray, List.map_cons, List.map_nil]); first | done | rfl | (simp only [List.length_drop, List.length_take]; rfl)) ?_; (with_reducible refine (galleyref19_Steps.calls kj23 _ _ l1 t1452 _ ?side1 ?side2 A50.out).mono ?_); (case side1 => repeat (first | exact (Kd.C_below HR1.out HB.out) | (with_reducible refine Kd.C_alloc ?_ _) | (with_reducible refine Kd.C_drewN ?_ _) | (with_reducible refine Kd.C_drew ?_))); (case side2 => exact HC1.out); rintro e w58 ⟨v1453, rfl, ho0, hb⟩; refine ⟨_, rfl, ?_⟩; have n0_ := Aside0.mk (Kd.R_elder' (by (with_reducible repeat (first | apply Kd.R_alloc | apply Kd.R_drewN | apply Kd.R_drew)); exact HO1451.out) (Kd.R_base ho0) hb); have n1_ := Aside0.mk (Kd.R_lower (Kd.R_new' ho0 (Kd.R_lt (by (with_reducible repeat (first | apply Kd.R_alloc | apply Kd.R_drewN | apply Kd.R_drew)); exact HO1451.out))) (below_size (by repeat (first | (with_reducible first | exact HB.out | apply below_alloc | apply pw_below_drewN | apply below_drew1) | exact HB.out)))); have n2_ := Aside0.mk (below_step (by repeat (first | (with_reducible first | exact HB.out | apply below_alloc | apply pw_below_drewN | apply below_drew1) | exact HB.out)) hb); clear HO1451; clear HB; have HO1451 := n0_; have HO1454 := n1_; have HB := n2_; clear n0_ n1_ n2_; (try clear hb); (try clear hb2); (try clear hk); (try clear hi); (try clear ho0); obtain ⟨Ao59, co59, eo59⟩ := Kd.R_slice HO1454.out; subst eo59; have hcv60 := Kd.C_string (P := Tryd.prog) (A := A0) (c := c0) Tryd.underlying22 Tryd.underlying5 Tryd.underlying9 (Kd.C_below HR0.out HB.out); have hcv61 := Kd.C_string (P := Tryd.prog) (A := A1) (c := c1) Tryd.underlying22 Tryd.underlying5 Tryd.underlying9 (Kd.C_below HR1.out HB.out)))
             go_ret
             exact ⟨by first | rfl | (simp [errW_none, errW_some] <;> rfl) | (simp [*, errW_none, errW_some] <;> rfl), by repeat (first | (with_reducible first | exact HB.out | apply below_alloc | apply pw_below_drewN | apply below_drew1) | exact HB.out)⟩
            ·
             rw [if_neg c55] at H
             have c55b0 : decide ((wrap64 ((t1452.length : Int) - (t1449.length : Int))) ≤ t1423) = false := decide_eq_false c55
             clear c55
             obtain rfl := Option.some.inj H
             go_wp2_with (first | ((with_reducible refine gate_callee (f := 77) rfl ?_); refine goesL_ (some 74) rfl rfl Tryd.func77 (by kernel_rfl) rfl #[.slice A0 l0.length c0] rfl (by (try simp only [List.map_toArray, List.map_cons, List.map_nil]); first | done | rfl | (simp only [List.length_drop, List.length_take]; rfl)) ?_; (with_reducible refine (galleyref19_Steps.calls kj23 _ _ l0 t1449 _ ?side1 ?side2 A49.out).mono ?_); (case side1 => repeat (first | exact (Kd.C_below HR0.out HB.out) | (with_reducible refine Kd.C_alloc ?_ _) | (with_reducible refine Kd.C_drewN ?_ _) | (with_reducible refine Kd.C_drew ?_))); (case side2 => exact HC0.out); rintro e w62 ⟨v1450, rfl, ho0, hb⟩; refine ⟨_, rfl, ?_⟩; have n0_ := Aside0.mk (Kd.R_lower ho0 (below_size (by repeat (first | (with_reducible first | exact HB.out | apply below_alloc | apply pw_below_drewN | apply below_drew1) | exact HB.out)))); have n1_ := Aside0.mk (below_step (by repeat (first | (with_reducible first | exact HB.out | apply below_alloc | apply pw_below_drewN | apply below_drew1) | exact HB.out)) hb); clear HB; have HO1451 := n0_; have HB := n1_; clear n0_ n1_; (try clear hb); (try clear hb2); (try clear hk); (try clear hi); (try clear ho0); obtain ⟨Ao63, co63, eo63⟩ := Kd.R_slice HO1451.out; subst eo63) | ((with_reducible refine gate_callee (f := 77) rfl ?_); refine goesL_ (some 77) rfl rfl Tryd.func77 (by kernel_rfl) rfl #[.slice A1 l1.length c1] rfl (by (try simp only [List.map_toArray, List.map_cons, List.map_nil]); first | done | rfl | (simp only [List.length_drop, List.length_take]; rfl)) ?_; (with_reducible refine (galleyref19_Steps.calls kj23 _ _ l1 t1452 _ ?side1 ?side2 A50.out).mono ?_); (case side1 => repeat (first | exact (Kd.C_below HR1.out HB.out) | (with_reducible refine Kd.C_alloc ?_ _) | (with_reducible refine Kd.C_drewN ?_ _) | (with_reducible refine Kd.C_drew ?_))); (case side2 => exact HC1.out); rintro e w64 ⟨v1453, rfl, ho0, hb⟩; refine ⟨_, rfl, ?_⟩; have n0_ := Aside0.mk (Kd.R_elder' (by (with_reducible repeat (first | apply Kd.R_alloc | apply Kd.R_drewN | apply Kd.R_drew)); exact HO1451.out) (Kd.R_base ho0) hb); have n1_ := Aside0.mk (Kd.R_lower (Kd.R_new' ho0 (Kd.R_lt (by (with_reducible repeat (first | apply Kd.R_alloc | apply Kd.R_drewN | apply Kd.R_drew)); exact HO1451.out))) (below_size (by repeat (first | (with_reducible first | exact HB.out | apply below_alloc | apply pw_below_drewN | apply below_drew1) | exact HB.out)))); have n2_ := Aside0.mk (below_step (by repeat (first | (with_reducible first | exact HB.out | apply below_alloc | apply pw_below_drewN | apply below_drew1) | exact HB.out)) hb); clear HO1451; clear HB; have HO1451 := n0_; have HO1454 := n1_; have HB := n2_; clear n0_ n1_ n2_; (try clear hb); (try clear hb2); (try clear hk); (try clear hi); (try clear ho0); obtain ⟨Ao65, co65, eo65⟩ := Kd.R_slice HO1454.out; subst eo65; have hcv66 := Kd.C_string (P := Tryd.prog) (A := A0) (c := c0) Tryd.underlying22 Tryd.underlying5 Tryd.underlying9 (Kd.C_below HR0.out HB.out); have hcv67 := Kd.C_string (P := Tryd.prog) (A := A1) (c := c1) Tryd.underlying22 Tryd.underlying5 Tryd.underlying9 (Kd.C_below HR1.out HB.out)))
             go_ret
             exact ⟨by first | rfl | (simp [errW_none, errW_some] <;> rfl) | (simp [*, errW_none, errW_some] <;> rfl), by repeat (first | (with_reducible first | exact HB.out | apply below_alloc | apply pw_below_drewN | apply below_drew1) | exact HB.out)⟩
           ·
            rw [if_neg c54] at H
            have c54b0 : decide ((wrap64 ((t1449.length : Int) - (t1452.length : Int))) ≤ t1423) = false := decide_eq_false c54
            clear c54
            obtain rfl := Option.some.inj H
            go_wp2_with (first | ((with_reducible refine gate_callee (f := 77) rfl ?_); refine goesL_ (some 74) rfl rfl Tryd.func77 (by kernel_rfl) rfl #[.slice A0 l0.length c0] rfl (by (try simp only [List.map_toArray, List.map_cons, List.map_nil]); first | done | rfl | (simp only [List.length_drop, List.length_take]; rfl)) ?_; (with_reducible refine (galleyref19_Steps.calls kj23 _ _ l0 t1449 _ ?side1 ?side2 A49.out).mono ?_); (case side1 => repeat (first | exact (Kd.C_below HR0.out HB.out) | (with_reducible refine Kd.C_alloc ?_ _) | (with_reducible refine Kd.C_drewN ?_ _) | (with_reducible refine Kd.C_drew ?_))); (case side2 => exact HC0.out); rintro e w68 ⟨v1450, rfl, ho0, hb⟩; refine ⟨_, rfl, ?_⟩; have n0_ := Aside0.mk (Kd.R_lower ho0 (below_size (by repeat (first | (with_reducible first | exact HB.out | apply below_alloc | apply pw_below_drewN | apply below_drew1) | exact HB.out)))); have n1_ := Aside0.mk (below_step (by repeat (first | (with_reducible first | exact HB.out | apply below_alloc | apply pw_below_drewN | apply below_drew1) | exact HB.out)) hb); clear HB; have HO1451 := n0_; have HB := n1_; clear n0_ n1_; (try clear hb); (try clear hb2); (try clear hk); (try clear hi); (try clear ho0); obtain ⟨Ao69, co69, eo69⟩ := Kd.R_slice HO1451.out; subst eo69) | ((with_reducible refine gate_callee (f := 77) rfl ?_); refine goesL_ (some 77) rfl rfl Tryd.func77 (by kernel_rfl) rfl #[.slice A1 l1.length c1] rfl (by (try simp only [List.map_toArray, List.map_cons, List.map_nil]); first | done | rfl | (simp only [List.length_drop, List.length_take]; rfl)) ?_; (with_reducible refine (galleyref19_Steps.calls kj23 _ _ l1 t1452 _ ?side1 ?side2 A50.out).mono ?_); (case side1 => repeat (first | exact (Kd.C_below HR1.out HB.out) | (with_reducible refine Kd.C_alloc ?_ _) | (with_reducible refine Kd.C_drewN ?_ _) | (with_reducible refine Kd.C_drew ?_))); (case side2 => exact HC1.out); rintro e w70 ⟨v1453, rfl, ho0, hb⟩; refine ⟨_, rfl, ?_⟩; have n0_ := Aside0.mk (Kd.R_elder' (by (with_reducible repeat (first | apply Kd.R_alloc | apply Kd.R_drewN | apply Kd.R_drew)); exact HO1451.out) (Kd.R_base ho0) hb); have n1_ := Aside0.mk (Kd.R_lower (Kd.R_new' ho0 (Kd.R_lt (by (with_reducible repeat (first | apply Kd.R_alloc | apply Kd.R_drewN | apply Kd.R_drew)); exact HO1451.out))) (below_size (by repeat (first | (with_reducible first | exact HB.out | apply below_alloc | apply pw_below_drewN | apply below_drew1) | exact HB.out)))); have n2_ := Aside0.mk (below_step (by repeat (first | (with_reducible first | exact HB.out | apply below_alloc | apply pw_below_drewN | apply below_drew1) | exact HB.out)) hb); clear HO1451; clear HB; have HO1451 := n0_; have HO1454 := n1_; have HB := n2_; clear n0_ n1_ n2_; (try clear hb); (try clear hb2); (try clear hk); (try clear hi); (try clear ho0); obtain ⟨Ao71, co71, eo71⟩ := Kd.R_slice HO1454.out; subst eo71; have hcv72 := Kd.C_string (P := Tryd.prog) (A := A0) (c := c0) Tryd.underlying22 Tryd.underlying5 Tryd.underlying9 (Kd.C_below HR0.out HB.out); have hcv73 := Kd.C_string (P := Tryd.prog) (A := A1) (c := c1) Tryd.underlying22 Tryd.underlying5 Tryd.underlying9 (Kd.C_below HR1.out HB.out)))
            go_ret
            exact ⟨by first | rfl | (simp [errW_none, errW_some] <;> rfl) | (simp [*, errW_none, errW_some] <;> rfl), by repeat (first | (with_reducible first | exact HB.out | apply below_alloc | apply pw_below_drewN | apply below_drew1) | exact HB.out)⟩
          ·
           rw [if_neg c53] at H
           have c53b0 : decide (t1447 ≤ (wrap64 (t1423 + t1439))) = false := decide_eq_false c53
           clear c53
           obtain rfl := Option.some.inj H
           go_wp2_with (first | ((with_reducible refine gate_callee (f := 77) rfl ?_); refine goesL_ (some 74) rfl rfl Tryd.func77 (by kernel_rfl) rfl #[.slice A0 l0.length c0] rfl (by (try simp only [List.map_toArray, List.map_cons, List.map_nil]); first | done | rfl | (simp only [List.length_drop, List.length_take]; rfl)) ?_; (with_reducible refine (galleyref19_Steps.calls kj23 _ _ l0 t1449 _ ?side1 ?side2 A49.out).mono ?_); (case side1 => repeat (first | exact (Kd.C_below HR0.out HB.out) | (with_reducible refine Kd.C_alloc ?_ _) | (with_reducible refine Kd.C_drewN ?_ _) | (with_reducible refine Kd.C_drew ?_))); (case side2 => exact HC0.out); rintro e w74 ⟨v1450, rfl, ho0, hb⟩; refine ⟨_, rfl, ?_⟩; have n0_ := Aside0.mk (Kd.R_lower ho0 (below_size (by repeat (first | (with_reducible first | exact HB.out | apply below_alloc | apply pw_below_drewN | apply below_drew1) | exact HB.out)))); have n1_ := Aside0.mk (below_step (by repeat (first | (with_reducible first | exact HB.out | apply below_alloc | apply pw_below_drewN | apply below_drew1) | exact HB.out)) hb); clear HB; have HO1451 := n0_; have HB := n1_; clear n0_ n1_; (try clear hb); (try clear hb2); (try clear hk); (try clear hi); (try clear ho0); obtain ⟨Ao75, co75, eo75⟩ := Kd.R_slice HO1451.out; subst eo75) | ((with_reducible refine gate_callee (f := 77) rfl ?_); refine goesL_ (some 77) rfl rfl Tryd.func77 (by kernel_rfl) rfl #[.slice A1 l1.length c1] rfl (by (try simp only [List.map_toArray, List.map_cons, List.map_nil]); first | done | rfl | (simp only [List.length_drop, List.length_take]; rfl)) ?_; (with_reducible refine (galleyref19_Steps.calls kj23 _ _ l1 t1452 _ ?side1 ?side2 A50.out).mono ?_); (case side1 => repeat (first | exact (Kd.C_below HR1.out HB.out) | (with_reducible refine Kd.C_alloc ?_ _) | (with_reducible refine Kd.C_drewN ?_ _) | (with_reducible refine Kd.C_drew ?_))); (case side2 => exact HC1.out); rintro e w76 ⟨v1453, rfl, ho0, hb⟩; refine ⟨_, rfl, ?_⟩; have n0_ := Aside0.mk (Kd.R_elder' (by (with_reducible repeat (first | apply Kd.R_alloc | apply Kd.R_drewN | apply Kd.R_drew)); exact HO1451.out) (Kd.R_base ho0) hb); have n1_ := Aside0.mk (Kd.R_lower (Kd.R_new' ho0 (Kd.R_lt (by (with_reducible repeat (first | apply Kd.R_alloc | apply Kd.R_drewN | apply Kd.R_drew)); exact HO1451.out))) (below_size (by repeat (first | (with_reducible first | exact HB.out | apply below_alloc | apply pw_below_drewN | apply below_drew1) | exact HB.out)))); have n2_ := Aside0.mk (below_step (by repeat (first | (with_reducible first | exact HB.out | apply below_alloc | apply pw_below_drewN | apply below_drew1) | exact HB.out)) hb); clear HO1451; clear HB; have HO1451 := n0_; have HO1454 := n1_; have HB := n2_; clear n0_ n1_ n2_; (try clear hb); (try clear hb2); (try clear hk); (try clear hi); (try clear ho0); obtain ⟨Ao77, co77, eo77⟩ := Kd.R_slice HO1454.out; subst eo77; have hcv78 := Kd.C_string (P := Tryd.prog) (A := A0) (c := c0) Tryd.underlying22 Tryd.underlying5 Tryd.underlying9 (Kd.C_below HR0.out HB.out); have hcv79 := Kd.C_string (P := Tryd.prog) (A := A1) (c := c1) Tryd.underlying22 Tryd.underlying5 Tryd.underlying9 (Kd.C_below HR1.out HB.out)))
           go_ret
           exact ⟨by first | rfl | (simp [errW_none, errW_some] <;> rfl) | (simp [*, errW_none, errW_some] <;> rfl), by repeat (first | (with_reducible first | exact HB.out | apply below_alloc | apply pw_below_drewN | apply below_drew1) | exact HB.out)⟩
         ·
          rw [if_neg c52] at H
          have c52b0 : (t1423 == t1431) = false := beq_eq_false_iff_ne.mpr c52
          have c52b1 : (t1423 != t1431) = true := bne_iff_ne.mpr c52
          obtain rfl := Option.some.inj H
          go_wp2_with (first | ((with_reducible refine gate_callee (f := 77) rfl ?_); refine goesL_ (some 74) rfl rfl Tryd.func77 (by kernel_rfl) rfl #[.slice A0 l0.length c0] rfl (by (try simp only [List.map_toArray, List.map_cons, List.map_nil]); first | done | rfl | (simp only [List.length_drop, List.length_take]; rfl)) ?_; (with_reducible refine (galleyref19_Steps.calls kj23 _ _ l0 t1449 _ ?side1 ?side2 A49.out).mono ?_); (case side1 => repeat (first | exact (Kd.C_below HR0.out HB.out) | (with_reducible refine Kd.C_alloc ?_ _) | (with_reducible refine Kd.C_drewN ?_ _) | (with_reducible refine Kd.C_drew ?_))); (case side2 => exact HC0.out); rintro e w80 ⟨v1450, rfl, ho0, hb⟩; refine ⟨_, rfl, ?_⟩; have n0_ := Aside0.mk (Kd.R_lower ho0 (below_size (by repeat (first | (with_reducible first | exact HB.out | apply below_alloc | apply pw_below_drewN | apply below_drew1) | exact HB.out)))); have n1_ := Aside0.mk (below_step (by repeat (first | (with_reducible first | exact HB.out | apply below_alloc | apply pw_below_drewN | apply below_drew1) | exact HB.out)) hb); clear HB; have HO1451 := n0_; have HB := n1_; clear n0_ n1_; (try clear hb); (try clear hb2); (try clear hk); (try clear hi); (try clear ho0); obtain ⟨Ao81, co81, eo81⟩ := Kd.R_slice HO1451.out; subst eo81) | ((with_reducible refine gate_callee (f := 77) rfl ?_); refine goesL_ (some 77) rfl rfl Tryd.func77 (by kernel_rfl) rfl #[.slice A1 l1.length c1] rfl (by (try simp only [List.map_toArray, List.map_cons, List.map_nil]); first | done | rfl | (simp only [List.length_drop, List.length_take]; rfl)) ?_; (with_reducible refine (galleyref19_Steps.calls kj23 _ _ l1 t1452 _ ?side1 ?side2 A50.out).mono ?_); (case side1 => repeat (first | exact (Kd.C_below HR1.out HB.out) | (with_reducible refine Kd.C_alloc ?_ _) | (with_reducible refine Kd.C_drewN ?_ _) | (with_reducible refine Kd.C_drew ?_))); (case side2 => exact HC1.out); rintro e w82 ⟨v1453, rfl, ho0, hb⟩; refine ⟨_, rfl, ?_⟩; have n0_ := Aside0.mk (Kd.R_elder' (by (with_reducible repeat (first | apply Kd.R_alloc | apply Kd.R_drewN | apply Kd.R_drew)); exact HO1451.out) (Kd.R_base ho0) hb); have n1_ := Aside0.mk (Kd.R_lower (Kd.R_new' ho0 (Kd.R_lt (by (with_reducible repeat (first | apply Kd.R_alloc | apply Kd.R_drewN | apply Kd.R_drew)); exact HO1451.out))) (below_size (by repeat (first | (with_reducible first | exact HB.out | apply below_alloc | apply pw_below_drewN | apply below_drew1) | exact HB.out)))); have n2_ := Aside0.mk (below_step (by repeat (first | (with_reducible first | exact HB.out | apply below_alloc | apply pw_below_drewN | apply below_drew1) | exact HB.out)) hb); clear HO1451; clear HB; have HO1451 := n0_; have HO1454 := n1_; have HB := n2_; clear n0_ n1_ n2_; (try clear hb); (try clear hb2); (try clear hk); (try clear hi); (try clear ho0); obtain ⟨Ao83, co83, eo83⟩ := Kd.R_slice HO1454.out; subst eo83; have hcv84 := Kd.C_string (P := Tryd.prog) (A := A0) (c := c0) Tryd.underlying22 Tryd.underlying5 Tryd.underlying9 (Kd.C_below HR0.out HB.out); have hcv85 := Kd.C_string (P := Tryd.prog) (A := A1) (c := c1) Tryd.underlying22 Tryd.underlying5 Tryd.underlying9 (Kd.C_below HR1.out HB.out)))
          go_ret
          exact ⟨by first | rfl | (simp [errW_none, errW_some] <;> rfl) | (simp [*, errW_none, errW_some] <;> rfl), by repeat (first | (with_reducible first | exact HB.out | apply below_alloc | apply pw_below_drewN | apply below_drew1) | exact HB.out)⟩
        ·
         rw [if_neg c51] at H
         have c51b0 : ((t1423 == 0) == ((strOfNums l0).toList == (strOfNums l1).toList)) = false := by simpa using c51
         (try (have c51b1 : decide ((t1423 == 0) = ((strOfNums l0).toList == (strOfNums l1).toList)) = false := by simpa using c51))
         (try (have c51b2 : ((t1423 == 0) == ((strOfNums l0).toList == (strOfNums l1).toList)) = false := by simpa using c51))
         (try (have c51b3 : ¬ ((t1423 == 0) = ((strOfNums l0).toList == (strOfNums l1).toList)) := by simpa using c51))
         clear c51
         obtain rfl := Option.some.inj H
         go_wp2_with (first | ((with_reducible refine gate_callee (f := 77) rfl ?_); refine goesL_ (some 74) rfl rfl Tryd.func77 (by kernel_rfl) rfl #[.slice A0 l0.length c0] rfl (by (try simp only [List.map_toArray, List.map_cons, List.map_nil]); first | done | rfl | (simp only [List.length_drop, List.length_take]; rfl)) ?_; (with_reducible refine (galleyref19_Steps.calls kj23 _ _ l0 t1449 _ ?side1 ?side2 A49.out).mono ?_); (case side1 => repeat (first | exact (Kd.C_below HR0.out HB.out) | (with_reducible refine Kd.C_alloc ?_ _) | (with_reducible refine Kd.C_drewN ?_ _) | (with_reducible refine Kd.C_drew ?_))); (case side2 => exact HC0.out); rintro e w86 ⟨v1450, rfl, ho0, hb⟩; refine ⟨_, rfl, ?_⟩; have n0_ := Aside0.mk (Kd.R_lower ho0 (below_size (by repeat (first | (with_reducible first | exact HB.out | apply below_alloc | apply pw_below_drewN | apply below_drew1) | exact HB.out)))); have n1_ := Aside0.mk (below_step (by repeat (first | (with_reducible first | exact HB.out | apply below_alloc | apply pw_below_drewN | apply below_drew1) | exact HB.out)) hb); clear HB; have HO1451 := n0_; have HB := n1_; clear n0_ n1_; (try clear hb); (try clear hb2); (try clear hk); (try clear hi); (try clear ho0); obtain ⟨Ao87, co87, eo87⟩ := Kd.R_slice HO1451.out; subst eo87) | ((with_reducible refine gate_callee (f := 77) rfl ?_); refine goesL_ (some 77) rfl rfl Tryd.func77 (by kernel_rfl) rfl #[.slice A1 l1.length c1] rfl (by (try simp only [List.map_toArray, List.map_cons, List.map_nil]); first | done | rfl | (simp only [List.length_drop, List.length_take]; rfl)) ?_; (with_reducible refine (galleyref19_Steps.calls kj23 _ _ l1 t1452 _ ?side1 ?side2 A50.out).mono ?_); (case side1 => repeat (first | exact (Kd.C_below HR1.out HB.out) | (with_reducible refine Kd.C_alloc ?_ _) | (with_reducible refine Kd.C_drewN ?_ _) | (with_reducible refine Kd.C_drew ?_))); (case side2 => exact HC1.out); rintro e w88 ⟨v1453, rfl, ho0, hb⟩; refine ⟨_, rfl, ?_⟩; have n0_ := Aside0.mk (Kd.R_elder' (by (with_reducible repeat (first | apply Kd.R_alloc | apply Kd.R_drewN | apply Kd.R_drew)); exact HO1451.out) (Kd.R_base ho0) hb); have n1_ := Aside0.mk (Kd.R_lower (Kd.R_new' ho0 (Kd.R_lt (by (with_reducible repeat (first | apply Kd.R_alloc | apply Kd.R_drewN | apply Kd.R_drew)); exact HO1451.out))) (below_size (by repeat (first | (with_reducible first | exact HB.out | apply below_alloc | apply pw_below_drewN | apply below_drew1) | exact HB.out)))); have n2_ := Aside0.mk (below_step (by repeat (first | (with_reducible first | exact HB.out | apply below_alloc | apply pw_below_drewN | apply below_drew1) | exact HB.out)) hb); clear HO1451; clear HB; have HO1451 := n0_; have HO1454 := n1_; have HB := n2_; clear n0_ n1_ n2_; (try clear hb); (try clear hb2); (try clear hk); (try clear hi); (try clear ho0); obtain ⟨Ao89, co89, eo89⟩ := Kd.R_slice HO1454.out; subst eo89; have hcv90 := Kd.C_string (P := Tryd.prog) (A := A0) (c := c0) Tryd.underlying22 Tryd.underlying5 Tryd.underlying9 (Kd.C_below HR0.out HB.out); have hcv91 := Kd.C_string (P := Tryd.prog) (A := A1) (c := c1) Tryd.underlying22 Tryd.underlying5 Tryd.underlying9 (Kd.C_below HR1.out HB.out)))
         go_ret
         exact ⟨by first | rfl | (simp [errW_none, errW_some] <;> rfl) | (simp [*, errW_none, errW_some] <;> rfl), by repeat (first | (with_reducible first | exact HB.out | apply below_alloc | apply pw_below_drewN | apply below_drew1) | exact HB.out)⟩
 ·
  replace c5 := Bool.eq_false_iff.mpr c5
  subst c5
  have H1 : (some false) = some r := by rw [if_neg (show ¬ (false = true) by decide)] at H; exact H
  clear H
  have H := H1
  clear H1
  obtain rfl := Option.some.inj H
  go_enter Tryd.func26, Tryd.ntmps26
  go_wp2_with (first | ((with_reducible refine gate_callee (f := 41) rfl ?_); refine goesL_ (some 17) rfl rfl Tryd.func41 (by kernel_rfl) rfl #[] rfl (by (try simp only [List.map_toArray, List.map_cons, List.map_nil]); first | done | rfl | (simp only [List.length_drop, List.length_take]; rfl)) ?_; (with_reducible refine (galleylaw19_wakes.calls k  false _ ?side1 A4.out).mono ?_); (case side1 => repeat (first | exact HG.out | exact Laid.below HG.out HB.out | (with_reducible refine Laid.alloc ?_ _) | (with_reducible refine Laid.drewN ?_ _) | (with_reducible refine Laid.drew ?_))); rintro e w92 ⟨rfl, hb⟩; refine ⟨_, rfl, ?_⟩; have n0_ := Aside0.mk (below_step (by repeat (first | (with_reducible first | exact HB.out | apply below_alloc | apply pw_below_drewN | apply below_drew1) | exact HB.out)) hb); clear HB; have HB := n0_; clear n0_; (try clear hb); (try clear hb2); (try clear hk); (try clear hi)))
  go_ret
  exact ⟨by first | rfl | (simp [errW_none, errW_some] <;> rfl) | (simp [*, errW_none, errW_some] <;> rfl), by repeat (first | (with_reducible first | exact HB.out | apply below_alloc | apply pw_below_drewN | apply below_drew1) | exact HB.out)⟩
end Go.Proofs.YtbomhpfckplgaaaDoor.P
namespace Go.Proofs.YtbomhpfckplgaaaDoor.P
open Go Go.RowKit Go.Proofs.YtbomhpfckplgaaaDoorW.PrintWords Utf
set_option linter.unusedVariables false
set_option linter.unusedSimpArgs false
theorem str_cat (a b : List Int) : strOfNums (a ++ b) = strOfNums a ++ strOfNums b := by
  refine ByteArray.ext ?_
  simp [strOfNums]
theorem str_inj {a b : List Int} (ha : Bytes a) (hb : Bytes b) (h : strOfNums a = strOfNums b) : a = b := by
  have h1 : (strOfNums a).data.toList = (strOfNums b).data.toList := by rw [h]
  have key : ∀ {l : List Int}, Bytes l → (strOfNums l).data.toList.map (fun x => (x.toNat : Int)) = l := by
    intro l hl
    unfold strOfNums
    simp only [List.map_map]
    refine List.ext_getElem (by simp) fun i h1 h2 => ?_
    have := hl l[i] (List.getElem_mem _)
    simp
    omega
  rw [← key ha, ← key hb, h1]
theorem cat_from (l : List Int) : ∀ (k p : Nat), p ≤ l.length → l.length - p ≤ k → Lead.catB ((stepsF l k p).map fun x => strOfNums ((l.take (x.1 + width l x.1)).drop x.1)) = strOfNums (l.drop p)
  | 0, p, hp, hk => by
    obtain rfl : p = l.length := by omega
    rw [List.drop_length]
    rfl
  | k + 1, p, hp, hk => by
    by_cases h : p < l.length
    · have hw := width_pos l p
      have he := width_end h
      rw [stepsF, if_pos h, List.map_cons, Lead.catB, cat_from l k (p + width l p) he (by omega), ← str_cat]
      congr 1
      rw [List.drop_take, Nat.add_sub_cancel_left, ← List.drop_drop, List.take_append_drop]
    · obtain rfl : p = l.length := by omega
      rw [stepsF, if_neg h, List.drop_length]
      rfl
theorem stepsB_cat {l : List Int} (hl : Bytes l) : Lead.catB (stepsB l) = strOfNums l := by
  rw [stepsB_L hl]
  have e : (stepsL l).map (stepB l) = (stepsF l l.length 0).map fun x => strOfNums ((l.take (x.1 + width l x.1)).drop x.1) := List.map_congr_left fun x hx => stepB_eq hx
  rw [e, cat_from l _ 0 (Nat.zero_le _) (by omega), List.drop_zero]
theorem stepsB_inj {a b : List Int} (ha : Bytes a) (hb : Bytes b) (h : stepsB a = stepsB b) : strOfNums a = strOfNums b := by
  rw [← stepsB_cat ha, ← stepsB_cat hb, h]
theorem stepsB_le {l : List Int} (hl : Bytes l) : (stepsB l).length ≤ l.length := by rw [stepsB_length hl]; exact stepsL_length l
theorem distB_small {x y : List ByteArray} (hx : x.length ≤ 700) (hy : y.length ≤ 700) : distB x y = (((LCS.dist x y : Nat) : Int), 0) := by
  unfold distB
  rw [if_neg (by omega), LCS.dist_int, LCS.lcsN_is]
theorem long_cases (a b : List Int) : galleylaw19_long.f a b = some true ∨ galleylaw19_long.f a b = some false := by
  unfold galleylaw19_long.f
  split
  · exact .inl rfl
  · cases decide ((b.length : Int) > 700)
    · exact .inr rfl
    · exact .inl rfl
open LCS in
theorem met_last {x y z : List Int} (hx : Bytes x) (hy : Bytes y) (hz : Bytes z) (lx : x.length ≤ 700) (ly : y.length ≤ 700) (lz : z.length ≤ 700) :
    Ev (fun k => galleylaw19_DiffMetric.j1 k x y (dist (stepsB x) (stepsB y) : Nat) (dist (stepsB y) (stepsB x) : Nat) (dist (stepsB y) (stepsB z) : Nat) (dist (stepsB x) (stepsB z) : Nat) false) true := by
  have sx : Small x := by unfold Small; omega
  have sy : Small y := by unfold Small; omega
  have e1 := dist_int (stepsB x) (stepsB y)
  have e2 := dist_int (stepsB y) (stepsB x)
  have e3 := dist_int (stepsB y) (stepsB z)
  have e4 := dist_int (stepsB x) (stepsB z)
  have m1 := stepsB_le hx
  have m2 := stepsB_le hy
  have m3 := stepsB_le hz
  have n1 := lcs_le_left (stepsB x) (stepsB y)
  have n2 := lcs_le_right (stepsB x) (stepsB y)
  have n3 := lcs_le_left (stepsB y) (stepsB z)
  have n4 := lcs_le_left (stepsB x) (stepsB z)
  have hc := lcs_comm (stepsB x) (stepsB y)
  have tr := lcs_triangle (stepsB x) (stepsB y) (stepsB z)
  have hA : (((dist (stepsB x) (stepsB y) : Nat) : Int) == 0) = ((strOfNums x).toList == (strOfNums y).toList) := by
    rw [Bool.eq_iff_iff, beq_iff_eq, beq_iff_eq]
    constructor
    · intro h0
      rw [stepsB_inj hx hy (lcs_full (a := stepsB x) (b := stepsB y) (by omega) (by omega))]
    · intro h0
      obtain rfl := str_inj hx hy (toList_inj h0)
      rw [e1, lcs_self]
      omega
  refine Ev.step (G := fun k => (galleyref19_Steps.f k x).bind fun t1449 => ((galleyref19_Steps.f k y).bind fun t1452 => (if ((((dist (stepsB x) (stepsB y) : Nat) : Int) == 0) == ((strOfNums x).toList == (strOfNums y).toList)) = true then (if ((dist (stepsB x) (stepsB y) : Nat) : Int) = (dist (stepsB y) (stepsB x) : Nat) then (if ((dist (stepsB x) (stepsB z) : Nat) : Int) ≤ (wrap64 (((dist (stepsB x) (stepsB y) : Nat) : Int) + (dist (stepsB y) (stepsB z) : Nat))) then (if ((dist (stepsB x) (stepsB y) : Nat) : Int) ≥ (wrap64 ((t1449.length : Int) - (t1452.length : Int))) then (if ((dist (stepsB x) (stepsB y) : Nat) : Int) ≥ (wrap64 ((t1452.length : Int) - (t1449.length : Int))) then (some (decide (((dist (stepsB x) (stepsB y) : Nat) : Int) ≤ (wrap64 ((t1449.length : Int) + (t1452.length : Int)))))) else (some false)) else (some false)) else (some false)) else (some false)) else (some false)))) (fun k => ?_) (Ev.bind (ev_Steps hx sx) (Ev.bind (ev_Steps hy sy) (Ev.of ?_)))
  · rw [galleylaw19_DiffMetric.j1, if_neg (by decide)]
  · rw [hA, if_pos (beq_self_eq_true _), if_pos (by omega), w64 (by omega) (by omega), if_pos (by omega), w64 (by omega) (by omega), if_pos (by omega), w64 (by omega) (by omega), if_pos (by omega), w64 (by omega) (by omega)]
    rw [decide_eq_true (by omega)]
theorem diffMetric_law {x y z : List Int} (hx : Bytes x) (hy : Bytes y) (hz : Bytes z) (_ : Wide x) (_ : Wide y) (_ : Wide z) : ∃ k, galleylaw19_DiffMetric.f k x y z = some true := by
  refine Ev.get ?_
  have skip : Ev (fun k => galleylaw19_DiffMetric.j0 k x y z true) true := by
    refine Ev.step (G := fun _ => some true) (fun k => ?_) (Ev.pure _)
    rw [galleylaw19_DiffMetric.j0, if_pos rfl]
  unfold galleylaw19_DiffMetric.f
  refine Ev.bind (v := true) (Ev.of rfl) (Ev.ite_pos rfl ?_)
  rcases long_cases x y with h1 | h1
  · exact Ev.bind (Ev.of h1) (Ev.ite_pos rfl skip)
  · refine Ev.bind (Ev.of h1) (Ev.ite_neg (by decide) ?_)
    rcases long_cases y z with h2 | h2
    · exact Ev.bind (Ev.of h2) skip
    · refine Ev.bind (Ev.of h2) ?_
      obtain ⟨lx, ly⟩ := long_no h1
      obtain ⟨_, lz⟩ := long_no h2
      have sx : Small x := by unfold Small; omega
      have sy : Small y := by unfold Small; omega
      have sz : Small z := by unfold Small; omega
      have m1 := stepsB_le hx
      have m2 := stepsB_le hy
      have m3 := stepsB_le hz
      have d1 := distB_small (x := stepsB x) (y := stepsB y) (by omega) (by omega)
      have d2 := distB_small (x := stepsB y) (y := stepsB x) (by omega) (by omega)
      have d3 := distB_small (x := stepsB y) (y := stepsB z) (by omega) (by omega)
      have d4 := distB_small (x := stepsB x) (y := stepsB z) (by omega) (by omega)
      refine Ev.step (G := fun k => galleylaw19_DiffMetric.j1 k x y (LCS.dist (stepsB x) (stepsB y) : Nat) (LCS.dist (stepsB y) (stepsB x) : Nat) (LCS.dist (stepsB y) (stepsB z) : Nat) (LCS.dist (stepsB x) (stepsB z) : Nat) false) (fun k => ?_) (met_last hx hy hz lx ly lz)
      rw [galleylaw19_DiffMetric.j0, if_neg (by decide), own_ok lx, own_ok ly, own_ok lz]
      simp only [Option.bind_some]
      rw [Distance_some hx sx hy sy, Distance_some hy sy hx sx, Distance_some hy sy hz sz, Distance_some hx sx hz sz, d1, d2, d3, d4]
      rfl
end Go.Proofs.YtbomhpfckplgaaaDoor.P
