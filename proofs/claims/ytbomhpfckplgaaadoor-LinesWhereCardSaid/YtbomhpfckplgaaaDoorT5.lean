/- Texts of this claim, put together: Px28, Px29, Px30, HAwake. -/
import Derived.Lib.SlBytesConst
import Derived.Test.YtbomhpfckplgaaaDoorT0
import Derived.Test.YtbomhpfckplgaaaDoorT2
import Derived.Test.YtbomhpfckplgaaaDoorT3
import Derived.Test.YtbomhpfckplgaaaDoorT4
namespace Go.Proofs.YtbomhpfckplgaaaDoor.P
open Go.RowKit Go.Proofs.YtbomhpfckplgaaaDoorW.PrintWords Go.Proofs.YtbomhpfckplgaaaDoorW.PrintLast Go.Proofs.YtbomhpfckplgaaaDoorW.PrintMore
attribute [local go_sem] max2_int min2_int max_two min_two max_three min_three max_four min_four   -- for this text's walks alone
set_option linter.unusedVariables false
set_option linter.unusedSimpArgs false
def galleyref07_Floor.l0 : Nat → Int → List Int → Int → Int → Option (Int)
 | 0, _, _, _, _ => none
 | k + 1, x1, x5, x6, x7 => if x7 < (x5.length : Int) then (if 0 ≤ x7 then (if (rd x5 x7) ≤ x1 then (galleyref07_Floor.l0 k x1 x5 (rd x5 x7) (wrap64 (x7 + 1))) else (galleyref07_Floor.l0 k x1 x5 x6 (wrap64 (x7 + 1)))) else (none)) else (some x6)
def galleyref07_Floor.f (k : Nat) (l0 : List Int) (a1 : Int) : Option (Int) := (galleyref04_Edges.f k l0).bind fun t1024 => (galleyref07_Floor.l0 k a1 t1024 0 0)
set_option maxHeartbeats 8000000 in
set_option maxRecDepth 100000 in
theorem galleyref07_Floor.calls (k : Nat) (A0 : Option Addr) (c0 : Nat) (l0 : List Int) (a1 : Int) (r : Int) (w : World) (hr0 : Kd.C (Kd.int .u8) w A0 l0.length l0) (hc0 : l0.length ≤ c0) (h : galleyref07_Floor.f k l0 a1 = some r) :
  Calls Tryd.prog 107 #[.slice A0 l0.length c0, .int .i64 a1] w fun e w' => e = .returned (.int .i64 r) ∧ Below w.heap.size w w' := by
 have HR0 := Aside0.mk hr0
 have HC0 := Aside0.mk hc0
 clear hr0 hc0
 have HB := Aside0.mk (Below.refl w.heap.size w)
 have H : ((galleyref04_Edges.f k l0).bind fun t1024 => (galleyref07_Floor.l0 k a1 t1024 0 0)) = some r := h
 clear h
 replace H := Option.bind_eq_some_iff.mp H
 obtain ⟨t1024, A30, H⟩ := H
 replace H : (galleyref07_Floor.l0 k a1 t1024 0 0) = some r := H
 have A3 := Aside0.mk A30
 clear A30
 have H' := Aside0.mk H
 clear H
 go_enter Tryd.func107, Tryd.ntmps107
 go_wp2_with (first | ((with_reducible refine gate_callee (f := 69) rfl ?_); refine goesL_ (some 9) rfl rfl Tryd.func69 (by kernel_rfl) rfl #[.slice A0 l0.length c0] rfl (by (try simp only [List.map_toArray, List.map_cons, List.map_nil]); first | done | rfl | (simp only [List.length_drop, List.length_take]; rfl)) ?_; (with_reducible refine (galleyref04_Edges.calls k _ _ l0 t1024 _ ?side1 ?side2 A3.out).mono ?_); (case side1 => repeat (first | exact HR0.out | (with_reducible refine Kd.C_alloc ?_ _) | (with_reducible refine Kd.C_drewN ?_ _) | (with_reducible refine Kd.C_drew ?_))); (case side2 => exact HC0.out); rintro e w4 ⟨v1025, rfl, ho0, hb⟩; refine ⟨_, rfl, ?_⟩; have n0_ := Aside0.mk (Kd.R_lower ho0 (below_size (by repeat (first | (with_reducible first | exact HB.out | apply below_alloc | apply pw_below_drewN | apply below_drew1) | exact HB.out)))); have n1_ := Aside0.mk (below_step (by repeat (first | (with_reducible first | exact HB.out | apply below_alloc | apply pw_below_drewN | apply below_drew1) | exact HB.out)) hb); clear HB; have HO1026 := n0_; have HB := n1_; clear n0_ n1_; (try clear hb); (try clear hb2); (try clear hk); (try clear hi); (try clear ho0)))
 go_loopg [6, 7] k (fun kq v6 v7 w' => ∃ (x6_1 : Int) (x7_1 : Int), v6 = .int .i64 x6_1 ∧ v7 = .int .i64 x7_1 ∧ Aside0 (galleyref07_Floor.l0 kq a1 t1024 x6_1 x7_1 = some r) ∧ Aside0 (kq ≤ k) ∧ Aside0 (Kd.R (Kd.int .i64) 3 w' w.heap.size (fun _ => True) v1025 t1024) ∧ Aside0 (Below w.heap.size w w'))
 case atStart => exact ⟨(0), (0), (by first | rfl | (simp; done) | (simp [*]; done)), (by first | rfl | (simp; done) | (simp [*]; done)), H', ⟨Nat.le_refl _⟩, ⟨by (with_reducible repeat (first | apply Kd.R_alloc | apply Kd.R_drewN | apply Kd.R_drew)); exact HO1026.out⟩, ⟨by repeat (first | (with_reducible first | exact HB.out | apply below_alloc | apply pw_below_drewN | apply below_drew1) | exact HB.out)⟩⟩
 case round =>
  clear H'
  (try clear c1); (try clear p2)
  obtain ⟨x6_1, x7_1, rfl, rfl, HA, HK1, HO_5, HB⟩ := hrel
  cases gk with
  | zero => exact absurd HA.out (by simp [galleyref07_Floor.l0])
  | succ k1 =>
   have H := HA.out
   clear HA
   simp only [galleyref07_Floor.l0] at H
   by_cases c5 : x7_1 < (t1024.length : Int)
   ·
    rw [if_pos c5] at H
    have c5b0 : decide (x7_1 < (t1024.length : Int)) = true := decide_eq_true c5
    clear c5
    by_cases c6 : 0 ≤ x7_1
    ·
     rw [if_pos c6] at H
     have c6b0 : decide (0 ≤ x7_1) = true := decide_eq_true c6
     clear c6
     by_cases c7 : (rd t1024 x7_1) ≤ a1
     ·
      rw [if_pos c7] at H
      have c7b0 : decide ((rd t1024 x7_1) ≤ a1) = true := decide_eq_true c7
      clear c7
      have H' := Aside0.mk H
      clear H
      obtain ⟨Ao8, co8, eo8⟩ := Kd.R_slice HO_5.out
      subst eo8
      have p1027 : 0 ≤ (x7_1 : Int) := of_decide_eq_true (by first | (with_reducible assumption) | assumption)
      have q1027 : x7_1 < (t1024.length : Int) := of_decide_eq_true (by first | (with_reducible assumption) | assumption)
      obtain ⟨ad1027, e1027, hx1027_0⟩ := Kd.at_int (Kd.R_reads' HO_5.out).2.2 x7_1 p1027 q1027
      cases e1027
      replace p1027 := eq_true p1027
      replace q1027 := eq_true q1027
      have p1028 : 0 ≤ (x7_1 : Int) := of_decide_eq_true (by first | (with_reducible assumption) | assumption)
      have q1028 : x7_1 < (t1024.length : Int) := of_decide_eq_true (by first | (with_reducible assumption) | assumption)
      obtain ⟨ad1028, e1028, hx1028_0⟩ := Kd.at_int (Kd.R_reads' HO_5.out).2.2 x7_1 p1028 q1028
      obtain rfl : ad1027 = ad1028 := (by injection e1028)
      replace p1028 := eq_true p1028
      replace q1028 := eq_true q1028
      go_wp2
      go_roundg k1
      case measure => have := HK1.out; omega
      case rel => exact ⟨(rd t1024 x7_1), (wrap64 (x7_1 + 1)), (by first | rfl | (simp; done) | (simp [*]; done)), (by first | rfl | (simp; done) | (simp [*]; done)), H', ⟨by have := HK1.out; omega⟩, ⟨by (with_reducible repeat (first | apply Kd.R_alloc | apply Kd.R_drewN | apply Kd.R_drew)); exact HO_5.out⟩, ⟨by repeat (first | (with_reducible first | exact HB.out | apply below_alloc | apply pw_below_drewN | apply below_drew1) | exact HB.out)⟩⟩
     ·
      rw [if_neg c7] at H
      have c7b0 : decide ((rd t1024 x7_1) ≤ a1) = false := decide_eq_false c7
      clear c7
      have H' := Aside0.mk H
      clear H
      obtain ⟨Ao9, co9, eo9⟩ := Kd.R_slice HO_5.out
      subst eo9
      have p1027 : 0 ≤ (x7_1 : Int) := of_decide_eq_true (by first | (with_reducible assumption) | assumption)
      have q1027 : x7_1 < (t1024.length : Int) := of_decide_eq_true (by first | (with_reducible assumption) | assumption)
      obtain ⟨ad1027, e1027, hx1027_0⟩ := Kd.at_int (Kd.R_reads' HO_5.out).2.2 x7_1 p1027 q1027
      cases e1027
      replace p1027 := eq_true p1027
      replace q1027 := eq_true q1027
      go_wp2
      go_roundg k1
      case measure => have := HK1.out; omega
      case rel => exact ⟨(x6_1), (wrap64 (x7_1 + 1)), (by first | rfl | (simp; done) | (simp [*]; done)), (by first | rfl | (simp; done) | (simp [*]; done)), H', ⟨by have := HK1.out; omega⟩, ⟨by (with_reducible repeat (first | apply Kd.R_alloc | apply Kd.R_drewN | apply Kd.R_drew)); exact HO_5.out⟩, ⟨by repeat (first | (with_reducible first | exact HB.out | apply below_alloc | apply pw_below_drewN | apply below_drew1) | exact HB.out)⟩⟩
    ·
     rw [if_neg c6] at H
     exact absurd H (by simp)
   ·
    rw [if_neg c5] at H
    have c5b0 : decide (x7_1 < (t1024.length : Int)) = false := decide_eq_false c5
    clear c5
    obtain rfl := Option.some.inj H
    obtain ⟨Ao10, co10, eo10⟩ := Kd.R_slice HO_5.out
    subst eo10
    go_wp2
    go_ret
    exact ⟨by first | rfl | (simp [errW_none, errW_some] <;> rfl) | (simp [*, errW_none, errW_some] <;> rfl), by repeat (first | (with_reducible first | exact HB.out | apply below_alloc | apply pw_below_drewN | apply below_drew1) | exact HB.out)⟩
def galleyref07_line.l0 : Nat → List (S88) → Int → Int → Int → Option (Int)
 | 0, _, _, _, _ => none
 | k + 1, x0, x1, x5, x6 => if x6 < (x0.length : Int) then (if 0 ≤ x6 then (if ((rd_T88 x0 x6).f0) ≤ x1 then (galleyref07_line.l0 k x0 x1 x6 (wrap64 (x6 + 1))) else (galleyref07_line.l0 k x0 x1 x5 (wrap64 (x6 + 1)))) else (none)) else (some x5)
def galleyref07_line.f (k : Nat) (l0 : List (S88)) (a1 : Int) : Option (Int) := galleyref07_line.l0 k l0 a1 0 0
set_option maxHeartbeats 8000000 in
set_option maxRecDepth 100000 in
theorem galleyref07_line.calls (k : Nat) (A0 : Option Addr) (c0 : Nat) (l0 : List (S88)) (a1 : Int) (r : Int) (w : World) (hr0 : Kd.C k88 w A0 l0.length l0) (hc0 : l0.length ≤ c0) (h : galleyref07_line.f k l0 a1 = some r) :
  Calls Tryd.prog 108 #[.slice A0 l0.length c0, .int .i64 a1] w fun e w' => e = .returned (.int .i64 r) ∧ Drawn0 w w' := by
 have HR0 := Aside0.mk hr0
 have HC0 := Aside0.mk hc0
 clear hr0 hc0
 have H : (galleyref07_line.l0 k l0 a1 0 0) = some r := h
 clear h
 have H' := Aside0.mk H
 clear H
 go_enter Tryd.func108, Tryd.ntmps108
 go_wp2
 go_loopg [5, 6] k (fun kq v5 v6 w' => ∃ (x5_1 : Int) (x6_1 : Int), v5 = .int .i64 x5_1 ∧ v6 = .int .i64 x6_1 ∧ Aside0 (galleyref07_line.l0 kq l0 a1 x5_1 x6_1 = some r) ∧ Aside0 (kq ≤ k) ∧ Drawn0 w w')
 case atStart => exact ⟨(0), (0), (by first | rfl | (simp; done) | (simp [*]; done)), (by first | rfl | (simp; done) | (simp [*]; done)), H', ⟨Nat.le_refl _⟩, by repeat (first | exact Drawn0.refl _ | apply Drawn0.step)⟩
 case round =>
  clear H'
  (try clear c1); (try clear p2)
  obtain ⟨x5_1, x6_1, rfl, rfl, HA, HK1, ⟨m1, rfl⟩⟩ := hrel
  cases gk with
  | zero => exact absurd HA.out (by simp [galleyref07_line.l0])
  | succ k1 =>
   have H := HA.out
   clear HA
   simp only [galleyref07_line.l0] at H
   by_cases c3 : x6_1 < (l0.length : Int)
   ·
    rw [if_pos c3] at H
    have c3b0 : decide (x6_1 < (l0.length : Int)) = true := decide_eq_true c3
    clear c3
    by_cases c4 : 0 ≤ x6_1
    ·
     rw [if_pos c4] at H
     have c4b0 : decide (0 ≤ x6_1) = true := decide_eq_true c4
     clear c4
     by_cases c5 : ((rd_T88 l0 x6_1).f0) ≤ a1
     ·
      rw [if_pos c5] at H
      have c5b0 : decide (((rd_T88 l0 x6_1).f0) ≤ a1) = true := decide_eq_true c5
      clear c5
      have H' := Aside0.mk H
      clear H
      have p1029 : 0 ≤ (x6_1 : Int) := of_decide_eq_true (by first | (with_reducible assumption) | assumption)
      have q1029 : x6_1 < (l0.length : Int) := of_decide_eq_true (by first | (with_reducible assumption) | assumption)
      obtain ⟨ad1029, e1029, hx1029_0, hx1029_1, hx1029_2⟩ := at_T88 HR0.out x6_1 p1029 q1029
      cases e1029
      replace p1029 := eq_true p1029
      replace q1029 := eq_true q1029
      go_wp2
      go_roundg k1
      case measure => have := HK1.out; omega
      case rel => exact ⟨(x6_1), (wrap64 (x6_1 + 1)), (by first | rfl | (simp; done) | (simp [*]; done)), (by first | rfl | (simp; done) | (simp [*]; done)), H', ⟨by have := HK1.out; omega⟩, by repeat (first | exact Drawn0.refl _ | apply Drawn0.step)⟩
     ·
      rw [if_neg c5] at H
      have c5b0 : decide (((rd_T88 l0 x6_1).f0) ≤ a1) = false := decide_eq_false c5
      clear c5
      have H' := Aside0.mk H
      clear H
      have p1029 : 0 ≤ (x6_1 : Int) := of_decide_eq_true (by first | (with_reducible assumption) | assumption)
      have q1029 : x6_1 < (l0.length : Int) := of_decide_eq_true (by first | (with_reducible assumption) | assumption)
      obtain ⟨ad1029, e1029, hx1029_0, hx1029_1, hx1029_2⟩ := at_T88 HR0.out x6_1 p1029 q1029
      cases e1029
      replace p1029 := eq_true p1029
      replace q1029 := eq_true q1029
      go_wp2
      go_roundg k1
      case measure => have := HK1.out; omega
      case rel => exact ⟨(x5_1), (wrap64 (x6_1 + 1)), (by first | rfl | (simp; done) | (simp [*]; done)), (by first | rfl | (simp; done) | (simp [*]; done)), H', ⟨by have := HK1.out; omega⟩, by repeat (first | exact Drawn0.refl _ | apply Drawn0.step)⟩
    ·
     rw [if_neg c4] at H
     exact absurd H (by simp)
   ·
    rw [if_neg c3] at H
    have c3b0 : decide (x6_1 < (l0.length : Int)) = false := decide_eq_false c3
    clear c3
    obtain rfl := Option.some.inj H
    go_wp2
    go_ret
    exact ⟨by first | rfl | (simp; done) | (simp [*]; done), by repeat (first | exact Drawn0.refl _ | apply Drawn0.step)⟩
end Go.Proofs.YtbomhpfckplgaaaDoor.P
namespace Go.Proofs.YtbomhpfckplgaaaDoor.P
open Go.RowKit Go.Proofs.YtbomhpfckplgaaaDoorW.PrintWords Go.Proofs.YtbomhpfckplgaaaDoorW.PrintLast Go.Proofs.YtbomhpfckplgaaaDoorW.PrintMore
attribute [local go_sem] max2_int min2_int max_two min_two max_three min_three max_four min_four   -- for this text's walks alone
set_option linter.unusedVariables false
set_option linter.unusedSimpArgs false
def galleyref07_Where.j0 : Nat → List Int → Int → Bool → Option (Int × Int × Int × Int × Int × Int × Int × Int)
 | 0, _, _, _ => none
 | k + 1, x0, x1, x17 => if x17 = true then (some (0, 0, 0, 0, 0, 0, 0, 2)) else ((galleyref07_Floor.f k x0 x1).bind fun t1031 => ((galleyref07_Rows.f k x0).bind fun t1032 => ((galleyref07_line.f k t1032 t1031).bind fun t1035 => (if 0 ≤ t1035 then (if t1035 < (t1032.length : Int) then (if 0 ≤ ((rd_T88 t1032 t1035).f0) then (if ((rd_T88 t1032 t1035).f0) ≤ t1031 then (if t1031 ≤ (x0.length : Int) then (if 0 ≤ t1031 then ((galleyref07_Size.f k (x0.take (t1031 : Int).toNat) 2).bind fun t1039 => ((galleyref07_Size.f k (x0.take (t1031 : Int).toNat) 3).bind fun t1041 => ((galleyref07_Size.f k ((x0.take (t1031 : Int).toNat).drop (((rd_T88 t1032 t1035).f0) : Int).toNat) 2).bind fun t1042 => ((galleyref07_Size.f k ((x0.take (t1031 : Int).toNat).drop (((rd_T88 t1032 t1035).f0) : Int).toNat) 3).bind fun t1043 => (some (t1031, t1039, t1041, t1035, (((x0.take (t1031 : Int).toNat).drop (((rd_T88 t1032 t1035).f0) : Int).toNat).length : Int), t1042, t1043, 0)))))) else (none)) else (none)) else (none)) else (none)) else (none)) else (none)))))
def galleyref07_Where.f (k : Nat) (l0 : List Int) (a1 : Int) : Option (Int × Int × Int × Int × Int × Int × Int × Int) := if a1 < 0 then (galleyref07_Where.j0 k l0 a1 true) else (galleyref07_Where.j0 k l0 a1 (decide (a1 > (l0.length : Int))))
def galleyref07_Where.T7 : Bool × List (List Nat × List Nat) := (true, [([], []), ([], []), ([], []), ([1, 2], [1, 2]), ([3], [3]), ([], []), ([], []), ([5, 6], [5, 6]), ([7, 4], [7]), ([], []), ([], []), ([10], [10]), ([], []), ([12, 8], [12]), ([], []), ([14, 13], [14]), ([0, 4, 8, 9, 11, 13, 15], [0, 4, 8, 9, 11, 13, 15]), ([16, 15, 0, 1, 2, 3, 4, 5, 6, 7, 8, 9, 10, 11, 12, 13, 14, 15, 16], [16]), ([17, 0, 1, 2, 3, 4, 5, 6, 7, 8, 9, 10, 11, 12, 13, 14, 15, 16, 17], [])])
def galleyref07_Where.B7 : List Nat := [0, 0, 0, 6, 14, 0, 0, 96, 254, 0, 0, 1024, 0, 4606, 0, 29182, 65535, 131071, 262143]
theorem galleyref07_Where.tab7 : rtab .any (opsOf Tryd.f66 7) = galleyref07_Where.T7 := by kernel_rfl
theorem galleyref07_Where.bits7 : waitsOk galleyref07_Where.T7.2 galleyref07_Where.B7 = true := by kernel_rfl
set_option maxHeartbeats 8000000 in
set_option maxRecDepth 100000 in
theorem galleyref07_Where.calls (k : Nat) (A0 : Option Addr) (c0 : Nat) (l0 : List Int) (a1 : Int) (r1 : Int) (r2 : Int) (r3 : Int) (r4 : Int) (r5 : Int) (r6 : Int) (r7 : Int) (r8 : Int) (w : World) (hr0 : Kd.C (Kd.int .u8) w A0 l0.length l0) (hc0 : l0.length ≤ c0) (h : galleyref07_Where.f k l0 a1 = some (r1, r2, r3, r4, r5, r6, r7, r8)) :
  Calls Tryd.prog 66 #[.slice A0 l0.length c0, .int .i64 a1] w fun e w' => e = .returned (.tuple #[.agg #[.int .i64 r1, .int .i64 r2, .int .i64 r3, .int .i64 r4, .int .i64 r5, .int .i64 r6, .int .i64 r7], .int .i64 r8]) ∧ Below w.heap.size w w' := by
 have hu79 := Tryd.underlying79
 have HR0 := Aside0.mk hr0
 have HC0 := Aside0.mk hc0
 clear hr0 hc0
 have HB := Aside0.mk (Below.refl w.heap.size w)
 have H : (if a1 < 0 then (galleyref07_Where.j0 k l0 a1 true) else (galleyref07_Where.j0 k l0 a1 (decide (a1 > (l0.length : Int))))) = some (r1, r2, r3, r4, r5, r6, r7, r8) := h
 clear h
 have HC3 := Aside0.mk H
 clear H
 go_enter Tryd.func66, Tryd.ntmps66
 go_upto_region 1 with (first | ((with_reducible refine gate_dst (N := 4) rfl ?_); (try (refine gate_guard (by rfl) ?_; dsimp only)); refine box_event ?hg (N := 4) ?hd (cs := #[.int .i64 0, .int .i64 0, .int .i64 0, .int .i64 0, .int .i64 0, .int .i64 0, .int .i64 0]) (t := 79) ?hr ?_; (case hd => rfl); (case hg => rfl); (case hr => first | (go_simp; done) | (go_simp; rfl)); intro gb1030 hg w4 hbox hb; have n0_ := Aside0.mk (below_step (by repeat (first | (with_reducible first | exact HB.out | apply below_alloc | apply pw_below_drewN | apply below_drew1) | exact HB.out)) hb); have n1_ := Aside0.mk (hbox); have n2_ := Aside0.mk ((by rw [hg]; exact (below_size (by repeat (first | (with_reducible first | exact HB.out | apply below_alloc | apply pw_below_drewN | apply below_drew1) | exact HB.out))) : w.heap.size ≤ gb1030)); have n3_ := Aside0.mk ((by rw [hg]; exact (below_size (by repeat (first | (with_reducible first | exact HB.out | apply below_alloc | apply pw_below_drewN | apply below_drew1) | exact HB.out))) : w.heap.size ≤ gb1030)); clear HB; have HB := n0_; have BK1030 := n1_; have GW1030 := n2_; have GE1030 := n3_; clear n0_ n1_ n2_ n3_; clear hb hbox hg))
 (try simp only [Act.put, List.setIfInBounds_toArray, List.set_cons_zero, List.set_cons_succ])
 go_cut [17] (fun v17 wc => ∃ (kq : Nat) (x17_2 : Bool), v17 = .bool x17_2 ∧ Aside0 (galleyref07_Where.j0 kq l0 a1 x17_2 = some (r1, r2, r3, r4, r5, r6, r7, r8)) ∧ Aside0 (kq ≤ k) ∧ Aside0 (wc.heap[gb1030]? = some (.cells #[.int .i64 0, .int .i64 0, .int .i64 0, .int .i64 0, .int .i64 0, .int .i64 0, .int .i64 0] 79 (0, 0))) ∧ Aside0 (Below w.heap.size w wc))
 case first =>
  have H := HC3.out
  clear HC3
  by_cases c5 : a1 < 0
  ·
   rw [if_pos c5] at H
   have c5b0 : decide (a1 < 0) = true := decide_eq_true c5
   clear c5
   (first | rw [c5b0] | (simp only [i64_w, i32_w]; rw [c5b0]) | skip)
   have H' := Aside0.mk H
   clear H
   go_wp2
   go_meet
   case rel => exact ⟨_, (true), (by first | rfl | (simp; done) | (simp [*]; done)), H', ⟨by first | omega | exact Nat.le_refl _⟩, ⟨by (with_reducible repeat (first | refine blk_drewN ?_ _ | refine blk_drew ?_ | refine blk_alloc ?_ _)); exact BK1030.out⟩, ⟨by repeat (first | (with_reducible first | exact HB.out | apply below_alloc | apply pw_below_drewN | apply below_drew1 | refine below_set ?_ GE1030.out) | exact HB.out)⟩⟩
  ·
   rw [if_neg c5] at H
   have c5b0 : decide (a1 < 0) = false := decide_eq_false c5
   clear c5
   (first | rw [c5b0] | (simp only [i64_w, i32_w]; rw [c5b0]) | skip)
   have H' := Aside0.mk H
   clear H
   go_wp2
   go_meet
   case rel => exact ⟨_, (decide (a1 > (l0.length : Int))), (by first | rfl | (simp; done) | (simp [*]; done)), H', ⟨by first | omega | exact Nat.le_refl _⟩, ⟨by (with_reducible repeat (first | refine blk_drewN ?_ _ | refine blk_drew ?_ | refine blk_alloc ?_ _)); exact BK1030.out⟩, ⟨by repeat (first | (with_reducible first | exact HB.out | apply below_alloc | apply pw_below_drewN | apply below_drew1 | refine below_set ?_ GE1030.out) | exact HB.out)⟩⟩
 case rest =>
  clear HC3
  (try clear p2); (try clear c5); (try clear c5b0)
  obtain ⟨kq, x17_2, rfl, HA, HJ2, BK1030, HB⟩ := hcut
  cases kq with
  | zero => exact absurd HA.out (by simp [galleyref07_Where.j0])
  | succ kj2 =>
   have H := HA.out
   clear HA
   simp only [galleyref07_Where.j0] at H
   by_cases c6 : x17_2 = true
   ·
    subst c6
    have H1 : (some (0, 0, 0, 0, 0, 0, 0, 2)) = some (r1, r2, r3, r4, r5, r6, r7, r8) := by rw [if_pos rfl] at H; exact H
    clear H
    have H := H1
    clear H1
    simp only [Option.some.injEq, Prod.mk.injEq] at H
    obtain ⟨rfl, rfl, rfl, rfl, rfl, rfl, rfl, rfl⟩ := H
    have hcz7_0 : wc.cell? ⟨gb1030, 0, none⟩ = some (.int .i64 0) := (blk_cell BK1030.out 0).trans rfl
    have hcz7_1 : wc.cell? ⟨gb1030, 1, none⟩ = some (.int .i64 0) := (blk_cell BK1030.out 1).trans rfl
    have hcz7_2 : wc.cell? ⟨gb1030, 2, none⟩ = some (.int .i64 0) := (blk_cell BK1030.out 2).trans rfl
    have hcz7_3 : wc.cell? ⟨gb1030, 3, none⟩ = some (.int .i64 0) := (blk_cell BK1030.out 3).trans rfl
    have hcz7_4 : wc.cell? ⟨gb1030, 4, none⟩ = some (.int .i64 0) := (blk_cell BK1030.out 4).trans rfl
    have hcz7_5 : wc.cell? ⟨gb1030, 5, none⟩ = some (.int .i64 0) := (blk_cell BK1030.out 5).trans rfl
    have hcz7_6 : wc.cell? ⟨gb1030, 6, none⟩ = some (.int .i64 0) := (blk_cell BK1030.out 6).trans rfl
    have hfz7_0 := blk_frozen BK1030.out 0
    have hfz7_1 := blk_frozen BK1030.out 1
    have hfz7_2 := blk_frozen BK1030.out 2
    have hfz7_3 := blk_frozen BK1030.out 3
    have hfz7_4 := blk_frozen BK1030.out 4
    have hfz7_5 := blk_frozen BK1030.out 5
    have hfz7_6 := blk_frozen BK1030.out 6
    go_wp2
    refine bodyPost_ret (results_ct rfl _ _ gb1030 79 #[.int .i64 0, .int .i64 0, .int .i64 0, .int .i64 0, .int .i64 0, .int .i64 0, .int .i64 0] (0, 0) _ rfl (by (with_reducible repeat (first | refine blk_drewN ?_ _ | refine blk_drew ?_ | refine blk_alloc ?_ _)); refine blk_put (cs := #[.int .i64 0, .int .i64 0, .int .i64 0, .int .i64 0, .int .i64 0, .int .i64 0, .int .i64 0]) ?_ 6 _ rfl; (with_reducible repeat (first | refine blk_drewN ?_ _ | refine blk_drew ?_ | refine blk_alloc ?_ _)); refine blk_put (cs := #[.int .i64 0, .int .i64 0, .int .i64 0, .int .i64 0, .int .i64 0, .int .i64 0, .int .i64 0]) ?_ 5 _ rfl; (with_reducible repeat (first | refine blk_drewN ?_ _ | refine blk_drew ?_ | refine blk_alloc ?_ _)); refine blk_put (cs := #[.int .i64 0, .int .i64 0, .int .i64 0, .int .i64 0, .int .i64 0, .int .i64 0, .int .i64 0]) ?_ 4 _ rfl; (with_reducible repeat (first | refine blk_drewN ?_ _ | refine blk_drew ?_ | refine blk_alloc ?_ _)); refine blk_put (cs := #[.int .i64 0, .int .i64 0, .int .i64 0, .int .i64 0, .int .i64 0, .int .i64 0, .int .i64 0]) ?_ 3 _ rfl; (with_reducible repeat (first | refine blk_drewN ?_ _ | refine blk_drew ?_ | refine blk_alloc ?_ _)); refine blk_put (cs := #[.int .i64 0, .int .i64 0, .int .i64 0, .int .i64 0, .int .i64 0, .int .i64 0, .int .i64 0]) ?_ 2 _ rfl; (with_reducible repeat (first | refine blk_drewN ?_ _ | refine blk_drew ?_ | refine blk_alloc ?_ _)); refine blk_put (cs := #[.int .i64 0, .int .i64 0, .int .i64 0, .int .i64 0, .int .i64 0, .int .i64 0, .int .i64 0]) ?_ 1 _ rfl; (with_reducible repeat (first | refine blk_drewN ?_ _ | refine blk_drew ?_ | refine blk_alloc ?_ _)); refine blk_put (cs := #[.int .i64 0, .int .i64 0, .int .i64 0, .int .i64 0, .int .i64 0, .int .i64 0, .int .i64 0]) ?_ 0 _ rfl; (with_reducible repeat (first | refine blk_drewN ?_ _ | refine blk_drew ?_ | refine blk_alloc ?_ _)); exact BK1030.out) Tryd.underlying79 rfl (by kernel_rfl)) rfl ?_
    exact ⟨by first | rfl | (simp [errW_none, errW_some] <;> rfl) | (simp [*, errW_none, errW_some] <;> rfl), by repeat (first | (with_reducible first | exact HB.out | apply below_alloc | apply pw_below_drewN | apply below_drew1 | refine below_set ?_ GE1030.out) | exact HB.out)⟩
   ·
    replace c6 := Bool.eq_false_iff.mpr c6
    subst c6
    have H1 : ((galleyref07_Floor.f kj2 l0 a1).bind fun t1031 => ((galleyref07_Rows.f kj2 l0).bind fun t1032 => ((galleyref07_line.f kj2 t1032 t1031).bind fun t1035 => (if 0 ≤ t1035 then (if t1035 < (t1032.length : Int) then (if 0 ≤ ((rd_T88 t1032 t1035).f0) then (if ((rd_T88 t1032 t1035).f0) ≤ t1031 then (if t1031 ≤ (l0.length : Int) then (if 0 ≤ t1031 then ((galleyref07_Size.f kj2 (l0.take (t1031 : Int).toNat) 2).bind fun t1039 => ((galleyref07_Size.f kj2 (l0.take (t1031 : Int).toNat) 3).bind fun t1041 => ((galleyref07_Size.f kj2 ((l0.take (t1031 : Int).toNat).drop (((rd_T88 t1032 t1035).f0) : Int).toNat) 2).bind fun t1042 => ((galleyref07_Size.f kj2 ((l0.take (t1031 : Int).toNat).drop (((rd_T88 t1032 t1035).f0) : Int).toNat) 3).bind fun t1043 => (some (t1031, t1039, t1041, t1035, (((l0.take (t1031 : Int).toNat).drop (((rd_T88 t1032 t1035).f0) : Int).toNat).length : Int), t1042, t1043, 0)))))) else (none)) else (none)) else (none)) else (none)) else (none)) else (none))))) = some (r1, r2, r3, r4, r5, r6, r7, r8) := by rw [if_neg (show ¬ (false = true) by decide)] at H; exact H
    clear H
    have H := H1
    clear H1
    replace H := Option.bind_eq_some_iff.mp H
    obtain ⟨t1031, A80, H⟩ := H
    replace H : ((galleyref07_Rows.f kj2 l0).bind fun t1032 => ((galleyref07_line.f kj2 t1032 t1031).bind fun t1035 => (if 0 ≤ t1035 then (if t1035 < (t1032.length : Int) then (if 0 ≤ ((rd_T88 t1032 t1035).f0) then (if ((rd_T88 t1032 t1035).f0) ≤ t1031 then (if t1031 ≤ (l0.length : Int) then (if 0 ≤ t1031 then ((galleyref07_Size.f kj2 (l0.take (t1031 : Int).toNat) 2).bind fun t1039 => ((galleyref07_Size.f kj2 (l0.take (t1031 : Int).toNat) 3).bind fun t1041 => ((galleyref07_Size.f kj2 ((l0.take (t1031 : Int).toNat).drop (((rd_T88 t1032 t1035).f0) : Int).toNat) 2).bind fun t1042 => ((galleyref07_Size.f kj2 ((l0.take (t1031 : Int).toNat).drop (((rd_T88 t1032 t1035).f0) : Int).toNat) 3).bind fun t1043 => (some (t1031, t1039, t1041, t1035, (((l0.take (t1031 : Int).toNat).drop (((rd_T88 t1032 t1035).f0) : Int).toNat).length : Int), t1042, t1043, 0)))))) else (none)) else (none)) else (none)) else (none)) else (none)) else (none)))) = some (r1, r2, r3, r4, r5, r6, r7, r8) := H
    have A8 := Aside0.mk A80
    clear A80
    replace H := Option.bind_eq_some_iff.mp H
    obtain ⟨t1032, A90, H⟩ := H
    replace H : ((galleyref07_line.f kj2 t1032 t1031).bind fun t1035 => (if 0 ≤ t1035 then (if t1035 < (t1032.length : Int) then (if 0 ≤ ((rd_T88 t1032 t1035).f0) then (if ((rd_T88 t1032 t1035).f0) ≤ t1031 then (if t1031 ≤ (l0.length : Int) then (if 0 ≤ t1031 then ((galleyref07_Size.f kj2 (l0.take (t1031 : Int).toNat) 2).bind fun t1039 => ((galleyref07_Size.f kj2 (l0.take (t1031 : Int).toNat) 3).bind fun t1041 => ((galleyref07_Size.f kj2 ((l0.take (t1031 : Int).toNat).drop (((rd_T88 t1032 t1035).f0) : Int).toNat) 2).bind fun t1042 => ((galleyref07_Size.f kj2 ((l0.take (t1031 : Int).toNat).drop (((rd_T88 t1032 t1035).f0) : Int).toNat) 3).bind fun t1043 => (some (t1031, t1039, t1041, t1035, (((l0.take (t1031 : Int).toNat).drop (((rd_T88 t1032 t1035).f0) : Int).toNat).length : Int), t1042, t1043, 0)))))) else (none)) else (none)) else (none)) else (none)) else (none)) else (none))) = some (r1, r2, r3, r4, r5, r6, r7, r8) := H
    have A9 := Aside0.mk A90
    clear A90
    replace H := Option.bind_eq_some_iff.mp H
    obtain ⟨t1035, A100, H⟩ := H
    replace H : (if 0 ≤ t1035 then (if t1035 < (t1032.length : Int) then (if 0 ≤ ((rd_T88 t1032 t1035).f0) then (if ((rd_T88 t1032 t1035).f0) ≤ t1031 then (if t1031 ≤ (l0.length : Int) then (if 0 ≤ t1031 then ((galleyref07_Size.f kj2 (l0.take (t1031 : Int).toNat) 2).bind fun t1039 => ((galleyref07_Size.f kj2 (l0.take (t1031 : Int).toNat) 3).bind fun t1041 => ((galleyref07_Size.f kj2 ((l0.take (t1031 : Int).toNat).drop (((rd_T88 t1032 t1035).f0) : Int).toNat) 2).bind fun t1042 => ((galleyref07_Size.f kj2 ((l0.take (t1031 : Int).toNat).drop (((rd_T88 t1032 t1035).f0) : Int).toNat) 3).bind fun t1043 => (some (t1031, t1039, t1041, t1035, (((l0.take (t1031 : Int).toNat).drop (((rd_T88 t1032 t1035).f0) : Int).toNat).length : Int), t1042, t1043, 0)))))) else (none)) else (none)) else (none)) else (none)) else (none)) else (none)) = some (r1, r2, r3, r4, r5, r6, r7, r8) := H
    have A10 := Aside0.mk A100
    clear A100
    by_cases c11 : 0 ≤ t1035
    ·
     rw [if_pos c11] at H
     have c11b0 : decide (0 ≤ t1035) = true := decide_eq_true c11
     clear c11
     by_cases c12 : t1035 < (t1032.length : Int)
     ·
      rw [if_pos c12] at H
      have c12b0 : decide (t1035 < (t1032.length : Int)) = true := decide_eq_true c12
      clear c12
      by_cases c13 : 0 ≤ ((rd_T88 t1032 t1035).f0)
      ·
       rw [if_pos c13] at H
       have c13b0 := eq_true c13
       have c13b1 : decide (0 ≤ ((rd_T88 t1032 t1035).f0)) = true := decide_eq_true c13
       clear c13
       by_cases c14 : ((rd_T88 t1032 t1035).f0) ≤ t1031
       ·
        rw [if_pos c14] at H
        have c14b0 := eq_true c14
        have c14b1 : decide (((rd_T88 t1032 t1035).f0) ≤ t1031) = true := decide_eq_true c14
        clear c14
        by_cases c15 : t1031 ≤ (l0.length : Int)
        ·
         rw [if_pos c15] at H
         have c15b0 := eq_true c15
         have c15b1 : decide (t1031 ≤ (l0.length : Int)) = true := decide_eq_true c15
         clear c15
         by_cases c16 : 0 ≤ t1031
         ·
          rw [if_pos c16] at H
          have c16b0 := eq_true c16
          have c16b1 : decide (0 ≤ t1031) = true := decide_eq_true c16
          clear c16
          have c17b0 := eq_true (of_decide_eq_true (by first | (with_reducible assumption) | assumption) : t1031 ≤ (l0.length : Int))
          replace H := Option.bind_eq_some_iff.mp H
          obtain ⟨t1039, A180, H⟩ := H
          replace H : ((galleyref07_Size.f kj2 (l0.take (t1031 : Int).toNat) 3).bind fun t1041 => ((galleyref07_Size.f kj2 ((l0.take (t1031 : Int).toNat).drop (((rd_T88 t1032 t1035).f0) : Int).toNat) 2).bind fun t1042 => ((galleyref07_Size.f kj2 ((l0.take (t1031 : Int).toNat).drop (((rd_T88 t1032 t1035).f0) : Int).toNat) 3).bind fun t1043 => (some (t1031, t1039, t1041, t1035, (((l0.take (t1031 : Int).toNat).drop (((rd_T88 t1032 t1035).f0) : Int).toNat).length : Int), t1042, t1043, 0))))) = some (r1, r2, r3, r4, r5, r6, r7, r8) := H
          have A18 := Aside0.mk A180
          clear A180
          have c19b0 := eq_true (of_decide_eq_true (by first | (with_reducible assumption) | assumption) : 0 ≤ t1031)
          have c20b0 := eq_true (of_decide_eq_true (by first | (with_reducible assumption) | assumption) : t1031 ≤ (l0.length : Int))
          replace H := Option.bind_eq_some_iff.mp H
          obtain ⟨t1041, A210, H⟩ := H
          replace H : ((galleyref07_Size.f kj2 ((l0.take (t1031 : Int).toNat).drop (((rd_T88 t1032 t1035).f0) : Int).toNat) 2).bind fun t1042 => ((galleyref07_Size.f kj2 ((l0.take (t1031 : Int).toNat).drop (((rd_T88 t1032 t1035).f0) : Int).toNat) 3).bind fun t1043 => (some (t1031, t1039, t1041, t1035, (((l0.take (t1031 : Int).toNat).drop (((rd_T88 t1032 t1035).f0) : Int).toNat).length : Int), t1042, t1043, 0)))) = some (r1, r2, r3, r4, r5, r6, r7, r8) := H
          have A21 := Aside0.mk A210
          clear A210
          replace H := Option.bind_eq_some_iff.mp H
          obtain ⟨t1042, A220, H⟩ := H
          replace H : ((galleyref07_Size.f kj2 ((l0.take (t1031 : Int).toNat).drop (((rd_T88 t1032 t1035).f0) : Int).toNat) 3).bind fun t1043 => (some (t1031, t1039, t1041, t1035, (((l0.take (t1031 : Int).toNat).drop (((rd_T88 t1032 t1035).f0) : Int).toNat).length : Int), t1042, t1043, 0))) = some (r1, r2, r3, r4, r5, r6, r7, r8) := H
          have A22 := Aside0.mk A220
          clear A220
          replace H := Option.bind_eq_some_iff.mp H
          obtain ⟨t1043, A230, H⟩ := H
          replace H : (some (t1031, t1039, t1041, t1035, (((l0.take (t1031 : Int).toNat).drop (((rd_T88 t1032 t1035).f0) : Int).toNat).length : Int), t1042, t1043, 0)) = some (r1, r2, r3, r4, r5, r6, r7, r8) := H
          have A23 := Aside0.mk A230
          clear A230
          simp only [Option.some.injEq, Prod.mk.injEq] at H
          obtain ⟨rfl, rfl, rfl, rfl, rfl, rfl, rfl, rfl⟩ := H
          try go_wp2_with (first | ((with_reducible refine gate_callee (f := 107) rfl ?_); refine goesL_ (some 21) rfl rfl Tryd.func107 (by kernel_rfl) rfl #[.slice A0 l0.length c0, .int .i64 a1] rfl (by (try simp only [List.map_toArray, List.map_cons, List.map_nil]); first | done | rfl | (simp only [List.length_drop, List.length_take]; rfl)) ?_; (with_reducible refine (galleyref07_Floor.calls kj2 _ _ l0 a1 t1031 _ ?side1 ?side2 A8.out).mono ?_); (case side1 => repeat (first | exact (Kd.C_below HR0.out HB.out) | (with_reducible refine Kd.C_alloc ?_ _) | (with_reducible refine Kd.C_drewN ?_ _) | (with_reducible refine Kd.C_drew ?_))); (case side2 => exact HC0.out); rintro e w24 ⟨rfl, hb⟩; refine ⟨_, rfl, ?_⟩; have n0_ := Aside0.mk (blk_below (g := gb1030) (o := .cells #[.int .i64 0, .int .i64 0, .int .i64 0, .int .i64 0, .int .i64 0, .int .i64 0, .int .i64 0] 79 (0, 0)) (by (with_reducible repeat (first | refine blk_drewN ?_ _ | refine blk_drew ?_ | refine blk_alloc ?_ _)); exact BK1030.out) hb); have n1_ := Aside0.mk (below_step (by repeat (first | (with_reducible first | exact HB.out | apply below_alloc | apply pw_below_drewN | apply below_drew1 | refine below_set ?_ GE1030.out) | exact HB.out)) hb); clear BK1030; clear HB; have BK1030 := n0_; have HB := n1_; clear n0_ n1_; (try clear hb); (try clear hb2); (try clear hk); (try clear hi)) | ((with_reducible refine gate_callee (f := 63) rfl ?_); refine goesL_ (some 23) rfl rfl Tryd.func63 (by kernel_rfl) rfl #[.slice A0 l0.length c0] rfl (by (try simp only [List.map_toArray, List.map_cons, List.map_nil]); first | done | rfl | (simp only [List.length_drop, List.length_take]; rfl)) ?_; (with_reducible refine (galleyref07_Rows.calls kj2 _ _ l0 t1032 _ ?side1 ?side2 A9.out).mono ?_); (case side1 => repeat (first | exact (Kd.C_below HR0.out HB.out) | (with_reducible refine Kd.C_alloc ?_ _) | (with_reducible refine Kd.C_drewN ?_ _) | (with_reducible refine Kd.C_drew ?_))); (case side2 => exact HC0.out); rintro e w25 ⟨v1033, rfl, ho0, hb⟩; refine ⟨_, rfl, ?_⟩; have n0_ := Aside0.mk (Kd.R_lower ho0 (below_size (by repeat (first | (with_reducible first | exact HB.out | apply below_alloc | apply pw_below_drewN | apply below_drew1 | refine below_set ?_ GE1030.out) | exact HB.out)))); have n1_ := Aside0.mk (blk_below (g := gb1030) (o := .cells #[.int .i64 0, .int .i64 0, .int .i64 0, .int .i64 0, .int .i64 0, .int .i64 0, .int .i64 0] 79 (0, 0)) (by (with_reducible repeat (first | refine blk_drewN ?_ _ | refine blk_drew ?_ | refine blk_alloc ?_ _)); exact BK1030.out) hb); have n2_ := Aside0.mk (below_step (by repeat (first | (with_reducible first | exact HB.out | apply below_alloc | apply pw_below_drewN | apply below_drew1 | refine below_set ?_ GE1030.out) | exact HB.out)) hb); clear BK1030; clear HB; have HO1034 := n0_; have BK1030 := n1_; have HB := n2_; clear n0_ n1_ n2_; (try clear hb); (try clear hb2); (try clear hk); (try clear hi); (try clear ho0); obtain ⟨Ao26, co26, eo26⟩ := Kd.R_slice HO1034.out; subst eo26) | ((with_reducible refine gate_callee (f := 108) rfl ?_); refine goesL_ (some 26) rfl rfl Tryd.func108 (by kernel_rfl) rfl #[.slice Ao26 t1032.length co26, .int .i64 t1031] rfl (by (try simp only [List.map_toArray, List.map_cons, List.map_nil]); first | done | rfl | (simp only [List.length_drop, List.length_take]; rfl)) ?_; (with_reducible refine (galleyref07_line.calls kj2 _ _ t1032 t1031 t1035 _ ?side1 ?side2 A10.out).mono ?_); (case side1 => repeat (first | exact (Kd.R_reads' HO1034.out).2.2 | (with_reducible refine Kd.C_alloc ?_ _) | (with_reducible refine Kd.C_drewN ?_ _) | (with_reducible refine Kd.C_drew ?_))); (case side2 => exact (Kd.R_reads' HO1034.out).2.1); rintro e w' ⟨rfl, ⟨nd, rfl⟩⟩; refine ⟨_, rfl, ?_⟩; (try (rw [drewN_self w25]; generalize hq_ : World.drewN w25 _ = w25; have n0_ : Aside0 (Kd.R k88 88 w25 w.heap.size (fun _ => True) (.slice Ao26 t1032.length co26) t1032) := ⟨by rw [← hq_]; exact (by (with_reducible repeat (first | apply Kd.R_alloc | apply Kd.R_drewN | apply Kd.R_drew)); exact HO1034.out)⟩; have n1_ : Aside0 (w25.heap[gb1030]? = some (.cells #[.int .i64 0, .int .i64 0, .int .i64 0, .int .i64 0, .int .i64 0, .int .i64 0, .int .i64 0] 79 (0, 0))) := ⟨by rw [← hq_]; exact (by (with_reducible repeat (first | refine blk_drewN ?_ _ | refine blk_drew ?_ | refine blk_alloc ?_ _)); exact BK1030.out)⟩; have n2_ : Aside0 (Below w.heap.size w w25) := ⟨by rw [← hq_]; exact (by repeat (first | (with_reducible first | exact HB.out | apply below_alloc | apply pw_below_drewN | apply below_drew1 | refine below_set ?_ GE1030.out) | exact HB.out))⟩; clear HO1034 BK1030 HB hq_; have HO1034 := n0_; have BK1030 := n1_; have HB := n2_; clear n0_ n1_ n2_)); have p1036 : 0 ≤ (t1035 : Int) := of_decide_eq_true (by first | (with_reducible assumption) | assumption); have q1036 : t1035 < (t1032.length : Int) := of_decide_eq_true (by first | (with_reducible assumption) | assumption); obtain ⟨ad1036, e1036, hx1036_0, hx1036_1, hx1036_2⟩ := at_T88 (Kd.R_reads' HO1034.out).2.2 t1035 p1036 q1036; cases e1036; replace p1036 := eq_true p1036; replace q1036 := eq_true q1036; obtain ⟨i027, hi027, _, hsz27, _⟩ := info_parts info5; obtain ⟨A27, hcut27, hA27, hC27⟩ := print_mid_of (P := Tryd.prog) (Value.int .u8) 0 22 5 .i64 .i64 Tryd.underlying22 hi027 hsz27 A0 c0 l0 ((rd_T88 t1032 t1035).f0) t1031 (of_decide_eq_true (by first | (with_reducible assumption) | assumption)) (by first | omega | exact of_decide_eq_true (by first | (with_reducible assumption) | assumption)) (of_decide_eq_true (by first | (with_reducible assumption) | assumption)) HC0.out; have HR1037 := Aside0.mk (Kd.C_of_reads (h1 := fun _ => rfl) (hA27 _ (Kd.reads_of_C HR0.out))); have HC1037 := Aside0.mk hC27; clear hA27 hC27 hi027 hsz27))
          have n0_ := Aside0.mk (Kd.R_drew HO1034.out)
          have n1_ := Aside0.mk (blk_drew BK1030.out)
          have n2_ := Aside0.mk (below_drew1 HB.out)
          clear HO1034
          clear BK1030
          clear HB
          have HO1034 := n0_
          have BK1030 := n1_
          have HB := n2_
          clear n0_ n1_ n2_
          obtain ⟨i029, hi029, _, hsz29, _⟩ := info_parts info5
          obtain ⟨hcut29, hA29, hC29⟩ := print_take_of (P := Tryd.prog) (Value.int .u8) 0 22 5 .i64 Tryd.underlying22 hi029 hsz29 A0 c0 l0 t1031 (of_decide_eq_true (by first | (with_reducible assumption) | assumption)) (of_decide_eq_true (by first | (with_reducible assumption) | assumption)) HC0.out
          have HR1038 := Aside0.mk (Kd.C_of_reads (h1 := fun _ => rfl) (hA29 _ (Kd.reads_of_C HR0.out)))
          have HC1038 := Aside0.mk hC29
          clear hA29 hC29 hi029 hsz29
          obtain ⟨i030, hi030, _, hsz30, _⟩ := info_parts info5
          obtain ⟨hcut30, hA30, hC30⟩ := print_take_of (P := Tryd.prog) (Value.int .u8) 0 22 5 .i64 Tryd.underlying22 hi030 hsz30 A0 c0 l0 t1031 (of_decide_eq_true (by first | (with_reducible assumption) | assumption)) (of_decide_eq_true (by first | (with_reducible assumption) | assumption)) HC0.out
          have HR1040 := Aside0.mk (Kd.C_of_reads (h1 := fun _ => rfl) (hA30 _ (Kd.reads_of_C HR0.out)))
          have HC1040 := Aside0.mk hC30
          clear hA30 hC30 hi030 hsz30
          refine start_ (n := 19) (S := fun w' => True) (ds := []) #[false, false, false, false, false, false, false, false, false, false, false, false, false, false, false, false, false, false, false] (by kernel_rfl) rfl rfl trivial (fun hHeld => ?_); refine with_tabW galleyref07_Where.tab7 galleyref07_Where.bits7 (fun HT_ HW_ => ?_)
          generalize w25.drew = w28 at HO1034 BK1030 HB HR1038 HR1040 hHeld ⊢
          refine pure_ (i := 0) (N := some 35) (v := ?_) (a' := ?_) #[true, false, false, false, false, false, false, false, false, false, false, false, false, false, false, false, false, false, false] rfl rfl (any_of HT_.out (by kernel_rfl)) (fun _ _ _ h => h) (Or.inl ⟨by rfl, ?_⟩) ?_ ?_
          rotate_left
          ·
           intro w'
           go_simp
           with_reducible rfl
          rotate_left
          ·
           simp only [Act.put, List.setIfInBounds_toArray, List.set_cons_zero, List.set_cons_succ, i64_w, i32_w]
           rfl
          refine pure_ (i := 1) (N := some 36) (v := ?_) (a' := ?_) #[true, true, false, false, false, false, false, false, false, false, false, false, false, false, false, false, false, false, false] rfl rfl (any_of HT_.out (by kernel_rfl)) (fun _ _ _ h => h) (Or.inl ⟨by rfl, ?_⟩) ?_ ?_
          rotate_left
          ·
           intro w'
           go_simp
           with_reducible rfl
          rotate_left
          ·
           simp only [Act.put, List.setIfInBounds_toArray, List.set_cons_zero, List.set_cons_succ, i64_w, i32_w]
           rfl
          refine pure_ (i := 2) (N := some 37) (v := ?_) (a' := ?_) #[true, true, true, false, false, false, false, false, false, false, false, false, false, false, false, false, false, false, false] rfl rfl (any_of HT_.out (by kernel_rfl)) (fun _ _ _ h => h) (Or.inl ⟨by rfl, ?_⟩) ?_ ?_
          rotate_left
          ·
           intro w'
           go_simp
           with_reducible rfl
          rotate_left
          ·
           simp only [Act.put, List.setIfInBounds_toArray, List.set_cons_zero, List.set_cons_succ, i64_w, i32_w]
           rfl
          refine pure_ (i := 3) (N := some 38) (v := ?_) (a' := ?_) #[true, true, true, true, false, false, false, false, false, false, false, false, false, false, false, false, false, false, false] rfl rfl (any_of HT_.out (by kernel_rfl)) (fun _ _ _ h => h) (Or.inl ⟨by rfl, ?_⟩) ?_ ?_
          rotate_left
          ·
           intro w'
           go_simp
           with_reducible rfl
          rotate_left
          ·
           simp only [Act.put, List.setIfInBounds_toArray, List.set_cons_zero, List.set_cons_succ, i64_w, i32_w]
           rfl
          refine pure_ (i := 5) (N := some 40) (v := ?_) (a' := ?_) #[true, true, true, true, false, true, false, false, false, false, false, false, false, false, false, false, false, false, false] rfl rfl (any_of HT_.out (by kernel_rfl)) (fun _ _ _ h => h) (Or.inl ⟨by rfl, ?_⟩) ?_ ?_
          rotate_left
          ·
           intro w'
           go_simp
           with_reducible rfl
          rotate_left
          ·
           simp only [Act.put, List.setIfInBounds_toArray, List.set_cons_zero, List.set_cons_succ, i64_w, i32_w]
           rfl
          refine pure_ (i := 6) (N := some 41) (v := ?_) (a' := ?_) #[true, true, true, true, false, true, true, false, false, false, false, false, false, false, false, false, false, false, false] rfl rfl (any_of HT_.out (by kernel_rfl)) (fun _ _ _ h => h) (Or.inl ⟨by rfl, ?_⟩) ?_ ?_
          rotate_left
          ·
           intro w'
           go_simp
           with_reducible rfl
          rotate_left
          ·
           simp only [Act.put, List.setIfInBounds_toArray, List.set_cons_zero, List.set_cons_succ, i64_w, i32_w]
           rfl
          refine pure_ (i := 7) (N := some 42) (v := ?_) (a' := ?_) #[true, true, true, true, false, true, true, true, false, false, false, false, false, false, false, false, false, false, false] rfl rfl (any_of HT_.out (by kernel_rfl)) (fun _ _ _ h => h) (Or.inl ⟨by rfl, ?_⟩) ?_ ?_
          rotate_left
          ·
           intro w'
           go_simp
           with_reducible rfl
          rotate_left
          ·
           simp only [Act.put, List.setIfInBounds_toArray, List.set_cons_zero, List.set_cons_succ, i64_w, i32_w]
           rfl
          refine pure_ (i := 9) (N := some 44) (v := ?_) (a' := ?_) #[true, true, true, true, false, true, true, true, false, true, false, false, false, false, false, false, false, false, false] rfl rfl (any_of HT_.out (by kernel_rfl)) (fun _ _ _ h => h) (Or.inl ⟨by rfl, ?_⟩) ?_ ?_
          rotate_left
          ·
           intro w'
           go_simp
           with_reducible rfl
          rotate_left
          ·
           simp only [Act.put, List.setIfInBounds_toArray, List.set_cons_zero, List.set_cons_succ, i64_w, i32_w]
           rfl
          refine pure_ (i := 10) (N := some 45) (v := ?_) (a' := ?_) #[true, true, true, true, false, true, true, true, false, true, true, false, false, false, false, false, false, false, false] rfl rfl (any_of HT_.out (by kernel_rfl)) (fun _ _ _ h => h) (Or.inl ⟨by rfl, ?_⟩) ?_ ?_
          rotate_left
          ·
           intro w'
           go_simp
           with_reducible rfl
          rotate_left
          ·
           simp only [Act.put, List.setIfInBounds_toArray, List.set_cons_zero, List.set_cons_succ, i64_w, i32_w]
           rfl
          refine pure_ (i := 11) (N := some 46) (v := ?_) (a' := ?_) #[true, true, true, true, false, true, true, true, false, true, true, true, false, false, false, false, false, false, false] rfl rfl (any_of HT_.out (by kernel_rfl)) (fun _ _ _ h => h) (Or.inl ⟨by rfl, ?_⟩) ?_ ?_
          rotate_left
          ·
           intro w'
           go_simp
           with_reducible rfl
          rotate_left
          ·
           simp only [Act.put, List.setIfInBounds_toArray, List.set_cons_zero, List.set_cons_succ, i64_w, i32_w]
           rfl
          refine pure_ (i := 12) (N := some 47) (v := ?_) (a' := ?_) #[true, true, true, true, false, true, true, true, false, true, true, true, true, false, false, false, false, false, false] rfl rfl (any_of HT_.out (by kernel_rfl)) (fun _ _ _ h => h) (Or.inl ⟨by rfl, ?_⟩) ?_ ?_
          rotate_left
          ·
           intro w'
           go_simp
           with_reducible rfl
          rotate_left
          ·
           simp only [Act.put, List.setIfInBounds_toArray, List.set_cons_zero, List.set_cons_succ, i64_w, i32_w]
           rfl
          refine pure_ (i := 14) (N := some 49) (v := ?_) (a' := ?_) #[true, true, true, true, false, true, true, true, false, true, true, true, true, false, true, false, false, false, false] rfl rfl (any_of HT_.out (by kernel_rfl)) (fun _ _ _ h => h) (Or.inl ⟨by rfl, ?_⟩) ?_ ?_
          rotate_left
          ·
           intro w'
           go_simp
           with_reducible rfl
          rotate_left
          ·
           simp only [Act.put, List.setIfInBounds_toArray, List.set_cons_zero, List.set_cons_succ, i64_w, i32_w]
           rfl
          refine one_ (i := 4) (N := some 39) #[true, true, true, true, true, true, true, true, false, true, true, true, true, false, true, false, false, false, false] rfl rfl (one_of HT_.out (by kernel_rfl)) (by decide) (fun K hK => ?_)
          refine goes_ Tryd.func105 (by kernel_rfl) rfl #[.slice A0 (l0.take (t1031 : Int).toNat).length c0, .int .i64 2] (by rfl) rfl rfl (by (try simp only [List.map_toArray, List.map_cons, List.map_nil]); first | done | (rw [show (l0.take (t1031 : Int).toNat).length = t1031.toNat from (by rw [List.length_take]; have h_ : (t1031 : Int) ≤ (l0.length : Int) := of_decide_eq_true (by first | (with_reducible assumption) | assumption); omega)] <;> rfl) | rfl | (simp only [List.length_drop, List.length_take]; rfl)) ?_
          with_reducible refine (galleyref07_Size.calls kj2 _ _ (l0.take (t1031 : Int).toNat) 2 t1039 _ ?side1 ?side2 A18.out).mono ?_
          (case side1 => repeat (first | exact (Kd.C_below HR1038.out HB.out) | (with_reducible refine Kd.C_alloc ?_ _) | (with_reducible refine Kd.C_drewN ?_ _) | (with_reducible refine Kd.C_drew ?_)))
          (case side2 => exact HC1038.out)
          rintro e w31 ⟨rfl, hb⟩
          refine ⟨_, rfl, ?_⟩
          have n0_ := Aside0.mk (Kd.R_below (by (with_reducible repeat (first | apply Kd.R_alloc | apply Kd.R_drewN | apply Kd.R_drew)); exact HO1034.out) hb)
          have n1_ := Aside0.mk (blk_below (g := gb1030) (o := .cells #[.int .i64 0, .int .i64 0, .int .i64 0, .int .i64 0, .int .i64 0, .int .i64 0, .int .i64 0] 79 (0, 0)) (by (with_reducible repeat (first | refine blk_drewN ?_ _ | refine blk_drew ?_ | refine blk_alloc ?_ _)); exact BK1030.out) hb)
          have n2_ := Aside0.mk (below_step (by repeat (first | (with_reducible first | exact HB.out | apply below_alloc | apply pw_below_drewN | apply below_drew1 | refine below_set ?_ GE1030.out) | exact HB.out)) hb)
          clear HO1034
          clear BK1030
          clear HB
          have HO1034 := n0_
          have BK1030 := n1_
          have HB := n2_
          clear n0_ n1_ n2_
          (try clear hb)
          (try clear hb2)
          (try clear hk)
          (try clear hi)
          refine hK.out _ _ trivial (fun hHeld => ?_)
          clear hK K
          refine norm_ (a' := ?_) ?_ ?_
          rotate_left
          ·
           show Act.put _ (some 39) _ = _
           simp only [Act.put, List.setIfInBounds_toArray, List.set_cons_zero, List.set_cons_succ, i64_w, i32_w]
           rfl
          refine one_ (i := 8) (N := some 43) #[true, true, true, true, true, true, true, true, true, true, true, true, true, false, true, false, false, false, false] rfl rfl (one_of HT_.out (by kernel_rfl)) (by decide) (fun K hK => ?_)
          refine goes_ Tryd.func105 (by kernel_rfl) rfl #[.slice A0 (l0.take (t1031 : Int).toNat).length c0, .int .i64 3] (by rfl) rfl rfl (by (try simp only [List.map_toArray, List.map_cons, List.map_nil]); first | done | (rw [show (l0.take (t1031 : Int).toNat).length = t1031.toNat from (by rw [List.length_take]; have h_ : (t1031 : Int) ≤ (l0.length : Int) := of_decide_eq_true (by first | (with_reducible assumption) | assumption); omega)] <;> rfl) | rfl | (simp only [List.length_drop, List.length_take]; rfl)) ?_
          with_reducible refine (galleyref07_Size.calls kj2 _ _ (l0.take (t1031 : Int).toNat) 3 t1041 _ ?side1 ?side2 A21.out).mono ?_
          (case side1 => repeat (first | exact (Kd.C_below HR1040.out HB.out) | (with_reducible refine Kd.C_alloc ?_ _) | (with_reducible refine Kd.C_drewN ?_ _) | (with_reducible refine Kd.C_drew ?_)))
          (case side2 => exact HC1040.out)
          rintro e w32 ⟨rfl, hb⟩
          refine ⟨_, rfl, ?_⟩
          have n0_ := Aside0.mk (Kd.R_below (by (with_reducible repeat (first | apply Kd.R_alloc | apply Kd.R_drewN | apply Kd.R_drew)); exact HO1034.out) hb)
          have n1_ := Aside0.mk (blk_below (g := gb1030) (o := .cells #[.int .i64 0, .int .i64 0, .int .i64 0, .int .i64 0, .int .i64 0, .int .i64 0, .int .i64 0] 79 (0, 0)) (by (with_reducible repeat (first | refine blk_drewN ?_ _ | refine blk_drew ?_ | refine blk_alloc ?_ _)); exact BK1030.out) hb)
          have n2_ := Aside0.mk (below_step (by repeat (first | (with_reducible first | exact HB.out | apply below_alloc | apply pw_below_drewN | apply below_drew1 | refine below_set ?_ GE1030.out) | exact HB.out)) hb)
          clear HO1034
          clear BK1030
          clear HB
          have HO1034 := n0_
          have BK1030 := n1_
          have HB := n2_
          clear n0_ n1_ n2_
          (try clear hb)
          (try clear hb2)
          (try clear hk)
          (try clear hi)
          refine hK.out _ _ trivial (fun hHeld => ?_)
          clear hK K
          refine norm_ (a' := ?_) ?_ ?_
          rotate_left
          ·
           show Act.put _ (some 43) _ = _
           simp only [Act.put, List.setIfInBounds_toArray, List.set_cons_zero, List.set_cons_succ, i64_w, i32_w]
           rfl
          refine one_ (i := 13) (N := some 48) #[true, true, true, true, true, true, true, true, true, true, true, true, true, true, true, false, false, false, false] rfl rfl (one_of HT_.out (by kernel_rfl)) (by decide) (fun K hK => ?_)
          refine goes_ Tryd.func105 (by kernel_rfl) rfl #[.slice A27 ((l0.take (t1031 : Int).toNat).drop (((rd_T88 t1032 t1035).f0) : Int).toNat).length (c0 - ((rd_T88 t1032 t1035).f0).toNat), .int .i64 2] (by rfl) rfl rfl (by (try simp only [List.map_toArray, List.map_cons, List.map_nil]); first | done | (rw [show ((l0.take (t1031 : Int).toNat).drop (((rd_T88 t1032 t1035).f0) : Int).toNat).length = (t1031.toNat - ((rd_T88 t1032 t1035).f0).toNat) from (by rw [List.length_drop, List.length_take]; have h_ : (t1031 : Int) ≤ (l0.length : Int) := of_decide_eq_true (by first | (with_reducible assumption) | assumption); omega)] <;> rfl) | rfl | (simp only [List.length_drop, List.length_take]; rfl)) ?_
          with_reducible refine (galleyref07_Size.calls kj2 _ _ ((l0.take (t1031 : Int).toNat).drop (((rd_T88 t1032 t1035).f0) : Int).toNat) 2 t1042 _ ?side1 ?side2 A22.out).mono ?_
          (case side1 => repeat (first | exact (Kd.C_below HR1037.out HB.out) | (with_reducible refine Kd.C_alloc ?_ _) | (with_reducible refine Kd.C_drewN ?_ _) | (with_reducible refine Kd.C_drew ?_)))
          (case side2 => exact HC1037.out)
          rintro e w33 ⟨rfl, hb⟩
          refine ⟨_, rfl, ?_⟩
          have n0_ := Aside0.mk (Kd.R_below (by (with_reducible repeat (first | apply Kd.R_alloc | apply Kd.R_drewN | apply Kd.R_drew)); exact HO1034.out) hb)
          have n1_ := Aside0.mk (blk_below (g := gb1030) (o := .cells #[.int .i64 0, .int .i64 0, .int .i64 0, .int .i64 0, .int .i64 0, .int .i64 0, .int .i64 0] 79 (0, 0)) (by (with_reducible repeat (first | refine blk_drewN ?_ _ | refine blk_drew ?_ | refine blk_alloc ?_ _)); exact BK1030.out) hb)
          have n2_ := Aside0.mk (below_step (by repeat (first | (with_reducible first | exact HB.out | apply below_alloc | apply pw_below_drewN | apply below_drew1 | refine below_set ?_ GE1030.out) | exact HB.out)) hb)
          clear HO1034
          clear BK1030
          clear HB
          have HO1034 := n0_
          have BK1030 := n1_
          have HB := n2_
          clear n0_ n1_ n2_
          (try clear hb)
          (try clear hb2)
          (try clear hk)
          (try clear hi)
          refine hK.out _ _ trivial (fun hHeld => ?_)
          clear hK K
          refine norm_ (a' := ?_) ?_ ?_
          rotate_left
          ·
           show Act.put _ (some 48) _ = _
           simp only [Act.put, List.setIfInBounds_toArray, List.set_cons_zero, List.set_cons_succ, i64_w, i32_w]
           rfl
          refine one_ (i := 15) (N := some 50) #[true, true, true, true, true, true, true, true, true, true, true, true, true, true, true, true, false, false, false] rfl rfl (one_of HT_.out (by kernel_rfl)) (by decide) (fun K hK => ?_)
          refine goes_ Tryd.func105 (by kernel_rfl) rfl #[.slice A27 ((l0.take (t1031 : Int).toNat).drop (((rd_T88 t1032 t1035).f0) : Int).toNat).length (c0 - ((rd_T88 t1032 t1035).f0).toNat), .int .i64 3] (by rfl) rfl rfl (by (try simp only [List.map_toArray, List.map_cons, List.map_nil]); first | done | (rw [show ((l0.take (t1031 : Int).toNat).drop (((rd_T88 t1032 t1035).f0) : Int).toNat).length = (t1031.toNat - ((rd_T88 t1032 t1035).f0).toNat) from (by rw [List.length_drop, List.length_take]; have h_ : (t1031 : Int) ≤ (l0.length : Int) := of_decide_eq_true (by first | (with_reducible assumption) | assumption); omega)] <;> rfl) | rfl | (simp only [List.length_drop, List.length_take]; rfl)) ?_
          with_reducible refine (galleyref07_Size.calls kj2 _ _ ((l0.take (t1031 : Int).toNat).drop (((rd_T88 t1032 t1035).f0) : Int).toNat) 3 t1043 _ ?side1 ?side2 A23.out).mono ?_
          (case side1 => repeat (first | exact (Kd.C_below HR1037.out HB.out) | (with_reducible refine Kd.C_alloc ?_ _) | (with_reducible refine Kd.C_drewN ?_ _) | (with_reducible refine Kd.C_drew ?_)))
          (case side2 => exact HC1037.out)
          rintro e w34 ⟨rfl, hb⟩
          refine ⟨_, rfl, ?_⟩
          have n0_ := Aside0.mk (Kd.R_below (by (with_reducible repeat (first | apply Kd.R_alloc | apply Kd.R_drewN | apply Kd.R_drew)); exact HO1034.out) hb)
          have n1_ := Aside0.mk (blk_below (g := gb1030) (o := .cells #[.int .i64 0, .int .i64 0, .int .i64 0, .int .i64 0, .int .i64 0, .int .i64 0, .int .i64 0] 79 (0, 0)) (by (with_reducible repeat (first | refine blk_drewN ?_ _ | refine blk_drew ?_ | refine blk_alloc ?_ _)); exact BK1030.out) hb)
          have n2_ := Aside0.mk (below_step (by repeat (first | (with_reducible first | exact HB.out | apply below_alloc | apply pw_below_drewN | apply below_drew1 | refine below_set ?_ GE1030.out) | exact HB.out)) hb)
          clear HO1034
          clear BK1030
          clear HB
          have HO1034 := n0_
          have BK1030 := n1_
          have HB := n2_
          clear n0_ n1_ n2_
          (try clear hb)
          (try clear hb2)
          (try clear hk)
          (try clear hi)
          refine hK.out _ _ trivial (fun hHeld => ?_)
          clear hK K
          refine norm_ (a' := ?_) ?_ ?_
          rotate_left
          ·
           show Act.put _ (some 50) _ = _
           simp only [Act.put, List.setIfInBounds_toArray, List.set_cons_zero, List.set_cons_succ, i64_w, i32_w]
           rfl
          refine pure_ (i := 16) (N := some 51) (v := ?_) (a' := ?_) #[true, true, true, true, true, true, true, true, true, true, true, true, true, true, true, true, true, false, false] rfl rfl (any_of HT_.out (by kernel_rfl)) (fun _ _ _ h => h) (Or.inl ⟨by rfl, ?_⟩) ?_ ?_
          rotate_left
          ·
           intro w'
           go_simp
           with_reducible rfl
          rotate_left
          ·
           simp only [Act.put, List.setIfInBounds_toArray, List.set_cons_zero, List.set_cons_succ, i64_w, i32_w]
           rfl
          refine one_ (i := 17) (N := none) #[true, true, true, true, true, true, true, true, true, true, true, true, true, true, true, true, true, true, false] rfl rfl (one_of HT_.out (by kernel_rfl)) (by decide) (fun K hK => ?_)
          have hs35 : w34.cell? ⟨gb1030, 0, none⟩ = some (.int .i64 0) := (blk_cell BK1030.out 0).trans rfl
          have hfs35 := blk_frozen BK1030.out 0
          have hs36 : w34.cell? ⟨gb1030, 1, none⟩ = some (.int .i64 0) := (blk_cell BK1030.out 1).trans rfl
          have hfs36 := blk_frozen BK1030.out 1
          have hs37 : w34.cell? ⟨gb1030, 2, none⟩ = some (.int .i64 0) := (blk_cell BK1030.out 2).trans rfl
          have hfs37 := blk_frozen BK1030.out 2
          have hs38 : w34.cell? ⟨gb1030, 3, none⟩ = some (.int .i64 0) := (blk_cell BK1030.out 3).trans rfl
          have hfs38 := blk_frozen BK1030.out 3
          have hs39 : w34.cell? ⟨gb1030, 4, none⟩ = some (.int .i64 0) := (blk_cell BK1030.out 4).trans rfl
          have hfs39 := blk_frozen BK1030.out 4
          have hs40 : w34.cell? ⟨gb1030, 5, none⟩ = some (.int .i64 0) := (blk_cell BK1030.out 5).trans rfl
          have hfs40 := blk_frozen BK1030.out 5
          have hs41 : w34.cell? ⟨gb1030, 6, none⟩ = some (.int .i64 0) := (blk_cell BK1030.out 6).trans rfl
          have hfs41 := blk_frozen BK1030.out 6
          refine skip_ (w1 := ?_) (by rfl) rfl ?_ ?_
          rotate_left
          ·
           go_simp
           rfl
          refine hK.out _ _ trivial (fun hHeld => ?_)
          clear hK K
          refine pure_ (i := 18) (N := some 5) (v := ?_) (a' := ?_) #[true, true, true, true, true, true, true, true, true, true, true, true, true, true, true, true, true, true, true] rfl rfl (any_of HT_.out (by kernel_rfl)) (fun _ _ _ h => h) (Or.inl ⟨by rfl, ?_⟩) ?_ ?_
          rotate_left
          ·
           intro w'
           go_simp
           with_reducible rfl
          rotate_left
          ·
           simp only [Act.put, List.setIfInBounds_toArray, List.set_cons_zero, List.set_cons_succ, i64_w, i32_w]
           rfl
          refine done_ (done_of HT_.out (by kernel_rfl)) ?_
          try go_wp2
          have hlenA : (List.take (t1031 : Int).toNat l0).length = (t1031 : Int).toNat := by
           have := of_decide_eq_true c15b1
           have := of_decide_eq_true c16b1
           rw [List.length_take]
           omega
          have hlenB : (List.drop ((rd_T88 t1032 t1035).f0 : Int).toNat (List.take (t1031 : Int).toNat l0)).length = (t1031 : Int).toNat - ((rd_T88 t1032 t1035).f0 : Int).toNat := by
           rw [List.length_drop, hlenA]
          rw [← hlenB]
          refine bodyPost_ret (results_ct rfl _ _ gb1030 79 #[.int .i64 t1031, .int .i64 t1039, .int .i64 t1041, .int .i64 t1035, .int .i64 (((l0.take (t1031 : Int).toNat).drop (((rd_T88 t1032 t1035).f0) : Int).toNat).length : Int), .int .i64 t1042, .int .i64 t1043] (0, 0) _ rfl (by (with_reducible repeat (first | refine blk_drewN ?_ _ | refine blk_drew ?_ | refine blk_alloc ?_ _)); refine blk_put (cs := #[.int .i64 t1031, .int .i64 t1039, .int .i64 t1041, .int .i64 t1035, .int .i64 (((l0.take (t1031 : Int).toNat).drop (((rd_T88 t1032 t1035).f0) : Int).toNat).length : Int), .int .i64 t1042, .int .i64 0]) ?_ 6 _ rfl; (with_reducible repeat (first | refine blk_drewN ?_ _ | refine blk_drew ?_ | refine blk_alloc ?_ _)); refine blk_put (cs := #[.int .i64 t1031, .int .i64 t1039, .int .i64 t1041, .int .i64 t1035, .int .i64 (((l0.take (t1031 : Int).toNat).drop (((rd_T88 t1032 t1035).f0) : Int).toNat).length : Int), .int .i64 0, .int .i64 0]) ?_ 5 _ rfl; (with_reducible repeat (first | refine blk_drewN ?_ _ | refine blk_drew ?_ | refine blk_alloc ?_ _)); refine blk_put (cs := #[.int .i64 t1031, .int .i64 t1039, .int .i64 t1041, .int .i64 t1035, .int .i64 0, .int .i64 0, .int .i64 0]) ?_ 4 _ rfl; (with_reducible repeat (first | refine blk_drewN ?_ _ | refine blk_drew ?_ | refine blk_alloc ?_ _)); refine blk_put (cs := #[.int .i64 t1031, .int .i64 t1039, .int .i64 t1041, .int .i64 0, .int .i64 0, .int .i64 0, .int .i64 0]) ?_ 3 _ rfl; (with_reducible repeat (first | refine blk_drewN ?_ _ | refine blk_drew ?_ | refine blk_alloc ?_ _)); refine blk_put (cs := #[.int .i64 t1031, .int .i64 t1039, .int .i64 0, .int .i64 0, .int .i64 0, .int .i64 0, .int .i64 0]) ?_ 2 _ rfl; (with_reducible repeat (first | refine blk_drewN ?_ _ | refine blk_drew ?_ | refine blk_alloc ?_ _)); refine blk_put (cs := #[.int .i64 t1031, .int .i64 0, .int .i64 0, .int .i64 0, .int .i64 0, .int .i64 0, .int .i64 0]) ?_ 1 _ rfl; (with_reducible repeat (first | refine blk_drewN ?_ _ | refine blk_drew ?_ | refine blk_alloc ?_ _)); refine blk_put (cs := #[.int .i64 0, .int .i64 0, .int .i64 0, .int .i64 0, .int .i64 0, .int .i64 0, .int .i64 0]) ?_ 0 _ rfl; (with_reducible repeat (first | refine blk_drewN ?_ _ | refine blk_drew ?_ | refine blk_alloc ?_ _)); exact BK1030.out) Tryd.underlying79 rfl (by kernel_rfl)) rfl ?_
          exact ⟨by first | rfl | (simp [errW_none, errW_some] <;> rfl) | (simp [*, errW_none, errW_some] <;> rfl), by repeat (first | (with_reducible first | exact HB.out | apply below_alloc | apply pw_below_drewN | apply below_drew1 | refine below_set ?_ GE1030.out) | exact HB.out)⟩
         ·
          rw [if_neg c16] at H
          exact absurd H (by simp)
        ·
         rw [if_neg c15] at H
         exact absurd H (by simp)
       ·
        rw [if_neg c14] at H
        exact absurd H (by simp)
      ·
       rw [if_neg c13] at H
       exact absurd H (by simp)
     ·
      rw [if_neg c12] at H
      exact absurd H (by simp)
    ·
     rw [if_neg c11] at H
     exact absurd H (by simp)
end Go.Proofs.YtbomhpfckplgaaaDoor.P
namespace Go.Proofs.YtbomhpfckplgaaaDoor.P
open Go.RowKit Go.Proofs.YtbomhpfckplgaaaDoorW.PrintWords Go.Proofs.YtbomhpfckplgaaaDoorW.PrintLast Go.Proofs.YtbomhpfckplgaaaDoorW.PrintMore
attribute [local go_sem] max2_int min2_int max_two min_two max_three min_three max_four min_four   -- for this text's walks alone
set_option linter.unusedVariables false
set_option linter.unusedSimpArgs false
def galleyref07_Column.f (a0_0 : Int) (a0_1 : Int) (a0_2 : Int) (a0_3 : Int) (a0_4 : Int) (a0_5 : Int) (a0_6 : Int) (a1 : Int) : Option (Int) := if a1 = 1 then (some a0_4) else (if a1 = 2 then (some a0_5) else (some a0_6))
set_option maxHeartbeats 8000000 in
set_option maxRecDepth 100000 in
theorem galleyref07_Column.calls (a0_0 : Int) (a0_1 : Int) (a0_2 : Int) (a0_3 : Int) (a0_4 : Int) (a0_5 : Int) (a0_6 : Int) (a1 : Int) (r : Int) (w : World) (h : galleyref07_Column.f a0_0 a0_1 a0_2 a0_3 a0_4 a0_5 a0_6 a1 = some r) :
  Calls Tryd.prog 109 #[.agg #[.int .i64 a0_0, .int .i64 a0_1, .int .i64 a0_2, .int .i64 a0_3, .int .i64 a0_4, .int .i64 a0_5, .int .i64 a0_6], .int .i64 a1] w fun e w' => e = .returned (.int .i64 r) ∧ Below w.heap.size w w' := by
 have hu79 := Tryd.underlying79
 have HB := Aside0.mk (Below.refl w.heap.size w)
 have H : (if a1 = 1 then (some a0_4) else (if a1 = 2 then (some a0_5) else (some a0_6))) = some r := h
 clear h
 by_cases c3 : a1 = 1
 ·
  rw [if_pos c3] at H
  have c3b0 : (a1 == 1) = true := beq_iff_eq.mpr c3
  have c3b1 : (a1 != 1) = false := bne_eq_false_iff_eq.mpr c3
  clear c3
  obtain rfl := Option.some.inj H
  go_enter Tryd.func109, Tryd.ntmps109
  go_wp2_with (first | ((with_reducible refine gate_dst (N := 2) rfl ?_); refine box_event ?hg (N := 2) ?hd (cs := #[.int .i64 a0_0, .int .i64 a0_1, .int .i64 a0_2, .int .i64 a0_3, .int .i64 a0_4, .int .i64 a0_5, .int .i64 a0_6]) (t := 79) ?hr ?_; (case hd => rfl); (case hg => rfl); (case hr => first | (go_simp; done) | (go_simp; rfl)); intro gb1044 hg w4 hbox hb; have n0_ := Aside0.mk (below_step (by repeat (first | (with_reducible first | exact HB.out | apply below_alloc | apply pw_below_drewN | apply below_drew1) | exact HB.out)) hb); have n1_ := Aside0.mk (hbox); have n2_ := Aside0.mk ((by rw [hg]; exact (below_size (by repeat (first | (with_reducible first | exact HB.out | apply below_alloc | apply pw_below_drewN | apply below_drew1) | exact HB.out))) : w.heap.size ≤ gb1044)); have n3_ := Aside0.mk ((by rw [hg]; exact (below_size (by repeat (first | (with_reducible first | exact HB.out | apply below_alloc | apply pw_below_drewN | apply below_drew1) | exact HB.out))) : w.heap.size ≤ gb1044)); clear HB; have HB := n0_; have BK1044 := n1_; have GW1044 := n2_; have GE1044 := n3_; clear n0_ n1_ n2_ n3_; clear hb hbox hg; have hcz5_0 : w4.cell? ⟨gb1044, 0, none⟩ = some (.int .i64 a0_0) := (blk_cell BK1044.out 0).trans rfl; have hcz5_1 : w4.cell? ⟨gb1044, 1, none⟩ = some (.int .i64 a0_1) := (blk_cell BK1044.out 1).trans rfl; have hcz5_2 : w4.cell? ⟨gb1044, 2, none⟩ = some (.int .i64 a0_2) := (blk_cell BK1044.out 2).trans rfl; have hcz5_3 : w4.cell? ⟨gb1044, 3, none⟩ = some (.int .i64 a0_3) := (blk_cell BK1044.out 3).trans rfl; have hcz5_4 : w4.cell? ⟨gb1044, 4, none⟩ = some (.int .i64 a0_4) := (blk_cell BK1044.out 4).trans rfl; have hcz5_5 : w4.cell? ⟨gb1044, 5, none⟩ = some (.int .i64 a0_5) := (blk_cell BK1044.out 5).trans rfl; have hcz5_6 : w4.cell? ⟨gb1044, 6, none⟩ = some (.int .i64 a0_6) := (blk_cell BK1044.out 6).trans rfl; have hfz5_0 := blk_frozen BK1044.out 0; have hfz5_1 := blk_frozen BK1044.out 1; have hfz5_2 := blk_frozen BK1044.out 2; have hfz5_3 := blk_frozen BK1044.out 3; have hfz5_4 := blk_frozen BK1044.out 4; have hfz5_5 := blk_frozen BK1044.out 5; have hfz5_6 := blk_frozen BK1044.out 6))
  go_ret
  exact ⟨by first | rfl | (simp [errW_none, errW_some] <;> rfl) | (simp [*, errW_none, errW_some] <;> rfl), by repeat (first | (with_reducible first | exact HB.out | apply below_alloc | apply pw_below_drewN | apply below_drew1 | refine below_set ?_ GE1044.out) | exact HB.out)⟩
 ·
  rw [if_neg c3] at H
  have c3b0 : (a1 == 1) = false := beq_eq_false_iff_ne.mpr c3
  have c3b1 : (a1 != 1) = true := bne_iff_ne.mpr c3
  by_cases c6 : a1 = 2
  ·
   rw [if_pos c6] at H
   have c6b0 : (a1 == 2) = true := beq_iff_eq.mpr c6
   have c6b1 : (a1 != 2) = false := bne_eq_false_iff_eq.mpr c6
   clear c6
   obtain rfl := Option.some.inj H
   go_enter Tryd.func109, Tryd.ntmps109
   go_wp2_with (first | ((with_reducible refine gate_dst (N := 2) rfl ?_); refine box_event ?hg (N := 2) ?hd (cs := #[.int .i64 a0_0, .int .i64 a0_1, .int .i64 a0_2, .int .i64 a0_3, .int .i64 a0_4, .int .i64 a0_5, .int .i64 a0_6]) (t := 79) ?hr ?_; (case hd => rfl); (case hg => rfl); (case hr => first | (go_simp; done) | (go_simp; rfl)); intro gb1044 hg w7 hbox hb; have n0_ := Aside0.mk (below_step (by repeat (first | (with_reducible first | exact HB.out | apply below_alloc | apply pw_below_drewN | apply below_drew1) | exact HB.out)) hb); have n1_ := Aside0.mk (hbox); have n2_ := Aside0.mk ((by rw [hg]; exact (below_size (by repeat (first | (with_reducible first | exact HB.out | apply below_alloc | apply pw_below_drewN | apply below_drew1) | exact HB.out))) : w.heap.size ≤ gb1044)); have n3_ := Aside0.mk ((by rw [hg]; exact (below_size (by repeat (first | (with_reducible first | exact HB.out | apply below_alloc | apply pw_below_drewN | apply below_drew1) | exact HB.out))) : w.heap.size ≤ gb1044)); clear HB; have HB := n0_; have BK1044 := n1_; have GW1044 := n2_; have GE1044 := n3_; clear n0_ n1_ n2_ n3_; clear hb hbox hg; have hcz8_0 : w7.cell? ⟨gb1044, 0, none⟩ = some (.int .i64 a0_0) := (blk_cell BK1044.out 0).trans rfl; have hcz8_1 : w7.cell? ⟨gb1044, 1, none⟩ = some (.int .i64 a0_1) := (blk_cell BK1044.out 1).trans rfl; have hcz8_2 : w7.cell? ⟨gb1044, 2, none⟩ = some (.int .i64 a0_2) := (blk_cell BK1044.out 2).trans rfl; have hcz8_3 : w7.cell? ⟨gb1044, 3, none⟩ = some (.int .i64 a0_3) := (blk_cell BK1044.out 3).trans rfl; have hcz8_4 : w7.cell? ⟨gb1044, 4, none⟩ = some (.int .i64 a0_4) := (blk_cell BK1044.out 4).trans rfl; have hcz8_5 : w7.cell? ⟨gb1044, 5, none⟩ = some (.int .i64 a0_5) := (blk_cell BK1044.out 5).trans rfl; have hcz8_6 : w7.cell? ⟨gb1044, 6, none⟩ = some (.int .i64 a0_6) := (blk_cell BK1044.out 6).trans rfl; have hfz8_0 := blk_frozen BK1044.out 0; have hfz8_1 := blk_frozen BK1044.out 1; have hfz8_2 := blk_frozen BK1044.out 2; have hfz8_3 := blk_frozen BK1044.out 3; have hfz8_4 := blk_frozen BK1044.out 4; have hfz8_5 := blk_frozen BK1044.out 5; have hfz8_6 := blk_frozen BK1044.out 6))
   go_ret
   exact ⟨by first | rfl | (simp [errW_none, errW_some] <;> rfl) | (simp [*, errW_none, errW_some] <;> rfl), by repeat (first | (with_reducible first | exact HB.out | apply below_alloc | apply pw_below_drewN | apply below_drew1 | refine below_set ?_ GE1044.out) | exact HB.out)⟩
  ·
   rw [if_neg c6] at H
   have c6b0 : (a1 == 2) = false := beq_eq_false_iff_ne.mpr c6
   have c6b1 : (a1 != 2) = true := bne_iff_ne.mpr c6
   obtain rfl := Option.some.inj H
   go_enter Tryd.func109, Tryd.ntmps109
   go_wp2_with (first | ((with_reducible refine gate_dst (N := 2) rfl ?_); refine box_event ?hg (N := 2) ?hd (cs := #[.int .i64 a0_0, .int .i64 a0_1, .int .i64 a0_2, .int .i64 a0_3, .int .i64 a0_4, .int .i64 a0_5, .int .i64 a0_6]) (t := 79) ?hr ?_; (case hd => rfl); (case hg => rfl); (case hr => first | (go_simp; done) | (go_simp; rfl)); intro gb1044 hg w9 hbox hb; have n0_ := Aside0.mk (below_step (by repeat (first | (with_reducible first | exact HB.out | apply below_alloc | apply pw_below_drewN | apply below_drew1) | exact HB.out)) hb); have n1_ := Aside0.mk (hbox); have n2_ := Aside0.mk ((by rw [hg]; exact (below_size (by repeat (first | (with_reducible first | exact HB.out | apply below_alloc | apply pw_below_drewN | apply below_drew1) | exact HB.out))) : w.heap.size ≤ gb1044)); have n3_ := Aside0.mk ((by rw [hg]; exact (below_size (by repeat (first | (with_reducible first | exact HB.out | apply below_alloc | apply pw_below_drewN | apply below_drew1) | exact HB.out))) : w.heap.size ≤ gb1044)); clear HB; have HB := n0_; have BK1044 := n1_; have GW1044 := n2_; have GE1044 := n3_; clear n0_ n1_ n2_ n3_; clear hb hbox hg; have hcz10_0 : w9.cell? ⟨gb1044, 0, none⟩ = some (.int .i64 a0_0) := (blk_cell BK1044.out 0).trans rfl; have hcz10_1 : w9.cell? ⟨gb1044, 1, none⟩ = some (.int .i64 a0_1) := (blk_cell BK1044.out 1).trans rfl; have hcz10_2 : w9.cell? ⟨gb1044, 2, none⟩ = some (.int .i64 a0_2) := (blk_cell BK1044.out 2).trans rfl; have hcz10_3 : w9.cell? ⟨gb1044, 3, none⟩ = some (.int .i64 a0_3) := (blk_cell BK1044.out 3).trans rfl; have hcz10_4 : w9.cell? ⟨gb1044, 4, none⟩ = some (.int .i64 a0_4) := (blk_cell BK1044.out 4).trans rfl; have hcz10_5 : w9.cell? ⟨gb1044, 5, none⟩ = some (.int .i64 a0_5) := (blk_cell BK1044.out 5).trans rfl; have hcz10_6 : w9.cell? ⟨gb1044, 6, none⟩ = some (.int .i64 a0_6) := (blk_cell BK1044.out 6).trans rfl; have hfz10_0 := blk_frozen BK1044.out 0; have hfz10_1 := blk_frozen BK1044.out 1; have hfz10_2 := blk_frozen BK1044.out 2; have hfz10_3 := blk_frozen BK1044.out 3; have hfz10_4 := blk_frozen BK1044.out 4; have hfz10_5 := blk_frozen BK1044.out 5; have hfz10_6 := blk_frozen BK1044.out 6))
   go_ret
   exact ⟨by first | rfl | (simp [errW_none, errW_some] <;> rfl) | (simp [*, errW_none, errW_some] <;> rfl), by repeat (first | (with_reducible first | exact HB.out | apply below_alloc | apply pw_below_drewN | apply below_drew1 | refine below_set ?_ GE1044.out) | exact HB.out)⟩
def galleyref07_Spot.j0 : Nat → List Int → Int → Int → Bool → Option (Int × Int × Int)
 | 0, _, _, _, _ => none
 | k + 1, x0, x1, x2, x15 => if x15 = true then (some (0, 0, 3)) else ((galleyref07_Where.f k x0 x1).bind fun bt1046 => (if bt1046.2.2.2.2.2.2.2 = 0 then ((galleyref07_Column.f bt1046.1 bt1046.2.1 bt1046.2.2.1 bt1046.2.2.2.1 bt1046.2.2.2.2.1 bt1046.2.2.2.2.2.1 bt1046.2.2.2.2.2.2.1 x2).bind fun t1055 => (some (bt1046.2.2.2.1, t1055, 0))) else (some (0, 0, bt1046.2.2.2.2.2.2.2))))
def galleyref07_Spot.f (k : Nat) (l0 : List Int) (a1 : Int) (a2 : Int) : Option (Int × Int × Int) := if a2 < 1 then (galleyref07_Spot.j0 k l0 a1 a2 true) else (galleyref07_Spot.j0 k l0 a1 a2 (decide (a2 > 3)))
def galleyref07_Spot.T6 : Bool × List (List Nat × List Nat) := (true, [([], []), ([0], [0]), ([], []), ([], []), ([2, 3], [2, 3]), ([1, 4], [1, 4]), ([5, 4, 0, 1, 2, 3, 4, 5], [5]), ([6, 0, 1, 2, 3, 4, 5, 6], [])])
def galleyref07_Spot.B6 : List Nat := [0, 1, 0, 0, 12, 31, 63, 127]
theorem galleyref07_Spot.tab6 : rtab .any (opsOf Tryd.f68 6) = galleyref07_Spot.T6 := by kernel_rfl
theorem galleyref07_Spot.bits6 : waitsOk galleyref07_Spot.T6.2 galleyref07_Spot.B6 = true := by kernel_rfl
set_option maxHeartbeats 8000000 in
set_option maxRecDepth 100000 in
theorem galleyref07_Spot.calls (k : Nat) (A0 : Option Addr) (c0 : Nat) (l0 : List Int) (a1 : Int) (a2 : Int) (r1 : Int) (r2 : Int) (r3 : Int) (w : World) (hr0 : Kd.C (Kd.int .u8) w A0 l0.length l0) (hc0 : l0.length ≤ c0) (h : galleyref07_Spot.f k l0 a1 a2 = some (r1, r2, r3)) :
  Calls Tryd.prog 68 #[.slice A0 l0.length c0, .int .i64 a1, .int .i64 a2] w fun e w' => e = .returned (.tuple #[.agg #[.int .i64 r1, .int .i64 r2], .int .i64 r3]) ∧ Below w.heap.size w w' := by
 have hu71 := Tryd.underlying71
 have hu79 := Tryd.underlying79
 have HR0 := Aside0.mk hr0
 have HC0 := Aside0.mk hc0
 clear hr0 hc0
 have HB := Aside0.mk (Below.refl w.heap.size w)
 have H : (if a2 < 1 then (galleyref07_Spot.j0 k l0 a1 a2 true) else (galleyref07_Spot.j0 k l0 a1 a2 (decide (a2 > 3)))) = some (r1, r2, r3) := h
 clear h
 have HC4 := Aside0.mk H
 clear H
 go_enter Tryd.func68, Tryd.ntmps68
 go_upto_region 1 with (first | ((with_reducible refine gate_dst (N := 6) rfl ?_); refine box_event ?hg (N := 6) ?hd (cs := #[.int .i64 0, .int .i64 0]) (t := 71) ?hr ?_; (case hd => rfl); (case hg => rfl); (case hr => first | (go_simp; done) | (go_simp; rfl)); intro gb1045 hg w5 hbox hb; have n0_ := Aside0.mk (below_step (by repeat (first | (with_reducible first | exact HB.out | apply below_alloc | apply pw_below_drewN | apply below_drew1) | exact HB.out)) hb); have n1_ := Aside0.mk (hbox); have n2_ := Aside0.mk ((by rw [hg]; exact (below_size (by repeat (first | (with_reducible first | exact HB.out | apply below_alloc | apply pw_below_drewN | apply below_drew1) | exact HB.out))) : w.heap.size ≤ gb1045)); have n3_ := Aside0.mk ((by rw [hg]; exact (below_size (by repeat (first | (with_reducible first | exact HB.out | apply below_alloc | apply pw_below_drewN | apply below_drew1) | exact HB.out))) : w.heap.size ≤ gb1045)); clear HB; have HB := n0_; have BK1045 := n1_; have GW1045 := n2_; have GE1045 := n3_; clear n0_ n1_ n2_ n3_; clear hb hbox hg))
 (try simp only [Act.put, List.setIfInBounds_toArray, List.set_cons_zero, List.set_cons_succ])
 go_cut [15] (fun v15 wc => ∃ (kq : Nat) (x15_3 : Bool), v15 = .bool x15_3 ∧ Aside0 (galleyref07_Spot.j0 kq l0 a1 a2 x15_3 = some (r1, r2, r3)) ∧ Aside0 (kq ≤ k) ∧ Aside0 (wc.heap[gb1045]? = some (.cells #[.int .i64 0, .int .i64 0] 71 (0, 0))) ∧ Aside0 (Below w.heap.size w wc))
 case first =>
  have H := HC4.out
  clear HC4
  by_cases c6 : a2 < 1
  ·
   rw [if_pos c6] at H
   have c6b0 : decide (a2 < 1) = true := decide_eq_true c6
   clear c6
   (first | rw [c6b0] | (simp only [i64_w, i32_w]; rw [c6b0]) | skip)
   have H' := Aside0.mk H
   clear H
   go_wp2
   go_meet
   case rel => exact ⟨_, (true), (by first | rfl | (simp; done) | (simp [*]; done)), H', ⟨by first | omega | exact Nat.le_refl _⟩, ⟨by (with_reducible repeat (first | refine blk_drewN ?_ _ | refine blk_drew ?_ | refine blk_alloc ?_ _)); exact BK1045.out⟩, ⟨by repeat (first | (with_reducible first | exact HB.out | apply below_alloc | apply pw_below_drewN | apply below_drew1 | refine below_set ?_ GE1045.out) | exact HB.out)⟩⟩
  ·
   rw [if_neg c6] at H
   have c6b0 : decide (a2 < 1) = false := decide_eq_false c6
   clear c6
   (first | rw [c6b0] | (simp only [i64_w, i32_w]; rw [c6b0]) | skip)
   have H' := Aside0.mk H
   clear H
   go_wp2
   go_meet
   case rel => exact ⟨_, (decide (a2 > 3)), (by first | rfl | (simp; done) | (simp [*]; done)), H', ⟨by first | omega | exact Nat.le_refl _⟩, ⟨by (with_reducible repeat (first | refine blk_drewN ?_ _ | refine blk_drew ?_ | refine blk_alloc ?_ _)); exact BK1045.out⟩, ⟨by repeat (first | (with_reducible first | exact HB.out | apply below_alloc | apply pw_below_drewN | apply below_drew1 | refine below_set ?_ GE1045.out) | exact HB.out)⟩⟩
 case rest =>
  clear HC4
  (try clear p2); (try clear c6); (try clear c6b0)
  obtain ⟨kq, x15_3, rfl, HA, HJ3, BK1045, HB⟩ := hcut
  cases kq with
  | zero => exact absurd HA.out (by simp [galleyref07_Spot.j0])
  | succ kj3 =>
   have H := HA.out
   clear HA
   simp only [galleyref07_Spot.j0] at H
   by_cases c7 : x15_3 = true
   ·
    subst c7
    have H1 : (some (0, 0, 3)) = some (r1, r2, r3) := by rw [if_pos rfl] at H; exact H
    clear H
    have H := H1
    clear H1
    simp only [Option.some.injEq, Prod.mk.injEq] at H
    obtain ⟨rfl, rfl, rfl⟩ := H
    have hcz8_0 : wc.cell? ⟨gb1045, 0, none⟩ = some (.int .i64 0) := (blk_cell BK1045.out 0).trans rfl
    have hcz8_1 : wc.cell? ⟨gb1045, 1, none⟩ = some (.int .i64 0) := (blk_cell BK1045.out 1).trans rfl
    have hfz8_0 := blk_frozen BK1045.out 0
    have hfz8_1 := blk_frozen BK1045.out 1
    go_wp2
    refine bodyPost_ret (results_ct rfl _ _ gb1045 71 #[.int .i64 0, .int .i64 0] (0, 0) _ rfl (by (with_reducible repeat (first | refine blk_drewN ?_ _ | refine blk_drew ?_ | refine blk_alloc ?_ _)); refine blk_put (cs := #[.int .i64 0, .int .i64 0]) ?_ 1 _ rfl; (with_reducible repeat (first | refine blk_drewN ?_ _ | refine blk_drew ?_ | refine blk_alloc ?_ _)); refine blk_put (cs := #[.int .i64 0, .int .i64 0]) ?_ 0 _ rfl; (with_reducible repeat (first | refine blk_drewN ?_ _ | refine blk_drew ?_ | refine blk_alloc ?_ _)); exact BK1045.out) Tryd.underlying71 rfl (by kernel_rfl)) rfl ?_
    exact ⟨by first | rfl | (simp [errW_none, errW_some] <;> rfl) | (simp [*, errW_none, errW_some] <;> rfl), by repeat (first | (with_reducible first | exact HB.out | apply below_alloc | apply pw_below_drewN | apply below_drew1 | refine below_set ?_ GE1045.out) | exact HB.out)⟩
   ·
    replace c7 := Bool.eq_false_iff.mpr c7
    subst c7
    have H1 : ((galleyref07_Where.f kj3 l0 a1).bind fun bt1046 => (if bt1046.2.2.2.2.2.2.2 = 0 then ((galleyref07_Column.f bt1046.1 bt1046.2.1 bt1046.2.2.1 bt1046.2.2.2.1 bt1046.2.2.2.2.1 bt1046.2.2.2.2.2.1 bt1046.2.2.2.2.2.2.1 a2).bind fun t1055 => (some (bt1046.2.2.2.1, t1055, 0))) else (some (0, 0, bt1046.2.2.2.2.2.2.2)))) = some (r1, r2, r3) := by rw [if_neg (show ¬ (false = true) by decide)] at H; exact H
    clear H
    have H := H1
    clear H1
    replace H := Option.bind_eq_some_iff.mp H
    obtain ⟨⟨t1046, t1047, t1048, t1049, t1050, t1051, t1052, t1053⟩, A90, H⟩ := H
    replace H : (if t1053 = 0 then ((galleyref07_Column.f t1046 t1047 t1048 t1049 t1050 t1051 t1052 a2).bind fun t1055 => (some (t1049, t1055, 0))) else (some (0, 0, t1053))) = some (r1, r2, r3) := H
    have A9 := Aside0.mk A90
    clear A90
    by_cases c10 : t1053 = 0
    ·
     rw [if_pos c10] at H
     have c10b0 : (t1053 == 0) = true := beq_iff_eq.mpr c10
     have c10b1 : (t1053 != 0) = false := bne_eq_false_iff_eq.mpr c10
     clear c10
     replace H := Option.bind_eq_some_iff.mp H
     obtain ⟨t1055, A110, H⟩ := H
     replace H : (some (t1049, t1055, 0)) = some (r1, r2, r3) := H
     have A11 := Aside0.mk A110
     clear A110
     simp only [Option.some.injEq, Prod.mk.injEq] at H
     obtain ⟨rfl, rfl, rfl⟩ := H
     try go_wp2_with (first | ((with_reducible refine gate_callee (f := 66) rfl ?_); refine goesL_ (some 20) rfl rfl Tryd.func66 (by kernel_rfl) rfl #[.slice A0 l0.length c0, .int .i64 a1] rfl (by (try simp only [List.map_toArray, List.map_cons, List.map_nil]); first | done | rfl | (simp only [List.length_drop, List.length_take]; rfl)) ?_; (with_reducible refine (galleyref07_Where.calls kj3 _ _ l0 a1 t1046 t1047 t1048 t1049 t1050 t1051 t1052 t1053 _ ?side1 ?side2 A9.out).mono ?_); (case side1 => repeat (first | exact (Kd.C_below HR0.out HB.out) | (with_reducible refine Kd.C_alloc ?_ _) | (with_reducible refine Kd.C_drewN ?_ _) | (with_reducible refine Kd.C_drew ?_))); (case side2 => exact HC0.out); rintro e w12 ⟨rfl, hb⟩; refine ⟨_, rfl, ?_⟩; have n0_ := Aside0.mk (blk_below (g := gb1045) (o := .cells #[.int .i64 0, .int .i64 0] 71 (0, 0)) (by (with_reducible repeat (first | refine blk_drewN ?_ _ | refine blk_drew ?_ | refine blk_alloc ?_ _)); exact BK1045.out) hb); have n1_ := Aside0.mk (below_step (by repeat (first | (with_reducible first | exact HB.out | apply below_alloc | apply pw_below_drewN | apply below_drew1 | refine below_set ?_ GE1045.out) | exact HB.out)) hb); clear BK1045; clear HB; have BK1045 := n0_; have HB := n1_; clear n0_ n1_; (try clear hb); (try clear hb2); (try clear hk); (try clear hi)) | ((with_reducible refine gate_dst (N := 8) rfl ?_); refine box_event ?hg (N := 8) ?hd (cs := #[.int .i64 0, .int .i64 0, .int .i64 0, .int .i64 0, .int .i64 0, .int .i64 0, .int .i64 0]) (t := 79) ?hr ?_; (case hd => rfl); (case hg => rfl); (case hr => first | (go_simp; done) | (go_simp; rfl)); intro gb1054 hg w13 hbox hb; have n0_ := Aside0.mk (blk_below (g := gb1045) (o := .cells #[.int .i64 0, .int .i64 0] 71 (0, 0)) (by (with_reducible repeat (first | refine blk_drewN ?_ _ | refine blk_drew ?_ | refine blk_alloc ?_ _)); exact BK1045.out) hb); have n1_ := Aside0.mk (below_step (by repeat (first | (with_reducible first | exact HB.out | apply below_alloc | apply pw_below_drewN | apply below_drew1 | refine below_set ?_ GE1045.out) | exact HB.out)) hb); have n2_ := Aside0.mk (hbox); have n3_ := Aside0.mk ((by rw [hg]; exact (below_size (by repeat (first | (with_reducible first | exact HB.out | apply below_alloc | apply pw_below_drewN | apply below_drew1 | refine below_set ?_ GE1045.out) | exact HB.out))) : w.heap.size ≤ gb1054)); have n4_ := Aside0.mk ((by rw [hg]; exact (below_size (by repeat (first | (with_reducible first | exact HB.out | apply below_alloc | apply pw_below_drewN | apply below_drew1 | refine below_set ?_ GE1045.out) | exact HB.out))) : w.heap.size ≤ gb1054)); have n5_ := Aside0.mk ((by rw [hg]; exact Nat.ne_of_lt (blk_lt (g := gb1045) (o := .cells #[.int .i64 0, .int .i64 0] 71 (0, 0)) (by (with_reducible repeat (first | refine blk_drewN ?_ _ | refine blk_drew ?_ | refine blk_alloc ?_ _)); exact BK1045.out)) : gb1045 ≠ gb1054)); have n6_ := Aside0.mk ((by rw [hg]; exact Nat.ne_of_gt (blk_lt (g := gb1045) (o := .cells #[.int .i64 0, .int .i64 0] 71 (0, 0)) (by (with_reducible repeat (first | refine blk_drewN ?_ _ | refine blk_drew ?_ | refine blk_alloc ?_ _)); exact BK1045.out)) : gb1054 ≠ gb1045)); clear BK1045; clear HB; have BK1045 := n0_; have HB := n1_; have BK1054 := n2_; have GW1054 := n3_; have GE1054 := n4_; have NB1045_1054 := n5_; have NB1054_1045 := n6_; clear n0_ n1_ n2_ n3_ n4_ n5_ n6_; clear hb hbox hg; have hnb14 := NB1054_1045.out; have hnc14 := NB1045_1054.out; have hcz15_0 : w13.cell? ⟨gb1054, 0, none⟩ = some (.int .i64 0) := (blk_cell BK1054.out 0).trans rfl; have hcz15_1 : w13.cell? ⟨gb1054, 1, none⟩ = some (.int .i64 0) := (blk_cell BK1054.out 1).trans rfl; have hcz15_2 : w13.cell? ⟨gb1054, 2, none⟩ = some (.int .i64 0) := (blk_cell BK1054.out 2).trans rfl; have hcz15_3 : w13.cell? ⟨gb1054, 3, none⟩ = some (.int .i64 0) := (blk_cell BK1054.out 3).trans rfl; have hcz15_4 : w13.cell? ⟨gb1054, 4, none⟩ = some (.int .i64 0) := (blk_cell BK1054.out 4).trans rfl; have hcz15_5 : w13.cell? ⟨gb1054, 5, none⟩ = some (.int .i64 0) := (blk_cell BK1054.out 5).trans rfl; have hcz15_6 : w13.cell? ⟨gb1054, 6, none⟩ = some (.int .i64 0) := (blk_cell BK1054.out 6).trans rfl; have hfz15_0 := blk_frozen BK1054.out 0; have hfz15_1 := blk_frozen BK1054.out 1; have hfz15_2 := blk_frozen BK1054.out 2; have hfz15_3 := blk_frozen BK1054.out 3; have hfz15_4 := blk_frozen BK1054.out 4; have hfz15_5 := blk_frozen BK1054.out 5; have hfz15_6 := blk_frozen BK1054.out 6))
     have n0_ : Aside0 ((((((((w13.setCell ⟨gb1054, 0, none⟩ (.int .i64 t1046)).setCell ⟨gb1054, 1, none⟩ (.int .i64 t1047)).setCell ⟨gb1054, 2, none⟩ (.int .i64 t1048)).setCell ⟨gb1054, 3, none⟩ (.int .i64 t1049)).setCell ⟨gb1054, 4, none⟩ (.int .i64 t1050)).setCell ⟨gb1054, 5, none⟩ (.int .i64 t1051)).setCell ⟨gb1054, 6, none⟩ (.int .i64 t1052)).heap[gb1045]? = some (.cells #[.int .i64 0, .int .i64 0] 71 (0, 0))) := ⟨by (with_reducible repeat (first | refine blk_drewN ?_ _ | refine blk_drew ?_ | refine blk_alloc ?_ _)); refine blk_far ?_ NB1045_1054.out _; (with_reducible repeat (first | refine blk_drewN ?_ _ | refine blk_drew ?_ | refine blk_alloc ?_ _)); refine blk_far ?_ NB1045_1054.out _; (with_reducible repeat (first | refine blk_drewN ?_ _ | refine blk_drew ?_ | refine blk_alloc ?_ _)); refine blk_far ?_ NB1045_1054.out _; (with_reducible repeat (first | refine blk_drewN ?_ _ | refine blk_drew ?_ | refine blk_alloc ?_ _)); refine blk_far ?_ NB1045_1054.out _; (with_reducible repeat (first | refine blk_drewN ?_ _ | refine blk_drew ?_ | refine blk_alloc ?_ _)); refine blk_far ?_ NB1045_1054.out _; (with_reducible repeat (first | refine blk_drewN ?_ _ | refine blk_drew ?_ | refine blk_alloc ?_ _)); refine blk_far ?_ NB1045_1054.out _; (with_reducible repeat (first | refine blk_drewN ?_ _ | refine blk_drew ?_ | refine blk_alloc ?_ _)); refine blk_far ?_ NB1045_1054.out _; (with_reducible repeat (first | refine blk_drewN ?_ _ | refine blk_drew ?_ | refine blk_alloc ?_ _)); exact BK1045.out⟩
     have n1_ : Aside0 ((((((((w13.setCell ⟨gb1054, 0, none⟩ (.int .i64 t1046)).setCell ⟨gb1054, 1, none⟩ (.int .i64 t1047)).setCell ⟨gb1054, 2, none⟩ (.int .i64 t1048)).setCell ⟨gb1054, 3, none⟩ (.int .i64 t1049)).setCell ⟨gb1054, 4, none⟩ (.int .i64 t1050)).setCell ⟨gb1054, 5, none⟩ (.int .i64 t1051)).setCell ⟨gb1054, 6, none⟩ (.int .i64 t1052)).heap[gb1054]? = some (.cells #[.int .i64 t1046, .int .i64 t1047, .int .i64 t1048, .int .i64 t1049, .int .i64 t1050, .int .i64 t1051, .int .i64 t1052] 79 (0, 0))) := ⟨by (with_reducible repeat (first | refine blk_drewN ?_ _ | refine blk_drew ?_ | refine blk_alloc ?_ _)); refine blk_put (cs := #[.int .i64 t1046, .int .i64 t1047, .int .i64 t1048, .int .i64 t1049, .int .i64 t1050, .int .i64 t1051, .int .i64 0]) ?_ 6 _ rfl; (with_reducible repeat (first | refine blk_drewN ?_ _ | refine blk_drew ?_ | refine blk_alloc ?_ _)); refine blk_put (cs := #[.int .i64 t1046, .int .i64 t1047, .int .i64 t1048, .int .i64 t1049, .int .i64 t1050, .int .i64 0, .int .i64 0]) ?_ 5 _ rfl; (with_reducible repeat (first | refine blk_drewN ?_ _ | refine blk_drew ?_ | refine blk_alloc ?_ _)); refine blk_put (cs := #[.int .i64 t1046, .int .i64 t1047, .int .i64 t1048, .int .i64 t1049, .int .i64 0, .int .i64 0, .int .i64 0]) ?_ 4 _ rfl; (with_reducible repeat (first | refine blk_drewN ?_ _ | refine blk_drew ?_ | refine blk_alloc ?_ _)); refine blk_put (cs := #[.int .i64 t1046, .int .i64 t1047, .int .i64 t1048, .int .i64 0, .int .i64 0, .int .i64 0, .int .i64 0]) ?_ 3 _ rfl; (with_reducible repeat (first | refine blk_drewN ?_ _ | refine blk_drew ?_ | refine blk_alloc ?_ _)); refine blk_put (cs := #[.int .i64 t1046, .int .i64 t1047, .int .i64 0, .int .i64 0, .int .i64 0, .int .i64 0, .int .i64 0]) ?_ 2 _ rfl; (with_reducible repeat (first | refine blk_drewN ?_ _ | refine blk_drew ?_ | refine blk_alloc ?_ _)); refine blk_put (cs := #[.int .i64 t1046, .int .i64 0, .int .i64 0, .int .i64 0, .int .i64 0, .int .i64 0, .int .i64 0]) ?_ 1 _ rfl; (with_reducible repeat (first | refine blk_drewN ?_ _ | refine blk_drew ?_ | refine blk_alloc ?_ _)); refine blk_put (cs := #[.int .i64 0, .int .i64 0, .int .i64 0, .int .i64 0, .int .i64 0, .int .i64 0, .int .i64 0]) ?_ 0 _ rfl; (with_reducible repeat (first | refine blk_drewN ?_ _ | refine blk_drew ?_ | refine blk_alloc ?_ _)); exact BK1054.out⟩
     have n2_ : Aside0 (Below w.heap.size w (((((((w13.setCell ⟨gb1054, 0, none⟩ (.int .i64 t1046)).setCell ⟨gb1054, 1, none⟩ (.int .i64 t1047)).setCell ⟨gb1054, 2, none⟩ (.int .i64 t1048)).setCell ⟨gb1054, 3, none⟩ (.int .i64 t1049)).setCell ⟨gb1054, 4, none⟩ (.int .i64 t1050)).setCell ⟨gb1054, 5, none⟩ (.int .i64 t1051)).setCell ⟨gb1054, 6, none⟩ (.int .i64 t1052))) := ⟨by repeat (first | (with_reducible first | exact HB.out | apply below_alloc | apply pw_below_drewN | apply below_drew1 | refine below_set ?_ GE1045.out | refine below_set ?_ GE1054.out) | exact HB.out)⟩
     (try clear BK1045)
     (try clear BK1054)
     (try clear HB)
     generalize (((((((w13.setCell ⟨gb1054, 0, none⟩ (.int .i64 t1046)).setCell ⟨gb1054, 1, none⟩ (.int .i64 t1047)).setCell ⟨gb1054, 2, none⟩ (.int .i64 t1048)).setCell ⟨gb1054, 3, none⟩ (.int .i64 t1049)).setCell ⟨gb1054, 4, none⟩ (.int .i64 t1050)).setCell ⟨gb1054, 5, none⟩ (.int .i64 t1051)).setCell ⟨gb1054, 6, none⟩ (.int .i64 t1052)) = w16 at n0_ n1_ n2_ ⊢
     have BK1045 := n0_
     have BK1054 := n1_
     have HB := n2_
     clear n0_ n1_ n2_
     have n0_ := Aside0.mk (blk_drew BK1045.out)
     have n1_ := Aside0.mk (blk_drew BK1054.out)
     have n2_ := Aside0.mk (below_drew1 HB.out)
     clear BK1045
     clear BK1054
     clear HB
     have BK1045 := n0_
     have BK1054 := n1_
     have HB := n2_
     clear n0_ n1_ n2_
     refine start_ (n := 8) (S := fun w' => w'.cell? ⟨gb1054, 0, none⟩ = some (.int .i64 t1046) ∧ w'.cell? ⟨gb1054, 1, none⟩ = some (.int .i64 t1047) ∧ w'.cell? ⟨gb1054, 2, none⟩ = some (.int .i64 t1048) ∧ w'.cell? ⟨gb1054, 3, none⟩ = some (.int .i64 t1049) ∧ w'.cell? ⟨gb1054, 4, none⟩ = some (.int .i64 t1050) ∧ w'.cell? ⟨gb1054, 5, none⟩ = some (.int .i64 t1051) ∧ w'.cell? ⟨gb1054, 6, none⟩ = some (.int .i64 t1052)) (ds := []) #[false, false, false, false, false, false, false, false] (by kernel_rfl) rfl rfl ⟨(blk_cell BK1054.out 0).trans rfl, (blk_cell BK1054.out 1).trans rfl, (blk_cell BK1054.out 2).trans rfl, (blk_cell BK1054.out 3).trans rfl, (blk_cell BK1054.out 4).trans rfl, (blk_cell BK1054.out 5).trans rfl, (blk_cell BK1054.out 6).trans rfl⟩ (fun hHeld => ?_); refine with_tabW galleyref07_Spot.tab6 galleyref07_Spot.bits6 (fun HT_ HW_ => ?_)
     generalize w16.drew = w17 at BK1045 BK1054 HB hHeld ⊢
     refine pure_ (i := 0) (N := some 27) (v := ?_) (a' := ?_) #[true, false, false, false, false, false, false, false] rfl rfl (any_of HT_.out (by kernel_rfl)) (fun _ _ _ h => h) (Or.inl ⟨by rfl, ?_⟩) ?_ ?_
     rotate_left
     ·
      intro w'
      go_simp
      with_reducible rfl
     rotate_left
     ·
      simp only [Act.put, List.setIfInBounds_toArray, List.set_cons_zero, List.set_cons_succ, i64_w, i32_w]
      rfl
     refine pure_ (i := 3) (N := some 30) (v := ?_) (a' := ?_) #[true, false, false, true, false, false, false, false] rfl rfl (any_of HT_.out (by kernel_rfl)) (fun _ _ _ h => h) (Or.inl ⟨by rfl, ?_⟩) ?_ ?_
     rotate_left
     ·
      intro w'
      go_simp
      with_reducible rfl
     rotate_left
     ·
      simp only [Act.put, List.setIfInBounds_toArray, List.set_cons_zero, List.set_cons_succ, i64_w, i32_w]
      rfl
     refine take_ (i := 1) (N := some 28) (v := ?_) (a' := ?_) #[true, true, false, true, false, false, false, false] rfl rfl (take_ofW HT_.out HW_.out (by kernel_rfl)) (fun _ _ _ h => h) (Or.inl ⟨by rfl, ?_⟩) hHeld ?_ ?_
     rotate_left
     ·
      rintro w' ⟨s0, s1, s2, s3, s4, s5, s6⟩
      go_simp
      with_reducible rfl
     rotate_left
     ·
      simp only [Act.put, List.setIfInBounds_toArray, List.set_cons_zero, List.set_cons_succ, i64_w, i32_w]
      rfl
     refine take_ (i := 2) (N := some 29) (v := ?_) (a' := ?_) #[true, true, true, true, false, false, false, false] rfl rfl (take_ofW HT_.out HW_.out (by kernel_rfl)) (fun _ _ _ h => h) (Or.inl ⟨by rfl, ?_⟩) hHeld ?_ ?_
     rotate_left
     ·
      rintro w' ⟨s0, s1, s2, s3, s4, s5, s6⟩
      go_simp
      with_reducible rfl
     rotate_left
     ·
      simp only [Act.put, List.setIfInBounds_toArray, List.set_cons_zero, List.set_cons_succ, i64_w, i32_w]
      rfl
     refine one_ (i := 4) (N := some 31) #[true, true, true, true, true, false, false, false] rfl rfl (one_of HT_.out (by kernel_rfl)) (by decide) (fun K hK => ?_)
     refine goes_ Tryd.func109 (by kernel_rfl) rfl #[.agg #[.int .i64 t1046, .int .i64 t1047, .int .i64 t1048, .int .i64 t1049, .int .i64 t1050, .int .i64 t1051, .int .i64 t1052], .int .i64 a2] (by rfl) rfl rfl (by (try simp only [List.map_toArray, List.map_cons, List.map_nil]); first | done | rfl | (simp only [List.length_drop, List.length_take]; rfl)) ?_
     with_reducible refine (galleyref07_Column.calls t1046 t1047 t1048 t1049 t1050 t1051 t1052 a2 t1055 _ A11.out).mono ?_
     rintro e w18 ⟨rfl, hb⟩
     refine ⟨_, rfl, ?_⟩
     have n0_ := Aside0.mk (blk_below (g := gb1045) (o := .cells #[.int .i64 0, .int .i64 0] 71 (0, 0)) (by (with_reducible repeat (first | refine blk_drewN ?_ _ | refine blk_drew ?_ | refine blk_alloc ?_ _)); exact BK1045.out) hb)
     have n1_ := Aside0.mk (blk_below (g := gb1054) (o := .cells #[.int .i64 t1046, .int .i64 t1047, .int .i64 t1048, .int .i64 t1049, .int .i64 t1050, .int .i64 t1051, .int .i64 t1052] 79 (0, 0)) (by (with_reducible repeat (first | refine blk_drewN ?_ _ | refine blk_drew ?_ | refine blk_alloc ?_ _)); exact BK1054.out) hb)
     have n2_ := Aside0.mk (below_step (by repeat (first | (with_reducible first | exact HB.out | apply below_alloc | apply pw_below_drewN | apply below_drew1 | refine below_set ?_ GE1045.out | refine below_set ?_ GE1054.out) | exact HB.out)) hb)
     clear BK1045
     clear BK1054
     clear HB
     have BK1045 := n0_
     have BK1054 := n1_
     have HB := n2_
     clear n0_ n1_ n2_
     (try clear hb)
     (try clear hb2)
     (try clear hk)
     (try clear hi)
     refine hK.out _ _ ⟨(blk_cell BK1054.out 0).trans rfl, (blk_cell BK1054.out 1).trans rfl, (blk_cell BK1054.out 2).trans rfl, (blk_cell BK1054.out 3).trans rfl, (blk_cell BK1054.out 4).trans rfl, (blk_cell BK1054.out 5).trans rfl, (blk_cell BK1054.out 6).trans rfl⟩ (fun hHeld => ?_)
     clear hK K
     refine norm_ (a' := ?_) ?_ ?_
     rotate_left
     ·
      show Act.put _ (some 31) _ = _
      simp only [Act.put, List.setIfInBounds_toArray, List.set_cons_zero, List.set_cons_succ, i64_w, i32_w]
      rfl
     refine pure_ (i := 5) (N := some 32) (v := ?_) (a' := ?_) #[true, true, true, true, true, true, false, false] rfl rfl (any_of HT_.out (by kernel_rfl)) (fun _ _ _ h => h) (Or.inl ⟨by rfl, ?_⟩) ?_ ?_
     rotate_left
     ·
      intro w'
      go_simp
      with_reducible rfl
     rotate_left
     ·
      simp only [Act.put, List.setIfInBounds_toArray, List.set_cons_zero, List.set_cons_succ, i64_w, i32_w]
      rfl
     refine one_ (i := 6) (N := none) #[true, true, true, true, true, true, true, false] rfl rfl (one_of HT_.out (by kernel_rfl)) (by decide) (fun K hK => ?_)
     have hs19 : w18.cell? ⟨gb1045, 0, none⟩ = some (.int .i64 0) := (blk_cell BK1045.out 0).trans rfl
     have hfs19 := blk_frozen BK1045.out 0
     have hns19_1 := NB1054_1045.out
     have hms19_1 := NB1045_1054.out
     have hs20 : w18.cell? ⟨gb1045, 1, none⟩ = some (.int .i64 0) := (blk_cell BK1045.out 1).trans rfl
     have hfs20 := blk_frozen BK1045.out 1
     have hns20_1 := NB1054_1045.out
     have hms20_1 := NB1045_1054.out
     refine skip_ (w1 := ?_) (by rfl) rfl ?_ ?_
     rotate_left
     ·
      go_simp
      rfl
     refine hK.out _ _ ⟨((cell_far (p := ⟨gb1045, _, none⟩) NB1054_1045.out _).trans (((cell_far (p := ⟨gb1045, _, none⟩) NB1054_1045.out _).trans (hHeld.1)))), ((cell_far (p := ⟨gb1045, _, none⟩) NB1054_1045.out _).trans (((cell_far (p := ⟨gb1045, _, none⟩) NB1054_1045.out _).trans (hHeld.2.1)))), ((cell_far (p := ⟨gb1045, _, none⟩) NB1054_1045.out _).trans (((cell_far (p := ⟨gb1045, _, none⟩) NB1054_1045.out _).trans (hHeld.2.2.1)))), ((cell_far (p := ⟨gb1045, _, none⟩) NB1054_1045.out _).trans (((cell_far (p := ⟨gb1045, _, none⟩) NB1054_1045.out _).trans (hHeld.2.2.2.1)))), ((cell_far (p := ⟨gb1045, _, none⟩) NB1054_1045.out _).trans (((cell_far (p := ⟨gb1045, _, none⟩) NB1054_1045.out _).trans (hHeld.2.2.2.2.1)))), ((cell_far (p := ⟨gb1045, _, none⟩) NB1054_1045.out _).trans (((cell_far (p := ⟨gb1045, _, none⟩) NB1054_1045.out _).trans (hHeld.2.2.2.2.2.1)))), ((cell_far (p := ⟨gb1045, _, none⟩) NB1054_1045.out _).trans (((cell_far (p := ⟨gb1045, _, none⟩) NB1054_1045.out _).trans (hHeld.2.2.2.2.2.2))))⟩ (fun hHeld => ?_)
     clear hK K
     refine pure_ (i := 7) (N := some 7) (v := ?_) (a' := ?_) #[true, true, true, true, true, true, true, true] rfl rfl (any_of HT_.out (by kernel_rfl)) (fun _ _ _ h => h) (Or.inl ⟨by rfl, ?_⟩) ?_ ?_
     rotate_left
     ·
      intro w'
      go_simp
      with_reducible rfl
     rotate_left
     ·
      simp only [Act.put, List.setIfInBounds_toArray, List.set_cons_zero, List.set_cons_succ, i64_w, i32_w]
      rfl
     refine done_ (done_of HT_.out (by kernel_rfl)) ?_
     try go_wp2
     refine bodyPost_ret (results_ct rfl _ _ gb1045 71 #[.int .i64 t1049, .int .i64 t1055] (0, 0) _ rfl (by (with_reducible repeat (first | refine blk_drewN ?_ _ | refine blk_drew ?_ | refine blk_alloc ?_ _)); refine blk_put (cs := #[.int .i64 t1049, .int .i64 0]) ?_ 1 _ rfl; (with_reducible repeat (first | refine blk_drewN ?_ _ | refine blk_drew ?_ | refine blk_alloc ?_ _)); refine blk_put (cs := #[.int .i64 0, .int .i64 0]) ?_ 0 _ rfl; (with_reducible repeat (first | refine blk_drewN ?_ _ | refine blk_drew ?_ | refine blk_alloc ?_ _)); exact BK1045.out) Tryd.underlying71 rfl (by kernel_rfl)) rfl ?_
     exact ⟨by first | rfl | (simp [errW_none, errW_some] <;> rfl) | (simp [*, errW_none, errW_some] <;> rfl), by repeat (first | (with_reducible first | exact HB.out | apply below_alloc | apply pw_below_drewN | apply below_drew1 | refine below_set ?_ GE1045.out | refine below_set ?_ GE1054.out) | exact HB.out)⟩
    ·
     rw [if_neg c10] at H
     have c10b0 : (t1053 == 0) = false := beq_eq_false_iff_ne.mpr c10
     have c10b1 : (t1053 != 0) = true := bne_iff_ne.mpr c10
     simp only [Option.some.injEq, Prod.mk.injEq] at H
     obtain ⟨rfl, rfl, rfl⟩ := H
     go_wp2_with (first | ((with_reducible refine gate_callee (f := 66) rfl ?_); refine goesL_ (some 20) rfl rfl Tryd.func66 (by kernel_rfl) rfl #[.slice A0 l0.length c0, .int .i64 a1] rfl (by (try simp only [List.map_toArray, List.map_cons, List.map_nil]); first | done | rfl | (simp only [List.length_drop, List.length_take]; rfl)) ?_; (with_reducible refine (galleyref07_Where.calls kj3 _ _ l0 a1 t1046 t1047 t1048 t1049 t1050 t1051 t1052 t1053 _ ?side1 ?side2 A9.out).mono ?_); (case side1 => repeat (first | exact (Kd.C_below HR0.out HB.out) | (with_reducible refine Kd.C_alloc ?_ _) | (with_reducible refine Kd.C_drewN ?_ _) | (with_reducible refine Kd.C_drew ?_))); (case side2 => exact HC0.out); rintro e w21 ⟨rfl, hb⟩; refine ⟨_, rfl, ?_⟩; have n0_ := Aside0.mk (blk_below (g := gb1045) (o := .cells #[.int .i64 0, .int .i64 0] 71 (0, 0)) (by (with_reducible repeat (first | refine blk_drewN ?_ _ | refine blk_drew ?_ | refine blk_alloc ?_ _)); exact BK1045.out) hb); have n1_ := Aside0.mk (below_step (by repeat (first | (with_reducible first | exact HB.out | apply below_alloc | apply pw_below_drewN | apply below_drew1 | refine below_set ?_ GE1045.out) | exact HB.out)) hb); clear BK1045; clear HB; have BK1045 := n0_; have HB := n1_; clear n0_ n1_; (try clear hb); (try clear hb2); (try clear hk); (try clear hi)) | ((with_reducible refine gate_dst (N := 8) rfl ?_); refine box_event ?hg (N := 8) ?hd (cs := #[.int .i64 0, .int .i64 0, .int .i64 0, .int .i64 0, .int .i64 0, .int .i64 0, .int .i64 0]) (t := 79) ?hr ?_; (case hd => rfl); (case hg => rfl); (case hr => first | (go_simp; done) | (go_simp; rfl)); intro gb1054 hg w22 hbox hb; have n0_ := Aside0.mk (blk_below (g := gb1045) (o := .cells #[.int .i64 0, .int .i64 0] 71 (0, 0)) (by (with_reducible repeat (first | refine blk_drewN ?_ _ | refine blk_drew ?_ | refine blk_alloc ?_ _)); exact BK1045.out) hb); have n1_ := Aside0.mk (below_step (by repeat (first | (with_reducible first | exact HB.out | apply below_alloc | apply pw_below_drewN | apply below_drew1 | refine below_set ?_ GE1045.out) | exact HB.out)) hb); have n2_ := Aside0.mk (hbox); have n3_ := Aside0.mk ((by rw [hg]; exact (below_size (by repeat (first | (with_reducible first | exact HB.out | apply below_alloc | apply pw_below_drewN | apply below_drew1 | refine below_set ?_ GE1045.out) | exact HB.out))) : w.heap.size ≤ gb1054)); have n4_ := Aside0.mk ((by rw [hg]; exact (below_size (by repeat (first | (with_reducible first | exact HB.out | apply below_alloc | apply pw_below_drewN | apply below_drew1 | refine below_set ?_ GE1045.out) | exact HB.out))) : w.heap.size ≤ gb1054)); have n5_ := Aside0.mk ((by rw [hg]; exact Nat.ne_of_lt (blk_lt (g := gb1045) (o := .cells #[.int .i64 0, .int .i64 0] 71 (0, 0)) (by (with_reducible repeat (first | refine blk_drewN ?_ _ | refine blk_drew ?_ | refine blk_alloc ?_ _)); exact BK1045.out)) : gb1045 ≠ gb1054)); have n6_ := Aside0.mk ((by rw [hg]; exact Nat.ne_of_gt (blk_lt (g := gb1045) (o := .cells #[.int .i64 0, .int .i64 0] 71 (0, 0)) (by (with_reducible repeat (first | refine blk_drewN ?_ _ | refine blk_drew ?_ | refine blk_alloc ?_ _)); exact BK1045.out)) : gb1054 ≠ gb1045)); clear BK1045; clear HB; have BK1045 := n0_; have HB := n1_; have BK1054 := n2_; have GW1054 := n3_; have GE1054 := n4_; have NB1045_1054 := n5_; have NB1054_1045 := n6_; clear n0_ n1_ n2_ n3_ n4_ n5_ n6_; clear hb hbox hg; have hnb23 := NB1054_1045.out; have hnc23 := NB1045_1054.out; have hcz24_0 : w22.cell? ⟨gb1054, 0, none⟩ = some (.int .i64 0) := (blk_cell BK1054.out 0).trans rfl; have hcz24_1 : w22.cell? ⟨gb1054, 1, none⟩ = some (.int .i64 0) := (blk_cell BK1054.out 1).trans rfl; have hcz24_2 : w22.cell? ⟨gb1054, 2, none⟩ = some (.int .i64 0) := (blk_cell BK1054.out 2).trans rfl; have hcz24_3 : w22.cell? ⟨gb1054, 3, none⟩ = some (.int .i64 0) := (blk_cell BK1054.out 3).trans rfl; have hcz24_4 : w22.cell? ⟨gb1054, 4, none⟩ = some (.int .i64 0) := (blk_cell BK1054.out 4).trans rfl; have hcz24_5 : w22.cell? ⟨gb1054, 5, none⟩ = some (.int .i64 0) := (blk_cell BK1054.out 5).trans rfl; have hcz24_6 : w22.cell? ⟨gb1054, 6, none⟩ = some (.int .i64 0) := (blk_cell BK1054.out 6).trans rfl; have hfz24_0 := blk_frozen BK1054.out 0; have hfz24_1 := blk_frozen BK1054.out 1; have hfz24_2 := blk_frozen BK1054.out 2; have hfz24_3 := blk_frozen BK1054.out 3; have hfz24_4 := blk_frozen BK1054.out 4; have hfz24_5 := blk_frozen BK1054.out 5; have hfz24_6 := blk_frozen BK1054.out 6; have hcz25_0 : w22.cell? ⟨gb1045, 0, none⟩ = some (.int .i64 0) := (blk_cell BK1045.out 0).trans rfl; have hcz25_1 : w22.cell? ⟨gb1045, 1, none⟩ = some (.int .i64 0) := (blk_cell BK1045.out 1).trans rfl; have hfz25_0 := blk_frozen BK1045.out 0; have hfz25_1 := blk_frozen BK1045.out 1))
     refine bodyPost_ret (results_ct rfl _ _ gb1045 71 #[.int .i64 0, .int .i64 0] (0, 0) _ rfl (by (with_reducible repeat (first | refine blk_drewN ?_ _ | refine blk_drew ?_ | refine blk_alloc ?_ _)); refine blk_put (cs := #[.int .i64 0, .int .i64 0]) ?_ 1 _ rfl; (with_reducible repeat (first | refine blk_drewN ?_ _ | refine blk_drew ?_ | refine blk_alloc ?_ _)); refine blk_put (cs := #[.int .i64 0, .int .i64 0]) ?_ 0 _ rfl; (with_reducible repeat (first | refine blk_drewN ?_ _ | refine blk_drew ?_ | refine blk_alloc ?_ _)); refine blk_far ?_ NB1045_1054.out _; (with_reducible repeat (first | refine blk_drewN ?_ _ | refine blk_drew ?_ | refine blk_alloc ?_ _)); refine blk_far ?_ NB1045_1054.out _; (with_reducible repeat (first | refine blk_drewN ?_ _ | refine blk_drew ?_ | refine blk_alloc ?_ _)); refine blk_far ?_ NB1045_1054.out _; (with_reducible repeat (first | refine blk_drewN ?_ _ | refine blk_drew ?_ | refine blk_alloc ?_ _)); refine blk_far ?_ NB1045_1054.out _; (with_reducible repeat (first | refine blk_drewN ?_ _ | refine blk_drew ?_ | refine blk_alloc ?_ _)); refine blk_far ?_ NB1045_1054.out _; (with_reducible repeat (first | refine blk_drewN ?_ _ | refine blk_drew ?_ | refine blk_alloc ?_ _)); refine blk_far ?_ NB1045_1054.out _; (with_reducible repeat (first | refine blk_drewN ?_ _ | refine blk_drew ?_ | refine blk_alloc ?_ _)); refine blk_far ?_ NB1045_1054.out _; (with_reducible repeat (first | refine blk_drewN ?_ _ | refine blk_drew ?_ | refine blk_alloc ?_ _)); exact BK1045.out) Tryd.underlying71 rfl (by kernel_rfl)) rfl ?_
     exact ⟨by first | rfl | (simp [errW_none, errW_some] <;> rfl) | (simp [*, errW_none, errW_some] <;> rfl), by repeat (first | (with_reducible first | exact HB.out | apply below_alloc | apply pw_below_drewN | apply below_drew1 | refine below_set ?_ GE1045.out | refine below_set ?_ GE1054.out) | exact HB.out)⟩
end Go.Proofs.YtbomhpfckplgaaaDoor.P
namespace Go.Proofs.YtbomhpfckplgaaaDoor.P
open Go Go.RowKit Go.Proofs.YtbomhpfckplgaaaDoorW.PrintWords Go.Proofs.YtbomhpfckplgaaaDoorW.PrintLast Go.Proofs.YtbomhpfckplgaaaDoorW.PrintMore
set_option linter.unusedVariables false
set_option linter.unusedSimpArgs false
set_option maxRecDepth 100000
attribute [local go_sem] max2_int min2_int max_two min_two max_three min_three max_four min_four
def b07 : List Int := [97, 13, 10, 226, 130, 172, 120, 10, 13, 98]
theorem s07 : lines_Starts.f 9 b07 = some [0, 3, 8, 9] := by kernel_rfl
theorem w07 : lines_Where.f 9 b07 7 = some (7, 5, 5, 1, 4, 2, 2, 0) := by kernel_rfl
theorem a07 : lines_At.f 9 b07 1 1 2 3 = some (6, 0) := by kernel_rfl
theorem i07 : galleyref01_SameInts.f 9 [0, 3, 8, 9] [0, 3, 8, 9] = some true := by kernel_rfl
theorem c07 : lines_Count.f b07 = some 4 := by kernel_rfl
def galleylaw07_awake.f (k : Nat) : Option Bool := some true
set_option maxHeartbeats 8000000 in
theorem awake07_any (w : World) (hG : Laid w) : Calls Tryd.prog 56 #[] w fun e w' => e = .returned (.bool true) ∧ Below w.heap.size w w' := by
  have hu79 := Tryd.underlying79
  have hu71 := Tryd.underlying71
  have hcv := Go.Lib.run_convert_bytes_const (P := Tryd.prog) w 22 5 (List.map (Value.int .u8) b07).toArray 10 10 Tryd.underlying22 Tryd.underlying5
  have hG1 : Laid (w.alloc (.cells (List.map (Value.int .u8) b07).toArray 5 ((List.map (Value.int .u8) b07).toArray.size, (List.map (Value.int .u8) b07).toArray.size + 1))) := hG.alloc _
  have hb1 : Below w.heap.size w (w.alloc (.cells (List.map (Value.int .u8) b07).toArray 5 ((List.map (Value.int .u8) b07).toArray.size, (List.map (Value.int .u8) b07).toArray.size + 1))) := (Below.refl _ w).alloc (Nat.le_refl _) _
  have hR1 := blk_new w (.cells (List.map (Value.int .u8) b07).toArray 5 ((List.map (Value.int .u8) b07).toArray.size, (List.map (Value.int .u8) b07).toArray.size + 1))
  generalize w.alloc (.cells (List.map (Value.int .u8) b07).toArray 5 ((List.map (Value.int .u8) b07).toArray.size, (List.map (Value.int .u8) b07).toArray.size + 1)) = W1 at *
  rw [show (List.map (Value.int .u8) b07).toArray = #[.int .u8 97, .int .u8 13, .int .u8 10, .int .u8 226, .int .u8 130, .int .u8 172, .int .u8 120, .int .u8 10, .int .u8 13, .int .u8 98] from rfl] at hcv
  have F : Aside0 (Keeps (fun W => Kd.C (Kd.int .u8) W (some ⟨w.heap.size, 0, none⟩) b07.length b07 ∧ Laid W ∧ Below w.heap.size w W) W1) := ⟨(keeps_C (C_blk hR1 (by decide))).and ((keeps_laid hG1).and (keeps_below hb1 hb1.size))⟩
  clear hb1 hR1 hG1 hG
  have C1 : Aside0 (∀ W, Kd.C (Kd.int .u8) W (some ⟨w.heap.size, 0, none⟩) b07.length b07 → Calls Tryd.prog 61 #[.slice (some ⟨w.heap.size, 0, none⟩) 10 10] W fun e w' => ∃ A c, e = .returned (.slice A 4 c) ∧ 4 ≤ c ∧ Kd.C (Kd.int .i64) w' A 4 [0, 3, 8, 9] ∧ Below W.heap.size W w') := ⟨fun W hW => by
    refine (lines_Starts.calls 9 _ 10 b07 [0, 3, 8, 9] W hW (by decide) s07).mono ?_
    rintro e w' ⟨v, rfl, hR, hb⟩
    obtain ⟨A', c', rfl⟩ := Kd.R_slice hR
    obtain ⟨-, h2, h3⟩ := Kd.R_reads' hR
    exact ⟨A', c', rfl, h2, h3, hb⟩⟩
  have C2 : Aside0 (∀ W, Kd.C (Kd.int .u8) W (some ⟨w.heap.size, 0, none⟩) b07.length b07 → Laid W → Calls Tryd.prog 62 #[.slice (some ⟨w.heap.size, 0, none⟩) 10 10, .int .i64 7] W fun e w' => e = .returned (.tuple #[.agg #[.int .i64 7, .int .i64 5, .int .i64 5, .int .i64 1, .int .i64 4, .int .i64 2, .int .i64 2], .int .i64 0]) ∧ Below W.heap.size W w') := ⟨fun W hW hL => lines_Where.calls 9 _ 10 b07 7 7 5 5 1 4 2 2 0 W hW (by decide) hL w07⟩
  have C3 : Aside0 (∀ W, Kd.C (Kd.int .u8) W (some ⟨w.heap.size, 0, none⟩) b07.length b07 → Laid W → Calls Tryd.prog 58 #[.slice (some ⟨w.heap.size, 0, none⟩) 10 10, .agg #[.int .i64 1, .int .i64 1], .int .i64 2, .int .i64 3] W fun e w' => e = .returned (.tuple #[.int .i64 6, .int .i64 0]) ∧ Below W.heap.size W w') := ⟨fun W hW hL => lines_At.calls 9 _ 10 b07 1 1 2 3 6 0 W hW (by decide) hL a07⟩
  have C4 : Aside0 (∀ W, Kd.C (Kd.int .u8) W (some ⟨w.heap.size, 0, none⟩) b07.length b07 → Calls Tryd.prog 64 #[.slice (some ⟨w.heap.size, 0, none⟩) 10 10] W fun e w' => e = .returned (.int .i64 4) ∧ Below W.heap.size W w') := ⟨fun W hW => lines_Count.calls _ 10 b07 4 W hW (by decide) c07⟩
  have C5 : Aside0 (∀ W A c B d, Kd.C (Kd.int .i64) W A 4 [0, 3, 8, 9] → 4 ≤ c → Kd.C (Kd.int .i64) W B 4 [0, 3, 8, 9] → 4 ≤ d → Calls Tryd.prog 35 #[.slice A 4 c, .slice B 4 d] W fun e w' => e = .returned (.bool true) ∧ Below W.heap.size W w') := ⟨fun W A c B d h1 h2 h3 h4 => (galleyref01_SameInts.calls 9 A c [0, 3, 8, 9] B d [0, 3, 8, 9] true W h1 h2 h3 h4 i07).mono (fun e w' ⟨h, hd⟩ => ⟨h, hd.below⟩)⟩
  go_enter Tryd.func56, Tryd.ntmps56
  go_upto_region 4 with (first | (go_at_call 61; refine (C1.out _ F.out.here.1).mono ?_; rintro e w3 ⟨A, c, rfl, hc, hA, hb⟩; have F2 := Aside0.mk ((F.out.next hb).and (keeps_C hA)); have HC := Aside0.mk hc; clear hb hA hc) | (go_at_call 62; refine (C2.out _ F2.out.here.1.1 F2.out.here.1.2.1).mono ?_; rintro e w4 ⟨rfl, hb⟩; have F3 := Aside0.mk (F2.out.next hb); clear hb) | ((with_reducible refine gate_dst (N := 3) rfl ?_); refine box_event ?hg (N := 3) ?hd (cs := #[.int .i64 0, .int .i64 0, .int .i64 0, .int .i64 0, .int .i64 0, .int .i64 0, .int .i64 0]) (t := 79) ?hr ?_; (case hd => rfl); (case hg => rfl); (case hr => first | (go_simp; done) | (go_simp; rfl)); intro g3 hg3 w5 hx hb; have X3 := Aside0.mk hx; have F4 := Aside0.mk (F3.out.next hb); have G3 : Aside0 (w4.heap.size ≤ g3) := ⟨by rw [hg3]; exact Nat.le_refl _⟩; have B5 := Aside0.mk hb; clear hb hx hg3; have c30 : w5.cell? ⟨g3, 0, none⟩ = some (.int .i64 0) := (blk_cell X3.out 0).trans rfl; have f30 := blk_frozen X3.out 0; have c31 : w5.cell? ⟨g3, 1, none⟩ = some (.int .i64 0) := (blk_cell X3.out 1).trans rfl; have f31 := blk_frozen X3.out 1; have c32 : w5.cell? ⟨g3, 2, none⟩ = some (.int .i64 0) := (blk_cell X3.out 2).trans rfl; have f32 := blk_frozen X3.out 2; have c33 : w5.cell? ⟨g3, 3, none⟩ = some (.int .i64 0) := (blk_cell X3.out 3).trans rfl; have f33 := blk_frozen X3.out 3; have c34 : w5.cell? ⟨g3, 4, none⟩ = some (.int .i64 0) := (blk_cell X3.out 4).trans rfl; have f34 := blk_frozen X3.out 4; have c35 : w5.cell? ⟨g3, 5, none⟩ = some (.int .i64 0) := (blk_cell X3.out 5).trans rfl; have f35 := blk_frozen X3.out 5; have c36 : w5.cell? ⟨g3, 6, none⟩ = some (.int .i64 0) := (blk_cell X3.out 6).trans rfl; have f36 := blk_frozen X3.out 6))
  refine wp_world (fun V hV => ?_)
  have GE : Aside0 (w.heap.size ≤ g3) := ⟨Nat.le_trans F3.out.here.1.2.2.size G3.out⟩
  have Q3 : V.heap[g3]? = some (.cells #[.int .i64 7, .int .i64 5, .int .i64 5, .int .i64 1, .int .i64 4, .int .i64 2, .int .i64 2] 79 (0, 0)) := by
    rw [hV]
    refine blk_put (cs := #[.int .i64 7, .int .i64 5, .int .i64 5, .int .i64 1, .int .i64 4, .int .i64 2, .int .i64 0]) ?_ 6 _ rfl
    refine blk_put (cs := #[.int .i64 7, .int .i64 5, .int .i64 5, .int .i64 1, .int .i64 4, .int .i64 0, .int .i64 0]) ?_ 5 _ rfl
    refine blk_put (cs := #[.int .i64 7, .int .i64 5, .int .i64 5, .int .i64 1, .int .i64 0, .int .i64 0, .int .i64 0]) ?_ 4 _ rfl
    refine blk_put (cs := #[.int .i64 7, .int .i64 5, .int .i64 5, .int .i64 0, .int .i64 0, .int .i64 0, .int .i64 0]) ?_ 3 _ rfl
    refine blk_put (cs := #[.int .i64 7, .int .i64 5, .int .i64 0, .int .i64 0, .int .i64 0, .int .i64 0, .int .i64 0]) ?_ 2 _ rfl
    refine blk_put (cs := #[.int .i64 7, .int .i64 0, .int .i64 0, .int .i64 0, .int .i64 0, .int .i64 0, .int .i64 0]) ?_ 1 _ rfl
    refine blk_put (cs := #[.int .i64 0, .int .i64 0, .int .i64 0, .int .i64 0, .int .i64 0, .int .i64 0, .int .i64 0]) ?_ 0 _ rfl
    exact X3.out
  have FV : Keeps (fun W => (Kd.C (Kd.int .u8) W (some ⟨w.heap.size, 0, none⟩) b07.length b07 ∧ Laid W ∧ Below w.heap.size w W) ∧ Kd.C (Kd.int .i64) W A 4 [0, 3, 8, 9]) V := by
    have hb : Below w4.heap.size w4 V := by
      rw [hV]
      exact ((((((B5.out.setCell G3.out _).setCell G3.out _).setCell G3.out _).setCell G3.out _).setCell G3.out _).setCell G3.out _).setCell G3.out _
    exact F3.out.next hb
  have F5 := Aside0.mk (FV.and (keeps_cell ((blk_cell Q3 5).trans rfl : V.cell? ⟨g3, 5, none⟩ = some (.int .i64 2))))
  clear c30 f30 c31 f31 c32 f32 c33 f33 c34 f34 c35 f35 c36 f36
  clear hV Q3 FV F F2 F3 F4
  go_wp2_with (first | (go_at_call 58; refine (C3.out _ F5.out.here.1.1.1 F5.out.here.1.1.2.1).mono ?_; rintro e w7 ⟨rfl, hb⟩; replace F5 := Aside0.mk (F5.out.next hb); clear hb) | (go_at_call 35; refine (C5.out _ _ _ _ _ (Kd.C_alloc F5.out.here.1.2 _) HC.out (C_blk (fz := (0, 0)) (blk_new _ _) (by decide)) (by decide)).mono ?_; rintro e w8 ⟨rfl, hb⟩; replace F5 := Aside0.mk ((F5.out.next ((Below.refl _ _).alloc (Nat.le_refl _) _)).next hb); clear hb) | (go_at_call 64; refine (C4.out _ F5.out.here.1.1.1).mono ?_; rintro e w9 ⟨rfl, hb⟩; replace F5 := Aside0.mk (F5.out.next hb); clear hb; have c5 := F5.out.here.2))
  go_ret
  exact ⟨rfl, F5.out.here.1.1.2.2⟩
theorem galleylaw07_awake.calls (k : Nat) (r : Bool) (w : World) (hG : Laid w) (h : galleylaw07_awake.f k = some r) :
    Calls Tryd.prog 56 #[] w fun e w' => e = .returned (.bool r) ∧ Below w.heap.size w w' := by
  obtain rfl := Option.some.inj h
  exact awake07_any w hG
end Go.Proofs.YtbomhpfckplgaaaDoor.P
