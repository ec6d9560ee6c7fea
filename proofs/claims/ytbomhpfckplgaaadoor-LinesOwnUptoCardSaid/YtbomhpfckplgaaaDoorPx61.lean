-- Written by a program (the kit's print, turned so that hand-proved contracts are taken as given).
import Derived.Test.YtbomhpfckplgaaaDoorPx0
import Derived.Test.YtbomhpfckplgaaaDoorPx5
import Derived.Test.YtbomhpfckplgaaaDoorPx18
import Derived.Test.YtbomhpfckplgaaaDoorPx19
import Derived.Test.YtbomhpfckplgaaaDoorPxA
import Derived.Test.YtbomhpfckplgaaaDoorPx53
import Derived.Test.YtbomhpfckplgaaaDoorPx54
import Derived.Test.YtbomhpfckplgaaaDoorPx56
import Derived.Test.YtbomhpfckplgaaaDoorHSpot
import Derived.Test.YtbomhpfckplgaaaDoorHAwake
namespace Go.Proofs.YtbomhpfckplgaaaDoor.P
open Go.RowKit Go.Proofs.YtbomhpfckplgaaaDoorW.PrintWords Go.Proofs.YtbomhpfckplgaaaDoorW.PrintLast Go.Proofs.YtbomhpfckplgaaaDoorW.PrintMore
attribute [local go_sem] max2_int min2_int max_two min_two max_three min_three max_four min_four   -- for this text's walks alone
set_option linter.unusedVariables false
set_option linter.unusedSimpArgs false

noncomputable section
/-! ### galleylaw07_LinesOwn: function 20 -/
mutual
def galleylaw07_LinesOwn.j0 : Nat → List Int → List Int → List Int → Bool → Option (Bool)
  | 0, _, _, _, _ => none
  | k + 1, x0, x9, x10, x72 => if x72 = true then (some false) else ((some (([] : List Int) : List Int)).bind fun y1158 => (if y1158.length + x10.length < 17592186044416 then (galleylaw07_LinesOwn.l0 k x0 x9 x10 (y1158 ++ x10) (x9.length : Int) 0) else (none)))
def galleylaw07_LinesOwn.l0 : Nat → List Int → List Int → List Int → List Int → Int → Int → Option (Bool)
  | 0, _, _, _, _, _, _ => none
  | k + 1, x0, x9, x10, x11, x77, x78 => if x78 < x77 then (if 0 ≤ x78 then (if x78 < (x9.length : Int) then (galleylaw07_LinesOwn.l0 k x0 (x9.set (x78 : Int).toNat (-1)) x10 x11 x77 (wrap64 (x78 + 1))) else (none)) else (none)) else (galleylaw07_LinesOwn.l1 k x0 x9 x10 x11 0)
def galleylaw07_LinesOwn.l1 : Nat → List Int → List Int → List Int → List Int → Int → Option (Bool)
  | 0, _, _, _, _, _ => none
  | k + 1, x0, x9, x10, x11, x13 => if x13 < 40 then (if x9.length < 17592186044416 then (galleylaw07_LinesOwn.l1 k x0 (x9 ++ [(-2)]) x10 x11 (wrap64 (x13 + 1))) else (none)) else ((galleyref01_SameInts.f k x10 x11).bind fun t1168 => (if t1168 = true then ((galleyref07_Rows.f k x0).bind fun t1169 => (some ((x10.length : Int) == (t1169.length : Int)))) else (some false)))
end
def galleylaw07_LinesOwn.f (k : Nat) (l0 : List Int) (a1 : Int) (a2_0 : Int) (a2_1 : Int) (a2_2 : Int) (a2_3 : Int) : Option (Bool) := (galleylaw07_awake.f k).bind fun t1118 => (if t1118 = true then ((galleylaw07_own.f l0).bind fun t1119 => ((some (([7, 8] : List Int) : List Int)).bind fun y1122 => (if t1119.length + y1122.length < 140737488355328 then ((some (t1119 ++ y1122 : List Int)).bind fun y1125 => (if 0 ≤ (l0.length : Int) then (if (l0.length : Int) ≤ (y1125.length : Int) then ((some (y1125.take ((l0.length : Int) : Int).toNat : List Int)).bind fun y1128 => ((lines_Starts.f k y1128).bind fun t1132 => ((lines_Starts.f k y1128).bind fun t1135 => ((lines_Count.f y1128).bind fun t1138 => ((lines_Line.f y1128 a2_0).bind fun bt1139 => ((lines_Where.f k y1128 a1).bind fun bt1143 => ((lines_At.f k y1128 a2_0 a2_1 a2_2 a2_3).bind fun bt1151 => ((lines_Spot.f y1128 a1 a2_2).bind fun bt1153 => (if (strOfNums y1128).toList = (strOfNums l0).toList then (if (l0.length : Int) < (y1125.length : Int) then (if (rd y1125 (l0.length : Int)) = 7 then (if 0 ≤ (wrap64 ((l0.length : Int) + 1)) then (if (wrap64 ((l0.length : Int) + 1)) < (y1125.length : Int) then (galleylaw07_LinesOwn.j0 k l0 t1132 t1135 ((rd y1125 (wrap64 ((l0.length : Int) + 1))) != 8)) else (none)) else (none)) else (galleylaw07_LinesOwn.j0 k l0 t1132 t1135 true)) else (none)) else (galleylaw07_LinesOwn.j0 k l0 t1132 t1135 true)))))))))) else (none)) else (none))) else (none)))) else (some false))
theorem galleylaw07_LinesOwn.mono_l : ∀ k, (∀ y0 y1 y2 y3, LeO (galleylaw07_LinesOwn.j0 k y0 y1 y2 y3) (galleylaw07_LinesOwn.j0 (k + 1) y0 y1 y2 y3)) ∧ (∀ y0 y1 y2 y3 y4 y5, LeO (galleylaw07_LinesOwn.l0 k y0 y1 y2 y3 y4 y5) (galleylaw07_LinesOwn.l0 (k + 1) y0 y1 y2 y3 y4 y5)) ∧ (∀ y0 y1 y2 y3 y4, LeO (galleylaw07_LinesOwn.l1 k y0 y1 y2 y3 y4) (galleylaw07_LinesOwn.l1 (k + 1) y0 y1 y2 y3 y4))
  | 0 => ⟨fun _ _ _ _ r h => by simp [galleylaw07_LinesOwn.j0] at h, fun _ _ _ _ _ _ r h => by simp [galleylaw07_LinesOwn.l0] at h, fun _ _ _ _ _ r h => by simp [galleylaw07_LinesOwn.l1] at h⟩
  | k + 1 => by
    obtain ⟨ih0, ih1, ih2⟩ := galleylaw07_LinesOwn.mono_l k
    refine ⟨?_, ?_, ?_⟩
    · intro y0 y1 y2 y3
      unfold galleylaw07_LinesOwn.j0
      repeat' first
      | (with_reducible exact ih0 _ _ _ _)
      | (with_reducible exact ih1 _ _ _ _ _ _)
      | (with_reducible exact ih2 _ _ _ _ _)
      | (with_reducible exact galleylaw07_awake.mono _)
      | (with_reducible exact galleyref01_SameInts.mono _ _ _)
      | (with_reducible exact galleyref07_Rows.mono _ _)
      | (with_reducible exact lines_At.mono _ _ _ _ _ _)
      | (with_reducible exact lines_Starts.mono _ _)
      | (with_reducible exact lines_Where.mono _ _ _)
      | (with_reducible exact LeO.refl _)
      | (with_reducible exact LeO.none _)
      | (with_reducible refine LeO.ite ?_ ?_)
      | (with_reducible refine LeO.bind ?_ (fun _ => ?_))
      | exact ih0 _ _ _ _
      | exact ih1 _ _ _ _ _ _
      | exact ih2 _ _ _ _ _
      | exact galleylaw07_awake.mono _
      | exact galleyref01_SameInts.mono _ _ _
      | exact galleyref07_Rows.mono _ _
      | exact lines_At.mono _ _ _ _ _ _
      | exact lines_Starts.mono _ _
      | exact lines_Where.mono _ _ _
      | exact LeO.none _
      | refine LeO.ite ?_ ?_
      | refine LeO.bind ?_ (fun _ => ?_)
    · intro y0 y1 y2 y3 y4 y5
      unfold galleylaw07_LinesOwn.l0
      repeat' first
      | (with_reducible exact ih0 _ _ _ _)
      | (with_reducible exact ih1 _ _ _ _ _ _)
      | (with_reducible exact ih2 _ _ _ _ _)
      | (with_reducible exact galleylaw07_awake.mono _)
      | (with_reducible exact galleyref01_SameInts.mono _ _ _)
      | (with_reducible exact galleyref07_Rows.mono _ _)
      | (with_reducible exact lines_At.mono _ _ _ _ _ _)
      | (with_reducible exact lines_Starts.mono _ _)
      | (with_reducible exact lines_Where.mono _ _ _)
      | (with_reducible exact LeO.refl _)
      | (with_reducible exact LeO.none _)
      | (with_reducible refine LeO.ite ?_ ?_)
      | (with_reducible refine LeO.bind ?_ (fun _ => ?_))
      | exact ih0 _ _ _ _
      | exact ih1 _ _ _ _ _ _
      | exact ih2 _ _ _ _ _
      | exact galleylaw07_awake.mono _
      | exact galleyref01_SameInts.mono _ _ _
      | exact galleyref07_Rows.mono _ _
      | exact lines_At.mono _ _ _ _ _ _
      | exact lines_Starts.mono _ _
      | exact lines_Where.mono _ _ _
      | exact LeO.none _
      | refine LeO.ite ?_ ?_
      | refine LeO.bind ?_ (fun _ => ?_)
    · intro y0 y1 y2 y3 y4
      unfold galleylaw07_LinesOwn.l1
      repeat' first
      | (with_reducible exact ih0 _ _ _ _)
      | (with_reducible exact ih1 _ _ _ _ _ _)
      | (with_reducible exact ih2 _ _ _ _ _)
      | (with_reducible exact galleylaw07_awake.mono _)
      | (with_reducible exact galleyref01_SameInts.mono _ _ _)
      | (with_reducible exact galleyref07_Rows.mono _ _)
      | (with_reducible exact lines_At.mono _ _ _ _ _ _)
      | (with_reducible exact lines_Starts.mono _ _)
      | (with_reducible exact lines_Where.mono _ _ _)
      | (with_reducible exact LeO.refl _)
      | (with_reducible exact LeO.none _)
      | (with_reducible refine LeO.ite ?_ ?_)
      | (with_reducible refine LeO.bind ?_ (fun _ => ?_))
      | exact ih0 _ _ _ _
      | exact ih1 _ _ _ _ _ _
      | exact ih2 _ _ _ _ _
      | exact galleylaw07_awake.mono _
      | exact galleyref01_SameInts.mono _ _ _
      | exact galleyref07_Rows.mono _ _
      | exact lines_At.mono _ _ _ _ _ _
      | exact lines_Starts.mono _ _
      | exact lines_Where.mono _ _ _
      | exact LeO.none _
      | refine LeO.ite ?_ ?_
      | refine LeO.bind ?_ (fun _ => ?_)
theorem galleylaw07_LinesOwn.mono : ∀ a0 a1 a2 a3 a4 a5 k, LeO (galleylaw07_LinesOwn.f k a0 a1 a2 a3 a4 a5) (galleylaw07_LinesOwn.f (k + 1) a0 a1 a2 a3 a4 a5) := by
  intro a0 a1 a2 a3 a4 a5 k
  obtain ⟨ih0, ih1, ih2⟩ := galleylaw07_LinesOwn.mono_l k
  unfold galleylaw07_LinesOwn.f
  repeat' first
      | (with_reducible exact ih0 _ _ _ _)
      | (with_reducible exact ih1 _ _ _ _ _ _)
      | (with_reducible exact ih2 _ _ _ _ _)
      | (with_reducible exact galleylaw07_awake.mono _)
      | (with_reducible exact galleyref01_SameInts.mono _ _ _)
      | (with_reducible exact galleyref07_Rows.mono _ _)
      | (with_reducible exact lines_At.mono _ _ _ _ _ _)
      | (with_reducible exact lines_Starts.mono _ _)
      | (with_reducible exact lines_Where.mono _ _ _)
      | (with_reducible exact LeO.refl _)
      | (with_reducible exact LeO.none _)
      | (with_reducible refine LeO.ite ?_ ?_)
      | (with_reducible refine LeO.bind ?_ (fun _ => ?_))
      | exact ih0 _ _ _ _
      | exact ih1 _ _ _ _ _ _
      | exact ih2 _ _ _ _ _
      | exact galleylaw07_awake.mono _
      | exact galleyref01_SameInts.mono _ _ _
      | exact galleyref07_Rows.mono _ _
      | exact lines_At.mono _ _ _ _ _ _
      | exact lines_Starts.mono _ _
      | exact lines_Where.mono _ _ _
      | exact LeO.none _
      | refine LeO.ite ?_ ?_
      | refine LeO.bind ?_ (fun _ => ?_)
set_option maxHeartbeats 8000000 in
set_option maxRecDepth 100000 in
theorem galleylaw07_LinesOwn.calls (k : Nat) (A0 : Option Addr) (c0 : Nat) (l0 : List Int) (a1 : Int) (a2_0 : Int) (a2_1 : Int) (a2_2 : Int) (a2_3 : Int) (r : Bool) (w : World) (hr0 : Kd.C (Kd.int .u8) w A0 l0.length l0) (hc0 : l0.length ≤ c0) (hG : Laid w) (h : galleylaw07_LinesOwn.f k l0 a1 a2_0 a2_1 a2_2 a2_3 = some r) :
    Calls Tryd.prog 20 #[.slice A0 l0.length c0, .int .i64 a1, .agg #[.int .i64 a2_0, .int .i64 a2_1, .int .i64 a2_2, .int .i64 a2_3]] w fun e w' => e = .returned (.bool r) ∧ Below w.heap.size w w' := by
  have hu73 := Tryd.underlying73
  have hu71 := Tryd.underlying71
  have HG := Aside0.mk hG
  clear hG
  have HR0 := Aside0.mk hr0
  have HC0 := Aside0.mk hc0
  clear hr0 hc0
  have HB := Aside0.mk (Below.refl w.heap.size w)
  have H : ((galleylaw07_awake.f k).bind fun t1118 => (if t1118 = true then ((galleylaw07_own.f l0).bind fun t1119 => ((some (([7, 8] : List Int) : List Int)).bind fun y1122 => (if t1119.length + y1122.length < 140737488355328 then ((some (t1119 ++ y1122 : List Int)).bind fun y1125 => (if 0 ≤ (l0.length : Int) then (if (l0.length : Int) ≤ (y1125.length : Int) then ((some (y1125.take ((l0.length : Int) : Int).toNat : List Int)).bind fun y1128 => ((lines_Starts.f k y1128).bind fun t1132 => ((lines_Starts.f k y1128).bind fun t1135 => ((lines_Count.f y1128).bind fun t1138 => ((lines_Line.f y1128 a2_0).bind fun bt1139 => ((lines_Where.f k y1128 a1).bind fun bt1143 => ((lines_At.f k y1128 a2_0 a2_1 a2_2 a2_3).bind fun bt1151 => ((lines_Spot.f y1128 a1 a2_2).bind fun bt1153 => (if (strOfNums y1128).toList = (strOfNums l0).toList then (if (l0.length : Int) < (y1125.length : Int) then (if (rd y1125 (l0.length : Int)) = 7 then (if 0 ≤ (wrap64 ((l0.length : Int) + 1)) then (if (wrap64 ((l0.length : Int) + 1)) < (y1125.length : Int) then (galleylaw07_LinesOwn.j0 k l0 t1132 t1135 ((rd y1125 (wrap64 ((l0.length : Int) + 1))) != 8)) else (none)) else (none)) else (galleylaw07_LinesOwn.j0 k l0 t1132 t1135 true)) else (none)) else (galleylaw07_LinesOwn.j0 k l0 t1132 t1135 true)))))))))) else (none)) else (none))) else (none)))) else (some false))) = some r := h
  clear h
  replace H := Option.bind_eq_some_iff.mp H
  obtain ⟨t1118, A40, H⟩ := H
  replace H : (if t1118 = true then ((galleylaw07_own.f l0).bind fun t1119 => ((some (([7, 8] : List Int) : List Int)).bind fun y1122 => (if t1119.length + y1122.length < 140737488355328 then ((some (t1119 ++ y1122 : List Int)).bind fun y1125 => (if 0 ≤ (l0.length : Int) then (if (l0.length : Int) ≤ (y1125.length : Int) then ((some (y1125.take ((l0.length : Int) : Int).toNat : List Int)).bind fun y1128 => ((lines_Starts.f k y1128).bind fun t1132 => ((lines_Starts.f k y1128).bind fun t1135 => ((lines_Count.f y1128).bind fun t1138 => ((lines_Line.f y1128 a2_0).bind fun bt1139 => ((lines_Where.f k y1128 a1).bind fun bt1143 => ((lines_At.f k y1128 a2_0 a2_1 a2_2 a2_3).bind fun bt1151 => ((lines_Spot.f y1128 a1 a2_2).bind fun bt1153 => (if (strOfNums y1128).toList = (strOfNums l0).toList then (if (l0.length : Int) < (y1125.length : Int) then (if (rd y1125 (l0.length : Int)) = 7 then (if 0 ≤ (wrap64 ((l0.length : Int) + 1)) then (if (wrap64 ((l0.length : Int) + 1)) < (y1125.length : Int) then (galleylaw07_LinesOwn.j0 k l0 t1132 t1135 ((rd y1125 (wrap64 ((l0.length : Int) + 1))) != 8)) else (none)) else (none)) else (galleylaw07_LinesOwn.j0 k l0 t1132 t1135 true)) else (none)) else (galleylaw07_LinesOwn.j0 k l0 t1132 t1135 true)))))))))) else (none)) else (none))) else (none)))) else (some false)) = some r := H
  have A4 := Aside0.mk A40
  clear A40
  by_cases c5 : t1118 = true
  · subst c5
    have H1 : ((galleylaw07_own.f l0).bind fun t1119 => ((some (([7, 8] : List Int) : List Int)).bind fun y1122 => (if t1119.length + y1122.length < 140737488355328 then ((some (t1119 ++ y1122 : List Int)).bind fun y1125 => (if 0 ≤ (l0.length : Int) then (if (l0.length : Int) ≤ (y1125.length : Int) then ((some (y1125.take ((l0.length : Int) : Int).toNat : List Int)).bind fun y1128 => ((lines_Starts.f k y1128).bind fun t1132 => ((lines_Starts.f k y1128).bind fun t1135 => ((lines_Count.f y1128).bind fun t1138 => ((lines_Line.f y1128 a2_0).bind fun bt1139 => ((lines_Where.f k y1128 a1).bind fun bt1143 => ((lines_At.f k y1128 a2_0 a2_1 a2_2 a2_3).bind fun bt1151 => ((lines_Spot.f y1128 a1 a2_2).bind fun bt1153 => (if (strOfNums y1128).toList = (strOfNums l0).toList then (if (l0.length : Int) < (y1125.length : Int) then (if (rd y1125 (l0.length : Int)) = 7 then (if 0 ≤ (wrap64 ((l0.length : Int) + 1)) then (if (wrap64 ((l0.length : Int) + 1)) < (y1125.length : Int) then (galleylaw07_LinesOwn.j0 k l0 t1132 t1135 ((rd y1125 (wrap64 ((l0.length : Int) + 1))) != 8)) else (none)) else (none)) else (galleylaw07_LinesOwn.j0 k l0 t1132 t1135 true)) else (none)) else (galleylaw07_LinesOwn.j0 k l0 t1132 t1135 true)))))))))) else (none)) else (none))) else (none)))) = some r := by rw [if_pos rfl] at H; exact H
    clear H
    have H := H1
    clear H1
    replace H := Option.bind_eq_some_iff.mp H
    obtain ⟨t1119, A60, H⟩ := H
    replace H : ((some (([7, 8] : List Int) : List Int)).bind fun y1122 => (if t1119.length + y1122.length < 140737488355328 then ((some (t1119 ++ y1122 : List Int)).bind fun y1125 => (if 0 ≤ (l0.length : Int) then (if (l0.length : Int) ≤ (y1125.length : Int) then ((some (y1125.take ((l0.length : Int) : Int).toNat : List Int)).bind fun y1128 => ((lines_Starts.f k y1128).bind fun t1132 => ((lines_Starts.f k y1128).bind fun t1135 => ((lines_Count.f y1128).bind fun t1138 => ((lines_Line.f y1128 a2_0).bind fun bt1139 => ((lines_Where.f k y1128 a1).bind fun bt1143 => ((lines_At.f k y1128 a2_0 a2_1 a2_2 a2_3).bind fun bt1151 => ((lines_Spot.f y1128 a1 a2_2).bind fun bt1153 => (if (strOfNums y1128).toList = (strOfNums l0).toList then (if (l0.length : Int) < (y1125.length : Int) then (if (rd y1125 (l0.length : Int)) = 7 then (if 0 ≤ (wrap64 ((l0.length : Int) + 1)) then (if (wrap64 ((l0.length : Int) + 1)) < (y1125.length : Int) then (galleylaw07_LinesOwn.j0 k l0 t1132 t1135 ((rd y1125 (wrap64 ((l0.length : Int) + 1))) != 8)) else (none)) else (none)) else (galleylaw07_LinesOwn.j0 k l0 t1132 t1135 true)) else (none)) else (galleylaw07_LinesOwn.j0 k l0 t1132 t1135 true)))))))))) else (none)) else (none))) else (none))) = some r := H
    have A6 := Aside0.mk A60
    clear A60
    obtain ⟨y1122, hy1122⟩ : ∃ y_ : List Int, y_ = (([7, 8] : List Int)) := ⟨_, rfl⟩
    replace H : (if t1119.length + y1122.length < 140737488355328 then ((some (t1119 ++ y1122 : List Int)).bind fun y1125 => (if 0 ≤ (l0.length : Int) then (if (l0.length : Int) ≤ (y1125.length : Int) then ((some (y1125.take ((l0.length : Int) : Int).toNat : List Int)).bind fun y1128 => ((lines_Starts.f k y1128).bind fun t1132 => ((lines_Starts.f k y1128).bind fun t1135 => ((lines_Count.f y1128).bind fun t1138 => ((lines_Line.f y1128 a2_0).bind fun bt1139 => ((lines_Where.f k y1128 a1).bind fun bt1143 => ((lines_At.f k y1128 a2_0 a2_1 a2_2 a2_3).bind fun bt1151 => ((lines_Spot.f y1128 a1 a2_2).bind fun bt1153 => (if (strOfNums y1128).toList = (strOfNums l0).toList then (if (l0.length : Int) < (y1125.length : Int) then (if (rd y1125 (l0.length : Int)) = 7 then (if 0 ≤ (wrap64 ((l0.length : Int) + 1)) then (if (wrap64 ((l0.length : Int) + 1)) < (y1125.length : Int) then (galleylaw07_LinesOwn.j0 k l0 t1132 t1135 ((rd y1125 (wrap64 ((l0.length : Int) + 1))) != 8)) else (none)) else (none)) else (galleylaw07_LinesOwn.j0 k l0 t1132 t1135 true)) else (none)) else (galleylaw07_LinesOwn.j0 k l0 t1132 t1135 true)))))))))) else (none)) else (none))) else (none)) = some r := by first | (rw [hy1122]; with_reducible exact H) | (have H2_ := (Option.bind_some _ _).symm.trans H; rw [hy1122]; with_reducible exact H2_) | (have H2_ := (Option.bind_some _ _).symm.trans H; with_reducible exact H2_) | with_reducible exact H | (rw [hy1122]; exact H) | exact H
    have Ny1122 := Aside0.mk hy1122
    clear hy1122
    by_cases c7 : t1119.length + y1122.length < 140737488355328
    · rw [if_pos c7] at H
      have LMc7 := Aside0.mk c7
      clear c7
      obtain ⟨y1125, hy1125⟩ : ∃ y_ : List Int, y_ = (t1119 ++ y1122) := ⟨_, rfl⟩
      replace H : (if 0 ≤ (l0.length : Int) then (if (l0.length : Int) ≤ (y1125.length : Int) then ((some (y1125.take ((l0.length : Int) : Int).toNat : List Int)).bind fun y1128 => ((lines_Starts.f k y1128).bind fun t1132 => ((lines_Starts.f k y1128).bind fun t1135 => ((lines_Count.f y1128).bind fun t1138 => ((lines_Line.f y1128 a2_0).bind fun bt1139 => ((lines_Where.f k y1128 a1).bind fun bt1143 => ((lines_At.f k y1128 a2_0 a2_1 a2_2 a2_3).bind fun bt1151 => ((lines_Spot.f y1128 a1 a2_2).bind fun bt1153 => (if (strOfNums y1128).toList = (strOfNums l0).toList then (if (l0.length : Int) < (y1125.length : Int) then (if (rd y1125 (l0.length : Int)) = 7 then (if 0 ≤ (wrap64 ((l0.length : Int) + 1)) then (if (wrap64 ((l0.length : Int) + 1)) < (y1125.length : Int) then (galleylaw07_LinesOwn.j0 k l0 t1132 t1135 ((rd y1125 (wrap64 ((l0.length : Int) + 1))) != 8)) else (none)) else (none)) else (galleylaw07_LinesOwn.j0 k l0 t1132 t1135 true)) else (none)) else (galleylaw07_LinesOwn.j0 k l0 t1132 t1135 true)))))))))) else (none)) else (none)) = some r := by first | (rw [hy1125]; with_reducible exact H) | (have H2_ := (Option.bind_some _ _).symm.trans H; rw [hy1125]; with_reducible exact H2_) | (have H2_ := (Option.bind_some _ _).symm.trans H; with_reducible exact H2_) | with_reducible exact H | (rw [hy1125]; exact H) | exact H
      have Ny1125 := Aside0.mk hy1125
      clear hy1125
      by_cases c8 : 0 ≤ (l0.length : Int)
      · rw [if_pos c8] at H
        have c8b0 := eq_true c8
        have c8b1 : decide (0 ≤ (l0.length : Int)) = true := decide_eq_true c8
        clear c8
        by_cases c9 : (l0.length : Int) ≤ (y1125.length : Int)
        · rw [if_pos c9] at H
          have c9b0 := eq_true c9
          have c9b1 : decide ((l0.length : Int) ≤ (y1125.length : Int)) = true := decide_eq_true c9
          clear c9
          obtain ⟨y1128, hy1128⟩ : ∃ y_ : List Int, y_ = (y1125.take ((l0.length : Int) : Int).toNat) := ⟨_, rfl⟩
          replace H : ((lines_Starts.f k y1128).bind fun t1132 => ((lines_Starts.f k y1128).bind fun t1135 => ((lines_Count.f y1128).bind fun t1138 => ((lines_Line.f y1128 a2_0).bind fun bt1139 => ((lines_Where.f k y1128 a1).bind fun bt1143 => ((lines_At.f k y1128 a2_0 a2_1 a2_2 a2_3).bind fun bt1151 => ((lines_Spot.f y1128 a1 a2_2).bind fun bt1153 => (if (strOfNums y1128).toList = (strOfNums l0).toList then (if (l0.length : Int) < (y1125.length : Int) then (if (rd y1125 (l0.length : Int)) = 7 then (if 0 ≤ (wrap64 ((l0.length : Int) + 1)) then (if (wrap64 ((l0.length : Int) + 1)) < (y1125.length : Int) then (galleylaw07_LinesOwn.j0 k l0 t1132 t1135 ((rd y1125 (wrap64 ((l0.length : Int) + 1))) != 8)) else (none)) else (none)) else (galleylaw07_LinesOwn.j0 k l0 t1132 t1135 true)) else (none)) else (galleylaw07_LinesOwn.j0 k l0 t1132 t1135 true))))))))) = some r := by first | (rw [hy1128]; with_reducible exact H) | (have H2_ := (Option.bind_some _ _).symm.trans H; rw [hy1128]; with_reducible exact H2_) | (have H2_ := (Option.bind_some _ _).symm.trans H; with_reducible exact H2_) | with_reducible exact H | (rw [hy1128]; exact H) | exact H
          have Ny1128 := Aside0.mk hy1128
          clear hy1128
          replace H := Option.bind_eq_some_iff.mp H
          obtain ⟨t1132, A100, H⟩ := H
          replace H : ((lines_Starts.f k y1128).bind fun t1135 => ((lines_Count.f y1128).bind fun t1138 => ((lines_Line.f y1128 a2_0).bind fun bt1139 => ((lines_Where.f k y1128 a1).bind fun bt1143 => ((lines_At.f k y1128 a2_0 a2_1 a2_2 a2_3).bind fun bt1151 => ((lines_Spot.f y1128 a1 a2_2).bind fun bt1153 => (if (strOfNums y1128).toList = (strOfNums l0).toList then (if (l0.length : Int) < (y1125.length : Int) then (if (rd y1125 (l0.length : Int)) = 7 then (if 0 ≤ (wrap64 ((l0.length : Int) + 1)) then (if (wrap64 ((l0.length : Int) + 1)) < (y1125.length : Int) then (galleylaw07_LinesOwn.j0 k l0 t1132 t1135 ((rd y1125 (wrap64 ((l0.length : Int) + 1))) != 8)) else (none)) else (none)) else (galleylaw07_LinesOwn.j0 k l0 t1132 t1135 true)) else (none)) else (galleylaw07_LinesOwn.j0 k l0 t1132 t1135 true)))))))) = some r := H
          have A10 := Aside0.mk A100
          clear A100
          replace H := Option.bind_eq_some_iff.mp H
          obtain ⟨t1135, A110, H⟩ := H
          replace H : ((lines_Count.f y1128).bind fun t1138 => ((lines_Line.f y1128 a2_0).bind fun bt1139 => ((lines_Where.f k y1128 a1).bind fun bt1143 => ((lines_At.f k y1128 a2_0 a2_1 a2_2 a2_3).bind fun bt1151 => ((lines_Spot.f y1128 a1 a2_2).bind fun bt1153 => (if (strOfNums y1128).toList = (strOfNums l0).toList then (if (l0.length : Int) < (y1125.length : Int) then (if (rd y1125 (l0.length : Int)) = 7 then (if 0 ≤ (wrap64 ((l0.length : Int) + 1)) then (if (wrap64 ((l0.length : Int) + 1)) < (y1125.length : Int) then (galleylaw07_LinesOwn.j0 k l0 t1132 t1135 ((rd y1125 (wrap64 ((l0.length : Int) + 1))) != 8)) else (none)) else (none)) else (galleylaw07_LinesOwn.j0 k l0 t1132 t1135 true)) else (none)) else (galleylaw07_LinesOwn.j0 k l0 t1132 t1135 true))))))) = some r := H
          have A11 := Aside0.mk A110
          clear A110
          replace H := Option.bind_eq_some_iff.mp H
          obtain ⟨t1138, A120, H⟩ := H
          replace H : ((lines_Line.f y1128 a2_0).bind fun bt1139 => ((lines_Where.f k y1128 a1).bind fun bt1143 => ((lines_At.f k y1128 a2_0 a2_1 a2_2 a2_3).bind fun bt1151 => ((lines_Spot.f y1128 a1 a2_2).bind fun bt1153 => (if (strOfNums y1128).toList = (strOfNums l0).toList then (if (l0.length : Int) < (y1125.length : Int) then (if (rd y1125 (l0.length : Int)) = 7 then (if 0 ≤ (wrap64 ((l0.length : Int) + 1)) then (if (wrap64 ((l0.length : Int) + 1)) < (y1125.length : Int) then (galleylaw07_LinesOwn.j0 k l0 t1132 t1135 ((rd y1125 (wrap64 ((l0.length : Int) + 1))) != 8)) else (none)) else (none)) else (galleylaw07_LinesOwn.j0 k l0 t1132 t1135 true)) else (none)) else (galleylaw07_LinesOwn.j0 k l0 t1132 t1135 true)))))) = some r := H
          have A12 := Aside0.mk A120
          clear A120
          replace H := Option.bind_eq_some_iff.mp H
          obtain ⟨⟨t1139, t1140, t1141, t1142⟩, A130, H⟩ := H
          replace H : ((lines_Where.f k y1128 a1).bind fun bt1143 => ((lines_At.f k y1128 a2_0 a2_1 a2_2 a2_3).bind fun bt1151 => ((lines_Spot.f y1128 a1 a2_2).bind fun bt1153 => (if (strOfNums y1128).toList = (strOfNums l0).toList then (if (l0.length : Int) < (y1125.length : Int) then (if (rd y1125 (l0.length : Int)) = 7 then (if 0 ≤ (wrap64 ((l0.length : Int) + 1)) then (if (wrap64 ((l0.length : Int) + 1)) < (y1125.length : Int) then (galleylaw07_LinesOwn.j0 k l0 t1132 t1135 ((rd y1125 (wrap64 ((l0.length : Int) + 1))) != 8)) else (none)) else (none)) else (galleylaw07_LinesOwn.j0 k l0 t1132 t1135 true)) else (none)) else (galleylaw07_LinesOwn.j0 k l0 t1132 t1135 true))))) = some r := H
          have A13 := Aside0.mk A130
          clear A130
          replace H := Option.bind_eq_some_iff.mp H
          obtain ⟨⟨t1143, t1144, t1145, t1146, t1147, t1148, t1149, t1150⟩, A140, H⟩ := H
          replace H : ((lines_At.f k y1128 a2_0 a2_1 a2_2 a2_3).bind fun bt1151 => ((lines_Spot.f y1128 a1 a2_2).bind fun bt1153 => (if (strOfNums y1128).toList = (strOfNums l0).toList then (if (l0.length : Int) < (y1125.length : Int) then (if (rd y1125 (l0.length : Int)) = 7 then (if 0 ≤ (wrap64 ((l0.length : Int) + 1)) then (if (wrap64 ((l0.length : Int) + 1)) < (y1125.length : Int) then (galleylaw07_LinesOwn.j0 k l0 t1132 t1135 ((rd y1125 (wrap64 ((l0.length : Int) + 1))) != 8)) else (none)) else (none)) else (galleylaw07_LinesOwn.j0 k l0 t1132 t1135 true)) else (none)) else (galleylaw07_LinesOwn.j0 k l0 t1132 t1135 true)))) = some r := H
          have A14 := Aside0.mk A140
          clear A140
          replace H := Option.bind_eq_some_iff.mp H
          obtain ⟨⟨t1151, t1152⟩, A150, H⟩ := H
          replace H : ((lines_Spot.f y1128 a1 a2_2).bind fun bt1153 => (if (strOfNums y1128).toList = (strOfNums l0).toList then (if (l0.length : Int) < (y1125.length : Int) then (if (rd y1125 (l0.length : Int)) = 7 then (if 0 ≤ (wrap64 ((l0.length : Int) + 1)) then (if (wrap64 ((l0.length : Int) + 1)) < (y1125.length : Int) then (galleylaw07_LinesOwn.j0 k l0 t1132 t1135 ((rd y1125 (wrap64 ((l0.length : Int) + 1))) != 8)) else (none)) else (none)) else (galleylaw07_LinesOwn.j0 k l0 t1132 t1135 true)) else (none)) else (galleylaw07_LinesOwn.j0 k l0 t1132 t1135 true))) = some r := H
          have A15 := Aside0.mk A150
          clear A150
          replace H := Option.bind_eq_some_iff.mp H
          obtain ⟨⟨t1153, t1154, t1155⟩, A160, H⟩ := H
          replace H : (if (strOfNums y1128).toList = (strOfNums l0).toList then (if (l0.length : Int) < (y1125.length : Int) then (if (rd y1125 (l0.length : Int)) = 7 then (if 0 ≤ (wrap64 ((l0.length : Int) + 1)) then (if (wrap64 ((l0.length : Int) + 1)) < (y1125.length : Int) then (galleylaw07_LinesOwn.j0 k l0 t1132 t1135 ((rd y1125 (wrap64 ((l0.length : Int) + 1))) != 8)) else (none)) else (none)) else (galleylaw07_LinesOwn.j0 k l0 t1132 t1135 true)) else (none)) else (galleylaw07_LinesOwn.j0 k l0 t1132 t1135 true)) = some r := H
          have A16 := Aside0.mk A160
          clear A160
          have HC17 := Aside0.mk H
          clear H
          go_enter Tryd.func20, Tryd.ntmps20
          go_upto_region 11 with (first | ((with_reducible refine gate_dst (N := 5) rfl ?_); (try (refine gate_guard (by rfl) ?_; dsimp only)); refine box_event ?hg (N := 5) ?hd (cs := #[.int .i64 a2_0, .int .i64 a2_1, .int .i64 a2_2, .int .i64 a2_3]) (t := 73) ?hr ?_; (case hd => rfl); (case hg => rfl); (case hr => first | (go_simp; done) | (go_simp; rfl)); intro gb1117 hg w18 hbox hb; have n0_ := Aside0.mk (below_step (by repeat (first | (with_reducible first | exact HB.out | apply below_alloc | apply pw_below_drewN | apply below_drew1) | exact HB.out)) hb); have n1_ := Aside0.mk (hbox); have n2_ := Aside0.mk ((by rw [hg]; exact (below_size (by repeat (first | (with_reducible first | exact HB.out | apply below_alloc | apply pw_below_drewN | apply below_drew1) | exact HB.out))) : w.heap.size ≤ gb1117)); have n3_ := Aside0.mk ((by rw [hg]; exact (below_size (by repeat (first | (with_reducible first | exact HB.out | apply below_alloc | apply pw_below_drewN | apply below_drew1) | exact HB.out))) : w.heap.size ≤ gb1117)); clear HB; have HB := n0_; have BK1117 := n1_; have GW1117 := n2_; have GE1117 := n3_; clear n0_ n1_ n2_ n3_; clear hb hbox hg) | ((with_reducible refine gate_callee (f := 56) rfl ?_); refine goesL_ (some 14) rfl rfl Tryd.func56 (by kernel_rfl) rfl #[] rfl (by (try simp only [List.map_toArray, List.map_cons, List.map_nil]); first | done | rfl | (simp only [List.length_drop, List.length_take]; rfl)) ?_; (with_reducible refine (galleylaw07_awake.calls k  true _ ?side1 A4.out).mono ?_); (case side1 => repeat (first | exact HG.out | exact Laid.below HG.out HB.out | (with_reducible refine Laid.alloc ?_ _) | (with_reducible refine Laid.drewN ?_ _) | (with_reducible refine Laid.drew ?_))); rintro e w19 ⟨rfl, hb⟩; refine ⟨_, rfl, ?_⟩; have n0_ := Aside0.mk (blk_below (g := gb1117) (o := .cells #[.int .i64 a2_0, .int .i64 a2_1, .int .i64 a2_2, .int .i64 a2_3] 73 (0, 0)) (by (with_reducible repeat (first | refine blk_drewN ?_ _ | refine blk_drew ?_ | refine blk_alloc ?_ _)); exact BK1117.out) hb); have n1_ := Aside0.mk (below_step (by repeat (first | (with_reducible first | exact HB.out | apply below_alloc | apply pw_below_drewN | apply below_drew1 | refine below_set ?_ GE1117.out) | exact HB.out)) hb); clear BK1117; clear HB; have BK1117 := n0_; have HB := n1_; clear n0_ n1_; (try clear hb); (try clear hb2); (try clear hk); (try clear hi)) | ((with_reducible refine gate_callee (f := 59) rfl ?_); refine goesL_ (some 17) rfl rfl Tryd.func59 (by kernel_rfl) rfl #[.slice A0 l0.length c0] rfl (by (try simp only [List.map_toArray, List.map_cons, List.map_nil]); first | done | rfl | (simp only [List.length_drop, List.length_take]; rfl)) ?_; (with_reducible refine (galleylaw07_own.calls _ _ l0 t1119 _ ?side1 ?side2 A6.out).mono ?_); (case side1 => repeat (first | exact (Kd.C_below HR0.out HB.out) | (with_reducible refine Kd.C_alloc ?_ _) | (with_reducible refine Kd.C_drewN ?_ _) | (with_reducible refine Kd.C_drew ?_))); (case side2 => exact HC0.out); rintro e w20 ⟨v1120, rfl, ho0, hb⟩; refine ⟨_, rfl, ?_⟩; have n0_ := Aside0.mk (Kd.R_lower ho0 (below_size (by repeat (first | (with_reducible first | exact HB.out | apply below_alloc | apply pw_below_drewN | apply below_drew1 | refine below_set ?_ GE1117.out) | exact HB.out)))); have n1_ := Aside0.mk (blk_below (g := gb1117) (o := .cells #[.int .i64 a2_0, .int .i64 a2_1, .int .i64 a2_2, .int .i64 a2_3] 73 (0, 0)) (by (with_reducible repeat (first | refine blk_drewN ?_ _ | refine blk_drew ?_ | refine blk_alloc ?_ _)); exact BK1117.out) hb); have n2_ := Aside0.mk (below_step (by repeat (first | (with_reducible first | exact HB.out | apply below_alloc | apply pw_below_drewN | apply below_drew1 | refine below_set ?_ GE1117.out) | exact HB.out)) hb); clear BK1117; clear HB; have HO1121 := n0_; have BK1117 := n1_; have HB := n2_; clear n0_ n1_ n2_; (try clear hb); (try clear hb2); (try clear hk); (try clear hi); (try clear ho0)) | ((with_reducible refine gate_dst (N := 18) rfl ?_); (try (refine gate_guard (by rfl) ?_; dsimp only)); refine Kd.R_lit (Kd.int .u8) _ 5 ?hg (N := 18) ?hd (xs := ([7, 8] : List Int)) (inner := [.int .u8 7, .int .u8 8]) (ok := fun _ => True) (okp := fun _ => True) ?hr ?hp (fun _ hk => hk) trivial (Below.refl _ _) (Nat.le_refl _) (by simp) ?_; (case hd => rfl); (case hg => rfl); (case hr => first | (go_simp; done) | (go_simp; rfl)); (case hp => exact (Reps.one (show Kd.M (Kd.int .u8) _ _ _ 7 [.int .u8 7] from rfl) (Reps.one (show Kd.M (Kd.int .u8) _ _ _ 8 [.int .u8 8] from rfl) (Reps.none _ _)))); intro v1123 w21 ho22 hb hg_ hnew_; clear hg_ hnew_; (first | rw [← Ny1122.out] at ho22 | (simp only [Int.reduceToNat] at ho22; rw [← Ny1122.out] at ho22)); have n0_ := Aside0.mk (Kd.R_elder' (by (with_reducible repeat (first | apply Kd.R_alloc | apply Kd.R_drewN | apply Kd.R_drew)); exact HO1121.out) (Kd.R_base ho22) hb); have n1_ := Aside0.mk (Kd.R_lower (Kd.R_new' ho22 (Kd.R_lt (by (with_reducible repeat (first | apply Kd.R_alloc | apply Kd.R_drewN | apply Kd.R_drew)); exact HO1121.out))) (below_size (by repeat (first | (with_reducible first | exact HB.out | apply below_alloc | apply pw_below_drewN | apply below_drew1 | refine below_set ?_ GE1117.out) | exact HB.out)))); have n2_ := Aside0.mk (blk_below (g := gb1117) (o := .cells #[.int .i64 a2_0, .int .i64 a2_1, .int .i64 a2_2, .int .i64 a2_3] 73 (0, 0)) (by (with_reducible repeat (first | refine blk_drewN ?_ _ | refine blk_drew ?_ | refine blk_alloc ?_ _)); exact BK1117.out) hb); have n3_ := Aside0.mk (below_step (by repeat (first | (with_reducible first | exact HB.out | apply below_alloc | apply pw_below_drewN | apply below_drew1 | refine below_set ?_ GE1117.out) | exact HB.out)) hb); clear HO1121; clear BK1117; clear HB; have HO1121 := n0_; have HO1124 := n1_; have BK1117 := n2_; have HB := n3_; clear n0_ n1_ n2_ n3_; clear hb ho22; obtain ⟨Ao24, co24, eo24⟩ := Kd.R_slice HO1124.out; subst eo24) | ((with_reducible refine gate_builtin (b := .append) (xs := #[.tmp 17, .tmp 18]) rfl ?_); (try (refine gate_guard (by rfl) ?_; dsimp only)); at_builtin; refine Kd.R_append_rows (Kd.int .u8) (w0 := w) w.heap.size rfl (.tmp 17) (.tmp 18) 22 5 (.int .u8 0) 1 rfl Tryd.underlying22 info5 rfl (by decide) (by omega) v1120 t1119 y1122 _ _ _ (fun k_ => some k_ ≠ (.slice Ao24 y1122.length co24 : Value).ownBlock) (fun _ => False) rfl rfl ?aO ?aR (fun _ _ h => h) (fun _ h => h.elim) ?aF ?aB ?aS ?aL ?_; (case aR => repeat (first | exact (Kd.R_reads' HO1124.out).2.2 | (with_reducible refine Kd.C_alloc ?_ _) | (with_reducible refine Kd.C_drewN ?_ _) | (with_reducible refine Kd.C_drew ?_))); (case aB => exact (by repeat (first | (with_reducible first | exact HB.out | apply below_alloc | apply pw_below_drewN | apply below_drew1 | refine below_set ?_ GE1117.out) | exact HB.out))); (case aF => exact (fun k_ hk => Kd.fresh' (Kd.R_lt (by (with_reducible repeat (first | apply Kd.R_alloc | apply Kd.R_drewN | apply Kd.R_drew)); exact HO1124.out)) k_ hk)); (case aO => exact (by (with_reducible repeat (first | apply Kd.R_alloc | apply Kd.R_drewN | apply Kd.R_drew)); exact Kd.R_mono HO1121.out (fun _ hk => hk.2))); (case aS => exact (below_size (by repeat (first | (with_reducible first | exact HB.out | apply below_alloc | apply pw_below_drewN | apply below_drew1 | refine below_set ?_ GE1117.out) | exact HB.out)))); (case aL => have := LMc7.out; omega); intro v1126 w23 ho hb hg hat; rw [← Ny1125.out] at ho; have n0_ := Aside0.mk (blk_grown (g := gb1117) (o := .cells #[.int .i64 a2_0, .int .i64 a2_1, .int .i64 a2_2, .int .i64 a2_3] 73 (0, 0)) (by (with_reducible repeat (first | refine blk_drewN ?_ _ | refine blk_drew ?_ | refine blk_alloc ?_ _)); exact BK1117.out) hg (Kd.R_ne HO1121.out BK1117.out (by decide))); have n1_ := Aside0.mk (Kd.R_after (ok := (fun _ => True)) (by (with_reducible repeat (first | apply Kd.R_alloc | apply Kd.R_drewN | apply Kd.R_drew)); exact HO1124.out) hg hat); have n2_ := Aside0.mk (hb); have n3_ := Aside0.mk (ho); clear BK1117; clear HO1124; clear HB; clear HO1121; have BK1117 := n0_; have HO1124 := n1_; have HB := n2_; have HO1127 := n3_; clear n0_ n1_ n2_ n3_; clear ho hb hg hat; obtain ⟨Ao26, co26, eo26⟩ := Kd.R_slice HO1127.out; subst eo26; have q25 : ((l0.length : Int) : Int) ≤ ((y1125.length : Int) : Int) := of_decide_eq_true (by first | (with_reducible assumption) | assumption); obtain ⟨i025, hi025, _, hsz25, _⟩ := info_parts info5; have hroom25 : y1125.length ≤ co26 := (Kd.R_reads' HO1127.out).2.1; have hC25 : Kd.C (Kd.int .u8) _ Ao26 y1125.length y1125 := (Kd.R_reads' HO1127.out).2.2; have hcut25 := cut_to (P := Tryd.prog) 22 5 .i64 Tryd.underlying22 hi025 Ao26 y1125.length co26 (l0.length : Int) (of_decide_eq_true (by first | (with_reducible assumption) | assumption)) q25 hroom25; have hr25 := Kd.C_take (m := ((l0.length : Int) : Int).toNat) hC25 (by omega); have hy25 : y1128.length = ((l0.length : Int) : Int).toNat := (by rw [Ny1128.out, List.length_take]; omega); rw [← Ny1128.out] at hr25; rw [← hy25] at hcut25; have HR1131 := Aside0.mk hr25; have HC1131 := Aside0.mk (show y1128.length ≤ co26 from by omega); clear hr25 hC25 hroom25 hi025 hsz25; have KY25 := Aside0.mk hy25; clear hy25; have KL25 := Aside0.mk (show ((l0.length : Int) : Int).toNat ≤ y1125.length from by omega); replace q25 := eq_true q25) | ((with_reducible refine gate_callee (f := 61) rfl ?_); refine goesL_ (some 25) rfl rfl Tryd.func61 (by kernel_rfl) rfl #[.slice Ao26 y1128.length co26] rfl (by (try simp only [List.map_toArray, List.map_cons, List.map_nil]); first | done | rfl | (simp only [List.length_drop, List.length_take]; rfl)) ?_; (with_reducible refine (lines_Starts.calls k _ _ y1128 t1132 _ ?side1 ?side2 A10.out).mono ?_); (case side1 => repeat (first | exact (by repeat (first | (with_reducible exact HR1131.out) | (with_reducible refine Kd.C_alloc ?_ _) | (with_reducible refine Kd.C_drewN ?_ _) | (with_reducible refine Kd.C_drew ?_) | exact HR1131.out)) | (with_reducible refine Kd.C_alloc ?_ _) | (with_reducible refine Kd.C_drewN ?_ _) | (with_reducible refine Kd.C_drew ?_))); (case side2 => exact HC1131.out); rintro e w27 ⟨v1133, rfl, ho0, hb⟩; refine ⟨_, rfl, ?_⟩; have n0_ := Aside0.mk (Kd.R_below (by (with_reducible repeat (first | apply Kd.R_alloc | apply Kd.R_drewN | apply Kd.R_drew)); exact HO1124.out) hb); have n1_ := Aside0.mk (Kd.R_below (by (with_reducible repeat (first | apply Kd.R_alloc | apply Kd.R_drewN | apply Kd.R_drew)); exact HO1127.out) hb); have n2_ := Aside0.mk (Kd.R_lower ho0 (below_size (by repeat (first | (with_reducible first | exact HB.out | apply below_alloc | apply pw_below_drewN | apply below_drew1 | refine below_set ?_ GE1117.out) | exact HB.out)))); have n3_ := Aside0.mk (blk_below (g := gb1117) (o := .cells #[.int .i64 a2_0, .int .i64 a2_1, .int .i64 a2_2, .int .i64 a2_3] 73 (0, 0)) (by (with_reducible repeat (first | refine blk_drewN ?_ _ | refine blk_drew ?_ | refine blk_alloc ?_ _)); exact BK1117.out) hb); have n4_ := Aside0.mk (Kd.C_below (by repeat (first | (with_reducible exact HR1131.out) | (with_reducible refine Kd.C_alloc ?_ _) | (with_reducible refine Kd.C_drewN ?_ _) | (with_reducible refine Kd.C_drew ?_) | exact HR1131.out)) hb); have n5_ := Aside0.mk (below_step (by repeat (first | (with_reducible first | exact HB.out | apply below_alloc | apply pw_below_drewN | apply below_drew1 | refine below_set ?_ GE1117.out) | exact HB.out)) hb); clear HO1124; clear HO1127; clear BK1117; clear HR1131; clear HB; have HO1124 := n0_; have HO1127 := n1_; have HO1134 := n2_; have BK1117 := n3_; have HR1131 := n4_; have HB := n5_; clear n0_ n1_ n2_ n3_ n4_ n5_; (try clear hb); (try clear hb2); (try clear hk); (try clear hi); (try clear ho0)) | ((with_reducible refine gate_callee (f := 61) rfl ?_); refine goesL_ (some 27) rfl rfl Tryd.func61 (by kernel_rfl) rfl #[.slice Ao26 y1128.length co26] rfl (by (try simp only [List.map_toArray, List.map_cons, List.map_nil]); first | done | rfl | (simp only [List.length_drop, List.length_take]; rfl)) ?_; (with_reducible refine (lines_Starts.calls k _ _ y1128 t1135 _ ?side1 ?side2 A11.out).mono ?_); (case side1 => repeat (first | exact (by repeat (first | (with_reducible exact HR1131.out) | (with_reducible refine Kd.C_alloc ?_ _) | (with_reducible refine Kd.C_drewN ?_ _) | (with_reducible refine Kd.C_drew ?_) | exact HR1131.out)) | (with_reducible refine Kd.C_alloc ?_ _) | (with_reducible refine Kd.C_drewN ?_ _) | (with_reducible refine Kd.C_drew ?_))); (case side2 => exact HC1131.out); rintro e w28 ⟨v1136, rfl, ho0, hb⟩; refine ⟨_, rfl, ?_⟩; have n0_ := Aside0.mk (Kd.R_below (by (with_reducible repeat (first | apply Kd.R_alloc | apply Kd.R_drewN | apply Kd.R_drew)); exact HO1124.out) hb); have n1_ := Aside0.mk (Kd.R_below (by (with_reducible repeat (first | apply Kd.R_alloc | apply Kd.R_drewN | apply Kd.R_drew)); exact HO1127.out) hb); have n2_ := Aside0.mk (Kd.R_elder' (by (with_reducible repeat (first | apply Kd.R_alloc | apply Kd.R_drewN | apply Kd.R_drew)); exact HO1134.out) (Kd.R_base ho0) hb); have n3_ := Aside0.mk (Kd.R_lower (Kd.R_new' ho0 (Kd.R_lt (by (with_reducible repeat (first | apply Kd.R_alloc | apply Kd.R_drewN | apply Kd.R_drew)); exact HO1134.out))) (below_size (by repeat (first | (with_reducible first | exact HB.out | apply below_alloc | apply pw_below_drewN | apply below_drew1 | refine below_set ?_ GE1117.out) | exact HB.out)))); have n4_ := Aside0.mk (blk_below (g := gb1117) (o := .cells #[.int .i64 a2_0, .int .i64 a2_1, .int .i64 a2_2, .int .i64 a2_3] 73 (0, 0)) (by (with_reducible repeat (first | refine blk_drewN ?_ _ | refine blk_drew ?_ | refine blk_alloc ?_ _)); exact BK1117.out) hb); have n5_ := Aside0.mk (Kd.C_below (by repeat (first | (with_reducible exact HR1131.out) | (with_reducible refine Kd.C_alloc ?_ _) | (with_reducible refine Kd.C_drewN ?_ _) | (with_reducible refine Kd.C_drew ?_) | exact HR1131.out)) hb); have n6_ := Aside0.mk (below_step (by repeat (first | (with_reducible first | exact HB.out | apply below_alloc | apply pw_below_drewN | apply below_drew1 | refine below_set ?_ GE1117.out) | exact HB.out)) hb); clear HO1124; clear HO1127; clear HO1134; clear BK1117; clear HR1131; clear HB; have HO1124 := n0_; have HO1127 := n1_; have HO1134 := n2_; have HO1137 := n3_; have BK1117 := n4_; have HR1131 := n5_; have HB := n6_; clear n0_ n1_ n2_ n3_ n4_ n5_ n6_; (try clear hb); (try clear hb2); (try clear hk); (try clear hi); (try clear ho0)) | ((with_reducible refine gate_callee (f := 64) rfl ?_); refine goesL_ (some 29) rfl rfl Tryd.func64 (by kernel_rfl) rfl #[.slice Ao26 y1128.length co26] rfl (by (try simp only [List.map_toArray, List.map_cons, List.map_nil]); first | done | rfl | (simp only [List.length_drop, List.length_take]; rfl)) ?_; (with_reducible refine (lines_Count.calls _ _ y1128 t1138 _ ?side1 ?side2 A12.out).mono ?_); (case side1 => repeat (first | exact (by repeat (first | (with_reducible exact HR1131.out) | (with_reducible refine Kd.C_alloc ?_ _) | (with_reducible refine Kd.C_drewN ?_ _) | (with_reducible refine Kd.C_drew ?_) | exact HR1131.out)) | (with_reducible refine Kd.C_alloc ?_ _) | (with_reducible refine Kd.C_drewN ?_ _) | (with_reducible refine Kd.C_drew ?_))); (case side2 => exact HC1131.out); rintro e w29 ⟨rfl, hb⟩; refine ⟨_, rfl, ?_⟩; have n0_ := Aside0.mk (Kd.R_below (by (with_reducible repeat (first | apply Kd.R_alloc | apply Kd.R_drewN | apply Kd.R_drew)); exact HO1124.out) hb); have n1_ := Aside0.mk (Kd.R_below (by (with_reducible repeat (first | apply Kd.R_alloc | apply Kd.R_drewN | apply Kd.R_drew)); exact HO1127.out) hb); have n2_ := Aside0.mk (Kd.R_below (by (with_reducible repeat (first | apply Kd.R_alloc | apply Kd.R_drewN | apply Kd.R_drew)); exact HO1134.out) hb); have n3_ := Aside0.mk (Kd.R_below (by (with_reducible repeat (first | apply Kd.R_alloc | apply Kd.R_drewN | apply Kd.R_drew)); exact HO1137.out) hb); have n4_ := Aside0.mk (blk_below (g := gb1117) (o := .cells #[.int .i64 a2_0, .int .i64 a2_1, .int .i64 a2_2, .int .i64 a2_3] 73 (0, 0)) (by (with_reducible repeat (first | refine blk_drewN ?_ _ | refine blk_drew ?_ | refine blk_alloc ?_ _)); exact BK1117.out) hb); have n5_ := Aside0.mk (Kd.C_below (by repeat (first | (with_reducible exact HR1131.out) | (with_reducible refine Kd.C_alloc ?_ _) | (with_reducible refine Kd.C_drewN ?_ _) | (with_reducible refine Kd.C_drew ?_) | exact HR1131.out)) hb); have n6_ := Aside0.mk (below_step (by repeat (first | (with_reducible first | exact HB.out | apply below_alloc | apply pw_below_drewN | apply below_drew1 | refine below_set ?_ GE1117.out) | exact HB.out)) hb); clear HO1124; clear HO1127; clear HO1134; clear HO1137; clear BK1117; clear HR1131; clear HB; have HO1124 := n0_; have HO1127 := n1_; have HO1134 := n2_; have HO1137 := n3_; have BK1117 := n4_; have HR1131 := n5_; have HB := n6_; clear n0_ n1_ n2_ n3_ n4_ n5_ n6_; (try clear hb); (try clear hb2); (try clear hk); (try clear hi); have hcz30_0 : w29.cell? ⟨gb1117, 0, none⟩ = some (.int .i64 a2_0) := (blk_cell BK1117.out 0).trans rfl; have hcz30_1 : w29.cell? ⟨gb1117, 1, none⟩ = some (.int .i64 a2_1) := (blk_cell BK1117.out 1).trans rfl; have hcz30_2 : w29.cell? ⟨gb1117, 2, none⟩ = some (.int .i64 a2_2) := (blk_cell BK1117.out 2).trans rfl; have hcz30_3 : w29.cell? ⟨gb1117, 3, none⟩ = some (.int .i64 a2_3) := (blk_cell BK1117.out 3).trans rfl; have hfz30_0 := blk_frozen BK1117.out 0; have hfz30_1 := blk_frozen BK1117.out 1; have hfz30_2 := blk_frozen BK1117.out 2; have hfz30_3 := blk_frozen BK1117.out 3) | ((with_reducible refine gate_callee (f := 65) rfl ?_); refine goesL_ (some 34) rfl rfl Tryd.func65 (by kernel_rfl) rfl #[.slice Ao26 y1128.length co26, .int .i64 a2_0] rfl (by (try simp only [List.map_toArray, List.map_cons, List.map_nil]); first | done | rfl | (simp only [List.length_drop, List.length_take]; rfl)) ?_; (with_reducible refine (lines_Line.calls _ _ y1128 a2_0 t1139 t1140 t1141 t1142 _ ?side1 ?side2 A13.out).mono ?_); (case side1 => repeat (first | exact (by repeat (first | (with_reducible exact HR1131.out) | (with_reducible refine Kd.C_alloc ?_ _) | (with_reducible refine Kd.C_drewN ?_ _) | (with_reducible refine Kd.C_drew ?_) | exact HR1131.out)) | (with_reducible refine Kd.C_alloc ?_ _) | (with_reducible refine Kd.C_drewN ?_ _) | (with_reducible refine Kd.C_drew ?_))); (case side2 => exact HC1131.out); rintro e w31 ⟨rfl, hb⟩; refine ⟨_, rfl, ?_⟩; have n0_ := Aside0.mk (Kd.R_below (by (with_reducible repeat (first | apply Kd.R_alloc | apply Kd.R_drewN | apply Kd.R_drew)); exact HO1124.out) hb); have n1_ := Aside0.mk (Kd.R_below (by (with_reducible repeat (first | apply Kd.R_alloc | apply Kd.R_drewN | apply Kd.R_drew)); exact HO1127.out) hb); have n2_ := Aside0.mk (Kd.R_below (by (with_reducible repeat (first | apply Kd.R_alloc | apply Kd.R_drewN | apply Kd.R_drew)); exact HO1134.out) hb); have n3_ := Aside0.mk (Kd.R_below (by (with_reducible repeat (first | apply Kd.R_alloc | apply Kd.R_drewN | apply Kd.R_drew)); exact HO1137.out) hb); have n4_ := Aside0.mk (blk_below (g := gb1117) (o := .cells #[.int .i64 a2_0, .int .i64 a2_1, .int .i64 a2_2, .int .i64 a2_3] 73 (0, 0)) (by (with_reducible repeat (first | refine blk_drewN ?_ _ | refine blk_drew ?_ | refine blk_alloc ?_ _)); exact BK1117.out) hb); have n5_ := Aside0.mk (Kd.C_below (by repeat (first | (with_reducible exact HR1131.out) | (with_reducible refine Kd.C_alloc ?_ _) | (with_reducible refine Kd.C_drewN ?_ _) | (with_reducible refine Kd.C_drew ?_) | exact HR1131.out)) hb); have n6_ := Aside0.mk (below_step (by repeat (first | (with_reducible first | exact HB.out | apply below_alloc | apply pw_below_drewN | apply below_drew1 | refine below_set ?_ GE1117.out) | exact HB.out)) hb); clear HO1124; clear HO1127; clear HO1134; clear HO1137; clear BK1117; clear HR1131; clear HB; have HO1124 := n0_; have HO1127 := n1_; have HO1134 := n2_; have HO1137 := n3_; have BK1117 := n4_; have HR1131 := n5_; have HB := n6_; clear n0_ n1_ n2_ n3_ n4_ n5_ n6_; (try clear hb); (try clear hb2); (try clear hk); (try clear hi)) | ((with_reducible refine gate_callee (f := 62) rfl ?_); refine goesL_ (some 37) rfl rfl Tryd.func62 (by kernel_rfl) rfl #[.slice Ao26 y1128.length co26, .int .i64 a1] rfl (by (try simp only [List.map_toArray, List.map_cons, List.map_nil]); first | done | rfl | (simp only [List.length_drop, List.length_take]; rfl)) ?_; (with_reducible refine (lines_Where.calls k _ _ y1128 a1 t1143 t1144 t1145 t1146 t1147 t1148 t1149 t1150 _ ?side1 ?side2 ?side3 A14.out).mono ?_); (case side1 => repeat (first | exact (by repeat (first | (with_reducible exact HR1131.out) | (with_reducible refine Kd.C_alloc ?_ _) | (with_reducible refine Kd.C_drewN ?_ _) | (with_reducible refine Kd.C_drew ?_) | exact HR1131.out)) | (with_reducible refine Kd.C_alloc ?_ _) | (with_reducible refine Kd.C_drewN ?_ _) | (with_reducible refine Kd.C_drew ?_))); (case side2 => exact HC1131.out); (case side3 => repeat (first | exact HG.out | exact Laid.below HG.out HB.out | (with_reducible refine Laid.alloc ?_ _) | (with_reducible refine Laid.drewN ?_ _) | (with_reducible refine Laid.drew ?_))); rintro e w32 ⟨rfl, hb⟩; refine ⟨_, rfl, ?_⟩; have n0_ := Aside0.mk (Kd.R_below (by (with_reducible repeat (first | apply Kd.R_alloc | apply Kd.R_drewN | apply Kd.R_drew)); exact HO1124.out) hb); have n1_ := Aside0.mk (Kd.R_below (by (with_reducible repeat (first | apply Kd.R_alloc | apply Kd.R_drewN | apply Kd.R_drew)); exact HO1127.out) hb); have n2_ := Aside0.mk (Kd.R_below (by (with_reducible repeat (first | apply Kd.R_alloc | apply Kd.R_drewN | apply Kd.R_drew)); exact HO1134.out) hb); have n3_ := Aside0.mk (Kd.R_below (by (with_reducible repeat (first | apply Kd.R_alloc | apply Kd.R_drewN | apply Kd.R_drew)); exact HO1137.out) hb); have n4_ := Aside0.mk (blk_below (g := gb1117) (o := .cells #[.int .i64 a2_0, .int .i64 a2_1, .int .i64 a2_2, .int .i64 a2_3] 73 (0, 0)) (by (with_reducible repeat (first | refine blk_drewN ?_ _ | refine blk_drew ?_ | refine blk_alloc ?_ _)); exact BK1117.out) hb); have n5_ := Aside0.mk (Kd.C_below (by repeat (first | (with_reducible exact HR1131.out) | (with_reducible refine Kd.C_alloc ?_ _) | (with_reducible refine Kd.C_drewN ?_ _) | (with_reducible refine Kd.C_drew ?_) | exact HR1131.out)) hb); have n6_ := Aside0.mk (below_step (by repeat (first | (with_reducible first | exact HB.out | apply below_alloc | apply pw_below_drewN | apply below_drew1 | refine below_set ?_ GE1117.out) | exact HB.out)) hb); clear HO1124; clear HO1127; clear HO1134; clear HO1137; clear BK1117; clear HR1131; clear HB; have HO1124 := n0_; have HO1127 := n1_; have HO1134 := n2_; have HO1137 := n3_; have BK1117 := n4_; have HR1131 := n5_; have HB := n6_; clear n0_ n1_ n2_ n3_ n4_ n5_ n6_; (try clear hb); (try clear hb2); (try clear hk); (try clear hi); have hcz33_0 : w32.cell? ⟨gb1117, 0, none⟩ = some (.int .i64 a2_0) := (blk_cell BK1117.out 0).trans rfl; have hcz33_1 : w32.cell? ⟨gb1117, 1, none⟩ = some (.int .i64 a2_1) := (blk_cell BK1117.out 1).trans rfl; have hcz33_2 : w32.cell? ⟨gb1117, 2, none⟩ = some (.int .i64 a2_2) := (blk_cell BK1117.out 2).trans rfl; have hcz33_3 : w32.cell? ⟨gb1117, 3, none⟩ = some (.int .i64 a2_3) := (blk_cell BK1117.out 3).trans rfl; have hfz33_0 := blk_frozen BK1117.out 0; have hfz33_1 := blk_frozen BK1117.out 1; have hfz33_2 := blk_frozen BK1117.out 2; have hfz33_3 := blk_frozen BK1117.out 3) | ((with_reducible refine gate_callee (f := 58) rfl ?_); refine goesL_ (some 45) rfl rfl Tryd.func58 (by kernel_rfl) rfl #[.slice Ao26 y1128.length co26, .agg #[.int .i64 a2_0, .int .i64 a2_1], .int .i64 a2_2, .int .i64 a2_3] rfl (by (try simp only [List.map_toArray, List.map_cons, List.map_nil]); first | done | rfl | (simp only [List.length_drop, List.length_take]; rfl)) ?_; (with_reducible refine (lines_At.calls k _ _ y1128 a2_0 a2_1 a2_2 a2_3 t1151 t1152 _ ?side1 ?side2 ?side3 A15.out).mono ?_); (case side1 => repeat (first | exact (by repeat (first | (with_reducible exact HR1131.out) | (with_reducible refine Kd.C_alloc ?_ _) | (with_reducible refine Kd.C_drewN ?_ _) | (with_reducible refine Kd.C_drew ?_) | exact HR1131.out)) | (with_reducible refine Kd.C_alloc ?_ _) | (with_reducible refine Kd.C_drewN ?_ _) | (with_reducible refine Kd.C_drew ?_))); (case side2 => exact HC1131.out); (case side3 => repeat (first | exact HG.out | exact Laid.below HG.out HB.out | (with_reducible refine Laid.alloc ?_ _) | (with_reducible refine Laid.drewN ?_ _) | (with_reducible refine Laid.drew ?_))); rintro e w34 ⟨rfl, hb⟩; refine ⟨_, rfl, ?_⟩; have n0_ := Aside0.mk (Kd.R_below (by (with_reducible repeat (first | apply Kd.R_alloc | apply Kd.R_drewN | apply Kd.R_drew)); exact HO1124.out) hb); have n1_ := Aside0.mk (Kd.R_below (by (with_reducible repeat (first | apply Kd.R_alloc | apply Kd.R_drewN | apply Kd.R_drew)); exact HO1127.out) hb); have n2_ := Aside0.mk (Kd.R_below (by (with_reducible repeat (first | apply Kd.R_alloc | apply Kd.R_drewN | apply Kd.R_drew)); exact HO1134.out) hb); have n3_ := Aside0.mk (Kd.R_below (by (with_reducible repeat (first | apply Kd.R_alloc | apply Kd.R_drewN | apply Kd.R_drew)); exact HO1137.out) hb); have n4_ := Aside0.mk (blk_below (g := gb1117) (o := .cells #[.int .i64 a2_0, .int .i64 a2_1, .int .i64 a2_2, .int .i64 a2_3] 73 (0, 0)) (by (with_reducible repeat (first | refine blk_drewN ?_ _ | refine blk_drew ?_ | refine blk_alloc ?_ _)); exact BK1117.out) hb); have n5_ := Aside0.mk (Kd.C_below (by repeat (first | (with_reducible exact HR1131.out) | (with_reducible refine Kd.C_alloc ?_ _) | (with_reducible refine Kd.C_drewN ?_ _) | (with_reducible refine Kd.C_drew ?_) | exact HR1131.out)) hb); have n6_ := Aside0.mk (below_step (by repeat (first | (with_reducible first | exact HB.out | apply below_alloc | apply pw_below_drewN | apply below_drew1 | refine below_set ?_ GE1117.out) | exact HB.out)) hb); clear HO1124; clear HO1127; clear HO1134; clear HO1137; clear BK1117; clear HR1131; clear HB; have HO1124 := n0_; have HO1127 := n1_; have HO1134 := n2_; have HO1137 := n3_; have BK1117 := n4_; have HR1131 := n5_; have HB := n6_; clear n0_ n1_ n2_ n3_ n4_ n5_ n6_; (try clear hb); (try clear hb2); (try clear hk); (try clear hi); have hcz35_0 : w34.cell? ⟨gb1117, 0, none⟩ = some (.int .i64 a2_0) := (blk_cell BK1117.out 0).trans rfl; have hcz35_1 : w34.cell? ⟨gb1117, 1, none⟩ = some (.int .i64 a2_1) := (blk_cell BK1117.out 1).trans rfl; have hcz35_2 : w34.cell? ⟨gb1117, 2, none⟩ = some (.int .i64 a2_2) := (blk_cell BK1117.out 2).trans rfl; have hcz35_3 : w34.cell? ⟨gb1117, 3, none⟩ = some (.int .i64 a2_3) := (blk_cell BK1117.out 3).trans rfl; have hfz35_0 := blk_frozen BK1117.out 0; have hfz35_1 := blk_frozen BK1117.out 1; have hfz35_2 := blk_frozen BK1117.out 2; have hfz35_3 := blk_frozen BK1117.out 3) | ((with_reducible refine gate_callee (f := 67) rfl ?_); refine goesL_ (some 50) rfl rfl Tryd.func67 (by kernel_rfl) rfl #[.slice Ao26 y1128.length co26, .int .i64 a1, .int .i64 a2_2] rfl (by (try simp only [List.map_toArray, List.map_cons, List.map_nil]); first | done | rfl | (simp only [List.length_drop, List.length_take]; rfl)) ?_; (with_reducible refine (lines_Spot.calls _ _ y1128 a1 a2_2 t1153 t1154 t1155 _ ?side1 ?side2 ?side3 A16.out).mono ?_); (case side1 => repeat (first | exact (by repeat (first | (with_reducible exact HR1131.out) | (with_reducible refine Kd.C_alloc ?_ _) | (with_reducible refine Kd.C_drewN ?_ _) | (with_reducible refine Kd.C_drew ?_) | exact HR1131.out)) | (with_reducible refine Kd.C_alloc ?_ _) | (with_reducible refine Kd.C_drewN ?_ _) | (with_reducible refine Kd.C_drew ?_))); (case side2 => exact HC1131.out); (case side3 => repeat (first | exact HG.out | exact Laid.below HG.out HB.out | (with_reducible refine Laid.alloc ?_ _) | (with_reducible refine Laid.drewN ?_ _) | (with_reducible refine Laid.drew ?_))); rintro e w36 ⟨rfl, hb⟩; refine ⟨_, rfl, ?_⟩; have n0_ := Aside0.mk (Kd.R_below (by (with_reducible repeat (first | apply Kd.R_alloc | apply Kd.R_drewN | apply Kd.R_drew)); exact HO1124.out) hb); have n1_ := Aside0.mk (Kd.R_below (by (with_reducible repeat (first | apply Kd.R_alloc | apply Kd.R_drewN | apply Kd.R_drew)); exact HO1127.out) hb); have n2_ := Aside0.mk (Kd.R_below (by (with_reducible repeat (first | apply Kd.R_alloc | apply Kd.R_drewN | apply Kd.R_drew)); exact HO1134.out) hb); have n3_ := Aside0.mk (Kd.R_below (by (with_reducible repeat (first | apply Kd.R_alloc | apply Kd.R_drewN | apply Kd.R_drew)); exact HO1137.out) hb); have n4_ := Aside0.mk (blk_below (g := gb1117) (o := .cells #[.int .i64 a2_0, .int .i64 a2_1, .int .i64 a2_2, .int .i64 a2_3] 73 (0, 0)) (by (with_reducible repeat (first | refine blk_drewN ?_ _ | refine blk_drew ?_ | refine blk_alloc ?_ _)); exact BK1117.out) hb); have n5_ := Aside0.mk (Kd.C_below (by repeat (first | (with_reducible exact HR1131.out) | (with_reducible refine Kd.C_alloc ?_ _) | (with_reducible refine Kd.C_drewN ?_ _) | (with_reducible refine Kd.C_drew ?_) | exact HR1131.out)) hb); have n6_ := Aside0.mk (below_step (by repeat (first | (with_reducible first | exact HB.out | apply below_alloc | apply pw_below_drewN | apply below_drew1 | refine below_set ?_ GE1117.out) | exact HB.out)) hb); clear HO1124; clear HO1127; clear HO1134; clear HO1137; clear BK1117; clear HR1131; clear HB; have HO1124 := n0_; have HO1127 := n1_; have HO1134 := n2_; have HO1137 := n3_; have BK1117 := n4_; have HR1131 := n5_; have HB := n6_; clear n0_ n1_ n2_ n3_ n4_ n5_ n6_; (try clear hb); (try clear hb2); (try clear hk); (try clear hi)))
          (try simp only [Act.put, List.setIfInBounds_toArray, List.set_cons_zero, List.set_cons_succ])
          go_cut [72] (fun v72 wc => ∃ (kq : Nat) (x72_16 : Bool), v72 = .bool x72_16 ∧ Aside0 (galleylaw07_LinesOwn.j0 kq l0 t1132 t1135 x72_16 = some r) ∧ Aside0 (kq ≤ k) ∧ Aside0 (Kd.R (Kd.int .i64) 3 wc w.heap.size (fun k_ => some k_ ≠ (v1136 : Value).ownBlock) v1133 t1132) ∧ Aside0 (Kd.R (Kd.int .i64) 3 wc w.heap.size (fun k_ => some k_ ≠ (v1133 : Value).ownBlock) v1136 t1135) ∧ Aside0 (wc.heap[gb1117]? = some (.cells #[.int .i64 a2_0, .int .i64 a2_1, .int .i64 a2_2, .int .i64 a2_3] 73 (0, 0))) ∧ Aside0 (Kd.C (Kd.int .u8) wc Ao26 y1128.length y1128) ∧ Aside0 (Below w.heap.size w wc))
          case first =>
            have H := HC17.out
            clear HC17
            by_cases c37 : (strOfNums y1128).toList = (strOfNums l0).toList
            · rw [if_pos c37] at H
              have c37b0 : ((strOfNums y1128).toList == (strOfNums l0).toList) = true := beq_iff_eq.mpr c37
              have c37b1 : ((strOfNums y1128).toList != (strOfNums l0).toList) = false := bne_eq_false_iff_eq.mpr c37
              clear c37
              (first | rw [c37b0] | (simp only [i64_w, i32_w]; rw [c37b0]) | skip)
              by_cases c38 : (l0.length : Int) < (y1125.length : Int)
              · rw [if_pos c38] at H
                have c38b0 : decide ((l0.length : Int) < (y1125.length : Int)) = true := decide_eq_true c38
                have c38b1 : decide (l0.length < y1125.length) = true := decide_eq_true (Int.ofNat_lt.mp c38)
                clear c38
                by_cases c39 : (rd y1125 (l0.length : Int)) = 7
                · rw [if_pos c39] at H
                  have c39b0 : ((rd y1125 (l0.length : Int)) == 7) = true := beq_iff_eq.mpr c39
                  have c39b1 : ((rd y1125 (l0.length : Int)) != 7) = false := bne_eq_false_iff_eq.mpr c39
                  clear c39
                  obtain ⟨ji40, hji40⟩ : ∃ j_ : Int, (wrap64 ((l0.length : Int) + 1)) = j_ := ⟨_, rfl⟩
                  replace H : (if 0 ≤ (ji40) then (if (ji40) < (y1125.length : Int) then (galleylaw07_LinesOwn.j0 k l0 t1132 t1135 ((rd y1125 (ji40)) != 8)) else (none)) else (none)) = some r := by first | (rw [hji40] at H; exact H) | (simp only [hji40] at H ⊢; exact H)
                  have hji40w : (IntKind.i64.wrap ((l0.length : Int) + 1)) = ji40 := (i64_w _).trans hji40
                  by_cases c41 : 0 ≤ (ji40)
                  · rw [if_pos c41] at H
                    have c41b0 : decide (0 ≤ (ji40)) = true := decide_eq_true c41
                    clear c41
                    by_cases c42 : (ji40) < (y1125.length : Int)
                    · rw [if_pos c42] at H
                      have c42b0 : decide ((ji40) < (y1125.length : Int)) = true := decide_eq_true c42
                      clear c42
                      have H' := Aside0.mk H
                      clear H
                      have hcv43 := Kd.C_string (P := Tryd.prog) (A := Ao26) (c := co26) Tryd.underlying22 Tryd.underlying5 Tryd.underlying9 (by repeat (first | (with_reducible exact HR1131.out) | (with_reducible refine Kd.C_alloc ?_ _) | (with_reducible refine Kd.C_drewN ?_ _) | (with_reducible refine Kd.C_drew ?_) | exact HR1131.out))
                      have hcv44 := Kd.C_string (P := Tryd.prog) (A := A0) (c := c0) Tryd.underlying22 Tryd.underlying5 Tryd.underlying9 (Kd.C_below HR0.out HB.out)
                      have p1156 : 0 ≤ ((l0.length : Int) : Int) := of_decide_eq_true (by first | (with_reducible assumption) | assumption)
                      have q1156 : (l0.length : Int) < (y1125.length : Int) := of_decide_eq_true (by first | (with_reducible assumption) | assumption)
                      obtain ⟨ad1156, e1156, hx1156_0⟩ := Kd.at_int (Kd.R_reads' HO1127.out).2.2 (l0.length : Int) p1156 q1156
                      cases e1156
                      (try simp only [Go.IntWalk.toNatUp] at hx1156_0)
                      replace p1156 := eq_true p1156
                      replace q1156 := eq_true q1156
                      have p1157 : 0 ≤ ((ji40) : Int) := of_decide_eq_true (by first | (with_reducible assumption) | assumption)
                      have q1157 : (ji40) < (y1125.length : Int) := of_decide_eq_true (by first | (with_reducible assumption) | assumption)
                      obtain ⟨ad1157, e1157, hx1157_0⟩ := Kd.at_int (Kd.R_reads' HO1127.out).2.2 (ji40) p1157 q1157
                      obtain rfl : ad1156 = ad1157 := (by injection e1157)
                      replace p1157 := eq_true p1157
                      replace q1157 := eq_true q1157
                      go_wp2
                      go_meet
                      case rel => exact ⟨_, (((rd y1125 (ji40)) != 8)), (by first | rfl | (simp; done) | (simp only [← hji40] <;> (first | rfl | simp)) | (simp [*]; done)), H', ⟨by first | omega | exact Nat.le_refl _⟩, ⟨by (with_reducible repeat (first | apply Kd.R_alloc | apply Kd.R_drewN | apply Kd.R_drew)); exact Kd.R_mono HO1134.out (fun _ hk => hk.2)⟩, ⟨by (with_reducible repeat (first | apply Kd.R_alloc | apply Kd.R_drewN | apply Kd.R_drew)); exact Kd.R_mono HO1137.out (fun _ hk => hk.2)⟩, ⟨by (with_reducible repeat (first | refine blk_drewN ?_ _ | refine blk_drew ?_ | refine blk_alloc ?_ _)); exact BK1117.out⟩, ⟨by repeat (first | (with_reducible exact HR1131.out) | (with_reducible refine Kd.C_alloc ?_ _) | (with_reducible refine Kd.C_drewN ?_ _) | (with_reducible refine Kd.C_drew ?_) | exact HR1131.out)⟩, ⟨by repeat (first | (with_reducible first | exact HB.out | apply below_alloc | apply pw_below_drewN | apply below_drew1 | refine below_set ?_ GE1117.out) | exact HB.out)⟩⟩
                    · rw [if_neg c42] at H
                      exact absurd H (by simp)
                  · rw [if_neg c41] at H
                    exact absurd H (by simp)
                · rw [if_neg c39] at H
                  have c39b0 : ((rd y1125 (l0.length : Int)) == 7) = false := beq_eq_false_iff_ne.mpr c39
                  have c39b1 : ((rd y1125 (l0.length : Int)) != 7) = true := bne_iff_ne.mpr c39
                  have H' := Aside0.mk H
                  clear H
                  have hcv45 := Kd.C_string (P := Tryd.prog) (A := Ao26) (c := co26) Tryd.underlying22 Tryd.underlying5 Tryd.underlying9 (by repeat (first | (with_reducible exact HR1131.out) | (with_reducible refine Kd.C_alloc ?_ _) | (with_reducible refine Kd.C_drewN ?_ _) | (with_reducible refine Kd.C_drew ?_) | exact HR1131.out))
                  have hcv46 := Kd.C_string (P := Tryd.prog) (A := A0) (c := c0) Tryd.underlying22 Tryd.underlying5 Tryd.underlying9 (Kd.C_below HR0.out HB.out)
                  have p1156 : 0 ≤ ((l0.length : Int) : Int) := of_decide_eq_true (by first | (with_reducible assumption) | assumption)
                  have q1156 : (l0.length : Int) < (y1125.length : Int) := of_decide_eq_true (by first | (with_reducible assumption) | assumption)
                  obtain ⟨ad1156, e1156, hx1156_0⟩ := Kd.at_int (Kd.R_reads' HO1127.out).2.2 (l0.length : Int) p1156 q1156
                  cases e1156
                  (try simp only [Go.IntWalk.toNatUp] at hx1156_0)
                  replace p1156 := eq_true p1156
                  replace q1156 := eq_true q1156
                  go_wp2
                  go_meet
                  case rel => exact ⟨_, (true), (by first | rfl | (simp; done) | (simp [*]; done)), H', ⟨by first | omega | exact Nat.le_refl _⟩, ⟨by (with_reducible repeat (first | apply Kd.R_alloc | apply Kd.R_drewN | apply Kd.R_drew)); exact Kd.R_mono HO1134.out (fun _ hk => hk.2)⟩, ⟨by (with_reducible repeat (first | apply Kd.R_alloc | apply Kd.R_drewN | apply Kd.R_drew)); exact Kd.R_mono HO1137.out (fun _ hk => hk.2)⟩, ⟨by (with_reducible repeat (first | refine blk_drewN ?_ _ | refine blk_drew ?_ | refine blk_alloc ?_ _)); exact BK1117.out⟩, ⟨by repeat (first | (with_reducible exact HR1131.out) | (with_reducible refine Kd.C_alloc ?_ _) | (with_reducible refine Kd.C_drewN ?_ _) | (with_reducible refine Kd.C_drew ?_) | exact HR1131.out)⟩, ⟨by repeat (first | (with_reducible first | exact HB.out | apply below_alloc | apply pw_below_drewN | apply below_drew1 | refine below_set ?_ GE1117.out) | exact HB.out)⟩⟩
              · rw [if_neg c38] at H
                exact absurd H (by simp)
            · rw [if_neg c37] at H
              have c37b0 : ((strOfNums y1128).toList == (strOfNums l0).toList) = false := beq_eq_false_iff_ne.mpr c37
              have c37b1 : ((strOfNums y1128).toList != (strOfNums l0).toList) = true := bne_iff_ne.mpr c37
              (first | rw [c37b0] | (simp only [i64_w, i32_w]; rw [c37b0]) | skip)
              have H' := Aside0.mk H
              clear H
              have hcv47 := Kd.C_string (P := Tryd.prog) (A := Ao26) (c := co26) Tryd.underlying22 Tryd.underlying5 Tryd.underlying9 (by repeat (first | (with_reducible exact HR1131.out) | (with_reducible refine Kd.C_alloc ?_ _) | (with_reducible refine Kd.C_drewN ?_ _) | (with_reducible refine Kd.C_drew ?_) | exact HR1131.out))
              have hcv48 := Kd.C_string (P := Tryd.prog) (A := A0) (c := c0) Tryd.underlying22 Tryd.underlying5 Tryd.underlying9 (Kd.C_below HR0.out HB.out)
              go_wp2
              go_meet
              case rel => exact ⟨_, (true), (by first | rfl | (simp; done) | (simp [*]; done)), H', ⟨by first | omega | exact Nat.le_refl _⟩, ⟨by (with_reducible repeat (first | apply Kd.R_alloc | apply Kd.R_drewN | apply Kd.R_drew)); exact Kd.R_mono HO1134.out (fun _ hk => hk.2)⟩, ⟨by (with_reducible repeat (first | apply Kd.R_alloc | apply Kd.R_drewN | apply Kd.R_drew)); exact Kd.R_mono HO1137.out (fun _ hk => hk.2)⟩, ⟨by (with_reducible repeat (first | refine blk_drewN ?_ _ | refine blk_drew ?_ | refine blk_alloc ?_ _)); exact BK1117.out⟩, ⟨by repeat (first | (with_reducible exact HR1131.out) | (with_reducible refine Kd.C_alloc ?_ _) | (with_reducible refine Kd.C_drewN ?_ _) | (with_reducible refine Kd.C_drew ?_) | exact HR1131.out)⟩, ⟨by repeat (first | (with_reducible first | exact HB.out | apply below_alloc | apply pw_below_drewN | apply below_drew1 | refine below_set ?_ GE1117.out) | exact HB.out)⟩⟩
          case rest =>
            clear HC17
            try clear p1
            try clear q1
            try clear hx1
            try clear c2
            try clear p2
            try clear q2
            try clear c3
            try clear c4
            try clear hcv4
            try clear c5
            try clear c6
            try clear p6
            try clear c7
            try clear c8
            try clear c8b0
            try clear c8b1
            try clear c9
            try clear c9b0
            try clear c9b1
            try clear p11
            try clear q11
            try clear hx11
            try clear c20
            try clear q25
            try clear c37
            try clear c37b0
            try clear c37b1
            try clear c38
            try clear c38b0
            try clear c38b1
            try clear c39
            try clear c39b0
            try clear c39b1
            try clear c41
            try clear c41b0
            try clear c42
            try clear c42b0
            try clear hcv43
            try clear hcv44
            try clear hcv45
            try clear hcv46
            try clear hcv47
            try clear hcv48
            try clear hcz30_0
            try clear hcz30_1
            try clear hcz30_2
            try clear hcz30_3
            try clear hcz33_0
            try clear hcz33_1
            try clear hcz33_2
            try clear hcz33_3
            try clear hcz35_0
            try clear hcz35_1
            try clear hcz35_2
            try clear hcz35_3
            try clear hfz30_0
            try clear hfz30_1
            try clear hfz30_2
            try clear hfz30_3
            try clear hfz33_0
            try clear hfz33_1
            try clear hfz33_2
            try clear hfz33_3
            try clear hfz35_0
            try clear hfz35_1
            try clear hfz35_2
            try clear hfz35_3
            try clear hx1156_0
            try clear hx1157_0
            try clear p1156
            try clear p1157
            try clear q1156
            try clear q1157
            try clear q25
            obtain ⟨kq, x72_16, rfl, HA, HJ16, HO_9, HO_10, BK1117, HR1131, HB⟩ := hcut
            cases kq with
            | zero => exact absurd HA.out (by simp [galleylaw07_LinesOwn.j0])
            | succ kj16 =>
              have H := HA.out
              clear HA
              simp only [galleylaw07_LinesOwn.j0] at H
              by_cases c49 : x72_16 = true
              · subst c49
                have H1 : (some false) = some r := by rw [if_pos rfl] at H; exact H
                clear H
                have H := H1
                clear H1
                obtain rfl := Option.some.inj H
                go_wp2
                go_ret
                exact ⟨by first | rfl | (simp [errW_none, errW_some] <;> rfl) | (simp [*, errW_none, errW_some] <;> rfl), by repeat (first | (with_reducible first | exact HB.out | apply below_alloc | apply pw_below_drewN | apply below_drew1 | refine below_set ?_ GE1117.out) | exact HB.out)⟩
              · replace c49 := Bool.eq_false_iff.mpr c49
                subst c49
                have H1 : ((some (([] : List Int) : List Int)).bind fun y1158 => (if y1158.length + t1135.length < 17592186044416 then (galleylaw07_LinesOwn.l0 kj16 l0 t1132 t1135 (y1158 ++ t1135) (t1132.length : Int) 0) else (none))) = some r := by rw [if_neg (show ¬ (false = true) by decide)] at H; exact H
                clear H
                have H := H1
                clear H1
                obtain ⟨y1158, hy1158⟩ : ∃ y_ : List Int, y_ = (([] : List Int)) := ⟨_, rfl⟩
                replace H : (if y1158.length + t1135.length < 17592186044416 then (galleylaw07_LinesOwn.l0 kj16 l0 t1132 t1135 (y1158 ++ t1135) (t1132.length : Int) 0) else (none)) = some r := by first | (rw [hy1158]; with_reducible exact H) | (have H2_ := (Option.bind_some _ _).symm.trans H; rw [hy1158]; with_reducible exact H2_) | (have H2_ := (Option.bind_some _ _).symm.trans H; with_reducible exact H2_) | with_reducible exact H | (rw [hy1158]; exact H) | exact H
                have Ny1158 := Aside0.mk hy1158
                clear hy1158
                by_cases c50 : y1158.length + t1135.length < 17592186044416
                · rw [if_pos c50] at H
                  have LMc50 := Aside0.mk c50
                  clear c50
                  obtain ⟨y1161, hy1161⟩ : ∃ y_ : List Int, y_ = (y1158 ++ t1135) := ⟨_, rfl⟩
                  replace H : (galleylaw07_LinesOwn.l0 kj16 l0 t1132 t1135 y1161 (t1132.length : Int) 0) = some r := by first | (rw [hy1161]; with_reducible exact H) | (have H2_ := (Option.bind_some _ _).symm.trans H; rw [hy1161]; with_reducible exact H2_) | (have H2_ := (Option.bind_some _ _).symm.trans H; with_reducible exact H2_) | with_reducible exact H | (rw [hy1161]; exact H) | exact H
                  have Ny1161 := Aside0.mk hy1161
                  clear hy1161
                  have H' := Aside0.mk H
                  clear H
                  go_wp2_with (first | ((with_reducible refine gate_dst (N := 73) rfl ?_); (try (refine gate_guard (by rfl) ?_; dsimp only)); refine Kd.R_lit (Kd.int .i64) _ 3 ?hg (N := 73) ?hd (xs := ([] : List Int)) (inner := []) (ok := fun _ => True) (okp := fun _ => True) ?hr ?hp (fun _ hk => hk) trivial (Below.refl _ _) (Nat.le_refl _) (by simp) ?_; (case hd => rfl); (case hg => rfl); (case hr => first | (go_simp; done) | (go_simp; rfl)); (case hp => exact (Reps.none _ _)); intro v1159 w51 ho52 hb hg_ hnew_; clear hg_ hnew_; (first | rw [← Ny1158.out] at ho52 | (simp only [Int.reduceToNat] at ho52; rw [← Ny1158.out] at ho52)); have n0_ := Aside0.mk (Kd.R_elder' (by (with_reducible repeat (first | apply Kd.R_alloc | apply Kd.R_drewN | apply Kd.R_drew)); exact HO_9.out) (Kd.R_base ho52) hb); have n1_ := Aside0.mk (Kd.R_elder' (by (with_reducible repeat (first | apply Kd.R_alloc | apply Kd.R_drewN | apply Kd.R_drew)); exact HO_10.out) (Kd.R_base ho52) hb); have n2_ := Aside0.mk (Kd.R_lower (Kd.R_new' (Kd.R_new' ho52 (Kd.R_lt (by (with_reducible repeat (first | apply Kd.R_alloc | apply Kd.R_drewN | apply Kd.R_drew)); exact HO_9.out))) (Kd.R_lt (by (with_reducible repeat (first | apply Kd.R_alloc | apply Kd.R_drewN | apply Kd.R_drew)); exact HO_10.out))) (below_size (by repeat (first | (with_reducible first | exact HB.out | apply below_alloc | apply pw_below_drewN | apply below_drew1 | refine below_set ?_ GE1117.out) | exact HB.out)))); have n3_ := Aside0.mk (blk_below (g := gb1117) (o := .cells #[.int .i64 a2_0, .int .i64 a2_1, .int .i64 a2_2, .int .i64 a2_3] 73 (0, 0)) (by (with_reducible repeat (first | refine blk_drewN ?_ _ | refine blk_drew ?_ | refine blk_alloc ?_ _)); exact BK1117.out) hb); have n4_ := Aside0.mk (Kd.C_below (by repeat (first | (with_reducible exact HR1131.out) | (with_reducible refine Kd.C_alloc ?_ _) | (with_reducible refine Kd.C_drewN ?_ _) | (with_reducible refine Kd.C_drew ?_) | exact HR1131.out)) hb); have n5_ := Aside0.mk (below_step (by repeat (first | (with_reducible first | exact HB.out | apply below_alloc | apply pw_below_drewN | apply below_drew1 | refine below_set ?_ GE1117.out) | exact HB.out)) hb); clear HO_9; clear HO_10; clear BK1117; clear HR1131; clear HB; have HO_9 := n0_; have HO_10 := n1_; have HO1160 := n2_; have BK1117 := n3_; have HR1131 := n4_; have HB := n5_; clear n0_ n1_ n2_ n3_ n4_ n5_; clear hb ho52; obtain ⟨Ao54, co54, eo54⟩ := Kd.R_slice HO_10.out; subst eo54) | ((with_reducible refine gate_builtin (b := .append) (xs := #[.tmp 73, .tmp 74]) rfl ?_); (try (refine gate_guard (by rfl) ?_; dsimp only)); at_builtin; refine Kd.R_append_rows (Kd.int .i64) (w0 := w) w.heap.size rfl (.tmp 73) (.tmp 74) 29 3 (.int .i64 0) 8 rfl Tryd.underlying29 info3 rfl (by decide) (by omega) v1159 y1158 t1135 _ _ _ (fun k_ => some k_ ≠ (v1133 : Value).ownBlock ∧ some k_ ≠ (.slice Ao54 t1135.length co54 : Value).ownBlock) (fun _ => False) rfl rfl ?aO ?aR (fun _ _ h => h) (fun _ h => h.elim) ?aF ?aB ?aS ?aL ?_; (case aR => repeat (first | exact (Kd.R_reads' HO_10.out).2.2 | (with_reducible refine Kd.C_alloc ?_ _) | (with_reducible refine Kd.C_drewN ?_ _) | (with_reducible refine Kd.C_drew ?_))); (case aB => exact (by repeat (first | (with_reducible first | exact HB.out | apply below_alloc | apply pw_below_drewN | apply below_drew1 | refine below_set ?_ GE1117.out) | exact HB.out))); (case aF => exact (fun k_ hk => ⟨Kd.fresh' (Kd.R_lt (by (with_reducible repeat (first | apply Kd.R_alloc | apply Kd.R_drewN | apply Kd.R_drew)); exact HO_9.out)) k_ hk, Kd.fresh' (Kd.R_lt (by (with_reducible repeat (first | apply Kd.R_alloc | apply Kd.R_drewN | apply Kd.R_drew)); exact HO_10.out)) k_ hk⟩)); (case aO => exact (by (with_reducible repeat (first | apply Kd.R_alloc | apply Kd.R_drewN | apply Kd.R_drew)); exact Kd.R_mono HO1160.out (fun _ hk => ⟨hk.1.2, hk.2⟩))); (case aS => exact (below_size (by repeat (first | (with_reducible first | exact HB.out | apply below_alloc | apply pw_below_drewN | apply below_drew1 | refine below_set ?_ GE1117.out) | exact HB.out)))); (case aL => have := LMc50.out; omega); intro v1162 w53 ho hb hg hat; rw [← Ny1161.out] at ho; have n0_ := Aside0.mk (Kd.R_after (ok := (fun k_ => some k_ ≠ (.slice Ao54 t1135.length co54 : Value).ownBlock)) (by (with_reducible repeat (first | apply Kd.R_alloc | apply Kd.R_drewN | apply Kd.R_drew)); exact HO_9.out) hg hat); have n1_ := Aside0.mk (Kd.R_after (ok := (fun k_ => some k_ ≠ (v1133 : Value).ownBlock)) (by (with_reducible repeat (first | apply Kd.R_alloc | apply Kd.R_drewN | apply Kd.R_drew)); exact HO_10.out) hg hat); have n2_ := Aside0.mk (blk_grown (g := gb1117) (o := .cells #[.int .i64 a2_0, .int .i64 a2_1, .int .i64 a2_2, .int .i64 a2_3] 73 (0, 0)) (by (with_reducible repeat (first | refine blk_drewN ?_ _ | refine blk_drew ?_ | refine blk_alloc ?_ _)); exact BK1117.out) hg (Kd.R_ne HO1160.out BK1117.out (by decide))); have n3_ := Aside0.mk (hb); have n4_ := Aside0.mk (ho); clear HO_9; clear HO_10; clear BK1117; clear HB; clear HO1160; have HO_9 := n0_; have HO_10 := n1_; have BK1117 := n2_; have HB := n3_; have HO1163 := n4_; clear n0_ n1_ n2_ n3_ n4_; clear ho hb hg hat; obtain ⟨Ao55, co55, eo55⟩ := Kd.R_slice HO_9.out; subst eo55))
                  go_loopg [78] kj16 (fun kq v78 w' => ∃ (x9_2 : List Int) (x78_2 : Int), v78 = .int .i64 x78_2 ∧ Aside0 (galleylaw07_LinesOwn.l0 kq l0 x9_2 t1135 y1161 (t1132.length : Int) x78_2 = some r) ∧ Aside0 (kq ≤ kj16) ∧ Aside0 (Kd.R (Kd.int .i64) 3 w' w.heap.size (fun k_ => some k_ ≠ ((.slice Ao54 t1135.length co54) : Value).ownBlock ∧ some k_ ≠ (v1162 : Value).ownBlock) (.slice Ao55 t1132.length co55) x9_2) ∧ Aside0 (Kd.R (Kd.int .i64) 3 w' w.heap.size (fun k_ => some k_ ≠ ((.slice Ao55 t1132.length co55) : Value).ownBlock ∧ some k_ ≠ (v1162 : Value).ownBlock) (.slice Ao54 t1135.length co54) t1135) ∧ Aside0 (Kd.R (Kd.int .i64) 3 w' w.heap.size (fun k_ => some k_ ≠ ((.slice Ao55 t1132.length co55) : Value).ownBlock ∧ some k_ ≠ ((.slice Ao54 t1135.length co54) : Value).ownBlock) v1162 y1161) ∧ Aside0 (w'.heap[gb1117]? = some (.cells #[.int .i64 a2_0, .int .i64 a2_1, .int .i64 a2_2, .int .i64 a2_3] 73 (0, 0))) ∧ Aside0 (Below w.heap.size w w'))
                  case atStart => exact ⟨(t1132), (0), (by first | rfl | (simp; done) | (simp [*]; done)), H', ⟨Nat.le_refl _⟩, ⟨by (with_reducible repeat (first | apply Kd.R_alloc | apply Kd.R_drewN | apply Kd.R_drew)); exact HO_9.out⟩, ⟨by (with_reducible repeat (first | apply Kd.R_alloc | apply Kd.R_drewN | apply Kd.R_drew)); exact HO_10.out⟩, ⟨by (with_reducible repeat (first | apply Kd.R_alloc | apply Kd.R_drewN | apply Kd.R_drew)); exact HO1163.out⟩, ⟨by (with_reducible repeat (first | refine blk_drewN ?_ _ | refine blk_drew ?_ | refine blk_alloc ?_ _)); exact BK1117.out⟩, ⟨by repeat (first | (with_reducible first | exact HB.out | apply below_alloc | apply pw_below_drewN | apply below_drew1 | refine below_set ?_ GE1117.out) | exact HB.out)⟩⟩
                  case round =>
                    clear H'
                    try clear p1
                    try clear q1
                    try clear hx1
                    try clear c2
                    try clear p2
                    try clear q2
                    try clear c3
                    try clear c4
                    try clear hcv4
                    try clear c5
                    try clear c6
                    try clear p6
                    try clear c7
                    try clear c8
                    try clear c8b0
                    try clear c8b1
                    try clear c9
                    try clear c9b0
                    try clear c9b1
                    try clear p11
                    try clear q11
                    try clear hx11
                    try clear c20
                    try clear q25
                    try clear c37
                    try clear c37b0
                    try clear c37b1
                    try clear c38
                    try clear c38b0
                    try clear c38b1
                    try clear c39
                    try clear c39b0
                    try clear c39b1
                    try clear c41
                    try clear c41b0
                    try clear c42
                    try clear c42b0
                    try clear hcv43
                    try clear hcv44
                    try clear hcv45
                    try clear hcv46
                    try clear hcv47
                    try clear hcv48
                    try clear c49
                    try clear c50
                    try clear hcz30_0
                    try clear hcz30_1
                    try clear hcz30_2
                    try clear hcz30_3
                    try clear hcz33_0
                    try clear hcz33_1
                    try clear hcz33_2
                    try clear hcz33_3
                    try clear hcz35_0
                    try clear hcz35_1
                    try clear hcz35_2
                    try clear hcz35_3
                    try clear hfz30_0
                    try clear hfz30_1
                    try clear hfz30_2
                    try clear hfz30_3
                    try clear hfz33_0
                    try clear hfz33_1
                    try clear hfz33_2
                    try clear hfz33_3
                    try clear hfz35_0
                    try clear hfz35_1
                    try clear hfz35_2
                    try clear hfz35_3
                    try clear hx1156_0
                    try clear hx1157_0
                    try clear p1
                    try clear p11
                    try clear p1156
                    try clear p1157
                    try clear p2
                    try clear p6
                    try clear q1
                    try clear q11
                    try clear q1156
                    try clear q1157
                    try clear q2
                    try clear q25
                    obtain ⟨x9_2, x78_2, rfl, HA, HK2, HO_9, HO_10, HO_11, BK1117, HB⟩ := hrel
                    have hl9_2 := (Kd.R_reads' HO_9.out).1
                    rw [hl9_2] at HO_9
                    (try simp only [hl9_2])
                    (try simp only [hl9_2] at BK1117)
                    (try simp only [hl9_2] at HO_10)
                    (try simp only [hl9_2] at HO_11)
                    cases gk with
                    | zero => exact absurd HA.out (by simp [galleylaw07_LinesOwn.l0])
                    | succ k2 =>
                      have H := HA.out
                      clear HA
                      simp only [galleylaw07_LinesOwn.l0] at H
                      by_cases c56 : x78_2 < (t1132.length : Int)
                      · rw [if_pos c56] at H
                        have c56b0 : decide (x78_2 < (t1132.length : Int)) = true := decide_eq_true c56
                        clear c56
                        by_cases c57 : 0 ≤ x78_2
                        · rw [if_pos c57] at H
                          have c57b0 : decide (0 ≤ x78_2) = true := decide_eq_true c57
                          clear c57
                          by_cases c58 : x78_2 < (x9_2.length : Int)
                          · rw [if_pos c58] at H
                            have c58b0 : decide (x78_2 < (x9_2.length : Int)) = true := decide_eq_true c58
                            clear c58
                            obtain ⟨y1164, hy1164⟩ : ∃ y_ : List Int, y_ = (x9_2.set (x78_2 : Int).toNat (-1)) := ⟨_, rfl⟩
                            replace H : (galleylaw07_LinesOwn.l0 k2 l0 y1164 t1135 y1161 (t1132.length : Int) (wrap64 (x78_2 + 1))) = some r := by first | (rw [hy1164]; with_reducible exact H) | (have H2_ := (Option.bind_some _ _).symm.trans H; rw [hy1164]; with_reducible exact H2_) | (have H2_ := (Option.bind_some _ _).symm.trans H; with_reducible exact H2_) | with_reducible exact H | (rw [hy1164]; exact H) | exact H
                            have Ny1164 := Aside0.mk hy1164
                            clear hy1164
                            have H' := Aside0.mk H
                            clear H
                            have p59 : 0 ≤ (x78_2 : Int) := of_decide_eq_true (by first | (with_reducible assumption) | assumption)
                            have q59 : (x78_2 : Int) < ((x9_2.length : Int) : Int) := of_decide_eq_true (by first | (with_reducible assumption) | assumption)
                            obtain ⟨go59, co59, eo59, gb59, gl59, cl59, HG59⟩ := Kd.R_form HO_9.out (by omega)
                            (first | cases eo59 | (injection eo59 with ea_ en_ ec_; (first | subst ea_ | (injection ea_ with ea_; subst ea_)); subst ec_; clear en_))
                            have GB59 := Aside0.mk gb59
                            have GG59 := Aside0.mk HG59
                            clear gb59 gl59 HG59
                            obtain ⟨hx59_0, hf59_0⟩ := Kd.R_celln 0 HO_9.out (x78_2 : Int) p59 q59
                            replace p59 := eq_true p59
                            replace q59 := eq_true q59
                            have HP60 := Kd.R_putg HO_9.out (x78_2 : Int) (-1)
                            go_wp2_with (first | ((with_reducible refine gate_store (t := 3) (p := 83) rfl ?_); refine store_event (t := 3) (p := 83) (v := ?vo_w61) (w1 := (wr.setCell ⟨go59, (x78_2 : Int).toNat, none⟩ (.int .i64 (-1)))) ?hg ?ho ?hn ?hr ?_; (case ho => rfl); (case hg => rfl); (case hn => rfl); (case hr => first | (go_simp; done) | (go_simp; rfl)); intro w61 hw; have hg : wr.grownBy w61 (some go59) := (by rw [hw]; exact HP60.2); have hp_ : Kd.R (Kd.int .i64) 3 w61 w.heap.size (fun k_ => some k_ ≠ (.slice Ao54 t1135.length co54 : Value).ownBlock ∧ some k_ ≠ (v1162 : Value).ownBlock) (.slice (some ⟨go59, 0, none⟩) x9_2.length co55) y1164 := (by rw [hw, Ny1164.out]; exact HP60.1); clear HP60; have n0_ := Aside0.mk (hp_); have n1_ := Aside0.mk (Kd.R_after (v := (.slice (some ⟨go59, 0, none⟩) x9_2.length co55)) (v1 := (.slice (some ⟨go59, 0, none⟩) x9_2.length co55)) (ok := (fun k_ => some k_ ≠ (v1162 : Value).ownBlock)) (by (with_reducible repeat (first | apply Kd.R_alloc | apply Kd.R_drewN | apply Kd.R_drew)); exact Kd.R_mono HO_10.out (fun _ hk => ⟨hk.2, hk.1⟩)) hg (.inl rfl)); have n2_ := Aside0.mk (Kd.R_after (v := (.slice (some ⟨go59, 0, none⟩) x9_2.length co55)) (v1 := (.slice (some ⟨go59, 0, none⟩) x9_2.length co55)) (ok := (fun k_ => some k_ ≠ (.slice Ao54 t1135.length co54 : Value).ownBlock)) (by (with_reducible repeat (first | apply Kd.R_alloc | apply Kd.R_drewN | apply Kd.R_drew)); exact Kd.R_mono HO_11.out (fun _ hk => ⟨hk.2, hk.1⟩)) hg (.inl rfl)); have n3_ := Aside0.mk (blk_grown (g := gb1117) (o := .cells #[.int .i64 a2_0, .int .i64 a2_1, .int .i64 a2_2, .int .i64 a2_3] 73 (0, 0)) (by (with_reducible repeat (first | refine blk_drewN ?_ _ | refine blk_drew ?_ | refine blk_alloc ?_ _)); exact BK1117.out) hg (Kd.R_ne HO_9.out BK1117.out (by decide))); have n4_ := Aside0.mk ((by rw [hw]; exact below_set (HB.out) GB59.out : Below w.heap.size w w61)); clear HO_9; clear HO_10; clear HO_11; clear BK1117; clear HB; have HO_9 := n0_; have HO_10 := n1_; have HO_11 := n2_; have BK1117 := n3_; have HB := n4_; clear n0_ n1_ n2_ n3_ n4_; clear hg hw hp_))
                            (try simp only [← hl9_2])
                            go_roundg k2
                            case measure => have := HJ16.out; have := HK2.out; omega
                            case rel => exact ⟨(y1164), (wrap64 (x78_2 + 1)), (by first | rfl | (simp; done) | (simp [*]; done)), H', ⟨by have := HJ16.out; have := HK2.out; omega⟩, ⟨by (try simp only [hl9_2]); (with_reducible repeat (first | apply Kd.R_alloc | apply Kd.R_drewN | apply Kd.R_drew)); exact HO_9.out⟩, ⟨by (try simp only [hl9_2]); (with_reducible repeat (first | apply Kd.R_alloc | apply Kd.R_drewN | apply Kd.R_drew)); exact Kd.R_mono HO_10.out (fun _ hk => ⟨hk.2, hk.1⟩)⟩, ⟨by (try simp only [hl9_2]); (with_reducible repeat (first | apply Kd.R_alloc | apply Kd.R_drewN | apply Kd.R_drew)); exact Kd.R_mono HO_11.out (fun _ hk => ⟨hk.2, hk.1⟩)⟩, ⟨by (try simp only [hl9_2]); (with_reducible repeat (first | refine blk_drewN ?_ _ | refine blk_drew ?_ | refine blk_alloc ?_ _)); exact BK1117.out⟩, ⟨by repeat (first | (with_reducible first | exact HB.out | apply below_alloc | apply pw_below_drewN | apply below_drew1 | refine below_set ?_ GE1117.out) | exact HB.out)⟩⟩
                          · rw [if_neg c58] at H
                            exact absurd H (by simp)
                        · rw [if_neg c57] at H
                          exact absurd H (by simp)
                      · rw [if_neg c56] at H
                        have c56b0 : decide (x78_2 < (t1132.length : Int)) = false := decide_eq_false c56
                        clear c56
                        have c56c : decide (x78_2 < (x9_2.length : Int)) = false := by rw [← hl9_2]; exact c56b0
                        have H' := Aside0.mk H
                        clear H
                        go_wp2
                        go_loopg [9, 13] k2 (fun kq v9 v13 w' => ∃ (x9_3 : List Int) (x13_3 : Int), v13 = .int .i64 x13_3 ∧ Aside0 (galleylaw07_LinesOwn.l1 kq l0 x9_3 t1135 y1161 x13_3 = some r) ∧ Aside0 (kq ≤ k2) ∧ Aside0 (Kd.R (Kd.int .i64) 3 w' w.heap.size (fun k_ => some k_ ≠ ((.slice Ao54 t1135.length co54) : Value).ownBlock ∧ some k_ ≠ (v1162 : Value).ownBlock) v9 x9_3) ∧ Aside0 (Kd.R (Kd.int .i64) 3 w' w.heap.size (fun k_ => some k_ ≠ (v9 : Value).ownBlock ∧ some k_ ≠ (v1162 : Value).ownBlock) (.slice Ao54 t1135.length co54) t1135) ∧ Aside0 (Kd.R (Kd.int .i64) 3 w' w.heap.size (fun k_ => some k_ ≠ (v9 : Value).ownBlock ∧ some k_ ≠ ((.slice Ao54 t1135.length co54) : Value).ownBlock) v1162 y1161) ∧ Aside0 (w'.heap[gb1117]? = some (.cells #[.int .i64 a2_0, .int .i64 a2_1, .int .i64 a2_2, .int .i64 a2_3] 73 (0, 0))) ∧ Aside0 (Below w.heap.size w w'))
                        case atStart => exact ⟨(x9_2), (0), (by first | rfl | (simp; done) | (simp [*]; done)), H', ⟨Nat.le_refl _⟩, ⟨by (try simp only [hl9_2]); (with_reducible repeat (first | apply Kd.R_alloc | apply Kd.R_drewN | apply Kd.R_drew)); exact HO_9.out⟩, ⟨by (try simp only [hl9_2]); (with_reducible repeat (first | apply Kd.R_alloc | apply Kd.R_drewN | apply Kd.R_drew)); exact HO_10.out⟩, ⟨by (try simp only [hl9_2]); (with_reducible repeat (first | apply Kd.R_alloc | apply Kd.R_drewN | apply Kd.R_drew)); exact HO_11.out⟩, ⟨by (try simp only [hl9_2]); (with_reducible repeat (first | refine blk_drewN ?_ _ | refine blk_drew ?_ | refine blk_alloc ?_ _)); exact BK1117.out⟩, ⟨by repeat (first | (with_reducible first | exact HB.out | apply below_alloc | apply pw_below_drewN | apply below_drew1 | refine below_set ?_ GE1117.out) | exact HB.out)⟩⟩
                        case round =>
                          clear H'
                          try clear p1
                          try clear q1
                          try clear hx1
                          try clear c2
                          try clear p2
                          try clear q2
                          try clear c3
                          try clear c4
                          try clear hcv4
                          try clear c5
                          try clear p5
                          try clear q5
                          try clear hx5
                          try clear hf5
                          try clear c6
                          try clear p6
                          try clear c7
                          try clear c8
                          try clear c8b0
                          try clear c8b1
                          try clear c9
                          try clear c9b0
                          try clear c9b1
                          try clear p11
                          try clear q11
                          try clear hx11
                          try clear c20
                          try clear q25
                          try clear c37
                          try clear c37b0
                          try clear c37b1
                          try clear c38
                          try clear c38b0
                          try clear c38b1
                          try clear c39
                          try clear c39b0
                          try clear c39b1
                          try clear c41
                          try clear c41b0
                          try clear c42
                          try clear c42b0
                          try clear hcv43
                          try clear hcv44
                          try clear hcv45
                          try clear hcv46
                          try clear hcv47
                          try clear hcv48
                          try clear c49
                          try clear c50
                          try clear c56
                          try clear c56b0
                          try clear c57
                          try clear c57b0
                          try clear c58
                          try clear c58b0
                          try clear c59
                          try clear p59
                          try clear q59
                          try clear hx59
                          try clear hf59
                          try clear c61
                          try clear hcz30_0
                          try clear hcz30_1
                          try clear hcz30_2
                          try clear hcz30_3
                          try clear hcz33_0
                          try clear hcz33_1
                          try clear hcz33_2
                          try clear hcz33_3
                          try clear hcz35_0
                          try clear hcz35_1
                          try clear hcz35_2
                          try clear hcz35_3
                          try clear hfz30_0
                          try clear hfz30_1
                          try clear hfz30_2
                          try clear hfz30_3
                          try clear hfz33_0
                          try clear hfz33_1
                          try clear hfz33_2
                          try clear hfz33_3
                          try clear hfz35_0
                          try clear hfz35_1
                          try clear hfz35_2
                          try clear hfz35_3
                          try clear hx1156_0
                          try clear hx1157_0
                          try clear hx59_0
                          try clear p1
                          try clear p11
                          try clear p1156
                          try clear p1157
                          try clear p2
                          try clear p59
                          try clear p6
                          try clear q1
                          try clear q11
                          try clear q1156
                          try clear q1157
                          try clear q2
                          try clear q25
                          try clear q59
                          obtain ⟨x9_3, x13_3, rfl, HA, HK3, HO_9, HO_10, HO_11, BK1117, HB⟩ := hrel
                          cases gk with
                          | zero => exact absurd HA.out (by simp [galleylaw07_LinesOwn.l1])
                          | succ k3 =>
                            have H := HA.out
                            clear HA
                            simp only [galleylaw07_LinesOwn.l1] at H
                            by_cases c62 : x13_3 < 40
                            · rw [if_pos c62] at H
                              have c62b0 : decide (x13_3 < 40) = true := decide_eq_true c62
                              clear c62
                              by_cases c63 : x9_3.length < 17592186044416
                              · rw [if_pos c63] at H
                                have LMc63 := Aside0.mk c63
                                clear c63
                                obtain ⟨y1165, hy1165⟩ : ∃ y_ : List Int, y_ = (x9_3 ++ [(-2)]) := ⟨_, rfl⟩
                                replace H : (galleylaw07_LinesOwn.l1 k3 l0 y1165 t1135 y1161 (wrap64 (x13_3 + 1))) = some r := by first | (rw [hy1165]; with_reducible exact H) | (have H2_ := (Option.bind_some _ _).symm.trans H; rw [hy1165]; with_reducible exact H2_) | (have H2_ := (Option.bind_some _ _).symm.trans H; with_reducible exact H2_) | with_reducible exact H | (rw [hy1165]; exact H) | exact H
                                have Ny1165 := Aside0.mk hy1165
                                clear hy1165
                                have H' := Aside0.mk H
                                clear H
                                go_wp2_with (first | ((with_reducible refine gate_builtin (b := .append) (xs := #[.tmp 89, .tmp 90]) rfl ?_); (try (refine gate_guard (by rfl) ?_; dsimp only)); at_builtin; refine Kd.R_append (Kd.int .i64) (w0 := w) w.heap.size rfl (.tmp 89) (.tmp 90) 29 3 (.int .i64 0) 8 rfl Tryd.underlying29 info3 rfl (by decide) (by omega) u9 x9_3 (-2) [.int .i64 (-2)] (fun k_ => some k_ ≠ (.slice Ao54 t1135.length co54 : Value).ownBlock ∧ some k_ ≠ (v1162 : Value).ownBlock) (fun _ => False) rfl rfl ?aP (fun _ hk => hk.elim) ?aF ?aO ?aB ?aS ?aL ?_; (case aP => exact rfl); (case aB => exact (by repeat (first | (with_reducible first | exact HB.out | apply below_alloc | apply pw_below_drewN | apply below_drew1 | refine below_set ?_ GE1117.out) | exact HB.out))); (case aF => exact (fun k_ hk => ⟨Kd.fresh' (Kd.R_lt (by (with_reducible repeat (first | apply Kd.R_alloc | apply Kd.R_drewN | apply Kd.R_drew)); exact HO_10.out)) k_ hk, Kd.fresh' (Kd.R_lt (by (with_reducible repeat (first | apply Kd.R_alloc | apply Kd.R_drewN | apply Kd.R_drew)); exact HO_11.out)) k_ hk⟩)); (case aO => exact (by (with_reducible repeat (first | apply Kd.R_alloc | apply Kd.R_drewN | apply Kd.R_drew)); exact HO_9.out)); (case aS => exact (below_size (by repeat (first | (with_reducible first | exact HB.out | apply below_alloc | apply pw_below_drewN | apply below_drew1 | refine below_set ?_ GE1117.out) | exact HB.out)))); (case aL => have := LMc63.out; omega); intro v1166 w64 ho hb hg hat; rw [← Ny1165.out] at ho; have n0_ := Aside0.mk (Kd.R_after (ok := (fun k_ => some k_ ≠ (v1162 : Value).ownBlock)) (by (with_reducible repeat (first | apply Kd.R_alloc | apply Kd.R_drewN | apply Kd.R_drew)); exact Kd.R_mono HO_10.out (fun _ hk => ⟨hk.2, hk.1⟩)) hg hat); have n1_ := Aside0.mk (Kd.R_after (ok := (fun k_ => some k_ ≠ (.slice Ao54 t1135.length co54 : Value).ownBlock)) (by (with_reducible repeat (first | apply Kd.R_alloc | apply Kd.R_drewN | apply Kd.R_drew)); exact Kd.R_mono HO_11.out (fun _ hk => ⟨hk.2, hk.1⟩)) hg hat); have n2_ := Aside0.mk (blk_grown (g := gb1117) (o := .cells #[.int .i64 a2_0, .int .i64 a2_1, .int .i64 a2_2, .int .i64 a2_3] 73 (0, 0)) (by (with_reducible repeat (first | refine blk_drewN ?_ _ | refine blk_drew ?_ | refine blk_alloc ?_ _)); exact BK1117.out) hg (Kd.R_ne HO_9.out BK1117.out (by decide))); have n3_ := Aside0.mk (hb); have n4_ := Aside0.mk (ho); clear HO_10; clear HO_11; clear BK1117; clear HB; clear HO_9; have HO_10 := n0_; have HO_11 := n1_; have BK1117 := n2_; have HB := n3_; have HO1167 := n4_; clear n0_ n1_ n2_ n3_ n4_; clear ho hb hg hat))
                                go_roundg k3
                                case measure => have := HJ16.out; have := HK2.out; have := HK3.out; omega
                                case rel => exact ⟨(y1165), (wrap64 (x13_3 + 1)), (by first | rfl | (simp; done) | (simp [*]; done)), H', ⟨by have := HJ16.out; have := HK2.out; have := HK3.out; omega⟩, ⟨by (try simp only [hl9_2]); (with_reducible repeat (first | apply Kd.R_alloc | apply Kd.R_drewN | apply Kd.R_drew)); exact HO1167.out⟩, ⟨by (try simp only [hl9_2]); (with_reducible repeat (first | apply Kd.R_alloc | apply Kd.R_drewN | apply Kd.R_drew)); exact Kd.R_mono HO_10.out (fun _ hk => ⟨hk.2, hk.1⟩)⟩, ⟨by (try simp only [hl9_2]); (with_reducible repeat (first | apply Kd.R_alloc | apply Kd.R_drewN | apply Kd.R_drew)); exact Kd.R_mono HO_11.out (fun _ hk => ⟨hk.2, hk.1⟩)⟩, ⟨by (try simp only [hl9_2]); (with_reducible repeat (first | refine blk_drewN ?_ _ | refine blk_drew ?_ | refine blk_alloc ?_ _)); exact BK1117.out⟩, ⟨by repeat (first | (with_reducible first | exact HB.out | apply below_alloc | apply pw_below_drewN | apply below_drew1 | refine below_set ?_ GE1117.out) | exact HB.out)⟩⟩
                              · rw [if_neg c63] at H
                                exact absurd H (by simp)
                            · rw [if_neg c62] at H
                              have c62b0 : decide (x13_3 < 40) = false := decide_eq_false c62
                              clear c62
                              replace H := Option.bind_eq_some_iff.mp H
                              obtain ⟨t1168, A650, H⟩ := H
                              replace H : (if t1168 = true then ((galleyref07_Rows.f k3 l0).bind fun t1169 => (some ((t1135.length : Int) == (t1169.length : Int)))) else (some false)) = some r := H
                              have A65 := Aside0.mk A650
                              clear A650
                              by_cases c66 : t1168 = true
                              · subst c66
                                have H1 : ((galleyref07_Rows.f k3 l0).bind fun t1169 => (some ((t1135.length : Int) == (t1169.length : Int)))) = some r := by rw [if_pos rfl] at H; exact H
                                clear H
                                have H := H1
                                clear H1
                                replace H := Option.bind_eq_some_iff.mp H
                                obtain ⟨t1169, A670, H⟩ := H
                                replace H : (some ((t1135.length : Int) == (t1169.length : Int))) = some r := H
                                have A67 := Aside0.mk A670
                                clear A670
                                obtain rfl := Option.some.inj H
                                obtain ⟨Ao68, co68, eo68⟩ := Kd.R_slice HO_11.out
                                subst eo68
                                go_wp2_with (first | ((with_reducible refine gate_callee (f := 35) rfl ?_); refine goesL_ (some 94) rfl rfl Tryd.func35 (by kernel_rfl) rfl #[.slice Ao54 t1135.length co54, .slice Ao68 y1161.length co68] rfl (by (try simp only [List.map_toArray, List.map_cons, List.map_nil]); first | done | rfl | (simp only [List.length_drop, List.length_take]; rfl)) ?_; (with_reducible refine (galleyref01_SameInts.calls k3 _ _ t1135 _ _ y1161 true _ ?side1 ?side2 ?side3 ?side4 A65.out).mono ?_); (case side1 => repeat (first | exact (Kd.R_reads' HO_10.out).2.2 | (with_reducible refine Kd.C_alloc ?_ _) | (with_reducible refine Kd.C_drewN ?_ _) | (with_reducible refine Kd.C_drew ?_))); (case side2 => exact (Kd.R_reads' HO_10.out).2.1); (case side3 => repeat (first | exact (Kd.R_reads' HO_11.out).2.2 | (with_reducible refine Kd.C_alloc ?_ _) | (with_reducible refine Kd.C_drewN ?_ _) | (with_reducible refine Kd.C_drew ?_))); (case side4 => exact (Kd.R_reads' HO_11.out).2.1); rintro e w' ⟨rfl, ⟨nd, rfl⟩⟩; refine ⟨_, rfl, ?_⟩) | (go_at_call 63; (with_reducible refine (galleyref07_Rows.calls k3 _ _ l0 t1169 _ ?side1 ?side2 A67.out).mono ?_); (case side1 => repeat (first | exact (Kd.C_below HR0.out (by repeat (first | (with_reducible first | exact HB.out | apply below_alloc | apply pw_below_drewN | apply below_drew1 | refine below_set ?_ GE1117.out) | exact HB.out))) | (with_reducible refine Kd.C_alloc ?_ _) | (with_reducible refine Kd.C_drewN ?_ _) | (with_reducible refine Kd.C_drew ?_))); (case side2 => exact HC0.out); rintro e w69 ⟨v1170, rfl, ho0, hb⟩; have n0_ := Aside0.mk (Kd.R_below (by (with_reducible repeat (first | apply Kd.R_alloc | apply Kd.R_drewN | apply Kd.R_drew)); exact HO_9.out) hb); have n1_ := Aside0.mk (Kd.R_below (by (with_reducible repeat (first | apply Kd.R_alloc | apply Kd.R_drewN | apply Kd.R_drew)); exact HO_10.out) hb); have n2_ := Aside0.mk (Kd.R_below (by (with_reducible repeat (first | apply Kd.R_alloc | apply Kd.R_drewN | apply Kd.R_drew)); exact HO_11.out) hb); have n3_ := Aside0.mk (Kd.R_lower ho0 (below_size (by repeat (first | (with_reducible first | exact HB.out | apply below_alloc | apply pw_below_drewN | apply below_drew1 | refine below_set ?_ GE1117.out) | exact HB.out)))); have n4_ := Aside0.mk (blk_below (g := gb1117) (o := .cells #[.int .i64 a2_0, .int .i64 a2_1, .int .i64 a2_2, .int .i64 a2_3] 73 (0, 0)) (by (with_reducible repeat (first | refine blk_drewN ?_ _ | refine blk_drew ?_ | refine blk_alloc ?_ _)); exact BK1117.out) hb); have n5_ := Aside0.mk (below_step (by repeat (first | (with_reducible first | exact HB.out | apply below_alloc | apply pw_below_drewN | apply below_drew1 | refine below_set ?_ GE1117.out) | exact HB.out)) hb); clear HO_9; clear HO_10; clear HO_11; clear BK1117; clear HB; have HO_9 := n0_; have HO_10 := n1_; have HO_11 := n2_; have HO1171 := n3_; have BK1117 := n4_; have HB := n5_; clear n0_ n1_ n2_ n3_ n4_ n5_; (try clear hb); (try clear hb2); (try clear hk); (try clear hi); (try clear ho0); obtain ⟨Ao70, co70, eo70⟩ := Kd.R_slice HO1171.out; subst eo70))
                                go_ret
                                exact ⟨by first | rfl | (simp [errW_none, errW_some] <;> rfl) | (simp [*, errW_none, errW_some] <;> rfl), by repeat (first | (with_reducible first | exact HB.out | apply below_alloc | apply pw_below_drewN | apply below_drew1 | refine below_set ?_ GE1117.out) | exact HB.out)⟩
                              · replace c66 := Bool.eq_false_iff.mpr c66
                                subst c66
                                have H1 : (some false) = some r := by rw [if_neg (show ¬ (false = true) by decide)] at H; exact H
                                clear H
                                have H := H1
                                clear H1
                                obtain rfl := Option.some.inj H
                                obtain ⟨Ao71, co71, eo71⟩ := Kd.R_slice HO_11.out
                                subst eo71
                                go_wp2_with (first | ((with_reducible refine gate_callee (f := 35) rfl ?_); refine goesL_ (some 94) rfl rfl Tryd.func35 (by kernel_rfl) rfl #[.slice Ao54 t1135.length co54, .slice Ao71 y1161.length co71] rfl (by (try simp only [List.map_toArray, List.map_cons, List.map_nil]); first | done | rfl | (simp only [List.length_drop, List.length_take]; rfl)) ?_; (with_reducible refine (galleyref01_SameInts.calls k3 _ _ t1135 _ _ y1161 false _ ?side1 ?side2 ?side3 ?side4 A65.out).mono ?_); (case side1 => repeat (first | exact (Kd.R_reads' HO_10.out).2.2 | (with_reducible refine Kd.C_alloc ?_ _) | (with_reducible refine Kd.C_drewN ?_ _) | (with_reducible refine Kd.C_drew ?_))); (case side2 => exact (Kd.R_reads' HO_10.out).2.1); (case side3 => repeat (first | exact (Kd.R_reads' HO_11.out).2.2 | (with_reducible refine Kd.C_alloc ?_ _) | (with_reducible refine Kd.C_drewN ?_ _) | (with_reducible refine Kd.C_drew ?_))); (case side4 => exact (Kd.R_reads' HO_11.out).2.1); rintro e w' ⟨rfl, ⟨nd, rfl⟩⟩; refine ⟨_, rfl, ?_⟩))
                                go_ret
                                exact ⟨by first | rfl | (simp [errW_none, errW_some] <;> rfl) | (simp [*, errW_none, errW_some] <;> rfl), by repeat (first | (with_reducible first | exact HB.out | apply below_alloc | apply pw_below_drewN | apply below_drew1 | refine below_set ?_ GE1117.out) | exact HB.out)⟩
                · rw [if_neg c50] at H
                  exact absurd H (by simp)
        · rw [if_neg c9] at H
          exact absurd H (by simp)
      · rw [if_neg c8] at H
        exact absurd H (by simp)
    · rw [if_neg c7] at H
      exact absurd H (by simp)
  · replace c5 := Bool.eq_false_iff.mpr c5
    subst c5
    have H1 : (some false) = some r := by rw [if_neg (show ¬ (false = true) by decide)] at H; exact H
    clear H
    have H := H1
    clear H1
    obtain rfl := Option.some.inj H
    go_enter Tryd.func20, Tryd.ntmps20
    go_wp2_with (first | ((with_reducible refine gate_dst (N := 5) rfl ?_); (try (refine gate_guard (by rfl) ?_; dsimp only)); refine box_event ?hg (N := 5) ?hd (cs := #[.int .i64 a2_0, .int .i64 a2_1, .int .i64 a2_2, .int .i64 a2_3]) (t := 73) ?hr ?_; (case hd => rfl); (case hg => rfl); (case hr => first | (go_simp; done) | (go_simp; rfl)); intro gb1117 hg w72 hbox hb; have n0_ := Aside0.mk (below_step (by repeat (first | (with_reducible first | exact HB.out | apply below_alloc | apply pw_below_drewN | apply below_drew1) | exact HB.out)) hb); have n1_ := Aside0.mk (hbox); have n2_ := Aside0.mk ((by rw [hg]; exact (below_size (by repeat (first | (with_reducible first | exact HB.out | apply below_alloc | apply pw_below_drewN | apply below_drew1) | exact HB.out))) : w.heap.size ≤ gb1117)); have n3_ := Aside0.mk ((by rw [hg]; exact (below_size (by repeat (first | (with_reducible first | exact HB.out | apply below_alloc | apply pw_below_drewN | apply below_drew1) | exact HB.out))) : w.heap.size ≤ gb1117)); clear HB; have HB := n0_; have BK1117 := n1_; have GW1117 := n2_; have GE1117 := n3_; clear n0_ n1_ n2_ n3_; clear hb hbox hg) | ((with_reducible refine gate_callee (f := 56) rfl ?_); refine goesL_ (some 14) rfl rfl Tryd.func56 (by kernel_rfl) rfl #[] rfl (by (try simp only [List.map_toArray, List.map_cons, List.map_nil]); first | done | rfl | (simp only [List.length_drop, List.length_take]; rfl)) ?_; (with_reducible refine (galleylaw07_awake.calls k  false _ ?side1 A4.out).mono ?_); (case side1 => repeat (first | exact HG.out | exact Laid.below HG.out HB.out | (with_reducible refine Laid.alloc ?_ _) | (with_reducible refine Laid.drewN ?_ _) | (with_reducible refine Laid.drew ?_))); rintro e w73 ⟨rfl, hb⟩; refine ⟨_, rfl, ?_⟩; have n0_ := Aside0.mk (blk_below (g := gb1117) (o := .cells #[.int .i64 a2_0, .int .i64 a2_1, .int .i64 a2_2, .int .i64 a2_3] 73 (0, 0)) (by (with_reducible repeat (first | refine blk_drewN ?_ _ | refine blk_drew ?_ | refine blk_alloc ?_ _)); exact BK1117.out) hb); have n1_ := Aside0.mk (below_step (by repeat (first | (with_reducible first | exact HB.out | apply below_alloc | apply pw_below_drewN | apply below_drew1 | refine below_set ?_ GE1117.out) | exact HB.out)) hb); clear BK1117; clear HB; have BK1117 := n0_; have HB := n1_; clear n0_ n1_; (try clear hb); (try clear hb2); (try clear hk); (try clear hi)))
    go_ret
    exact ⟨by first | rfl | (simp [errW_none, errW_some] <;> rfl) | (simp [*, errW_none, errW_some] <;> rfl), by repeat (first | (with_reducible first | exact HB.out | apply below_alloc | apply pw_below_drewN | apply below_drew1 | refine below_set ?_ GE1117.out) | exact HB.out)⟩

end
end Go.Proofs.YtbomhpfckplgaaaDoor.P
