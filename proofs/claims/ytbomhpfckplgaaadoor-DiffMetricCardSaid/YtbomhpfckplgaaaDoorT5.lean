/- Texts of this claim, put together: HBuild, HBuild2, Px71, HCn, HEach, HCanon, HAll. -/
import Derived.Test.YtbomhpfckplgaaaDoorT1
namespace Go.Proofs.YtbomhpfckplgaaaDoor.P
open Go Go.RowKit Go.Proofs.YtbomhpfckplgaaaDoorW.PrintWords Go.Proofs.YtbomhpfckplgaaaDoorW.PrintLast Go.Proofs.YtbomhpfckplgaaaDoorW.PrintMore
set_option linter.unusedVariables false
set_option linter.unusedSimpArgs false
set_option maxRecDepth 100000
attribute [local go_sem] max2_int min2_int max_two min_two max_three min_three max_four min_four
def delta_flush.T1 : Bool × List (List Nat × List Nat) := (true, [([], []), ([], []), ([1], [1]), ([2], [2]), ([3], [3]), ([], []), ([5], [5]), ([6], [6]), ([7], [7]), ([8], [8]), ([9], [9]), ([10], [10]), ([4, 11], [4, 11]), ([0, 0, 1, 2, 3, 4, 5, 6, 7, 8, 9, 10, 11, 12], [0]), ([13, 0, 1, 2, 3, 4, 5, 6, 7, 8, 9, 10, 11, 12], [13]), ([14, 12, 12, 0, 1, 2, 3, 4, 5, 6, 7, 8, 9, 10, 11, 12], [12, 14])])
def delta_flush.B1 : List Nat := [0, 0, 2, 6, 14, 0, 32, 96, 224, 480, 992, 2016, 4094, 8191, 16383, 32767]
theorem delta_flush.tab1 : rtab .any (opsOf Tryd.f140 1) = delta_flush.T1 := by kernel_rfl
theorem delta_flush.bits1 : waitsOk delta_flush.T1.2 delta_flush.B1 = true := by kernel_rfl
def delta_flush.T3 : Bool × List (List Nat × List Nat) := (true, [([], []), ([], []), ([1], [1]), ([2], [2]), ([3], [3]), ([], []), ([5], [5]), ([6], [6]), ([7], [7]), ([8], [8]), ([9], [9]), ([4, 10], [4, 10]), ([0, 0, 1, 2, 3, 4, 5, 6, 7, 8, 9, 10, 11], [0]), ([12, 0, 1, 2, 3, 4, 5, 6, 7, 8, 9, 10, 11], [12]), ([13, 11, 11, 0, 1, 2, 3, 4, 5, 6, 7, 8, 9, 10, 11], [11, 13])])
def delta_flush.B3 : List Nat := [0, 0, 2, 6, 14, 0, 32, 96, 224, 480, 992, 2046, 4095, 8191, 16383]
theorem delta_flush.tab3 : rtab .any (opsOf Tryd.f140 3) = delta_flush.T3 := by kernel_rfl
theorem delta_flush.bits3 : waitsOk delta_flush.T3.2 delta_flush.B3 = true := by kernel_rfl
def delta_onKeep.T4 : Bool × List (List Nat × List Nat) := (true, [([], []), ([0], [0]), ([1], [1]), ([2], [2]), ([], []), ([4], [4]), ([5], [5]), ([6], [6]), ([7], [7]), ([8], [8]), ([3, 9], [3, 9]), ([10], [10]), ([11], [11]), ([], []), ([12, 13], [12, 13]), ([3, 9, 0, 1, 2, 3, 4, 5, 6, 7, 8, 9, 10, 11, 12, 13, 14], [3, 9]), ([15, 0, 1, 2, 3, 4, 5, 6, 7, 8, 9, 10, 11, 12, 13, 14], [15]), ([16, 14, 0, 1, 2, 3, 4, 5, 6, 7, 8, 9, 10, 11, 12, 13, 14], [14, 16])])
def delta_onKeep.B4 : List Nat := [0, 1, 3, 7, 0, 16, 48, 112, 240, 496, 1023, 2047, 4095, 0, 16383, 32767, 65535, 131071]
theorem delta_onKeep.tab4 : rtab .any (opsOf Tryd.f128 4) = delta_onKeep.T4 := by kernel_rfl
theorem delta_onKeep.bits4 : waitsOk delta_onKeep.T4.2 delta_onKeep.B4 = true := by kernel_rfl
def flO (put : List Int) (drop : Int) : List S102 := (if 0 < put.length then [(⟨2, 0, strOfNums put⟩ : S102)] else []) ++ (if 0 < drop then [(⟨3, drop, ⟨#[]⟩⟩ : S102)] else [])
theorem world_ {F : World → Prop} {w : World} (h : ∀ W, W = w → F W) : F w := h w rfl
structure Bd (w0 W : World) (g : Nat) (vO : Value) (out : List S102) (last : Int) (vP : Value) (put : List Int) (drop : Int) : Prop where
  below : Below w0.heap.size w0 W
  base : w0.heap.size ≤ g
  blk : W.heap[g]? = some (.cells #[vO, .int .i64 last, vP, .int .i64 drop] 167 (0, 0))
  O : Kd.R k102 102 W w0.heap.size (fun _ => True) vO out
  P : Kd.R (Kd.int .u8) 5 W w0.heap.size (fun _ => True) vP put
section
variable {w0 W w1 : World} {g : Nat} {vO vP v1 : Value} {out out1 : List S102} {last drop : Int} {put put1 : List Int}
theorem Bd.c0 (h : Bd w0 W g vO out last vP put drop) : W.cell? ⟨g, 0, none⟩ = some vO := (blk_cell h.blk 0).trans rfl
theorem Bd.c1 (h : Bd w0 W g vO out last vP put drop) : W.cell? ⟨g, 1, none⟩ = some (.int .i64 last) := (blk_cell h.blk 1).trans rfl
theorem Bd.c2 (h : Bd w0 W g vO out last vP put drop) : W.cell? ⟨g, 2, none⟩ = some vP := (blk_cell h.blk 2).trans rfl
theorem Bd.c3 (h : Bd w0 W g vO out last vP put drop) : W.cell? ⟨g, 3, none⟩ = some (.int .i64 drop) := (blk_cell h.blk 3).trans rfl
theorem Bd.fz (h : Bd w0 W g vO out last vP put drop) (i : Nat) : W.frozen? ⟨g, i, none⟩ = false := blk_frozen h.blk i
theorem Bd.drew (h : Bd w0 W g vO out last vP put drop) : Bd w0 W.drew g vO out last vP put drop := ⟨h.below.drew, h.base, h.blk, Kd.R_drew h.O, Kd.R_drew h.P⟩
theorem Bd.next (h : Bd w0 W g vO out last vP put drop) (hb : Below W.heap.size W w1) : Bd w0 w1 g vO out last vP put drop := ⟨h.below.trans (hb.mono h.below.size), h.base, blk_below h.blk hb, Kd.R_below h.O hb, Kd.R_below h.P hb⟩
theorem Bd.setLast (h : Bd w0 W g vO out last vP put drop) (v : Int) : Bd w0 (W.setCell ⟨g, 1, none⟩ (.int .i64 v)) g vO out v vP put drop :=
  ⟨h.below.setCell h.base _, h.base, blk_put (cs := #[vO, .int .i64 last, vP, .int .i64 drop]) h.blk 1 _ rfl, Kd.R_set h.O h.blk (by decide) 1 _, Kd.R_set h.P h.blk (by decide) 1 _⟩
theorem Bd.setDrop (h : Bd w0 W g vO out last vP put drop) (v : Int) : Bd w0 (W.setCell ⟨g, 3, none⟩ (.int .i64 v)) g vO out last vP put v :=
  ⟨h.below.setCell h.base _, h.base, blk_put (cs := #[vO, .int .i64 last, vP, .int .i64 drop]) h.blk 3 _ rfl, Kd.R_set h.O h.blk (by decide) 3 _, Kd.R_set h.P h.blk (by decide) 3 _⟩
theorem Bd.setPut (h : Bd w0 W g vO out last vP put drop) (h1 : Kd.R (Kd.int .u8) 5 W w0.heap.size (fun _ => True) v1 put1) : Bd w0 (W.setCell ⟨g, 2, none⟩ v1) g vO out last v1 put1 drop :=
  ⟨h.below.setCell h.base _, h.base, blk_put (cs := #[vO, .int .i64 last, vP, .int .i64 drop]) h.blk 2 _ rfl, Kd.R_set h.O h.blk (by decide) 2 _, Kd.R_set h1 h.blk (by decide) 2 _⟩
theorem Bd.grownO (h : Bd w0 W g vO out last vP put drop) (h1 : Kd.R k102 102 w1 w0.heap.size (fun _ => True) v1 out1) (hb : Below w0.heap.size w0 w1) (hg : W.grownBy w1 vO.ownBlock) :
    w1.heap[g]? = some (.cells #[vO, .int .i64 last, vP, .int .i64 drop] 167 (0, 0)) ∧ Bd w0 (w1.setCell ⟨g, 0, none⟩ v1) g v1 out1 last vP put drop := by
  have k1 : w1.heap[g]? = some (.cells #[vO, .int .i64 last, vP, .int .i64 drop] 167 (0, 0)) := (hg.block g (blk_lt h.blk) (Kd.R_ne h.O h.blk (by decide))).trans h.blk
  exact ⟨k1, hb.setCell h.base _, h.base, blk_put (cs := #[vO, .int .i64 last, vP, .int .i64 drop]) k1 0 _ rfl, Kd.R_set h1 k1 (by decide) 0 _, Kd.R_set (Kd.R_over' h.P (Kd.R_typed h.O) (by decide) hg) k1 (by decide) 0 _⟩
theorem Bd.grownP (h : Bd w0 W g vO out last vP put drop) (h1 : Kd.R (Kd.int .u8) 5 w1 w0.heap.size (fun _ => True) v1 put1) (hb : Below w0.heap.size w0 w1) (hg : W.grownBy w1 vP.ownBlock) :
    w1.heap[g]? = some (.cells #[vO, .int .i64 last, vP, .int .i64 drop] 167 (0, 0)) ∧ Bd w0 (w1.setCell ⟨g, 2, none⟩ v1) g vO out last v1 put1 drop := by
  have k1 : w1.heap[g]? = some (.cells #[vO, .int .i64 last, vP, .int .i64 drop] 167 (0, 0)) := (hg.block g (blk_lt h.blk) (Kd.R_ne h.P h.blk (by decide))).trans h.blk
  exact ⟨k1, hb.setCell h.base _, h.base, blk_put (cs := #[vO, .int .i64 last, vP, .int .i64 drop]) k1 2 _ rfl, Kd.R_set (Kd.R_over' h.O (Kd.R_typed h.P) (by decide) hg) k1 (by decide) 2 _, Kd.R_set h1 k1 (by decide) 2 _⟩
theorem Bd.str (h : Bd w0 W g vO out last vP put drop) : (convert 22 9 vP).run Tryd.prog W = .ok (.string (strOfNums put)) W := by
  obtain ⟨A, c, rfl, hc, hC⟩ := Kd.R_reads h.P
  exact Kd.C_string Tryd.underlying22 Tryd.underlying5 Tryd.underlying9 hC
end
set_option maxHeartbeats 8000000 in
theorem flush_any (w0 W : World) (g : Nat) (vO : Value) (out : List S102) (last : Int) (vP : Value) (put : List Int) (drop : Int) (hl : (out.length + 2) * 32 ≤ 140737488355328) (h : Bd w0 W g vO out last vP put drop) :
    Calls Tryd.prog 140 #[.pointer (some ⟨g, 0, none⟩)] W fun e w' => (∃ v, e = .returned v) ∧ ∃ vO' vP', Bd w0 w' g vO' (out ++ flO put drop) last vP' [] 0 := by
  have hu167 := Tryd.underlying167
  have hu102 := Tryd.underlying102
  have BB := Aside0.mk h
  have HL : Aside0 ((out.length + 2) * 32 ≤ 140737488355328) := ⟨hl⟩
  obtain ⟨AP, cP, rfl⟩ := Kd.R_slice BB.out.P
  clear h hl
  have c2 := BB.out.c2
  go_enter Tryd.func140, Tryd.ntmps140
  by_cases hp : (0 : Int) < (put.length : Int)
  case pos =>
    have hp' : decide ((0 : Int) < (put.length : Int)) = true := decide_eq_true hp
    go_upto_region 1 with (fail)
    clear c2
    refine start_ (n := 16) (S := fun w' => Below W.heap.size W w') (ds := [12, 15]) #[false, false, false, false, false, false, false, false, false, false, false, false, false, false, false, false] (by kernel_rfl) rfl rfl (Below.refl _ _).drew (fun hHeld => ?_); refine with_tabW delta_flush.tab1 delta_flush.bits1 (fun HT_ HW_ => ?_)
    have GD := Aside0.mk BB.out.drew
    obtain ⟨w4, hZ_⟩ : ∃ Z_, W.drew = Z_ := ⟨_, rfl⟩
    rw [hZ_] at hHeld GD ⊢
    clear hZ_
    refine pure_ (i := 0) (N := some 8) (v := ?_) (a' := ?_) #[true, false, false, false, false, false, false, false, false, false, false, false, false, false, false, false] rfl rfl (any_of HT_.out (by kernel_rfl)) (fun _ _ _ h => h) (Or.inl ⟨by rfl, ?_⟩) ?_ ?_
    rotate_left
    · intro w'
      go_simp
      with_reducible rfl
    rotate_left
    · simp only [Act.put, List.setIfInBounds_toArray, List.set_cons_zero, List.set_cons_succ, i64_w, i32_w]
      rfl
    refine pure_ (i := 1) (N := some 9) (v := ?_) (a' := ?_) #[true, true, false, false, false, false, false, false, false, false, false, false, false, false, false, false] rfl rfl (any_of HT_.out (by kernel_rfl)) (fun _ _ _ h => h) (Or.inl ⟨by rfl, ?_⟩) ?_ ?_
    rotate_left
    · intro w'
      go_simp
      with_reducible rfl
    rotate_left
    · simp only [Act.put, List.setIfInBounds_toArray, List.set_cons_zero, List.set_cons_succ, i64_w, i32_w]
      rfl
    refine pure_ (i := 2) (N := some 10) (v := ?_) (a' := ?_) #[true, true, true, false, false, false, false, false, false, false, false, false, false, false, false, false] rfl rfl (any_of HT_.out (by kernel_rfl)) (fun _ _ _ h => h) (Or.inl ⟨by rfl, ?_⟩) ?_ ?_
    rotate_left
    · intro w'
      go_simp
      with_reducible rfl
    rotate_left
    · simp only [Act.put, List.setIfInBounds_toArray, List.set_cons_zero, List.set_cons_succ, i64_w, i32_w]
      rfl
    refine pure_ (i := 3) (N := some 11) (v := ?_) (a' := ?_) #[true, true, true, true, false, false, false, false, false, false, false, false, false, false, false, false] rfl rfl (any_of HT_.out (by kernel_rfl)) (fun _ _ _ h => h) (Or.inl ⟨by rfl, ?_⟩) ?_ ?_
    rotate_left
    · intro w'
      go_simp
      with_reducible rfl
    rotate_left
    · simp only [Act.put, List.setIfInBounds_toArray, List.set_cons_zero, List.set_cons_succ, i64_w, i32_w]
      rfl
    refine pure_ (i := 5) (N := some 13) (v := ?_) (a' := ?_) #[true, true, true, true, false, true, false, false, false, false, false, false, false, false, false, false] rfl rfl (any_of HT_.out (by kernel_rfl)) (fun _ _ _ h => h) (Or.inl ⟨by rfl, ?_⟩) ?_ ?_
    rotate_left
    · intro w'
      go_simp
      with_reducible rfl
    rotate_left
    · simp only [Act.put, List.setIfInBounds_toArray, List.set_cons_zero, List.set_cons_succ, i64_w, i32_w]
      rfl
    refine pure_ (i := 6) (N := some 14) (v := ?_) (a' := ?_) #[true, true, true, true, false, true, true, false, false, false, false, false, false, false, false, false] rfl rfl (any_of HT_.out (by kernel_rfl)) (fun _ _ _ h => h) (Or.inl ⟨by rfl, ?_⟩) ?_ ?_
    rotate_left
    · intro w'
      go_simp
      with_reducible rfl
    rotate_left
    · simp only [Act.put, List.setIfInBounds_toArray, List.set_cons_zero, List.set_cons_succ, i64_w, i32_w]
      rfl
    refine pure_ (i := 7) (N := some 15) (v := ?_) (a' := ?_) #[true, true, true, true, false, true, true, true, false, false, false, false, false, false, false, false] rfl rfl (any_of HT_.out (by kernel_rfl)) (fun _ _ _ h => h) (Or.inl ⟨by rfl, ?_⟩) ?_ ?_
    rotate_left
    · intro w'
      go_simp
      with_reducible rfl
    rotate_left
    · simp only [Act.put, List.setIfInBounds_toArray, List.set_cons_zero, List.set_cons_succ, i64_w, i32_w]
      rfl
    refine take_ (i := 4) (N := some 12) (v := ?_) (a' := ?_) #[true, true, true, true, true, true, true, true, false, false, false, false, false, false, false, false] rfl rfl (take_ofW HT_.out HW_.out (by kernel_rfl)) (fun _ _ _ h => h) (Or.inl ⟨by rfl, ?_⟩) hHeld ?_ ?_
    rotate_left
    · intro w' hS_
      have s0 := pw_cell_below hS_ BB.out.c0
      go_simp
      with_reducible rfl
    rotate_left
    · simp only [Act.put, List.setIfInBounds_toArray, List.set_cons_zero, List.set_cons_succ, i64_w, i32_w]
      rfl
    refine take_ (i := 8) (N := some 16) (v := ?_) (a' := ?_) #[true, true, true, true, true, true, true, true, true, false, false, false, false, false, false, false] rfl rfl (take_ofW HT_.out HW_.out (by kernel_rfl)) (fun _ _ _ h => h) (Or.inl ⟨by rfl, ?_⟩) hHeld ?_ ?_
    rotate_left
    · intro w' hS_
      have s0 := pw_cell_below hS_ BB.out.c2
      go_simp
      with_reducible rfl
    rotate_left
    · simp only [Act.put, List.setIfInBounds_toArray, List.set_cons_zero, List.set_cons_succ, i64_w, i32_w]
      rfl
    refine take_ (i := 9) (N := some 17) (v := ?_) (a' := ?_) #[true, true, true, true, true, true, true, true, true, true, false, false, false, false, false, false] rfl rfl (take_ofW HT_.out HW_.out (by kernel_rfl)) (fun _ _ _ h => h) (Or.inl ⟨by rfl, ?_⟩) hHeld ?_ ?_
    rotate_left
    · intro w' hS_
      have s0 := (BB.out.next hS_).str
      go_simp
      with_reducible rfl
    rotate_left
    · simp only [Act.put, List.setIfInBounds_toArray, List.set_cons_zero, List.set_cons_succ, i64_w, i32_w]
      rfl
    refine pure_ (i := 10) (N := some 18) (v := ?_) (a' := ?_) #[true, true, true, true, true, true, true, true, true, true, true, false, false, false, false, false] rfl rfl (any_of HT_.out (by kernel_rfl)) (fun _ _ _ h => h) (Or.inl ⟨by rfl, ?_⟩) ?_ ?_
    rotate_left
    · intro w'
      go_simp
      with_reducible rfl
    rotate_left
    · simp only [Act.put, List.setIfInBounds_toArray, List.set_cons_zero, List.set_cons_succ, i64_w, i32_w]
      rfl
    refine one_ (i := 11) (N := some 19) #[true, true, true, true, true, true, true, true, true, true, true, true, false, false, false, false] rfl rfl (one_of HT_.out (by kernel_rfl)) (by decide) (fun K hK => ?_)
    refine value_ (w1 := ?_) (v := ?_) (by rfl) rfl ?_ ?_
    rotate_left 2
    · go_simp
      constructor
      · rfl
      · rfl
    refine hK.out _ _ (hHeld.alloc hHeld.size _) (fun hHeld => ?_)
    clear hK K
    refine norm_ (a' := ?_) ?_ ?_
    rotate_left
    · show Act.put _ (some 19) _ = _
      simp only [Act.put, List.setIfInBounds_toArray, List.set_cons_zero, List.set_cons_succ, i64_w, i32_w]
      rfl
    refine last_ (i := 12) (N := some 20) #[true, true, true, true, true, true, true, true, true, true, true, true, true, false, false, false] rfl rfl (one_of HT_.out (by kernel_rfl)) (by decide) (fun K hK => ?_)
    refine Kd.R_append_step k102 (w0 := w0) (W := w4) w0.heap.size (by rfl) (.tmp 12) (.tmp 19) 53 102 (.agg #[.int .i64 0, .int .i64 0, .string ⟨#[]⟩]) 32 rfl Tryd.underlying53 info102 rfl (by decide) (by omega) _ out (⟨2, 0, strOfNums put⟩ : S102) [.int .i64 2, .int .i64 0, .string (strOfNums put)] (fun _ => True) (fun _ => False) rfl rfl (k102_mkM _ _ _ _) (fun _ hk => hk.elim) (fun _ _ => trivial) GD.out.O GD.out.below GD.out.below.size (by have := HL.out; omega) ?_
    intro v1 w5 ho hbg hg hat
    obtain ⟨out1, h_out1⟩ : ∃ o, out ++ [(⟨2, 0, strOfNums put⟩ : S102)] = o := ⟨_, rfl⟩
    rw [h_out1] at ho
    have H_out1 := Aside0.mk h_out1
    clear h_out1
    obtain ⟨A1, cc1, rfl⟩ := Kd.R_slice ho
    have HG5 := Aside0.mk (GD.out.grownO ho hbg hg)
    clear ho hbg hg hat hHeld
    refine hK.out _ _ ?_
    clear hK K
    refine norm_ (a' := ?_) ?_ ?_
    rotate_left
    · show Act.put _ (some 20) _ = _
      simp only [Act.put, List.setIfInBounds_toArray, List.set_cons_zero, List.set_cons_succ, i64_w, i32_w]
      rfl
    refine pure_ (i := 13) (N := some 21) (v := ?_) (a' := ?_) #[true, true, true, true, true, true, true, true, true, true, true, true, true, true, false, false] rfl rfl (any_of HT_.out (by kernel_rfl)) (fun _ _ _ h => h) (Or.inl ⟨by rfl, ?_⟩) ?_ ?_
    rotate_left
    · intro w'
      go_simp
      with_reducible rfl
    rotate_left
    · simp only [Act.put, List.setIfInBounds_toArray, List.set_cons_zero, List.set_cons_succ, i64_w, i32_w]
      rfl
    refine pure_ (i := 14) (N := some 22) (v := ?_) (a' := ?_) #[true, true, true, true, true, true, true, true, true, true, true, true, true, true, true, false] rfl rfl (any_of HT_.out (by kernel_rfl)) (fun _ _ _ h => h) (Or.inl ⟨by rfl, ?_⟩) ?_ ?_
    rotate_left
    · intro w'
      go_simp
      with_reducible rfl
    rotate_left
    · simp only [Act.put, List.setIfInBounds_toArray, List.set_cons_zero, List.set_cons_succ, i64_w, i32_w]
      rfl
    refine last_ (i := 15) (N := none) #[true, true, true, true, true, true, true, true, true, true, true, true, true, true, true, true] rfl rfl (one_of HT_.out (by kernel_rfl)) (by decide) (fun K hK => ?_)
    have s0 := (blk_cell HG5.out.1 0).trans rfl
    have s1 := blk_frozen HG5.out.1 0
    refine skip_ (w1 := ?_) (by rfl) rfl ?_ ?_
    rotate_left
    · go_simp
      rfl
    refine hK.out _ _ ?_
    clear hK K
    refine done_ (done_of HT_.out (by kernel_rfl)) ?_
    clear HT_ HW_
    refine world_ (fun WV hWV => ?_)
    replace BB : Aside0 (Bd w0 WV g (.slice A1 out1.length cc1) out1 last (.slice AP put.length cP) put drop) := ⟨by rw [hWV]; exact HG5.out.2⟩
    clear HG5 GD s0 s1 hp' hWV
    by_cases hd : 0 < drop
    case pos =>
      have hd' : decide (0 < drop) = true := decide_eq_true hd
      have c3 := BB.out.c3
      go_upto_region 3 with (fail)
      clear c3
      refine start_ (n := 15) (S := fun w' => Below WV.heap.size WV w') (ds := [11, 14]) #[false, false, false, false, false, false, false, false, false, false, false, false, false, false, false] (by kernel_rfl) rfl rfl (Below.refl _ _).drew (fun hHeld => ?_); refine with_tabW delta_flush.tab3 delta_flush.bits3 (fun HT_ HW_ => ?_)
      have GD := Aside0.mk BB.out.drew
      obtain ⟨w6, hZ_⟩ : ∃ Z_, WV.drew = Z_ := ⟨_, rfl⟩
      rw [hZ_] at hHeld GD ⊢
      clear hZ_
      refine pure_ (i := 0) (N := some 28) (v := ?_) (a' := ?_) #[true, false, false, false, false, false, false, false, false, false, false, false, false, false, false] rfl rfl (any_of HT_.out (by kernel_rfl)) (fun _ _ _ h => h) (Or.inl ⟨by rfl, ?_⟩) ?_ ?_
      rotate_left
      · intro w'
        go_simp
        with_reducible rfl
      rotate_left
      · simp only [Act.put, List.setIfInBounds_toArray, List.set_cons_zero, List.set_cons_succ, i64_w, i32_w]
        rfl
      refine pure_ (i := 1) (N := some 29) (v := ?_) (a' := ?_) #[true, true, false, false, false, false, false, false, false, false, false, false, false, false, false] rfl rfl (any_of HT_.out (by kernel_rfl)) (fun _ _ _ h => h) (Or.inl ⟨by rfl, ?_⟩) ?_ ?_
      rotate_left
      · intro w'
        go_simp
        with_reducible rfl
      rotate_left
      · simp only [Act.put, List.setIfInBounds_toArray, List.set_cons_zero, List.set_cons_succ, i64_w, i32_w]
        rfl
      refine pure_ (i := 2) (N := some 30) (v := ?_) (a' := ?_) #[true, true, true, false, false, false, false, false, false, false, false, false, false, false, false] rfl rfl (any_of HT_.out (by kernel_rfl)) (fun _ _ _ h => h) (Or.inl ⟨by rfl, ?_⟩) ?_ ?_
      rotate_left
      · intro w'
        go_simp
        with_reducible rfl
      rotate_left
      · simp only [Act.put, List.setIfInBounds_toArray, List.set_cons_zero, List.set_cons_succ, i64_w, i32_w]
        rfl
      refine pure_ (i := 3) (N := some 31) (v := ?_) (a' := ?_) #[true, true, true, true, false, false, false, false, false, false, false, false, false, false, false] rfl rfl (any_of HT_.out (by kernel_rfl)) (fun _ _ _ h => h) (Or.inl ⟨by rfl, ?_⟩) ?_ ?_
      rotate_left
      · intro w'
        go_simp
        with_reducible rfl
      rotate_left
      · simp only [Act.put, List.setIfInBounds_toArray, List.set_cons_zero, List.set_cons_succ, i64_w, i32_w]
        rfl
      refine pure_ (i := 5) (N := some 33) (v := ?_) (a' := ?_) #[true, true, true, true, false, true, false, false, false, false, false, false, false, false, false] rfl rfl (any_of HT_.out (by kernel_rfl)) (fun _ _ _ h => h) (Or.inl ⟨by rfl, ?_⟩) ?_ ?_
      rotate_left
      · intro w'
        go_simp
        with_reducible rfl
      rotate_left
      · simp only [Act.put, List.setIfInBounds_toArray, List.set_cons_zero, List.set_cons_succ, i64_w, i32_w]
        rfl
      refine pure_ (i := 6) (N := some 34) (v := ?_) (a' := ?_) #[true, true, true, true, false, true, true, false, false, false, false, false, false, false, false] rfl rfl (any_of HT_.out (by kernel_rfl)) (fun _ _ _ h => h) (Or.inl ⟨by rfl, ?_⟩) ?_ ?_
      rotate_left
      · intro w'
        go_simp
        with_reducible rfl
      rotate_left
      · simp only [Act.put, List.setIfInBounds_toArray, List.set_cons_zero, List.set_cons_succ, i64_w, i32_w]
        rfl
      refine pure_ (i := 7) (N := some 35) (v := ?_) (a' := ?_) #[true, true, true, true, false, true, true, true, false, false, false, false, false, false, false] rfl rfl (any_of HT_.out (by kernel_rfl)) (fun _ _ _ h => h) (Or.inl ⟨by rfl, ?_⟩) ?_ ?_
      rotate_left
      · intro w'
        go_simp
        with_reducible rfl
      rotate_left
      · simp only [Act.put, List.setIfInBounds_toArray, List.set_cons_zero, List.set_cons_succ, i64_w, i32_w]
        rfl
      refine take_ (i := 4) (N := some 32) (v := ?_) (a' := ?_) #[true, true, true, true, true, true, true, true, false, false, false, false, false, false, false] rfl rfl (take_ofW HT_.out HW_.out (by kernel_rfl)) (fun _ _ _ h => h) (Or.inl ⟨by rfl, ?_⟩) hHeld ?_ ?_
      rotate_left
      · intro w' hS_
        have s0 := pw_cell_below hS_ BB.out.c0
        go_simp
        with_reducible rfl
      rotate_left
      · simp only [Act.put, List.setIfInBounds_toArray, List.set_cons_zero, List.set_cons_succ, i64_w, i32_w]
        rfl
      refine take_ (i := 8) (N := some 36) (v := ?_) (a' := ?_) #[true, true, true, true, true, true, true, true, true, false, false, false, false, false, false] rfl rfl (take_ofW HT_.out HW_.out (by kernel_rfl)) (fun _ _ _ h => h) (Or.inl ⟨by rfl, ?_⟩) hHeld ?_ ?_
      rotate_left
      · intro w' hS_
        have s0 := pw_cell_below hS_ BB.out.c3
        go_simp
        with_reducible rfl
      rotate_left
      · simp only [Act.put, List.setIfInBounds_toArray, List.set_cons_zero, List.set_cons_succ, i64_w, i32_w]
        rfl
      refine pure_ (i := 9) (N := some 37) (v := ?_) (a' := ?_) #[true, true, true, true, true, true, true, true, true, true, false, false, false, false, false] rfl rfl (any_of HT_.out (by kernel_rfl)) (fun _ _ _ h => h) (Or.inl ⟨by rfl, ?_⟩) ?_ ?_
      rotate_left
      · intro w'
        go_simp
        with_reducible rfl
      rotate_left
      · simp only [Act.put, List.setIfInBounds_toArray, List.set_cons_zero, List.set_cons_succ, i64_w, i32_w]
        rfl
      refine one_ (i := 10) (N := some 38) #[true, true, true, true, true, true, true, true, true, true, true, false, false, false, false] rfl rfl (one_of HT_.out (by kernel_rfl)) (by decide) (fun K hK => ?_)
      refine value_ (w1 := ?_) (v := ?_) (by rfl) rfl ?_ ?_
      rotate_left 2
      · go_simp
        constructor
        · rfl
        · rfl
      refine hK.out _ _ (hHeld.alloc hHeld.size _) (fun hHeld => ?_)
      clear hK K
      refine norm_ (a' := ?_) ?_ ?_
      rotate_left
      · show Act.put _ (some 38) _ = _
        simp only [Act.put, List.setIfInBounds_toArray, List.set_cons_zero, List.set_cons_succ, i64_w, i32_w]
        rfl
      refine last_ (i := 11) (N := some 39) #[true, true, true, true, true, true, true, true, true, true, true, true, false, false, false] rfl rfl (one_of HT_.out (by kernel_rfl)) (by decide) (fun K hK => ?_)
      refine Kd.R_append_step k102 (w0 := w0) (W := w6) w0.heap.size (by rfl) (.tmp 32) (.tmp 38) 53 102 (.agg #[.int .i64 0, .int .i64 0, .string ⟨#[]⟩]) 32 rfl Tryd.underlying53 info102 rfl (by decide) (by omega) _ out1 (⟨3, drop, ⟨#[]⟩⟩ : S102) [.int .i64 3, .int .i64 drop, .string ⟨#[]⟩] (fun _ => True) (fun _ => False) rfl rfl (k102_mkM _ _ _ _) (fun _ hk => hk.elim) (fun _ _ => trivial) GD.out.O GD.out.below GD.out.below.size (by have := HL.out; have := congrArg List.length H_out1.out; simp at this; omega) ?_
      intro v1 w5 ho hbg hg hat
      obtain ⟨out2, h_out2⟩ : ∃ o, out1 ++ [(⟨3, drop, ⟨#[]⟩⟩ : S102)] = o := ⟨_, rfl⟩
      rw [h_out2] at ho
      have H_out2 := Aside0.mk h_out2
      clear h_out2
      obtain ⟨A1, cc1, rfl⟩ := Kd.R_slice ho
      have HG5 := Aside0.mk (GD.out.grownO ho hbg hg)
      clear ho hbg hg hat hHeld
      refine hK.out _ _ ?_
      clear hK K
      refine norm_ (a' := ?_) ?_ ?_
      rotate_left
      · show Act.put _ (some 39) _ = _
        simp only [Act.put, List.setIfInBounds_toArray, List.set_cons_zero, List.set_cons_succ, i64_w, i32_w]
        rfl
      refine pure_ (i := 12) (N := some 40) (v := ?_) (a' := ?_) #[true, true, true, true, true, true, true, true, true, true, true, true, true, false, false] rfl rfl (any_of HT_.out (by kernel_rfl)) (fun _ _ _ h => h) (Or.inl ⟨by rfl, ?_⟩) ?_ ?_
      rotate_left
      · intro w'
        go_simp
        with_reducible rfl
      rotate_left
      · simp only [Act.put, List.setIfInBounds_toArray, List.set_cons_zero, List.set_cons_succ, i64_w, i32_w]
        rfl
      refine pure_ (i := 13) (N := some 41) (v := ?_) (a' := ?_) #[true, true, true, true, true, true, true, true, true, true, true, true, true, true, false] rfl rfl (any_of HT_.out (by kernel_rfl)) (fun _ _ _ h => h) (Or.inl ⟨by rfl, ?_⟩) ?_ ?_
      rotate_left
      · intro w'
        go_simp
        with_reducible rfl
      rotate_left
      · simp only [Act.put, List.setIfInBounds_toArray, List.set_cons_zero, List.set_cons_succ, i64_w, i32_w]
        rfl
      refine last_ (i := 14) (N := none) #[true, true, true, true, true, true, true, true, true, true, true, true, true, true, true] rfl rfl (one_of HT_.out (by kernel_rfl)) (by decide) (fun K hK => ?_)
      have s0 := (blk_cell HG5.out.1 0).trans rfl
      have s1 := blk_frozen HG5.out.1 0
      refine skip_ (w1 := ?_) (by rfl) rfl ?_ ?_
      rotate_left
      · go_simp
        rfl
      refine hK.out _ _ ?_
      clear hK K
      refine done_ (done_of HT_.out (by kernel_rfl)) ?_
      clear HT_ HW_
      refine world_ (fun W5 hW5 => ?_)
      replace BB : Aside0 (Bd w0 W5 g (.slice A1 out2.length cc1) out2 last (.slice AP put.length cP) put drop) := ⟨by rw [hW5]; exact HG5.out.2⟩
      clear HG5 GD s0 s1 hd' hW5
      have c2 := BB.out.c2
      have f2 := BB.out.fz 2
      have c3 := BB.out.c3
      have f3 := BB.out.fz 3
      obtain ⟨i0, hi0, _, hsz0, _⟩ := info_parts info5
      have hcut := (print_take_of (P := Tryd.prog) (Value.int .u8) 0 22 5 .i64 Tryd.underlying22 hi0 hsz0 AP cP put 0 (by omega) (by omega) (Kd.R_reads' BB.out.P).2.1).1
      rw [show (put.take (0 : Int).toNat).length = 0 from rfl] at hcut
      clear hi0 hsz0
      have HP0 := Aside0.mk (Kd.R_take (m := 0) BB.out.P (Nat.zero_le _))
      have B2 := Aside0.mk ((BB.out.setPut HP0.out).setDrop 0)
      go_wp2
      go_end0
      refine ⟨⟨_, rfl⟩, ?_⟩
      rw [show (out ++ flO put drop) = out2 from by
        try rw [← H_out2.out]
        try rw [← H_out1.out]
        unfold flO
        simp [show 0 < put.length from by omega, hd]]
      exact ⟨_, _, B2.out⟩
    case neg =>
      have hd' : decide (0 < drop) = false := decide_eq_false hd
      have c3 := BB.out.c3
      go_upto_region 4 with (fail)
      clear c3
      have c2 := BB.out.c2
      have f2 := BB.out.fz 2
      have c3 := BB.out.c3
      have f3 := BB.out.fz 3
      obtain ⟨i0, hi0, _, hsz0, _⟩ := info_parts info5
      have hcut := (print_take_of (P := Tryd.prog) (Value.int .u8) 0 22 5 .i64 Tryd.underlying22 hi0 hsz0 AP cP put 0 (by omega) (by omega) (Kd.R_reads' BB.out.P).2.1).1
      rw [show (put.take (0 : Int).toNat).length = 0 from rfl] at hcut
      clear hi0 hsz0
      have HP0 := Aside0.mk (Kd.R_take (m := 0) BB.out.P (Nat.zero_le _))
      have B2 := Aside0.mk ((BB.out.setPut HP0.out).setDrop 0)
      go_wp2
      go_end0
      refine ⟨⟨_, rfl⟩, ?_⟩
      rw [show (out ++ flO put drop) = out1 from by
        try rw [← H_out2.out]
        try rw [← H_out1.out]
        unfold flO
        simp [show 0 < put.length from by omega, hd]]
      exact ⟨_, _, B2.out⟩
  case neg =>
    have hp' : decide ((0 : Int) < (put.length : Int)) = false := decide_eq_false hp
    go_upto_region 2 with (fail)
    clear c2
    obtain ⟨WV, hWV⟩ : ∃ WV, W = WV := ⟨_, rfl⟩
    rw [hWV] at BB ⊢
    clear hWV
    by_cases hd : 0 < drop
    case pos =>
      have hd' : decide (0 < drop) = true := decide_eq_true hd
      have c3 := BB.out.c3
      go_upto_region 3 with (fail)
      clear c3
      refine start_ (n := 15) (S := fun w' => Below WV.heap.size WV w') (ds := [11, 14]) #[false, false, false, false, false, false, false, false, false, false, false, false, false, false, false] (by kernel_rfl) rfl rfl (Below.refl _ _).drew (fun hHeld => ?_); refine with_tabW delta_flush.tab3 delta_flush.bits3 (fun HT_ HW_ => ?_)
      have GD := Aside0.mk BB.out.drew
      obtain ⟨w6, hZ_⟩ : ∃ Z_, WV.drew = Z_ := ⟨_, rfl⟩
      rw [hZ_] at hHeld GD ⊢
      clear hZ_
      refine pure_ (i := 0) (N := some 28) (v := ?_) (a' := ?_) #[true, false, false, false, false, false, false, false, false, false, false, false, false, false, false] rfl rfl (any_of HT_.out (by kernel_rfl)) (fun _ _ _ h => h) (Or.inl ⟨by rfl, ?_⟩) ?_ ?_
      rotate_left
      · intro w'
        go_simp
        with_reducible rfl
      rotate_left
      · simp only [Act.put, List.setIfInBounds_toArray, List.set_cons_zero, List.set_cons_succ, i64_w, i32_w]
        rfl
      refine pure_ (i := 1) (N := some 29) (v := ?_) (a' := ?_) #[true, true, false, false, false, false, false, false, false, false, false, false, false, false, false] rfl rfl (any_of HT_.out (by kernel_rfl)) (fun _ _ _ h => h) (Or.inl ⟨by rfl, ?_⟩) ?_ ?_
      rotate_left
      · intro w'
        go_simp
        with_reducible rfl
      rotate_left
      · simp only [Act.put, List.setIfInBounds_toArray, List.set_cons_zero, List.set_cons_succ, i64_w, i32_w]
        rfl
      refine pure_ (i := 2) (N := some 30) (v := ?_) (a' := ?_) #[true, true, true, false, false, false, false, false, false, false, false, false, false, false, false] rfl rfl (any_of HT_.out (by kernel_rfl)) (fun _ _ _ h => h) (Or.inl ⟨by rfl, ?_⟩) ?_ ?_
      rotate_left
      · intro w'
        go_simp
        with_reducible rfl
      rotate_left
      · simp only [Act.put, List.setIfInBounds_toArray, List.set_cons_zero, List.set_cons_succ, i64_w, i32_w]
        rfl
      refine pure_ (i := 3) (N := some 31) (v := ?_) (a' := ?_) #[true, true, true, true, false, false, false, false, false, false, false, false, false, false, false] rfl rfl (any_of HT_.out (by kernel_rfl)) (fun _ _ _ h => h) (Or.inl ⟨by rfl, ?_⟩) ?_ ?_
      rotate_left
      · intro w'
        go_simp
        with_reducible rfl
      rotate_left
      · simp only [Act.put, List.setIfInBounds_toArray, List.set_cons_zero, List.set_cons_succ, i64_w, i32_w]
        rfl
      refine pure_ (i := 5) (N := some 33) (v := ?_) (a' := ?_) #[true, true, true, true, false, true, false, false, false, false, false, false, false, false, false] rfl rfl (any_of HT_.out (by kernel_rfl)) (fun _ _ _ h => h) (Or.inl ⟨by rfl, ?_⟩) ?_ ?_
      rotate_left
      · intro w'
        go_simp
        with_reducible rfl
      rotate_left
      · simp only [Act.put, List.setIfInBounds_toArray, List.set_cons_zero, List.set_cons_succ, i64_w, i32_w]
        rfl
      refine pure_ (i := 6) (N := some 34) (v := ?_) (a' := ?_) #[true, true, true, true, false, true, true, false, false, false, false, false, false, false, false] rfl rfl (any_of HT_.out (by kernel_rfl)) (fun _ _ _ h => h) (Or.inl ⟨by rfl, ?_⟩) ?_ ?_
      rotate_left
      · intro w'
        go_simp
        with_reducible rfl
      rotate_left
      · simp only [Act.put, List.setIfInBounds_toArray, List.set_cons_zero, List.set_cons_succ, i64_w, i32_w]
        rfl
      refine pure_ (i := 7) (N := some 35) (v := ?_) (a' := ?_) #[true, true, true, true, false, true, true, true, false, false, false, false, false, false, false] rfl rfl (any_of HT_.out (by kernel_rfl)) (fun _ _ _ h => h) (Or.inl ⟨by rfl, ?_⟩) ?_ ?_
      rotate_left
      · intro w'
        go_simp
        with_reducible rfl
      rotate_left
      · simp only [Act.put, List.setIfInBounds_toArray, List.set_cons_zero, List.set_cons_succ, i64_w, i32_w]
        rfl
      refine take_ (i := 4) (N := some 32) (v := ?_) (a' := ?_) #[true, true, true, true, true, true, true, true, false, false, false, false, false, false, false] rfl rfl (take_ofW HT_.out HW_.out (by kernel_rfl)) (fun _ _ _ h => h) (Or.inl ⟨by rfl, ?_⟩) hHeld ?_ ?_
      rotate_left
      · intro w' hS_
        have s0 := pw_cell_below hS_ BB.out.c0
        go_simp
        with_reducible rfl
      rotate_left
      · simp only [Act.put, List.setIfInBounds_toArray, List.set_cons_zero, List.set_cons_succ, i64_w, i32_w]
        rfl
      refine take_ (i := 8) (N := some 36) (v := ?_) (a' := ?_) #[true, true, true, true, true, true, true, true, true, false, false, false, false, false, false] rfl rfl (take_ofW HT_.out HW_.out (by kernel_rfl)) (fun _ _ _ h => h) (Or.inl ⟨by rfl, ?_⟩) hHeld ?_ ?_
      rotate_left
      · intro w' hS_
        have s0 := pw_cell_below hS_ BB.out.c3
        go_simp
        with_reducible rfl
      rotate_left
      · simp only [Act.put, List.setIfInBounds_toArray, List.set_cons_zero, List.set_cons_succ, i64_w, i32_w]
        rfl
      refine pure_ (i := 9) (N := some 37) (v := ?_) (a' := ?_) #[true, true, true, true, true, true, true, true, true, true, false, false, false, false, false] rfl rfl (any_of HT_.out (by kernel_rfl)) (fun _ _ _ h => h) (Or.inl ⟨by rfl, ?_⟩) ?_ ?_
      rotate_left
      · intro w'
        go_simp
        with_reducible rfl
      rotate_left
      · simp only [Act.put, List.setIfInBounds_toArray, List.set_cons_zero, List.set_cons_succ, i64_w, i32_w]
        rfl
      refine one_ (i := 10) (N := some 38) #[true, true, true, true, true, true, true, true, true, true, true, false, false, false, false] rfl rfl (one_of HT_.out (by kernel_rfl)) (by decide) (fun K hK => ?_)
      refine value_ (w1 := ?_) (v := ?_) (by rfl) rfl ?_ ?_
      rotate_left 2
      · go_simp
        constructor
        · rfl
        · rfl
      refine hK.out _ _ (hHeld.alloc hHeld.size _) (fun hHeld => ?_)
      clear hK K
      refine norm_ (a' := ?_) ?_ ?_
      rotate_left
      · show Act.put _ (some 38) _ = _
        simp only [Act.put, List.setIfInBounds_toArray, List.set_cons_zero, List.set_cons_succ, i64_w, i32_w]
        rfl
      refine last_ (i := 11) (N := some 39) #[true, true, true, true, true, true, true, true, true, true, true, true, false, false, false] rfl rfl (one_of HT_.out (by kernel_rfl)) (by decide) (fun K hK => ?_)
      refine Kd.R_append_step k102 (w0 := w0) (W := w6) w0.heap.size (by rfl) (.tmp 32) (.tmp 38) 53 102 (.agg #[.int .i64 0, .int .i64 0, .string ⟨#[]⟩]) 32 rfl Tryd.underlying53 info102 rfl (by decide) (by omega) _ out (⟨3, drop, ⟨#[]⟩⟩ : S102) [.int .i64 3, .int .i64 drop, .string ⟨#[]⟩] (fun _ => True) (fun _ => False) rfl rfl (k102_mkM _ _ _ _) (fun _ hk => hk.elim) (fun _ _ => trivial) GD.out.O GD.out.below GD.out.below.size (by have := HL.out; omega) ?_
      intro v1 w5 ho hbg hg hat
      obtain ⟨out2, h_out2⟩ : ∃ o, out ++ [(⟨3, drop, ⟨#[]⟩⟩ : S102)] = o := ⟨_, rfl⟩
      rw [h_out2] at ho
      have H_out2 := Aside0.mk h_out2
      clear h_out2
      obtain ⟨A1, cc1, rfl⟩ := Kd.R_slice ho
      have HG5 := Aside0.mk (GD.out.grownO ho hbg hg)
      clear ho hbg hg hat hHeld
      refine hK.out _ _ ?_
      clear hK K
      refine norm_ (a' := ?_) ?_ ?_
      rotate_left
      · show Act.put _ (some 39) _ = _
        simp only [Act.put, List.setIfInBounds_toArray, List.set_cons_zero, List.set_cons_succ, i64_w, i32_w]
        rfl
      refine pure_ (i := 12) (N := some 40) (v := ?_) (a' := ?_) #[true, true, true, true, true, true, true, true, true, true, true, true, true, false, false] rfl rfl (any_of HT_.out (by kernel_rfl)) (fun _ _ _ h => h) (Or.inl ⟨by rfl, ?_⟩) ?_ ?_
      rotate_left
      · intro w'
        go_simp
        with_reducible rfl
      rotate_left
      · simp only [Act.put, List.setIfInBounds_toArray, List.set_cons_zero, List.set_cons_succ, i64_w, i32_w]
        rfl
      refine pure_ (i := 13) (N := some 41) (v := ?_) (a' := ?_) #[true, true, true, true, true, true, true, true, true, true, true, true, true, true, false] rfl rfl (any_of HT_.out (by kernel_rfl)) (fun _ _ _ h => h) (Or.inl ⟨by rfl, ?_⟩) ?_ ?_
      rotate_left
      · intro w'
        go_simp
        with_reducible rfl
      rotate_left
      · simp only [Act.put, List.setIfInBounds_toArray, List.set_cons_zero, List.set_cons_succ, i64_w, i32_w]
        rfl
      refine last_ (i := 14) (N := none) #[true, true, true, true, true, true, true, true, true, true, true, true, true, true, true] rfl rfl (one_of HT_.out (by kernel_rfl)) (by decide) (fun K hK => ?_)
      have s0 := (blk_cell HG5.out.1 0).trans rfl
      have s1 := blk_frozen HG5.out.1 0
      refine skip_ (w1 := ?_) (by rfl) rfl ?_ ?_
      rotate_left
      · go_simp
        rfl
      refine hK.out _ _ ?_
      clear hK K
      refine done_ (done_of HT_.out (by kernel_rfl)) ?_
      clear HT_ HW_
      refine world_ (fun W5 hW5 => ?_)
      replace BB : Aside0 (Bd w0 W5 g (.slice A1 out2.length cc1) out2 last (.slice AP put.length cP) put drop) := ⟨by rw [hW5]; exact HG5.out.2⟩
      clear HG5 GD s0 s1 hd' hW5
      have c2 := BB.out.c2
      have f2 := BB.out.fz 2
      have c3 := BB.out.c3
      have f3 := BB.out.fz 3
      obtain ⟨i0, hi0, _, hsz0, _⟩ := info_parts info5
      have hcut := (print_take_of (P := Tryd.prog) (Value.int .u8) 0 22 5 .i64 Tryd.underlying22 hi0 hsz0 AP cP put 0 (by omega) (by omega) (Kd.R_reads' BB.out.P).2.1).1
      rw [show (put.take (0 : Int).toNat).length = 0 from rfl] at hcut
      clear hi0 hsz0
      have HP0 := Aside0.mk (Kd.R_take (m := 0) BB.out.P (Nat.zero_le _))
      have B2 := Aside0.mk ((BB.out.setPut HP0.out).setDrop 0)
      go_wp2
      go_end0
      refine ⟨⟨_, rfl⟩, ?_⟩
      rw [show (out ++ flO put drop) = out2 from by
        try rw [← H_out2.out]
        try rw [← H_out1.out]
        unfold flO
        simp [show put.length = 0 from by omega, hd]]
      exact ⟨_, _, B2.out⟩
    case neg =>
      have hd' : decide (0 < drop) = false := decide_eq_false hd
      have c3 := BB.out.c3
      go_upto_region 4 with (fail)
      clear c3
      have c2 := BB.out.c2
      have f2 := BB.out.fz 2
      have c3 := BB.out.c3
      have f3 := BB.out.fz 3
      obtain ⟨i0, hi0, _, hsz0, _⟩ := info_parts info5
      have hcut := (print_take_of (P := Tryd.prog) (Value.int .u8) 0 22 5 .i64 Tryd.underlying22 hi0 hsz0 AP cP put 0 (by omega) (by omega) (Kd.R_reads' BB.out.P).2.1).1
      rw [show (put.take (0 : Int).toNat).length = 0 from rfl] at hcut
      clear hi0 hsz0
      have HP0 := Aside0.mk (Kd.R_take (m := 0) BB.out.P (Nat.zero_le _))
      have B2 := Aside0.mk ((BB.out.setPut HP0.out).setDrop 0)
      go_wp2
      go_end0
      refine ⟨⟨_, rfl⟩, ?_⟩
      rw [show (out ++ flO put drop) = out from by
        try rw [← H_out2.out]
        try rw [← H_out1.out]
        unfold flO
        simp [show put.length = 0 from by omega, hd]]
      exact ⟨_, _, B2.out⟩
end Go.Proofs.YtbomhpfckplgaaaDoor.P
namespace Go.Proofs.YtbomhpfckplgaaaDoor.P
open Go Go.RowKit Go.Proofs.YtbomhpfckplgaaaDoorW.PrintWords Go.Proofs.YtbomhpfckplgaaaDoorW.PrintLast Go.Proofs.YtbomhpfckplgaaaDoorW.PrintMore
set_option linter.unusedVariables false
set_option linter.unusedSimpArgs false
set_option maxRecDepth 100000
attribute [local go_sem] max2_int min2_int max_two min_two max_three min_three max_four min_four
set_option maxHeartbeats 4000000 in
theorem onDrop_any (w0 W : World) (g : Nat) (vO : Value) (out : List S102) (last : Int) (vP : Value) (put : List Int) (drop n : Int) (s : ByteArray) (hn : 0 < n) (hd : 0 ≤ drop ∧ drop + n ≤ 1099511627776) (h : Bd w0 W g vO out last vP put drop) :
    Calls Tryd.prog 130 #[.pointer (some ⟨g, 0, none⟩), .int .i64 n, .string s] W fun e w' => (∃ v, e = .returned v) ∧ Bd w0 w' g vO out 2 vP put (drop + n) := by
  have hu167 := Tryd.underlying167
  have hn' : decide (0 < n) = true := decide_eq_true hn
  have hw : wrap64 (drop + n) = drop + n := by unfold wrap64; omega
  have c3 := h.c3
  have f3 := h.fz 3
  have c1 := h.c1
  have f1 := h.fz 1
  have B1 := Aside0.mk ((h.setDrop (drop + n)).setLast 2)
  clear h hd
  go_enter Tryd.func130, Tryd.ntmps130
  go_wp2
  go_end0
  refine ⟨⟨_, rfl⟩, ?_⟩
  have := B1.out
  first | exact this | (rw [hw]; exact this)
set_option maxHeartbeats 4000000 in
theorem onPut_any (w0 W : World) (g : Nat) (vO : Value) (out : List S102) (last : Int) (vP : Value) (put : List Int) (drop n : Int) (s : ByteArray) (hs : 0 < s.size) (hl : put.length + s.size ≤ 140737488355328) (h : Bd w0 W g vO out last vP put drop) :
    Calls Tryd.prog 129 #[.pointer (some ⟨g, 0, none⟩), .int .i64 n, .string s] W fun e w' => (∃ v, e = .returned v) ∧ ∃ vP', Bd w0 w' g vO out 2 vP' (put ++ bytesOf s) drop := by
  have hu167 := Tryd.underlying167
  have hs1 : s.toList.isEmpty = false := by
    rw [ByteArray.toList_eq]
    have : s.data.toList.length = s.size := data_length s
    cases hh : s.data.toList with
    | nil => rw [hh] at this; simp at this; omega
    | cons _ _ => rfl
  have hs2 : (s.toList != ([] : List UInt8)) = true := by
    cases hh : s.toList with
    | nil => rw [hh] at hs1; cases hs1
    | cons _ _ => rfl
  have BB := Aside0.mk h
  have HL := Aside0.mk hl
  have c2 := h.c2
  clear h hl hs
  go_enter Tryd.func129, Tryd.ntmps129
  go_wp2_with (at_builtin; refine print_append_str (w0 := w0) w0.heap.size rfl (.tmp 13) _ 22 9 5 rfl Tryd.underlying22 Tryd.underlying9 info5 vP put s rfl rfl (Kd.own_of_R BB.out.P) BB.out.below BB.out.below.size HL.out ?_; intro v1 w5 ho0 hb hg; have ho := Kd.R_of_own (h1 := fun _ => rfl) (ok := fun _ => True) ho0 (fun _ _ => trivial); obtain ⟨A1, cc1, rfl⟩ := Kd.R_slice ho; clear ho0; have HG5 := Aside0.mk (BB.out.grownP (put1 := put ++ bytesOf s) ho hb hg); have s0 := (blk_cell HG5.out.1 2).trans rfl; have s1 := blk_frozen HG5.out.1 2; have s2 := (blk_cell HG5.out.1 1).trans rfl; have s3 := blk_frozen HG5.out.1 1; clear ho hb hg)
  go_end0
  refine ⟨⟨_, rfl⟩, ?_⟩
  have := HG5.out.2.setLast 2
  rw [List.length_append] at this
  exact ⟨_, this⟩
theorem Bd.elem {w0 W : World} {g : Nat} {vO vP : Value} {out : List S102} {x : S102} {last drop : Int} {put : List Int} (h : Bd w0 W g vO (out ++ [x]) last vP put drop) :
    ∃ gO cap, vO = .slice (some ⟨gO, 0, none⟩) (out.length + 1) cap ∧ W.cell? ⟨gO, out.length * 3 + 1, none⟩ = some (.int .i64 x.f1) ∧ W.frozen? ⟨gO, out.length * 3 + 1, none⟩ = false ∧
      ∀ v, Bd w0 (W.setCell ⟨gO, out.length * 3 + 1, none⟩ (.int .i64 v)) g vO (out ++ [⟨x.f0, v, x.f2⟩]) last vP put drop := by
  obtain ⟨gO, cap, rfl, hb, hlt, cells, hcells⟩ := Kd.R_form h.O (by simp)
  have hO := h.O
  obtain ⟨c, hcl, hM, hcc, hfz⟩ := Kd.R_elem hO z102 (out.length : Int) (by omega) (by simp; omega)
  rw [Int.toNat_natCast] at hM hcc hfz
  have hx : (out ++ [x]).getD out.length z102 = x := by simp
  rw [hx] at hM
  obtain rfl := k102_openM hM
  refine ⟨gO, cap, by simp, hcc 1 _ rfl, hfz 1, fun v => ?_⟩
  obtain ⟨h1, hg⟩ := Kd.R_seg (okp := fun _ => False) hO (out.length : Int) (by omega) (by simp; omega) (c := [.int .i64 x.f0, .int .i64 x.f1, .string x.f2]) (seg := [.int .i64 v]) (j := 1) rfl (by rw [Int.toNat_natCast]; exact hcc) (show 1 + 1 ≤ 3 by omega) (x' := ⟨x.f0, v, x.f2⟩) (k102_mkM _ _ _ _) (fun _ hk => hk.elim)
  rw [Int.toNat_natCast] at h1 hg
  have hset : (out ++ [x]).set out.length ⟨x.f0, v, x.f2⟩ = out ++ [⟨x.f0, v, x.f2⟩] := by simp
  rw [hset] at h1
  have hne : g ≠ gO := by
    have := Kd.R_ne hO h.blk (by decide)
    rintro rfl
    exact this rfl
  have h2 : Kd.R k102 102 (W.setCell ⟨gO, out.length * 3 + 1, none⟩ (.int .i64 v)) w0.heap.size (fun _ => True) (.slice (some ⟨gO, 0, none⟩) (out ++ [x]).length cap) (out ++ [⟨x.f0, v, x.f2⟩]) := h1
  exact ⟨h.below.setCell hb _, h.base, (Below.heap_setCell _ _ _ _ hne).trans h.blk, h2, Kd.R_over' h.P (Kd.R_typed hO) (by decide) hg⟩
set_option maxHeartbeats 8000000 in
theorem onKeep_new (w0 W : World) (g : Nat) (vO : Value) (out : List S102) (last : Int) (vP : Value) (put : List Int) (drop n : Int) (s : ByteArray) (hn : 0 < n) (hlast : last = 0 ∨ last = 2) (hl : (out.length + 6) * 32 ≤ 140737488355328) (h : Bd w0 W g vO out last vP put drop) :
    Calls Tryd.prog 128 #[.pointer (some ⟨g, 0, none⟩), .int .i64 n, .string s] W fun e w' => (∃ v, e = .returned v) ∧ ∃ vO' vP' put' drop' out', Bd w0 w' g vO' out' 1 vP' put' drop' ∧ ((last = 0 ∧ out' = out ++ [⟨1, n, ⟨#[]⟩⟩] ∧ put' = put ∧ drop' = drop) ∨ (last = 2 ∧ out' = (out ++ flO put drop) ++ [⟨1, n, ⟨#[]⟩⟩] ∧ put' = [] ∧ drop' = 0)) := by
  have hu167 := Tryd.underlying167
  have hu102 := Tryd.underlying102
  have hn' : (n == 0) = false := beq_eq_false_iff_ne.mpr (by omega)
  have BB := Aside0.mk h
  have HL := Aside0.mk hl
  have c1 := h.c1
  obtain ⟨fl, hfl⟩ : ∃ fl, flO put drop = fl := ⟨_, rfl⟩
  have HFL : Aside0 (fl.length ≤ 2) := ⟨by rw [← hfl]; unfold flO; split <;> split <;> simp⟩
  rw [hfl]
  have HF := Aside0.mk hfl
  obtain ⟨o2, ho2⟩ : ∃ o, out ++ fl = o := ⟨_, rfl⟩
  have hfl2 := HFL.out
  have hlen2 : o2.length = out.length + fl.length := by rw [← ho2, List.length_append]
  have HO2 : Aside0 (out ++ fl = o2 ∧ (o2.length + 1) * 32 ≤ 140737488355328 ∧ (out.length + 1) * 32 ≤ 140737488355328 ∧ (out.length + 2) * 32 ≤ 140737488355328) := ⟨ho2, by omega, by omega, by omega⟩
  rw [ho2]
  clear h hl hn hfl ho2 hfl2 hlen2
  go_enter Tryd.func128, Tryd.ntmps128
  rcases hlast with rfl | rfl
  · go_upto_region 5 with (fail)
    have c0 := BB.out.c0
    clear c1
    go_wp2_with (((with_reducible refine gate_builtin (b := .append) (xs := #[.tmp 42, .tmp 45]) rfl ?_); at_builtin; refine Kd.R_append k102 (w0 := w0) w0.heap.size rfl (.tmp 42) (.tmp 45) 53 102 (.agg #[.int .i64 0, .int .i64 0, .string ⟨#[]⟩]) 32 rfl Tryd.underlying53 info102 rfl (by decide) (by omega) _ out (⟨1, n, ⟨#[]⟩⟩ : S102) [.int .i64 1, .int .i64 n, .string ⟨#[]⟩] (fun _ => True) (fun _ => False) rfl rfl (k102_mkM _ _ _ _) (fun _ hk => hk.elim) (fun _ _ => trivial) BB.out.O BB.out.below BB.out.below.size (by exact HO2.out.2.2.1) ?_; intro v1 w5 ho hb hg hat; obtain ⟨A1, cc1, rfl⟩ := Kd.R_slice ho; have HG5 := Aside0.mk (BB.out.grownO ho hb hg); have s0 := (blk_cell HG5.out.1 0).trans rfl; have s1 := blk_frozen HG5.out.1 0; have s2 := (blk_cell HG5.out.1 1).trans rfl; have s3 := blk_frozen HG5.out.1 1; clear ho hb hg hat))
    go_end0
    refine ⟨⟨_, rfl⟩, ?_⟩
    have h_ := HG5.out.2.setLast 1
    rw [List.length_append, List.length_singleton] at h_
    first | exact ⟨_, _, _, _, _, h_, .inl ⟨rfl, rfl, rfl, rfl⟩⟩ | exact ⟨_, _, _, _, _, h_, rfl, rfl, rfl⟩
  · go_upto_region 3 with (go_at_call 140; refine (flush_any w0 W g vO out 2 vP put drop HO2.out.2.2.2 BB.out).mono ?_; rintro e w3 ⟨⟨vv, rfl⟩, vO', vP', hB⟩)
    rw [HF.out] at hB
    rw [HO2.out.1] at hB
    replace BB := Aside0.mk hB
    clear hB c1
    have c1 := BB.out.c1
    go_upto_region 5 with (fail)
    have c0 := BB.out.c0
    clear c1
    go_wp2_with (((with_reducible refine gate_builtin (b := .append) (xs := #[.tmp 42, .tmp 45]) rfl ?_); at_builtin; refine Kd.R_append k102 (w0 := w0) w0.heap.size rfl (.tmp 42) (.tmp 45) 53 102 (.agg #[.int .i64 0, .int .i64 0, .string ⟨#[]⟩]) 32 rfl Tryd.underlying53 info102 rfl (by decide) (by omega) _ o2 (⟨1, n, ⟨#[]⟩⟩ : S102) [.int .i64 1, .int .i64 n, .string ⟨#[]⟩] (fun _ => True) (fun _ => False) rfl rfl (k102_mkM _ _ _ _) (fun _ hk => hk.elim) (fun _ _ => trivial) BB.out.O BB.out.below BB.out.below.size (by exact HO2.out.2.1) ?_; intro v1 w5 ho hb hg hat; obtain ⟨A1, cc1, rfl⟩ := Kd.R_slice ho; have HG5 := Aside0.mk (BB.out.grownO ho hb hg); have s0 := (blk_cell HG5.out.1 0).trans rfl; have s1 := blk_frozen HG5.out.1 0; have s2 := (blk_cell HG5.out.1 1).trans rfl; have s3 := blk_frozen HG5.out.1 1; clear ho hb hg hat))
    go_end0
    refine ⟨⟨_, rfl⟩, ?_⟩
    have h_ := HG5.out.2.setLast 1
    rw [List.length_append, List.length_singleton] at h_
    first | exact ⟨_, _, _, _, _, h_, .inr ⟨rfl, rfl, rfl, rfl⟩⟩ | exact ⟨_, _, _, _, _, h_, rfl, rfl, rfl⟩
set_option maxHeartbeats 8000000 in
theorem onKeep_more (w0 W : World) (g : Nat) (vO : Value) (out : List S102) (m : Int) (t : ByteArray) (vP : Value) (put : List Int) (drop n : Int) (s : ByteArray) (hn : 0 < n) (hm : 0 ≤ m ∧ m + n ≤ 1099511627776) (hl : (out.length + 6) * 32 ≤ 140737488355328) (h : Bd w0 W g vO (out ++ [⟨1, m, t⟩]) 1 vP put drop) :
    Calls Tryd.prog 128 #[.pointer (some ⟨g, 0, none⟩), .int .i64 n, .string s] W fun e w' => (∃ v, e = .returned v) ∧ Bd w0 w' g vO (out ++ [⟨1, m + n, t⟩]) 1 vP put drop := by
  have hu167 := Tryd.underlying167
  have hu102 := Tryd.underlying102
  have hu53 := Tryd.underlying53
  have hn' : (n == 0) = false := beq_eq_false_iff_ne.mpr (by omega)
  have hw : wrap64 (m + n) = m + n := by unfold wrap64; omega
  obtain ⟨gO, cap, rfl, e1, ef, hst⟩ := h.elem
  obtain ⟨q, hq⟩ : ∃ q, out.length = q := ⟨_, rfl⟩
  rw [hq] at e1 ef hst h hl ⊢
  have hq1 : wrap64 ((q : Int)) = q := by unfold wrap64; omega
  have hq2 : wrap64 ((q : Int) + 1 - 1) = q := by unfold wrap64; omega
  have hq3 : (q : Int) < (q : Int) + 1 := by omega
  have BB := Aside0.mk h
  have HS := Aside0.mk (And.intro hst (And.intro hm hl))
  have c1 := h.c1
  clear h hl hn hst hm hq
  go_enter Tryd.func128, Tryd.ntmps128
  go_upto_region 4 with (fail)
  have c0 := BB.out.c0
  refine start_ (n := 18) (S := fun w' => Below W.heap.size W w') (ds := [17]) #[false, false, false, false, false, false, false, false, false, false, false, false, false, false, false, false, false, false] (by kernel_rfl) rfl rfl (Below.refl _ _).drew (fun hHeld => ?_); refine with_tabW delta_onKeep.tab4 delta_onKeep.bits4 (fun HT_ HW_ => ?_)
  have GE := Aside0.mk (And.intro (show W.drew.cell? ⟨gO, q * 3 + 1, none⟩ = _ from e1) (And.intro (show W.drew.frozen? ⟨gO, q * 3 + 1, none⟩ = false from ef) (show ∀ v, Bd w0 (W.drew.setCell ⟨gO, q * 3 + 1, none⟩ (.int .i64 v)) g _ (out ++ [⟨1, v, t⟩]) 1 vP put drop from fun v => (HS.out.1 v).drew)))
  obtain ⟨w4, hZ_⟩ : ∃ Z_, W.drew = Z_ := ⟨_, rfl⟩
  rw [hZ_] at hHeld GE ⊢
  clear hZ_
  refine pure_ (i := 0) (N := some 20) (v := ?_) (a' := ?_) #[true, false, false, false, false, false, false, false, false, false, false, false, false, false, false, false, false, false] rfl rfl (any_of HT_.out (by kernel_rfl)) (fun _ _ _ h => h) (Or.inl ⟨by rfl, ?_⟩) ?_ ?_
  rotate_left
  · intro w'
    go_simp
    with_reducible rfl
  rotate_left
  · simp only [Act.put, List.setIfInBounds_toArray, List.set_cons_zero, List.set_cons_succ, i64_w, i32_w]
    rfl
  refine pure_ (i := 1) (N := some 21) (v := ?_) (a' := ?_) #[true, true, false, false, false, false, false, false, false, false, false, false, false, false, false, false, false, false] rfl rfl (any_of HT_.out (by kernel_rfl)) (fun _ _ _ h => h) (Or.inl ⟨by rfl, ?_⟩) ?_ ?_
  rotate_left
  · intro w'
    go_simp
    with_reducible rfl
  rotate_left
  · simp only [Act.put, List.setIfInBounds_toArray, List.set_cons_zero, List.set_cons_succ, i64_w, i32_w]
    rfl
  refine pure_ (i := 2) (N := some 22) (v := ?_) (a' := ?_) #[true, true, true, false, false, false, false, false, false, false, false, false, false, false, false, false, false, false] rfl rfl (any_of HT_.out (by kernel_rfl)) (fun _ _ _ h => h) (Or.inl ⟨by rfl, ?_⟩) ?_ ?_
  rotate_left
  · intro w'
    go_simp
    with_reducible rfl
  rotate_left
  · simp only [Act.put, List.setIfInBounds_toArray, List.set_cons_zero, List.set_cons_succ, i64_w, i32_w]
    rfl
  refine pure_ (i := 4) (N := some 24) (v := ?_) (a' := ?_) #[true, true, true, false, true, false, false, false, false, false, false, false, false, false, false, false, false, false] rfl rfl (any_of HT_.out (by kernel_rfl)) (fun _ _ _ h => h) (Or.inl ⟨by rfl, ?_⟩) ?_ ?_
  rotate_left
  · intro w'
    go_simp
    with_reducible rfl
  rotate_left
  · simp only [Act.put, List.setIfInBounds_toArray, List.set_cons_zero, List.set_cons_succ, i64_w, i32_w]
    rfl
  refine pure_ (i := 5) (N := some 25) (v := ?_) (a' := ?_) #[true, true, true, false, true, true, false, false, false, false, false, false, false, false, false, false, false, false] rfl rfl (any_of HT_.out (by kernel_rfl)) (fun _ _ _ h => h) (Or.inl ⟨by rfl, ?_⟩) ?_ ?_
  rotate_left
  · intro w'
    go_simp
    with_reducible rfl
  rotate_left
  · simp only [Act.put, List.setIfInBounds_toArray, List.set_cons_zero, List.set_cons_succ, i64_w, i32_w]
    rfl
  refine pure_ (i := 6) (N := some 26) (v := ?_) (a' := ?_) #[true, true, true, false, true, true, true, false, false, false, false, false, false, false, false, false, false, false] rfl rfl (any_of HT_.out (by kernel_rfl)) (fun _ _ _ h => h) (Or.inl ⟨by rfl, ?_⟩) ?_ ?_
  rotate_left
  · intro w'
    go_simp
    with_reducible rfl
  rotate_left
  · simp only [Act.put, List.setIfInBounds_toArray, List.set_cons_zero, List.set_cons_succ, i64_w, i32_w]
    rfl
  refine pure_ (i := 13) (N := some 33) (v := ?_) (a' := ?_) #[true, true, true, false, true, true, true, false, false, false, false, false, false, true, false, false, false, false] rfl rfl (any_of HT_.out (by kernel_rfl)) (fun _ _ _ h => h) (Or.inl ⟨by rfl, ?_⟩) ?_ ?_
  rotate_left
  · intro w'
    go_simp
    with_reducible rfl
  rotate_left
  · simp only [Act.put, List.setIfInBounds_toArray, List.set_cons_zero, List.set_cons_succ, i64_w, i32_w]
    rfl
  refine take_ (i := 3) (N := some 23) (v := ?_) (a' := ?_) #[true, true, true, true, true, true, true, false, false, false, false, false, false, true, false, false, false, false] rfl rfl (take_ofW HT_.out HW_.out (by kernel_rfl)) (fun _ _ _ h => h) (Or.inl ⟨by rfl, ?_⟩) hHeld ?_ ?_
  rotate_left
  · intro w' hS_
    have s0 := pw_cell_below hS_ c0
    go_simp
    with_reducible rfl
  rotate_left
  · simp only [Act.put, List.setIfInBounds_toArray, List.set_cons_zero, List.set_cons_succ, i64_w, i32_w]
    rfl
  refine take_ (i := 7) (N := some 27) (v := ?_) (a' := ?_) #[true, true, true, true, true, true, true, true, false, false, false, false, false, true, false, false, false, false] rfl rfl (take_ofW HT_.out HW_.out (by kernel_rfl)) (fun _ _ _ h => h) (Or.inl ⟨by rfl, ?_⟩) hHeld ?_ ?_
  rotate_left
  · intro w' hS_
    have s0 := pw_cell_below hS_ c0
    go_simp
    with_reducible rfl
  rotate_left
  · simp only [Act.put, List.setIfInBounds_toArray, List.set_cons_zero, List.set_cons_succ, i64_w, i32_w]
    rfl
  refine pure_ (i := 8) (N := some 28) (v := ?_) (a' := ?_) #[true, true, true, true, true, true, true, true, true, false, false, false, false, true, false, false, false, false] rfl rfl (any_of HT_.out (by kernel_rfl)) (fun _ _ _ h => h) (Or.inl ⟨by rfl, ?_⟩) ?_ ?_
  rotate_left
  · intro w'
    go_simp
    with_reducible rfl
  rotate_left
  · simp only [Act.put, List.setIfInBounds_toArray, List.set_cons_zero, List.set_cons_succ, i64_w, i32_w]
    rfl
  refine pure_ (i := 9) (N := some 29) (v := ?_) (a' := ?_) #[true, true, true, true, true, true, true, true, true, true, false, false, false, true, false, false, false, false] rfl rfl (any_of HT_.out (by kernel_rfl)) (fun _ _ _ h => h) (Or.inl ⟨by rfl, ?_⟩) ?_ ?_
  rotate_left
  · intro w'
    go_simp
    with_reducible rfl
  rotate_left
  · simp only [Act.put, List.setIfInBounds_toArray, List.set_cons_zero, List.set_cons_succ, i64_w, i32_w]
    rfl
  refine pure_ (i := 10) (N := some 30) (v := ?_) (a' := ?_) #[true, true, true, true, true, true, true, true, true, true, true, false, false, true, false, false, false, false] rfl rfl (any_of HT_.out (by kernel_rfl)) (fun _ _ _ h => h) (Or.inl ⟨by rfl, ?_⟩) ?_ ?_
  rotate_left
  · intro w'
    go_simp
    with_reducible rfl
  rotate_left
  · simp only [Act.put, List.setIfInBounds_toArray, List.set_cons_zero, List.set_cons_succ, i64_w, i32_w]
    rfl
  refine pure_ (i := 11) (N := some 31) (v := ?_) (a' := ?_) #[true, true, true, true, true, true, true, true, true, true, true, true, false, true, false, false, false, false] rfl rfl (any_of HT_.out (by kernel_rfl)) (fun _ _ _ h => h) (Or.inl ⟨by rfl, ?_⟩) ?_ ?_
  rotate_left
  · intro w'
    go_simp
    with_reducible rfl
  rotate_left
  · simp only [Act.put, List.setIfInBounds_toArray, List.set_cons_zero, List.set_cons_succ, i64_w, i32_w]
    rfl
  refine take_ (i := 12) (N := some 32) (v := ?_) (a' := ?_) #[true, true, true, true, true, true, true, true, true, true, true, true, true, true, false, false, false, false] rfl rfl (take_ofW HT_.out HW_.out (by kernel_rfl)) (fun _ _ _ h => h) (Or.inl ⟨by rfl, ?_⟩) hHeld ?_ ?_
  rotate_left
  · intro w' hS_
    have s0 := pw_cell_below hS_ e1
    go_simp
    with_reducible rfl
  rotate_left
  · simp only [Act.put, List.setIfInBounds_toArray, List.set_cons_zero, List.set_cons_succ, i64_w, i32_w]
    rfl
  refine pure_ (i := 14) (N := some 34) (v := ?_) (a' := ?_) #[true, true, true, true, true, true, true, true, true, true, true, true, true, true, true, false, false, false] rfl rfl (any_of HT_.out (by kernel_rfl)) (fun _ _ _ h => h) (Or.inl ⟨by rfl, ?_⟩) ?_ ?_
  rotate_left
  · intro w'
    go_simp
    with_reducible rfl
  rotate_left
  · simp only [Act.put, List.setIfInBounds_toArray, List.set_cons_zero, List.set_cons_succ, i64_w, i32_w]
    rfl
  refine pure_ (i := 15) (N := some 35) (v := ?_) (a' := ?_) #[true, true, true, true, true, true, true, true, true, true, true, true, true, true, true, true, false, false] rfl rfl (any_of HT_.out (by kernel_rfl)) (fun _ _ _ h => h) (Or.inl ⟨by rfl, ?_⟩) ?_ ?_
  rotate_left
  · intro w'
    go_simp
    with_reducible rfl
  rotate_left
  · simp only [Act.put, List.setIfInBounds_toArray, List.set_cons_zero, List.set_cons_succ, i64_w, i32_w]
    rfl
  refine pure_ (i := 16) (N := some 36) (v := ?_) (a' := ?_) #[true, true, true, true, true, true, true, true, true, true, true, true, true, true, true, true, true, false] rfl rfl (any_of HT_.out (by kernel_rfl)) (fun _ _ _ h => h) (Or.inl ⟨by rfl, ?_⟩) ?_ ?_
  rotate_left
  · intro w'
    go_simp
    with_reducible rfl
  rotate_left
  · simp only [Act.put, List.setIfInBounds_toArray, List.set_cons_zero, List.set_cons_succ, i64_w, i32_w]
    rfl
  refine last_ (i := 17) (N := none) #[true, true, true, true, true, true, true, true, true, true, true, true, true, true, true, true, true, true] rfl rfl (one_of HT_.out (by kernel_rfl)) (by decide) (fun K hK => ?_)
  have s0 := GE.out.1
  have s1 := GE.out.2.1
  refine skip_ (w1 := ?_) (by rfl) rfl ?_ ?_
  rotate_left
  · go_simp
    rfl
  refine hK.out _ _ ?_
  clear hK K
  refine done_ (done_of HT_.out (by kernel_rfl)) ?_
  clear HT_ HW_
  go_wp2
  skip
  refine bodyPost_ret (results_none rfl _ _ _) rfl ?_
  refine ⟨⟨_, rfl⟩, ?_⟩
  have h_ := GE.out.2.2 (m + n)
  first | exact h_ | (rw [hw]; exact h_)
theorem done_any (w0 W : World) (g : Nat) (vO : Value) (out : List S102) (last : Int) (vP : Value) (put : List Int) (drop : Int) (hl : (out.length + 2) * 32 ≤ 140737488355328) (h : Bd w0 W g vO out last vP put drop) :
    Calls Tryd.prog 131 #[.pointer (some ⟨g, 0, none⟩)] W fun e w' => ∃ v, e = .returned v ∧ Kd.R k102 102 w' w0.heap.size (fun _ => True) v (out ++ flO put drop) ∧ Below w0.heap.size w0 w' := by
  have hu167 := Tryd.underlying167
  have BB := Aside0.mk h
  have HL := Aside0.mk hl
  clear h hl
  go_enter Tryd.func131, Tryd.ntmps131
  go_upto_region 2 with (go_at_call 140; refine (flush_any w0 W g vO out last vP put drop HL.out BB.out).mono ?_; rintro e w3 ⟨⟨vv, rfl⟩, vO', vP', hB⟩)
  replace BB := Aside0.mk hB
  clear hB
  have c0 := BB.out.c0
  go_wp2
  go_ret
  exact ⟨_, rfl, BB.out.O, BB.out.below⟩
end Go.Proofs.YtbomhpfckplgaaaDoor.P
namespace Go.Proofs.YtbomhpfckplgaaaDoor.P
open Go.RowKit Go.Proofs.YtbomhpfckplgaaaDoorW.PrintWords Go.Proofs.YtbomhpfckplgaaaDoorW.PrintLast Go.Proofs.YtbomhpfckplgaaaDoorW.PrintMore
attribute [local go_sem] max2_int min2_int max_two min_two max_three min_three max_four min_four   -- for this text's walks alone
set_option linter.unusedVariables false
set_option linter.unusedSimpArgs false
mutual
def delta_lens.l0 : Nat → Int → Int → List (S102) → Int → Int → Option (Int × Int × Bool)
 | 0, _, _, _, _, _ => none
 | k + 1, x2, x3, x8, x9, x10 => if x10 < x9 then (if 0 ≤ x10 then (if x10 < (x8.length : Int) then (if ((rd_T102 x8 x10).f0) = 2 then (delta_lens.j1 k x2 x3 (((rd_T102 x8 x10).f2).size : Int) x8 x9 x10 ((rd_T102 x8 x10).f0) ((rd_T102 x8 x10).f1) ((rd_T102 x8 x10).f2)) else (delta_lens.j1 k x2 x3 ((rd_T102 x8 x10).f1) x8 x9 x10 ((rd_T102 x8 x10).f0) ((rd_T102 x8 x10).f1) ((rd_T102 x8 x10).f2))) else (none)) else (none)) else (some (x2, x3, true))
def delta_lens.j1 : Nat → Int → Int → Int → List (S102) → Int → Int → Int → Int → ByteArray → Option (Int × Int × Bool)
 | 0, _, _, _, _, _, _, _, _, _ => none
 | k + 1, x2, x3, x7, x8, x9, x10, x103000, x103001, x103002 => if x7 > 268435456 then (some (0, 0, false)) else (if x103000 = 2 then (delta_lens.j2 k x2 x3 x7 x8 x9 x10 x103000 x103001 x103002) else (delta_lens.j2 k (wrap64 (x2 + x7)) x3 x7 x8 x9 x10 x103000 x103001 x103002))
def delta_lens.j2 : Nat → Int → Int → Int → List (S102) → Int → Int → Int → Int → ByteArray → Option (Int × Int × Bool)
 | 0, _, _, _, _, _, _, _, _, _ => none
 | k + 1, x2, x3, x7, x8, x9, x10, x103000, x103001, x103002 => if x103000 = 3 then (if x2 > 268435456 then (some (0, 0, false)) else (if x3 > 268435456 then (some (0, 0, false)) else (delta_lens.l0 k x2 x3 x8 x9 (wrap64 (x10 + 1))))) else (if x2 > 268435456 then (some (0, 0, false)) else (if (wrap64 (x3 + x7)) > 268435456 then (some (0, 0, false)) else (delta_lens.l0 k x2 (wrap64 (x3 + x7)) x8 x9 (wrap64 (x10 + 1)))))
end
def delta_lens.f (k : Nat) (l0 : List (S102)) : Option (Int × Int × Bool) := delta_lens.l0 k 0 0 l0 (l0.length : Int) 0
set_option maxHeartbeats 8000000 in
set_option maxRecDepth 100000 in
theorem delta_lens.calls (k : Nat) (A0 : Option Addr) (c0 : Nat) (l0 : List (S102)) (r1 : Int) (r2 : Int) (r3 : Bool) (w : World) (hr0 : Kd.C k102 w A0 l0.length l0) (hc0 : l0.length ≤ c0) (h : delta_lens.f k l0 = some (r1, r2, r3)) :
  Calls Tryd.prog 93 #[.slice A0 l0.length c0] w fun e w' => e = .returned (.tuple #[.int .i64 r1, .int .i64 r2, .bool r3]) ∧ Below w.heap.size w w' := by
 have hu102 := Tryd.underlying102
 have HR0 := Aside0.mk hr0
 have HC0 := Aside0.mk hc0
 clear hr0 hc0
 have HB := Aside0.mk (Below.refl w.heap.size w)
 have H : (delta_lens.l0 k 0 0 l0 (l0.length : Int) 0) = some (r1, r2, r3) := h
 clear h
 have H' := Aside0.mk H
 clear H
 go_enter Tryd.func93, Tryd.ntmps93
 go_wp2
 go_loopg [2, 3, 10] k (fun kq v2 v3 v10 w' => ∃ (x2_1 : Int) (x3_1 : Int) (x10_1 : Int), v2 = .int .i64 x2_1 ∧ v3 = .int .i64 x3_1 ∧ v10 = .int .i64 x10_1 ∧ Aside0 (delta_lens.l0 kq x2_1 x3_1 l0 (l0.length : Int) x10_1 = some (r1, r2, r3)) ∧ Aside0 (kq ≤ k) ∧ Aside0 (Below w.heap.size w w'))
 case atStart => exact ⟨(0), (0), (0), (by first | rfl | (simp; done) | (simp [*]; done)), (by first | rfl | (simp; done) | (simp [*]; done)), (by first | rfl | (simp; done) | (simp [*]; done)), H', ⟨Nat.le_refl _⟩, ⟨by repeat (first | (with_reducible first | exact HB.out | apply below_alloc | apply pw_below_drewN | apply below_drew1) | exact HB.out)⟩⟩
 case round =>
  clear H'
  obtain ⟨x2_1, x3_1, x10_1, rfl, rfl, rfl, HA, HK1, HB⟩ := hrel
  cases gk with
  | zero => exact absurd HA.out (by simp [delta_lens.l0])
  | succ k1 =>
   have H := HA.out
   clear HA
   simp only [delta_lens.l0] at H
   by_cases c2 : x10_1 < (l0.length : Int)
   ·
    rw [if_pos c2] at H
    have c2b0 : decide (x10_1 < (l0.length : Int)) = true := decide_eq_true c2
    clear c2
    by_cases c3 : 0 ≤ x10_1
    ·
     rw [if_pos c3] at H
     have c3b0 : decide (0 ≤ x10_1) = true := decide_eq_true c3
     clear c3
     by_cases c4 : x10_1 < (l0.length : Int)
     ·
      rw [if_pos c4] at H
      have c4b0 : decide (x10_1 < (l0.length : Int)) = true := decide_eq_true c4
      clear c4
      have HC5 := Aside0.mk H
      clear H
      have p101 : 0 ≤ (x10_1 : Int) := of_decide_eq_true (by first | (with_reducible assumption) | assumption)
      have q101 : x10_1 < (l0.length : Int) := of_decide_eq_true (by first | (with_reducible assumption) | assumption)
      obtain ⟨ad101, e101, hx101_0, hx101_1, hx101_2⟩ := at_T102 HR0.out x10_1 p101 q101
      cases e101
      replace hx101_0 := (HB.out.cell (World.block_lt_of_cell? w _ hx101_0)).trans hx101_0
      replace hx101_1 := (HB.out.cell (World.block_lt_of_cell? w _ hx101_1)).trans hx101_1
      replace hx101_2 := (HB.out.cell (World.block_lt_of_cell? w _ hx101_2)).trans hx101_2
      replace p101 := eq_true p101
      replace q101 := eq_true q101
      go_upto_if 18 with (first | ((with_reducible refine gate_dst (N := 6) rfl ?_); refine box_event ?hg (N := 6) ?hd (cs := #[.int .i64 0, .int .i64 0, .string (⟨#[]⟩ : ByteArray)]) (t := 102) ?hr ?_; (case hd => rfl); (case hg => rfl); (case hr => first | (go_simp; done) | (go_simp; rfl)); intro gb102 hg w6 hbox hb; have n0_ := Aside0.mk (below_step (by repeat (first | (with_reducible first | exact HB.out | apply below_alloc | apply pw_below_drewN | apply below_drew1) | exact HB.out)) hb); have n1_ := Aside0.mk (hbox); have n2_ := Aside0.mk ((by rw [hg]; exact (below_size (by repeat (first | (with_reducible first | exact HB.out | apply below_alloc | apply pw_below_drewN | apply below_drew1) | exact HB.out))) : w.heap.size ≤ gb102)); have n3_ := Aside0.mk ((by rw [hg]; exact (below_size (by repeat (first | (with_reducible first | exact HB.out | apply below_alloc | apply pw_below_drewN | apply below_drew1) | exact HB.out))) : w.heap.size ≤ gb102)); clear HB; have HB := n0_; have BK102 := n1_; have GW102 := n2_; have GE102 := n3_; clear n0_ n1_ n2_ n3_; clear hb hbox hg; have hcz7_0 : w6.cell? ⟨gb102, 0, none⟩ = some (.int .i64 0) := (blk_cell BK102.out 0).trans rfl; have hcz7_1 : w6.cell? ⟨gb102, 1, none⟩ = some (.int .i64 0) := (blk_cell BK102.out 1).trans rfl; have hcz7_2 : w6.cell? ⟨gb102, 2, none⟩ = some (.string (⟨#[]⟩ : ByteArray)) := (blk_cell BK102.out 2).trans rfl; have hfz7_0 := blk_frozen BK102.out 0; have hfz7_1 := blk_frozen BK102.out 1; have hfz7_2 := blk_frozen BK102.out 2))
      (try simp only [Act.put, List.setIfInBounds_toArray, List.set_cons_zero, List.set_cons_succ])
      go_cut [7] (fun v7 wc => ∃ (kq : Nat) (x7_4 : Int), v7 = .int .i64 x7_4 ∧ Aside0 (delta_lens.j1 kq x2_1 x3_1 x7_4 l0 (l0.length : Int) x10_1 ((rd_T102 l0 x10_1).f0) ((rd_T102 l0 x10_1).f1) ((rd_T102 l0 x10_1).f2) = some (r1, r2, r3)) ∧ Aside0 (kq ≤ k1) ∧ Aside0 (wc.heap[gb102]? = some (.cells #[.int .i64 ((rd_T102 l0 x10_1).f0), .int .i64 ((rd_T102 l0 x10_1).f1), .string ((rd_T102 l0 x10_1).f2)] 102 (0, 0))) ∧ Aside0 (Below w.heap.size w wc))
      case first =>
       have H := HC5.out
       clear HC5
       by_cases c8 : ((rd_T102 l0 x10_1).f0) = 2
       ·
        rw [if_pos c8] at H
        have c8b0 : (((rd_T102 l0 x10_1).f0) == 2) = true := beq_iff_eq.mpr c8
        have c8b1 : (((rd_T102 l0 x10_1).f0) != 2) = false := bne_eq_false_iff_eq.mpr c8
        clear c8
        (first | rw [c8b0] | (simp only [i64_w, i32_w]; rw [c8b0]) | skip)
        have H' := Aside0.mk H
        clear H
        have hcz9_0 : w6.cell? ⟨gb102, 0, none⟩ = some (.int .i64 0) := (blk_cell BK102.out 0).trans rfl
        have hcz9_1 : w6.cell? ⟨gb102, 1, none⟩ = some (.int .i64 0) := (blk_cell BK102.out 1).trans rfl
        have hcz9_2 : w6.cell? ⟨gb102, 2, none⟩ = some (.string (⟨#[]⟩ : ByteArray)) := (blk_cell BK102.out 2).trans rfl
        have hfz9_0 := blk_frozen BK102.out 0
        have hfz9_1 := blk_frozen BK102.out 1
        have hfz9_2 := blk_frozen BK102.out 2
        go_wp2
        go_meet
        case rel => exact ⟨_, ((((rd_T102 l0 x10_1).f2).size : Int)), (by first | rfl | (simp; done) | (simp [*]; done)), H', ⟨by have := HK1.out; first | omega | exact Nat.le_refl _⟩, ⟨by (with_reducible repeat (first | refine blk_drewN ?_ _ | refine blk_drew ?_ | refine blk_alloc ?_ _)); refine blk_put (cs := #[.int .i64 ((rd_T102 l0 x10_1).f0), .int .i64 ((rd_T102 l0 x10_1).f1), .string (⟨#[]⟩ : ByteArray)]) ?_ 2 _ rfl; (with_reducible repeat (first | refine blk_drewN ?_ _ | refine blk_drew ?_ | refine blk_alloc ?_ _)); refine blk_put (cs := #[.int .i64 ((rd_T102 l0 x10_1).f0), .int .i64 0, .string (⟨#[]⟩ : ByteArray)]) ?_ 1 _ rfl; (with_reducible repeat (first | refine blk_drewN ?_ _ | refine blk_drew ?_ | refine blk_alloc ?_ _)); refine blk_put (cs := #[.int .i64 0, .int .i64 0, .string (⟨#[]⟩ : ByteArray)]) ?_ 0 _ rfl; (with_reducible repeat (first | refine blk_drewN ?_ _ | refine blk_drew ?_ | refine blk_alloc ?_ _)); exact BK102.out⟩, ⟨by repeat (first | (with_reducible first | exact HB.out | apply below_alloc | apply pw_below_drewN | apply below_drew1 | refine below_set ?_ GE102.out) | exact HB.out)⟩⟩
       ·
        rw [if_neg c8] at H
        have c8b0 : (((rd_T102 l0 x10_1).f0) == 2) = false := beq_eq_false_iff_ne.mpr c8
        have c8b1 : (((rd_T102 l0 x10_1).f0) != 2) = true := bne_iff_ne.mpr c8
        (first | rw [c8b0] | (simp only [i64_w, i32_w]; rw [c8b0]) | skip)
        have H' := Aside0.mk H
        clear H
        go_wp2
        go_meet
        case rel => exact ⟨_, ((rd_T102 l0 x10_1).f1), (by first | rfl | (simp; done) | (simp [*]; done)), H', ⟨by have := HK1.out; first | omega | exact Nat.le_refl _⟩, ⟨by (with_reducible repeat (first | refine blk_drewN ?_ _ | refine blk_drew ?_ | refine blk_alloc ?_ _)); refine blk_put (cs := #[.int .i64 ((rd_T102 l0 x10_1).f0), .int .i64 ((rd_T102 l0 x10_1).f1), .string (⟨#[]⟩ : ByteArray)]) ?_ 2 _ rfl; (with_reducible repeat (first | refine blk_drewN ?_ _ | refine blk_drew ?_ | refine blk_alloc ?_ _)); refine blk_put (cs := #[.int .i64 ((rd_T102 l0 x10_1).f0), .int .i64 0, .string (⟨#[]⟩ : ByteArray)]) ?_ 1 _ rfl; (with_reducible repeat (first | refine blk_drewN ?_ _ | refine blk_drew ?_ | refine blk_alloc ?_ _)); refine blk_put (cs := #[.int .i64 0, .int .i64 0, .string (⟨#[]⟩ : ByteArray)]) ?_ 0 _ rfl; (with_reducible repeat (first | refine blk_drewN ?_ _ | refine blk_drew ?_ | refine blk_alloc ?_ _)); exact BK102.out⟩, ⟨by repeat (first | (with_reducible first | exact HB.out | apply below_alloc | apply pw_below_drewN | apply below_drew1 | refine below_set ?_ GE102.out) | exact HB.out)⟩⟩
      case rest =>
       clear HC5
       (try clear p1); (try clear q1); (try clear hx1); (try clear c2); (try clear c2b0); (try clear p2); (try clear c3); (try clear c3b0); (try clear c4); (try clear c4b0); (try clear c8); (try clear c8b0); (try clear c8b1); (try clear c9); (try clear hcz7_0); (try clear hcz7_1); (try clear hcz7_2); (try clear hcz9_0); (try clear hcz9_1); (try clear hcz9_2); (try clear hfz7_0); (try clear hfz7_1); (try clear hfz7_2); (try clear hfz9_0); (try clear hfz9_1); (try clear hfz9_2); (try clear hx101_0); (try clear hx101_1); (try clear hx101_2); (try clear p101); (try clear q101)
       obtain ⟨kq, x7_4, rfl, HA, HJ4, BK102, HB⟩ := hcut
       cases kq with
       | zero => exact absurd HA.out (by simp [delta_lens.j1])
       | succ kj4 =>
        have H := HA.out
        clear HA
        simp only [delta_lens.j1] at H
        by_cases c10 : x7_4 > 268435456
        ·
         rw [if_pos c10] at H
         have c10b0 : decide (268435456 < x7_4) = true := decide_eq_true c10
         clear c10
         simp only [Option.some.injEq, Prod.mk.injEq] at H
         obtain ⟨rfl, rfl, rfl⟩ := H
         go_wp2
         go_ret3
         exact ⟨by first | rfl | (simp [errW_none, errW_some] <;> rfl) | (simp [*, errW_none, errW_some] <;> rfl), by repeat (first | (with_reducible first | exact HB.out | apply below_alloc | apply pw_below_drewN | apply below_drew1 | refine below_set ?_ GE102.out) | exact HB.out)⟩
        ·
         rw [if_neg c10] at H
         have c10b0 : decide (268435456 < x7_4) = false := decide_eq_false c10
         clear c10
         have HC11 := Aside0.mk H
         clear H
         have hcz12_0 : wc.cell? ⟨gb102, 0, none⟩ = some (.int .i64 ((rd_T102 l0 x10_1).f0)) := (blk_cell BK102.out 0).trans rfl
         have hcz12_1 : wc.cell? ⟨gb102, 1, none⟩ = some (.int .i64 ((rd_T102 l0 x10_1).f1)) := (blk_cell BK102.out 1).trans rfl
         have hcz12_2 : wc.cell? ⟨gb102, 2, none⟩ = some (.string ((rd_T102 l0 x10_1).f2)) := (blk_cell BK102.out 2).trans rfl
         have hfz12_0 := blk_frozen BK102.out 0
         have hfz12_1 := blk_frozen BK102.out 1
         have hfz12_2 := blk_frozen BK102.out 2
         go_upto_if 26 with (fail)
         go_cut [2] (fun v2 wc => ∃ (kq : Nat) (x2_10 : Int), v2 = .int .i64 x2_10 ∧ Aside0 (delta_lens.j2 kq x2_10 x3_1 x7_4 l0 (l0.length : Int) x10_1 ((rd_T102 l0 x10_1).f0) ((rd_T102 l0 x10_1).f1) ((rd_T102 l0 x10_1).f2) = some (r1, r2, r3)) ∧ Aside0 (kq ≤ kj4) ∧ Aside0 (wc.heap[gb102]? = some (.cells #[.int .i64 ((rd_T102 l0 x10_1).f0), .int .i64 ((rd_T102 l0 x10_1).f1), .string ((rd_T102 l0 x10_1).f2)] 102 (0, 0))) ∧ Aside0 (Below w.heap.size w wc))
         case first =>
          have H := HC11.out
          clear HC11
          by_cases c13 : ((rd_T102 l0 x10_1).f0) = 2
          ·
           rw [if_pos c13] at H
           have c13b0 : (((rd_T102 l0 x10_1).f0) == 2) = true := beq_iff_eq.mpr c13
           have c13b1 : (((rd_T102 l0 x10_1).f0) != 2) = false := bne_eq_false_iff_eq.mpr c13
           clear c13
           (first | rw [c13b0] | (simp only [i64_w, i32_w]; rw [c13b0]) | skip)
           have H' := Aside0.mk H
           clear H
           go_wp2
           go_meet
           case rel => exact ⟨_, (x2_1), (by first | rfl | (simp; done) | (simp [*]; done)), H', ⟨by have := HK1.out; have := HJ4.out; first | omega | exact Nat.le_refl _⟩, ⟨by (with_reducible repeat (first | refine blk_drewN ?_ _ | refine blk_drew ?_ | refine blk_alloc ?_ _)); exact BK102.out⟩, ⟨by repeat (first | (with_reducible first | exact HB.out | apply below_alloc | apply pw_below_drewN | apply below_drew1 | refine below_set ?_ GE102.out) | exact HB.out)⟩⟩
          ·
           rw [if_neg c13] at H
           have c13b0 : (((rd_T102 l0 x10_1).f0) == 2) = false := beq_eq_false_iff_ne.mpr c13
           have c13b1 : (((rd_T102 l0 x10_1).f0) != 2) = true := bne_iff_ne.mpr c13
           (first | rw [c13b0] | (simp only [i64_w, i32_w]; rw [c13b0]) | skip)
           have H' := Aside0.mk H
           clear H
           go_wp2
           go_meet
           case rel => exact ⟨_, (wrap64 (x2_1 + x7_4)), (by first | rfl | (simp; done) | (simp [*]; done)), H', ⟨by have := HK1.out; have := HJ4.out; first | omega | exact Nat.le_refl _⟩, ⟨by (with_reducible repeat (first | refine blk_drewN ?_ _ | refine blk_drew ?_ | refine blk_alloc ?_ _)); exact BK102.out⟩, ⟨by repeat (first | (with_reducible first | exact HB.out | apply below_alloc | apply pw_below_drewN | apply below_drew1 | refine below_set ?_ GE102.out) | exact HB.out)⟩⟩
         case rest =>
          clear HC11
          (try clear c1); (try clear p1); (try clear q1); (try clear hx1); (try clear c2); (try clear c2b0); (try clear p2); (try clear c3); (try clear c3b0); (try clear c4); (try clear c4b0); (try clear p6); (try clear c8); (try clear c8b0); (try clear c8b1); (try clear c9); (try clear c10); (try clear c10b0); (try clear p10); (try clear q10); (try clear hx10); (try clear c13); (try clear c13b0); (try clear c13b1); (try clear hcz12_0); (try clear hcz12_1); (try clear hcz12_2); (try clear hcz7_0); (try clear hcz7_1); (try clear hcz7_2); (try clear hcz9_0); (try clear hcz9_1); (try clear hcz9_2); (try clear hfz12_0); (try clear hfz12_1); (try clear hfz12_2); (try clear hfz7_0); (try clear hfz7_1); (try clear hfz7_2); (try clear hfz9_0); (try clear hfz9_1); (try clear hfz9_2); (try clear hx101_0); (try clear hx101_1); (try clear hx101_2); (try clear p101); (try clear q101)
          obtain ⟨kq, x2_10, rfl, HA, HJ10, BK102, HB⟩ := hcut
          cases kq with
          | zero => exact absurd HA.out (by simp [delta_lens.j2])
          | succ kj10 =>
           have H := HA.out
           clear HA
           simp only [delta_lens.j2] at H
           by_cases c14 : ((rd_T102 l0 x10_1).f0) = 3
           ·
            rw [if_pos c14] at H
            have c14b0 : (((rd_T102 l0 x10_1).f0) == 3) = true := beq_iff_eq.mpr c14
            have c14b1 : (((rd_T102 l0 x10_1).f0) != 3) = false := bne_eq_false_iff_eq.mpr c14
            clear c14
            by_cases c15 : x2_10 > 268435456
            ·
             rw [if_pos c15] at H
             have c15b0 : decide (268435456 < x2_10) = true := decide_eq_true c15
             clear c15
             simp only [Option.some.injEq, Prod.mk.injEq] at H
             obtain ⟨rfl, rfl, rfl⟩ := H
             have hcz16_0 : wc.cell? ⟨gb102, 0, none⟩ = some (.int .i64 ((rd_T102 l0 x10_1).f0)) := (blk_cell BK102.out 0).trans rfl
             have hcz16_1 : wc.cell? ⟨gb102, 1, none⟩ = some (.int .i64 ((rd_T102 l0 x10_1).f1)) := (blk_cell BK102.out 1).trans rfl
             have hcz16_2 : wc.cell? ⟨gb102, 2, none⟩ = some (.string ((rd_T102 l0 x10_1).f2)) := (blk_cell BK102.out 2).trans rfl
             have hfz16_0 := blk_frozen BK102.out 0
             have hfz16_1 := blk_frozen BK102.out 1
             have hfz16_2 := blk_frozen BK102.out 2
             go_wp2
             go_ret3
             exact ⟨by first | rfl | (simp [errW_none, errW_some] <;> rfl) | (simp [*, errW_none, errW_some] <;> rfl), by repeat (first | (with_reducible first | exact HB.out | apply below_alloc | apply pw_below_drewN | apply below_drew1 | refine below_set ?_ GE102.out) | exact HB.out)⟩
            ·
             rw [if_neg c15] at H
             have c15b0 : decide (268435456 < x2_10) = false := decide_eq_false c15
             clear c15
             by_cases c17 : x3_1 > 268435456
             ·
              rw [if_pos c17] at H
              have c17b0 : decide (268435456 < x3_1) = true := decide_eq_true c17
              clear c17
              simp only [Option.some.injEq, Prod.mk.injEq] at H
              obtain ⟨rfl, rfl, rfl⟩ := H
              have hcz18_0 : wc.cell? ⟨gb102, 0, none⟩ = some (.int .i64 ((rd_T102 l0 x10_1).f0)) := (blk_cell BK102.out 0).trans rfl
              have hcz18_1 : wc.cell? ⟨gb102, 1, none⟩ = some (.int .i64 ((rd_T102 l0 x10_1).f1)) := (blk_cell BK102.out 1).trans rfl
              have hcz18_2 : wc.cell? ⟨gb102, 2, none⟩ = some (.string ((rd_T102 l0 x10_1).f2)) := (blk_cell BK102.out 2).trans rfl
              have hfz18_0 := blk_frozen BK102.out 0
              have hfz18_1 := blk_frozen BK102.out 1
              have hfz18_2 := blk_frozen BK102.out 2
              go_wp2
              go_ret3
              exact ⟨by first | rfl | (simp [errW_none, errW_some] <;> rfl) | (simp [*, errW_none, errW_some] <;> rfl), by repeat (first | (with_reducible first | exact HB.out | apply below_alloc | apply pw_below_drewN | apply below_drew1 | refine below_set ?_ GE102.out) | exact HB.out)⟩
             ·
              rw [if_neg c17] at H
              have c17b0 : decide (268435456 < x3_1) = false := decide_eq_false c17
              clear c17
              have H' := Aside0.mk H
              clear H
              have hcz19_0 : wc.cell? ⟨gb102, 0, none⟩ = some (.int .i64 ((rd_T102 l0 x10_1).f0)) := (blk_cell BK102.out 0).trans rfl
              have hcz19_1 : wc.cell? ⟨gb102, 1, none⟩ = some (.int .i64 ((rd_T102 l0 x10_1).f1)) := (blk_cell BK102.out 1).trans rfl
              have hcz19_2 : wc.cell? ⟨gb102, 2, none⟩ = some (.string ((rd_T102 l0 x10_1).f2)) := (blk_cell BK102.out 2).trans rfl
              have hfz19_0 := blk_frozen BK102.out 0
              have hfz19_1 := blk_frozen BK102.out 1
              have hfz19_2 := blk_frozen BK102.out 2
              go_wp2
              go_roundg kj10
              case measure => have := HK1.out; have := HJ4.out; have := HJ10.out; omega
              case rel => exact ⟨(x2_10), (x3_1), (wrap64 (x10_1 + 1)), (by first | rfl | (simp; done) | (simp [*]; done)), (by first | rfl | (simp; done) | (simp [*]; done)), (by first | rfl | (simp; done) | (simp [*]; done)), H', ⟨by have := HK1.out; have := HJ4.out; have := HJ10.out; omega⟩, ⟨by repeat (first | (with_reducible first | exact HB.out | apply below_alloc | apply pw_below_drewN | apply below_drew1 | refine below_set ?_ GE102.out) | exact HB.out)⟩⟩
           ·
            rw [if_neg c14] at H
            have c14b0 : (((rd_T102 l0 x10_1).f0) == 3) = false := beq_eq_false_iff_ne.mpr c14
            have c14b1 : (((rd_T102 l0 x10_1).f0) != 3) = true := bne_iff_ne.mpr c14
            by_cases c20 : x2_10 > 268435456
            ·
             rw [if_pos c20] at H
             have c20b0 : decide (268435456 < x2_10) = true := decide_eq_true c20
             clear c20
             simp only [Option.some.injEq, Prod.mk.injEq] at H
             obtain ⟨rfl, rfl, rfl⟩ := H
             have hcz21_0 : wc.cell? ⟨gb102, 0, none⟩ = some (.int .i64 ((rd_T102 l0 x10_1).f0)) := (blk_cell BK102.out 0).trans rfl
             have hcz21_1 : wc.cell? ⟨gb102, 1, none⟩ = some (.int .i64 ((rd_T102 l0 x10_1).f1)) := (blk_cell BK102.out 1).trans rfl
             have hcz21_2 : wc.cell? ⟨gb102, 2, none⟩ = some (.string ((rd_T102 l0 x10_1).f2)) := (blk_cell BK102.out 2).trans rfl
             have hfz21_0 := blk_frozen BK102.out 0
             have hfz21_1 := blk_frozen BK102.out 1
             have hfz21_2 := blk_frozen BK102.out 2
             go_wp2
             go_ret3
             exact ⟨by first | rfl | (simp [errW_none, errW_some] <;> rfl) | (simp [*, errW_none, errW_some] <;> rfl), by repeat (first | (with_reducible first | exact HB.out | apply below_alloc | apply pw_below_drewN | apply below_drew1 | refine below_set ?_ GE102.out) | exact HB.out)⟩
            ·
             rw [if_neg c20] at H
             have c20b0 : decide (268435456 < x2_10) = false := decide_eq_false c20
             clear c20
             by_cases c22 : (wrap64 (x3_1 + x7_4)) > 268435456
             ·
              rw [if_pos c22] at H
              have c22b0 : decide (268435456 < (wrap64 (x3_1 + x7_4))) = true := decide_eq_true c22
              clear c22
              simp only [Option.some.injEq, Prod.mk.injEq] at H
              obtain ⟨rfl, rfl, rfl⟩ := H
              have hcz23_0 : wc.cell? ⟨gb102, 0, none⟩ = some (.int .i64 ((rd_T102 l0 x10_1).f0)) := (blk_cell BK102.out 0).trans rfl
              have hcz23_1 : wc.cell? ⟨gb102, 1, none⟩ = some (.int .i64 ((rd_T102 l0 x10_1).f1)) := (blk_cell BK102.out 1).trans rfl
              have hcz23_2 : wc.cell? ⟨gb102, 2, none⟩ = some (.string ((rd_T102 l0 x10_1).f2)) := (blk_cell BK102.out 2).trans rfl
              have hfz23_0 := blk_frozen BK102.out 0
              have hfz23_1 := blk_frozen BK102.out 1
              have hfz23_2 := blk_frozen BK102.out 2
              go_wp2
              go_ret3
              exact ⟨by first | rfl | (simp [errW_none, errW_some] <;> rfl) | (simp [*, errW_none, errW_some] <;> rfl), by repeat (first | (with_reducible first | exact HB.out | apply below_alloc | apply pw_below_drewN | apply below_drew1 | refine below_set ?_ GE102.out) | exact HB.out)⟩
             ·
              rw [if_neg c22] at H
              have c22b0 : decide (268435456 < (wrap64 (x3_1 + x7_4))) = false := decide_eq_false c22
              clear c22
              have H' := Aside0.mk H
              clear H
              have hcz24_0 : wc.cell? ⟨gb102, 0, none⟩ = some (.int .i64 ((rd_T102 l0 x10_1).f0)) := (blk_cell BK102.out 0).trans rfl
              have hcz24_1 : wc.cell? ⟨gb102, 1, none⟩ = some (.int .i64 ((rd_T102 l0 x10_1).f1)) := (blk_cell BK102.out 1).trans rfl
              have hcz24_2 : wc.cell? ⟨gb102, 2, none⟩ = some (.string ((rd_T102 l0 x10_1).f2)) := (blk_cell BK102.out 2).trans rfl
              have hfz24_0 := blk_frozen BK102.out 0
              have hfz24_1 := blk_frozen BK102.out 1
              have hfz24_2 := blk_frozen BK102.out 2
              go_wp2
              go_roundg kj10
              case measure => have := HK1.out; have := HJ4.out; have := HJ10.out; omega
              case rel => exact ⟨(x2_10), (wrap64 (x3_1 + x7_4)), (wrap64 (x10_1 + 1)), (by first | rfl | (simp; done) | (simp [*]; done)), (by first | rfl | (simp; done) | (simp [*]; done)), (by first | rfl | (simp; done) | (simp [*]; done)), H', ⟨by have := HK1.out; have := HJ4.out; have := HJ10.out; omega⟩, ⟨by repeat (first | (with_reducible first | exact HB.out | apply below_alloc | apply pw_below_drewN | apply below_drew1 | refine below_set ?_ GE102.out) | exact HB.out)⟩⟩
     ·
      rw [if_neg c4] at H
      exact absurd H (by simp)
    ·
     rw [if_neg c3] at H
     exact absurd H (by simp)
   ·
    rw [if_neg c2] at H
    have c2b0 : decide (x10_1 < (l0.length : Int)) = false := decide_eq_false c2
    clear c2
    simp only [Option.some.injEq, Prod.mk.injEq] at H
    obtain ⟨rfl, rfl, rfl⟩ := H
    go_wp2
    go_ret3
    exact ⟨by first | rfl | (simp [errW_none, errW_some] <;> rfl) | (simp [*, errW_none, errW_some] <;> rfl), by repeat (first | (with_reducible first | exact HB.out | apply below_alloc | apply pw_below_drewN | apply below_drew1) | exact HB.out)⟩
end Go.Proofs.YtbomhpfckplgaaaDoor.P
namespace Go.Proofs.YtbomhpfckplgaaaDoor.P
open Go Go.RowKit Go.Proofs.YtbomhpfckplgaaaDoorW.PrintWords Go.Proofs.YtbomhpfckplgaaaDoorW.PrintLast Go.Proofs.YtbomhpfckplgaaaDoorW.PrintMore
set_option linter.unusedVariables false
set_option linter.unusedSimpArgs false
set_option maxRecDepth 100000
attribute [local go_sem] max2_int min2_int max_two min_two max_three min_three max_four min_four
open LCS Lead
def Lead.Raw.op : Raw → S102
  | .keep x => ⟨1, x.size, ⟨#[]⟩⟩
  | .put x => ⟨2, 0, x⟩
  | .drop x => ⟨3, x.size, ⟨#[]⟩⟩
def Lead.Raw.text : Raw → ByteArray
  | .keep x => x
  | .put x => x
  | .drop x => x
def totR (rs : List Raw) : Nat := (rs.map fun r => r.text.size).sum
def Cn (w0 W : World) (g : Nat) : List S102 × Md → Prop
  | (o, .none) => ∃ vO vP, Bd w0 W g vO o 0 vP [] 0
  | (o, .kept ks) => ∃ vO vP, Bd w0 W g vO (o ++ [keepO ks]) 1 vP [] 0
  | (o, .changed ps ds) => ∃ vO vP, Bd w0 W g vO o 2 vP (bytesOf (catB ps)) (sizeB ds)
theorem Cn.next {w0 W W1 : World} {g : Nat} {s : List S102 × Md} (h : Cn w0 W g s) (hb : Below W.heap.size W W1) : Cn w0 W1 g s := by
  obtain ⟨o, md⟩ := s
  cases md <;> (obtain ⟨vO, vP, h⟩ := h; exact ⟨vO, vP, h.next hb⟩)
theorem Cn.below {w0 W : World} {g : Nat} {s : List S102 × Md} (h : Cn w0 W g s) : Below w0.heap.size w0 W := by
  obtain ⟨o, md⟩ := s
  cases md <;> (obtain ⟨vO, vP, h⟩ := h; exact h.below)
def FitsM (N T : Nat) : List S102 × Md → Prop
  | (o, .none) => o.length ≤ N
  | (o, .kept ks) => o.length ≤ N ∧ sizeB ks ≤ T
  | (o, .changed ps ds) => o.length ≤ N ∧ sizeB ps ≤ T ∧ sizeB ds ≤ T ∧ (∀ x ∈ ps, 0 < x.size) ∧ (∀ x ∈ ds, 0 < x.size)
theorem flushO_length (ps ds : List ByteArray) : (flushO ps ds).length ≤ 2 := by unfold flushO; split <;> split <;> simp
theorem fits_step {N T : Nat} {s : List S102 × Md} (h : FitsM N T s) (r : Raw) (hr : 0 < r.text.size) : FitsM (N + 3) (T + r.text.size) (stepO s r) := by
  obtain ⟨o, md⟩ := s
  cases md with
  | none =>
    have h : o.length ≤ N := h
    cases r <;> simp_all [stepO, FitsM, sizeB, Raw.text] <;> omega
  | kept ks =>
    obtain ⟨h1, h2⟩ := h
    cases r <;> simp_all [stepO, FitsM, sizeB, sizeB_append, Raw.text] <;> omega
  | changed ps ds =>
    obtain ⟨h1, h2, h3, h4, h5⟩ := h
    have hf := flushO_length ps ds
    cases r with
    | keep x => simp_all [stepO, FitsM, sizeB, sizeB_append, Raw.text]; omega
    | put x =>
      refine ⟨by omega, by simp [sizeB_append, sizeB, Raw.text]; omega, by omega, fun y hy => ?_, h5⟩
      rcases List.mem_append.1 hy with h | h
      · exact h4 y h
      · obtain rfl := List.mem_singleton.1 h
        exact hr
    | drop x =>
      refine ⟨by omega, by omega, by simp [sizeB_append, sizeB, Raw.text]; omega, h4, fun y hy => ?_⟩
      rcases List.mem_append.1 hy with h | h
      · exact h5 y h
      · obtain rfl := List.mem_singleton.1 h
        exact hr
theorem str_bytes (x : ByteArray) : strOfNums (bytesOf x) = x := by
  obtain ⟨⟨l⟩⟩ := x
  unfold strOfNums bytesOf
  simp [List.map_map, Function.comp_def]
theorem sizeB_pos {xs : List ByteArray} (h : ∀ x ∈ xs, 0 < x.size) : 0 < sizeB xs ↔ xs ≠ [] := by
  cases xs with
  | nil => simp [sizeB]
  | cons x xs =>
    have := h x List.mem_cons_self
    simp [sizeB]
    omega
theorem flO_is {ps ds : List ByteArray} (hp : ∀ x ∈ ps, 0 < x.size) (hd : ∀ x ∈ ds, 0 < x.size) : flO (bytesOf (catB ps)) (sizeB ds) = flushO ps ds := by
  unfold flO flushO
  rw [str_bytes, bytesOf_length, catB_size]
  have h1 := sizeB_pos hp
  have h2 := sizeB_pos hd
  by_cases c1 : ps = []
  · rw [if_neg (fun h => h1.1 h c1), if_pos c1]
    by_cases c2 : ds = []
    · rw [if_neg (fun h => h2.1 (by omega) c2), if_pos c2]
    · have := h2.2 c2
      rw [if_pos (by omega), if_neg c2]
      rfl
  · rw [if_pos (h1.2 c1), if_neg c1]
    by_cases c2 : ds = []
    · rw [if_neg (fun h => h2.1 (by omega) c2), if_pos c2]
      rfl
    · have := h2.2 c2
      rw [if_pos (by omega), if_neg c2]
      rfl
theorem bytes_append (x y : ByteArray) : bytesOf (x ++ y) = bytesOf x ++ bytesOf y := by
  unfold bytesOf
  simp
theorem keepO_one (x : ByteArray) : (⟨1, (x.size : Int), ⟨#[]⟩⟩ : S102) = keepO [x] := by simp [keepO, sizeB]
theorem keepO_more (ks : List ByteArray) (x : ByteArray) : (⟨1, (sizeB ks : Int) + (x.size : Int), ⟨#[]⟩⟩ : S102) = keepO (ks ++ [x]) := by simp [keepO, sizeB, sizeB_append]
section
variable {w0 W : World} {g N T : Nat} {s : List S102 × Md}
theorem keep_step (h : Cn w0 W g s) (hf : FitsM N T s) (x : ByteArray) (hx : 0 < x.size) (hN : N ≤ 2147483648) (hT : T + x.size ≤ 1099511627776) :
    Calls Tryd.prog 128 #[.pointer (some ⟨g, 0, none⟩), .int .i64 x.size, .string ⟨#[]⟩] W fun e w' => (∃ v, e = .returned v) ∧ Cn w0 w' g (stepO s (.keep x)) := by
  obtain ⟨o, md⟩ := s
  cases md with
  | none =>
    have hf : o.length ≤ N := hf
    obtain ⟨vO, vP, h⟩ := h
    refine (onKeep_new w0 W g vO o 0 vP [] 0 x.size _ (by omega) (.inl rfl) (by omega) h).mono ?_
    rintro e w' ⟨hv, vO', vP', put', drop', out', hB, ⟨_, rfl, rfl, rfl⟩ | ⟨h2, _⟩⟩
    · rw [keepO_one] at hB
      exact ⟨hv, _, _, hB⟩
    · omega
  | kept ks =>
    obtain ⟨h1, h2⟩ := hf
    obtain ⟨vO, vP, h⟩ := h
    refine (onKeep_more w0 W g vO o (sizeB ks) _ vP [] 0 x.size _ (by omega) (by omega) (by omega) h).mono ?_
    rintro e w' ⟨hv, hB⟩
    rw [keepO_more] at hB
    exact ⟨hv, _, _, hB⟩
  | changed ps ds =>
    obtain ⟨h1, h2, h3, h4, h5⟩ := hf
    obtain ⟨vO, vP, h⟩ := h
    refine (onKeep_new w0 W g vO o 2 vP _ _ x.size _ (by omega) (.inr rfl) (by omega) h).mono ?_
    rintro e w' ⟨hv, vO', vP', put', drop', out', hB, ⟨h2, _⟩ | ⟨_, rfl, rfl, rfl⟩⟩
    · omega
    · rw [keepO_one, flO_is h4 h5] at hB
      exact ⟨hv, _, _, hB⟩
theorem put_step (h : Cn w0 W g s) (hf : FitsM N T s) (x : ByteArray) (hx : 0 < x.size) (hN : N ≤ 2147483648) (hT : T + x.size ≤ 1099511627776) :
    Calls Tryd.prog 129 #[.pointer (some ⟨g, 0, none⟩), .int .i64 0, .string x] W fun e w' => (∃ v, e = .returned v) ∧ Cn w0 w' g (stepO s (.put x)) := by
  obtain ⟨o, md⟩ := s
  cases md with
  | none =>
    obtain ⟨vO, vP, h⟩ := h
    refine (onPut_any w0 W g vO o 0 vP [] 0 0 x hx (by simp; omega) h).mono ?_
    rintro e w' ⟨hv, vP', hB⟩
    exact ⟨hv, vO, vP', by simpa [catB, sizeB] using hB⟩
  | kept ks =>
    obtain ⟨vO, vP, h⟩ := h
    refine (onPut_any w0 W g vO _ 1 vP [] 0 0 x hx (by simp; omega) h).mono ?_
    rintro e w' ⟨hv, vP', hB⟩
    exact ⟨hv, vO, vP', by simpa [catB, sizeB] using hB⟩
  | changed ps ds =>
    obtain ⟨h1, h2, h3, h4, h5⟩ := hf
    obtain ⟨vO, vP, h⟩ := h
    refine (onPut_any w0 W g vO o 2 vP _ _ 0 x hx (by rw [bytesOf_length, catB_size]; omega) h).mono ?_
    rintro e w' ⟨hv, vP', hB⟩
    rw [← bytes_append] at hB
    refine ⟨hv, vO, vP', ?_⟩
    rw [show catB ps ++ x = catB (ps ++ [x]) by simp [catB_append, catB]] at hB
    exact hB
theorem drop_step (h : Cn w0 W g s) (hf : FitsM N T s) (x : ByteArray) (hx : 0 < x.size) (hN : N ≤ 2147483648) (hT : T + x.size ≤ 1099511627776) :
    Calls Tryd.prog 130 #[.pointer (some ⟨g, 0, none⟩), .int .i64 x.size, .string ⟨#[]⟩] W fun e w' => (∃ v, e = .returned v) ∧ Cn w0 w' g (stepO s (.drop x)) := by
  obtain ⟨o, md⟩ := s
  cases md with
  | none =>
    obtain ⟨vO, vP, h⟩ := h
    refine (onDrop_any w0 W g vO o 0 vP [] 0 x.size _ (by omega) (by omega) h).mono ?_
    rintro e w' ⟨hv, hB⟩
    exact ⟨hv, vO, vP, by simpa [catB, sizeB, bytesOf] using hB⟩
  | kept ks =>
    obtain ⟨vO, vP, h⟩ := h
    refine (onDrop_any w0 W g vO _ 1 vP [] 0 x.size _ (by omega) (by omega) h).mono ?_
    rintro e w' ⟨hv, hB⟩
    exact ⟨hv, vO, vP, by simpa [catB, sizeB, bytesOf] using hB⟩
  | changed ps ds =>
    obtain ⟨h1, h2, h3, h4, h5⟩ := hf
    obtain ⟨vO, vP, h⟩ := h
    refine (onDrop_any w0 W g vO o 2 vP _ _ x.size _ (by omega) (by omega) h).mono ?_
    rintro e w' ⟨hv, hB⟩
    exact ⟨hv, vO, vP, by simpa [sizeB_append, sizeB] using hB⟩
theorem done_step (h : Cn w0 W g s) (hf : FitsM N T s) (hN : N ≤ 2147483648) :
    Calls Tryd.prog 131 #[.pointer (some ⟨g, 0, none⟩)] W fun e w' => ∃ v, e = .returned v ∧ Kd.R k102 102 w' w0.heap.size (fun _ => True) v (endO s.1 s.2) ∧ Below w0.heap.size w0 w' := by
  obtain ⟨o, md⟩ := s
  cases md with
  | none =>
    have hf : o.length ≤ N := hf
    obtain ⟨vO, vP, h⟩ := h
    have := done_any w0 W g vO o 0 vP [] 0 (by omega) h
    simpa [flO, endO] using this
  | kept ks =>
    obtain ⟨h1, h2⟩ := hf
    obtain ⟨vO, vP, h⟩ := h
    have := done_any w0 W g vO _ 1 vP [] 0 (by simp; omega) h
    simpa [flO, endO] using this
  | changed ps ds =>
    obtain ⟨h1, h2, h3, h4, h5⟩ := hf
    obtain ⟨vO, vP, h⟩ := h
    have := done_any w0 W g vO o 2 vP _ _ (by omega) h
    rw [flO_is h4 h5] at this
    exact this
end
theorem fits_fold : ∀ (rs : List Raw) {N T : Nat} {s : List S102 × Md}, FitsM N T s → (∀ r ∈ rs, 0 < r.text.size) → FitsM (N + 3 * rs.length) (T + totR rs) (rs.foldl stepO s)
  | [], N, T, s, h, _ => by simpa [totR] using h
  | r :: rs, N, T, s, h, hr => by
    have := fits_fold rs (fits_step h r (hr r List.mem_cons_self)) (fun r' h' => hr r' (List.mem_cons_of_mem _ h'))
    simp only [List.length_cons, List.foldl_cons, totR, List.map_cons, List.sum_cons] at this ⊢
    rw [show N + 3 * (rs.length + 1) = N + 3 + 3 * rs.length by omega, ← Nat.add_assoc]
    exact this
theorem fold_take (rs : List Raw) (i : Nat) (h : i < rs.length) : (rs.take (i + 1)).foldl stepO ([], .none) = stepO ((rs.take i).foldl stepO ([], .none)) rs[i] := by
  rw [List.take_succ_eq_append_getElem h, List.foldl_append]
  rfl
theorem tot_take (rs : List Raw) (i : Nat) (h : i < rs.length) : totR (rs.take i) + rs[i].text.size ≤ totR rs := by
  have h1 : totR rs = totR (rs.take i) + totR (rs.drop i) := by
    unfold totR
    rw [← List.sum_append, ← List.map_append, List.take_append_drop]
  have h2 : totR (rs.drop i) = rs[i].text.size + totR (rs.drop (i + 1)) := by
    rw [List.drop_eq_getElem_cons h]
    show (List.map _ (_ :: _)).sum = _
    rw [List.map_cons, List.sum_cons]
    rfl
  omega
end Go.Proofs.YtbomhpfckplgaaaDoor.P
namespace Go.Proofs.YtbomhpfckplgaaaDoor.P
open Go Go.RowKit Go.Proofs.YtbomhpfckplgaaaDoorW.PrintWords Go.Proofs.YtbomhpfckplgaaaDoorW.PrintLast Go.Proofs.YtbomhpfckplgaaaDoorW.PrintMore
set_option linter.unusedVariables false
set_option linter.unusedSimpArgs false
set_option maxRecDepth 100000
attribute [local go_sem] max2_int min2_int max_two min_two max_three min_three max_four min_four
open LCS Lead
set_option maxHeartbeats 8000000 in
theorem each_any (w0 W : World) (g : Nat) (A : Option Addr) (c n : Nat) (rs : List Raw) (hn : rs.length = n) (hpos : ∀ r ∈ rs, 0 < r.text.size) (hnn : n ≤ 268435456) (ht : totR rs ≤ 268435456) (hr : Kd.C k102 w0 A n (rs.map Raw.op)) (h : Cn w0 W g ([], .none)) :
    Calls Tryd.prog 94 #[.slice A n c, .func (.func 128) #[.pointer (some ⟨g, 0, none⟩)] #[], .func (.func 129) #[.pointer (some ⟨g, 0, none⟩)] #[], .func (.func 130) #[.pointer (some ⟨g, 0, none⟩)] #[]] W
      fun e w' => (∃ v, e = .returned v) ∧ Cn w0 w' g (rs.foldl stepO ([], .none)) := by
  have hu102 := Tryd.underlying102
  have HR := Aside0.mk hr
  have HP := Aside0.mk (And.intro hpos (And.intro hn (And.intro hnn ht)))
  have CC : Aside0 (Cn w0 W g ((rs.take 0).foldl stepO ([], .none))) := ⟨h⟩
  clear hr hpos hn ht h hnn
  go_enter Tryd.func94, Tryd.ntmps94
  go_wp2
  go_loopg [13] n (fun kq v13 w' => ∃ i : Nat, v13 = .int .i64 (i : Int) ∧ Aside0 (i ≤ n ∧ n - i ≤ kq) ∧ Aside0 (Cn w0 w' g ((rs.take i).foldl stepO ([], .none))))
  case atStart => exact ⟨0, rfl, ⟨by omega, by omega⟩, CC⟩
  case round =>
  clear CC
  obtain ⟨i, rfl, HI, CC⟩ := hrel
  by_cases ci : i < n
  case neg =>
    have ci' : decide ((i : Int) < (n : Int)) = false := decide_eq_false (by omega)
    have hin : ¬ (i : Int) < (n : Int) := by omega
    obtain rfl : i = n := by have := HI.out; omega
    clear ci HI
    go_wp2
    go_ret
    refine ⟨⟨_, rfl⟩, ?_⟩
    have := CC.out
    rw [List.take_of_length_le (by have := HP.out; omega)] at this
    exact this
  have CI := Aside0.mk ci
  have ci' : decide ((i : Int) < (n : Int)) = true := decide_eq_true (by omega)
  have hi2 : (i : Int) < (n : Int) := by omega
  cases gk with
  | zero => have := HI.out; omega
  | succ kk =>
  clear ci
  have hlen : i < rs.length := by have := HP.out; have := CI.out; omega
  obtain ⟨ad, rfl, hx0, hx1, hx2⟩ := at_T102 (Kd.C_below HR.out CC.out.below) (i : Int) (by omega) (by have := CI.out; omega)
  rw [Int.toNat_natCast] at hx0 hx1 hx2
  have hrd : rd_T102 (rs.map Raw.op) (i : Int) = rs[i].op := by simp [rd_T102, hlen]
  rw [hrd] at hx0 hx1 hx2
  have FT := Aside0.mk (fits_fold (rs.take i) (N := 0) (T := 0) (s := ([], .none)) (Nat.le_refl 0) (fun r h => HP.out.1 r (List.mem_of_mem_take h)))
  have NX := Aside0.mk (fold_take rs i hlen)
  have TT := Aside0.mk (tot_take rs i hlen)
  have PX := Aside0.mk (HP.out.1 rs[i] (List.getElem_mem hlen))
  have BN : Aside0 (0 + 3 * (rs.take i).length ≤ 2147483648 ∧ 0 + totR (rs.take i) + rs[i].text.size ≤ 1099511627776) := ⟨by have := HP.out.2.2.1; have := CI.out; rw [List.length_take]; omega, by have := TT.out; have := HP.out.2.2.2; omega⟩
  clear TT hrd
  obtain ⟨r, hr⟩ : ∃ r, rs[i] = r := ⟨_, rfl⟩
  rw [hr] at hx0 hx1 hx2 NX PX BN
  clear hr hlen
  cases r with
  | keep x =>
    have hx0 : wr.cell? (ad.add (i * 3)) = some (.int .i64 1) := hx0
    have hx1 : wr.cell? ⟨(ad.add (i * 3)).block, (ad.add (i * 3)).off + 1, none⟩ = some (.int .i64 x.size) := hx1
    have hx2 : wr.cell? ⟨(ad.add (i * 3)).block, (ad.add (i * 3)).off + 2, none⟩ = some (.string ⟨#[]⟩) := hx2
    go_upto_region 5 with ((with_reducible refine gate_dst (N := 10) rfl ?_); refine box_event ?hg (N := 10) ?hd (cs := #[.int .i64 0, .int .i64 0, .string ⟨#[]⟩]) (t := 102) ?hr ?_; (case hd => rfl); (case hg => rfl); (case hr => first | (go_simp; done) | (go_simp; rfl)); intro gb hgb w6 hbox hb; have BK := Aside0.mk hbox; have HB6 := Aside0.mk hb; have HG6 : Aside0 (wr.heap.size ≤ gb) := ⟨by rw [hgb]; exact Nat.le_refl _⟩; have hcz0 := (blk_cell BK.out 0).trans rfl; have hcz1 := (blk_cell BK.out 1).trans rfl; have hcz2 := (blk_cell BK.out 2).trans rfl; have hfz0 := blk_frozen BK.out 0; have hfz1 := blk_frozen BK.out 1; have hfz2 := blk_frozen BK.out 2; clear hbox hb hgb)
    refine world_ (fun V hV => ?_)
    have Q : V.heap[gb]? = some (.cells #[.int .i64 1, .int .i64 x.size, .string ⟨#[]⟩] 102 (0, 0)) := by
      rw [hV]
      refine blk_put (cs := #[.int .i64 1, .int .i64 x.size, .string ⟨#[]⟩]) ?_ 2 _ rfl
      refine blk_put (cs := #[.int .i64 1, .int .i64 0, .string ⟨#[]⟩]) ?_ 1 _ rfl
      exact blk_put (cs := #[.int .i64 0, .int .i64 0, .string ⟨#[]⟩]) BK.out 0 _ rfl
    have BV : Below wr.heap.size wr V := by
      rw [hV]
      exact ((HB6.out.setCell HG6.out _).setCell HG6.out _).setCell HG6.out _
    have CV := Aside0.mk (CC.out.next BV)
    clear hV BK HB6 HG6 hcz0 hcz1 hcz2 hfz0 hfz1 hfz2 hx0 hx1 hx2 CC
    have c0 : V.cell? ⟨gb, 0, none⟩ = some (.int .i64 1) := (blk_cell Q 0).trans rfl
    have c1 : V.cell? ⟨gb, 1, none⟩ = some (.int .i64 x.size) := (blk_cell Q 1).trans rfl
    have c2 : V.cell? ⟨gb, 2, none⟩ = some (.string ⟨#[]⟩) := (blk_cell Q 2).trans rfl
    have p0 : ((x.size : Int) < 0) = False := eq_false (by omega)
    have p1 : decide ((x.size : Int) < 0) = false := decide_eq_false (by omega)
    clear BV Q
    go_wp2_with (go_at_call 128; refine (keep_step CV.out FT.out x PX.out BN.out.1 BN.out.2).mono ?_; rintro e w7 ⟨⟨vv, rfl⟩, hC⟩; replace CV := Aside0.mk hC; clear hC c0 c1 c2)
    go_roundg kk
    case measure => omega
    case rel => exact ⟨i + 1, by have := CI.out; have := HP.out; first | rfl | (congr 1; unfold wrap64; omega), ⟨by have := CI.out; omega, by have := HI.out; omega⟩, ⟨by rw [NX.out]; exact CV.out⟩⟩
  | put x =>
    have hx0 : wr.cell? (ad.add (i * 3)) = some (.int .i64 2) := hx0
    have hx1 : wr.cell? ⟨(ad.add (i * 3)).block, (ad.add (i * 3)).off + 1, none⟩ = some (.int .i64 0) := hx1
    have hx2 : wr.cell? ⟨(ad.add (i * 3)).block, (ad.add (i * 3)).off + 2, none⟩ = some (.string x) := hx2
    go_upto_region 5 with ((with_reducible refine gate_dst (N := 10) rfl ?_); refine box_event ?hg (N := 10) ?hd (cs := #[.int .i64 0, .int .i64 0, .string ⟨#[]⟩]) (t := 102) ?hr ?_; (case hd => rfl); (case hg => rfl); (case hr => first | (go_simp; done) | (go_simp; rfl)); intro gb hgb w6 hbox hb; have BK := Aside0.mk hbox; have HB6 := Aside0.mk hb; have HG6 : Aside0 (wr.heap.size ≤ gb) := ⟨by rw [hgb]; exact Nat.le_refl _⟩; have hcz0 := (blk_cell BK.out 0).trans rfl; have hcz1 := (blk_cell BK.out 1).trans rfl; have hcz2 := (blk_cell BK.out 2).trans rfl; have hfz0 := blk_frozen BK.out 0; have hfz1 := blk_frozen BK.out 1; have hfz2 := blk_frozen BK.out 2; clear hbox hb hgb)
    refine world_ (fun V hV => ?_)
    have Q : V.heap[gb]? = some (.cells #[.int .i64 2, .int .i64 0, .string x] 102 (0, 0)) := by
      rw [hV]
      refine blk_put (cs := #[.int .i64 2, .int .i64 0, .string ⟨#[]⟩]) ?_ 2 _ rfl
      refine blk_put (cs := #[.int .i64 2, .int .i64 0, .string ⟨#[]⟩]) ?_ 1 _ rfl
      exact blk_put (cs := #[.int .i64 0, .int .i64 0, .string ⟨#[]⟩]) BK.out 0 _ rfl
    have BV : Below wr.heap.size wr V := by
      rw [hV]
      exact ((HB6.out.setCell HG6.out _).setCell HG6.out _).setCell HG6.out _
    have CV := Aside0.mk (CC.out.next BV)
    clear hV BK HB6 HG6 hcz0 hcz1 hcz2 hfz0 hfz1 hfz2 hx0 hx1 hx2 CC
    have c0 : V.cell? ⟨gb, 0, none⟩ = some (.int .i64 2) := (blk_cell Q 0).trans rfl
    have c1 : V.cell? ⟨gb, 1, none⟩ = some (.int .i64 0) := (blk_cell Q 1).trans rfl
    have c2 : V.cell? ⟨gb, 2, none⟩ = some (.string x) := (blk_cell Q 2).trans rfl
    have p0 : ((x.size : Int) < 0) = False := eq_false (by omega)
    have p1 : decide ((x.size : Int) < 0) = false := decide_eq_false (by omega)
    clear BV Q
    go_wp2_with (go_at_call 129; refine (put_step CV.out FT.out x PX.out BN.out.1 BN.out.2).mono ?_; rintro e w7 ⟨⟨vv, rfl⟩, hC⟩; replace CV := Aside0.mk hC; clear hC c0 c1 c2)
    go_roundg kk
    case measure => omega
    case rel => exact ⟨i + 1, by have := CI.out; have := HP.out; first | rfl | (congr 1; unfold wrap64; omega), ⟨by have := CI.out; omega, by have := HI.out; omega⟩, ⟨by rw [NX.out]; exact CV.out⟩⟩
  | drop x =>
    have hx0 : wr.cell? (ad.add (i * 3)) = some (.int .i64 3) := hx0
    have hx1 : wr.cell? ⟨(ad.add (i * 3)).block, (ad.add (i * 3)).off + 1, none⟩ = some (.int .i64 x.size) := hx1
    have hx2 : wr.cell? ⟨(ad.add (i * 3)).block, (ad.add (i * 3)).off + 2, none⟩ = some (.string ⟨#[]⟩) := hx2
    go_upto_region 5 with ((with_reducible refine gate_dst (N := 10) rfl ?_); refine box_event ?hg (N := 10) ?hd (cs := #[.int .i64 0, .int .i64 0, .string ⟨#[]⟩]) (t := 102) ?hr ?_; (case hd => rfl); (case hg => rfl); (case hr => first | (go_simp; done) | (go_simp; rfl)); intro gb hgb w6 hbox hb; have BK := Aside0.mk hbox; have HB6 := Aside0.mk hb; have HG6 : Aside0 (wr.heap.size ≤ gb) := ⟨by rw [hgb]; exact Nat.le_refl _⟩; have hcz0 := (blk_cell BK.out 0).trans rfl; have hcz1 := (blk_cell BK.out 1).trans rfl; have hcz2 := (blk_cell BK.out 2).trans rfl; have hfz0 := blk_frozen BK.out 0; have hfz1 := blk_frozen BK.out 1; have hfz2 := blk_frozen BK.out 2; clear hbox hb hgb)
    refine world_ (fun V hV => ?_)
    have Q : V.heap[gb]? = some (.cells #[.int .i64 3, .int .i64 x.size, .string ⟨#[]⟩] 102 (0, 0)) := by
      rw [hV]
      refine blk_put (cs := #[.int .i64 3, .int .i64 x.size, .string ⟨#[]⟩]) ?_ 2 _ rfl
      refine blk_put (cs := #[.int .i64 3, .int .i64 0, .string ⟨#[]⟩]) ?_ 1 _ rfl
      exact blk_put (cs := #[.int .i64 0, .int .i64 0, .string ⟨#[]⟩]) BK.out 0 _ rfl
    have BV : Below wr.heap.size wr V := by
      rw [hV]
      exact ((HB6.out.setCell HG6.out _).setCell HG6.out _).setCell HG6.out _
    have CV := Aside0.mk (CC.out.next BV)
    clear hV BK HB6 HG6 hcz0 hcz1 hcz2 hfz0 hfz1 hfz2 hx0 hx1 hx2 CC
    have c0 : V.cell? ⟨gb, 0, none⟩ = some (.int .i64 3) := (blk_cell Q 0).trans rfl
    have c1 : V.cell? ⟨gb, 1, none⟩ = some (.int .i64 x.size) := (blk_cell Q 1).trans rfl
    have c2 : V.cell? ⟨gb, 2, none⟩ = some (.string ⟨#[]⟩) := (blk_cell Q 2).trans rfl
    have p0 : ((x.size : Int) < 0) = False := eq_false (by omega)
    have p1 : decide ((x.size : Int) < 0) = false := decide_eq_false (by omega)
    clear BV Q
    go_wp2_with (go_at_call 130; refine (drop_step CV.out FT.out x PX.out BN.out.1 BN.out.2).mono ?_; rintro e w7 ⟨⟨vv, rfl⟩, hC⟩; replace CV := Aside0.mk hC; clear hC c0 c1 c2)
    go_roundg kk
    case measure => omega
    case rel => exact ⟨i + 1, by have := CI.out; have := HP.out; first | rfl | (congr 1; unfold wrap64; omega), ⟨by have := CI.out; omega, by have := HI.out; omega⟩, ⟨by rw [NX.out]; exact CV.out⟩⟩
end Go.Proofs.YtbomhpfckplgaaaDoor.P
namespace Go.Proofs.YtbomhpfckplgaaaDoor.P
open Go Go.RowKit Go.Proofs.YtbomhpfckplgaaaDoorW.PrintWords Go.Proofs.YtbomhpfckplgaaaDoorW.PrintLast Go.Proofs.YtbomhpfckplgaaaDoorW.PrintMore
set_option linter.unusedVariables false
set_option linter.unusedSimpArgs false
set_option maxRecDepth 100000
attribute [local go_sem] max2_int min2_int max_two min_two max_three min_three max_four min_four
open LCS Lead
theorem lens_raw (rs : List Raw) (hn : rs.length ≤ 268435456) (ht : totR rs ≤ 268435456) : ∀ (d i : Nat) (x y : Int), rs.length - i ≤ d → i ≤ rs.length → 0 ≤ x → x ≤ (totR (rs.take i) : Int) → 0 ≤ y → y ≤ (totR (rs.take i) : Int) →
    ∃ u v, Ev (fun k => delta_lens.l0 k x y (rs.map Raw.op) ((rs.map Raw.op).length : Int) (i : Int)) (u, v, true)
  | d, i, x, y, hd, hi, x0, x1, y0, y1 => by
    by_cases c : i < rs.length
    rotate_left
    · refine ⟨x, y, Ev.step (G := fun _ => some (x, y, true)) (fun k => ?_) (Ev.pure _)⟩
      conv => lhs; unfold delta_lens.l0
      rw [if_neg (by rw [List.length_map]; omega)]
    obtain ⟨d, rfl⟩ : ∃ d', d = d' + 1 := ⟨d - 1, by omega⟩
    have tt := tot_take rs i c
    have e1 : wrap64 ((i : Int) + 1) = ((i + 1 : Nat) : Int) := by rw [w64 (n := (i : Int) + 1) (by omega) (by omega)]; rfl
    have hrd : rd_T102 (rs.map Raw.op) (i : Int) = rs[i].op := by simp [rd_T102, c]
    have hs : totR (rs.take (i + 1)) = totR (rs.take i) + rs[i].text.size := by
      rw [List.take_succ_eq_append_getElem c]
      unfold totR
      rw [List.map_append, List.sum_append]
      simp
    have hl : ((rs.map Raw.op).length : Int) = (rs.length : Int) := by rw [List.length_map]
    cases hr : rs[i] with
    | keep s =>
      rw [hr] at hrd hs tt
      have es : (Raw.keep s).text.size = s.size := rfl
      rw [es] at hs tt
      obtain ⟨u, v, h⟩ := lens_raw rs hn ht d (i + 1) (x + s.size) (y + s.size) (by omega) (by omega) (by omega) (by omega) (by omega) (by omega)
      refine ⟨u, v, Ev.step (G := fun k => delta_lens.j1 k x y (s.size : Int) (rs.map Raw.op) ((rs.map Raw.op).length : Int) (i : Int) 1 (s.size : Int) ⟨#[]⟩) (fun k => ?_) (Ev.step (G := fun k => delta_lens.j2 k (x + s.size) y (s.size : Int) (rs.map Raw.op) ((rs.map Raw.op).length : Int) (i : Int) 1 (s.size : Int) ⟨#[]⟩) (fun k => ?_) (Ev.step (fun k => ?_) h))⟩
      · conv => lhs; unfold delta_lens.l0
        rw [if_pos (by rw [hl]; omega), if_pos (by omega), if_pos (by rw [hl]; omega), hrd]
        rfl
      · conv => lhs; unfold delta_lens.j1
        rw [if_neg (by omega), if_neg (by omega), w64 (n := x + s.size) (by omega) (by omega)]
      · conv => lhs; unfold delta_lens.j2
        rw [if_neg (by omega), if_neg (by omega), w64 (n := y + s.size) (by omega) (by omega), if_neg (by omega), e1]
    | put s =>
      rw [hr] at hrd hs tt
      have es : (Raw.put s).text.size = s.size := rfl
      rw [es] at hs tt
      obtain ⟨u, v, h⟩ := lens_raw rs hn ht d (i + 1) x (y + s.size) (by omega) (by omega) (by omega) (by omega) (by omega) (by omega)
      refine ⟨u, v, Ev.step (G := fun k => delta_lens.j1 k x y (s.size : Int) (rs.map Raw.op) ((rs.map Raw.op).length : Int) (i : Int) 2 0 s) (fun k => ?_) (Ev.step (G := fun k => delta_lens.j2 k x y (s.size : Int) (rs.map Raw.op) ((rs.map Raw.op).length : Int) (i : Int) 2 0 s) (fun k => ?_) (Ev.step (fun k => ?_) h))⟩
      · conv => lhs; unfold delta_lens.l0
        rw [if_pos (by rw [hl]; omega), if_pos (by omega), if_pos (by rw [hl]; omega), hrd]
        rfl
      · conv => lhs; unfold delta_lens.j1
        rw [if_neg (by omega), if_pos rfl]
      · conv => lhs; unfold delta_lens.j2
        rw [if_neg (by omega), if_neg (by omega), w64 (n := y + s.size) (by omega) (by omega), if_neg (by omega), e1]
    | drop s =>
      rw [hr] at hrd hs tt
      have es : (Raw.drop s).text.size = s.size := rfl
      rw [es] at hs tt
      obtain ⟨u, v, h⟩ := lens_raw rs hn ht d (i + 1) (x + s.size) y (by omega) (by omega) (by omega) (by omega) (by omega) (by omega)
      refine ⟨u, v, Ev.step (G := fun k => delta_lens.j1 k x y (s.size : Int) (rs.map Raw.op) ((rs.map Raw.op).length : Int) (i : Int) 3 (s.size : Int) ⟨#[]⟩) (fun k => ?_) (Ev.step (G := fun k => delta_lens.j2 k (x + s.size) y (s.size : Int) (rs.map Raw.op) ((rs.map Raw.op).length : Int) (i : Int) 3 (s.size : Int) ⟨#[]⟩) (fun k => ?_) (Ev.step (fun k => ?_) h))⟩
      · conv => lhs; unfold delta_lens.l0
        rw [if_pos (by rw [hl]; omega), if_pos (by omega), if_pos (by rw [hl]; omega), hrd]
        rfl
      · conv => lhs; unfold delta_lens.j1
        rw [if_neg (by omega), if_neg (by omega), w64 (n := x + s.size) (by omega) (by omega)]
      · conv => lhs; unfold delta_lens.j2
        rw [if_pos rfl, if_neg (by omega), if_neg (by omega), e1]
set_option maxHeartbeats 8000000 in
theorem canon_any (w : World) (A : Option Addr) (c n : Nat) (rs : List Raw) (hn : rs.length = n) (hpos : ∀ r ∈ rs, 0 < r.text.size) (hnn : n ≤ 268435456) (ht : totR rs ≤ 268435456) (hcap : n ≤ c) (hr : Kd.C k102 w A n (rs.map Raw.op)) :
    Calls Tryd.prog 118 #[.slice A n c] w fun e w' => ∃ v, e = .returned (.tuple #[v, .int .i64 0]) ∧ Kd.R k102 102 w' w.heap.size (fun _ => True) v (canonR rs) ∧ Below w.heap.size w w' := by
  have hu102 := Tryd.underlying102
  have hu167 := Tryd.underlying167
  obtain ⟨u, v, hev⟩ := lens_raw rs (by omega) ht rs.length 0 0 0 (by omega) (by omega) (by omega) (by simp [totR]) (by omega) (by simp [totR])
  obtain ⟨kl, hkl⟩ := Ev.get hev
  have HL : Aside0 (∀ W, Below w.heap.size w W → Calls Tryd.prog 93 #[.slice A n c] W fun e w' => e = .returned (.tuple #[.int .i64 u, .int .i64 v, .bool true]) ∧ Below W.heap.size W w') := ⟨fun W hW => by
    have hlen : (rs.map Raw.op).length = n := by rw [List.length_map, hn]
    have := delta_lens.calls kl A c (rs.map Raw.op) u v true W (by rw [hlen]; exact Kd.C_below hr hW) (by rw [hlen]; exact hcap) hkl
    rw [hlen] at this
    exact this⟩
  have HR := Aside0.mk hr
  have HP := Aside0.mk (And.intro hpos (And.intro hn (And.intro hnn ht)))
  have BB := Aside0.mk (Below.refl w.heap.size w)
  clear hr hpos hn ht hnn hcap hev hkl
  go_enter Tryd.func118, Tryd.ntmps118
  go_wp2
  go_loopg [12] n (fun kq v12 w' => ∃ i : Nat, v12 = .int .i64 (i : Int) ∧ Aside0 (i ≤ n ∧ n - i ≤ kq) ∧ Aside0 (Below w.heap.size w w'))
  case atStart => exact ⟨0, rfl, ⟨by omega, by omega⟩, BB⟩
  case round =>
  clear BB
  obtain ⟨i, rfl, HI, BB⟩ := hrel
  by_cases ci : i < n
  case neg =>
    have ci' : decide ((i : Int) < (n : Int)) = false := decide_eq_false (by omega)
    have hin : ¬ (i : Int) < (n : Int) := by omega
    obtain rfl : i = n := by have := HI.out; omega
    clear ci HI
    go_upto_region 10 with (go_at_call 93; refine (HL.out _ BB.out).mono ?_; rintro e w4 ⟨rfl, hb4⟩; replace BB := Aside0.mk (BB.out.trans (hb4.mono BB.out.size)); clear hb4)
    clear HL
    go_wp2_with (first | ((with_reducible refine gate_dst (N := 44) rfl ?_); refine box_event ?hg (N := 44) ?hd (cs := #[.slice none 0 0, .int .i64 0, .slice none 0 0, .int .i64 0]) (t := 167) ?hr ?_; (case hd => rfl); (case hg => rfl); (case hr => first | (go_simp; done) | (go_simp; rfl)); intro gb hgb w5 hbox hb; have CB : Aside0 (Cn w w5 gb ([], .none)) := ⟨⟨_, _, BB.out.trans (hb.mono BB.out.size), (by rw [hgb]; exact BB.out.size), hbox, Kd.R_nil _ _ _ _ _, Kd.R_nil _ _ _ _ _⟩⟩; clear hbox hb hgb) | (go_at_call 94; refine (each_any w w5 gb A c i rs HP.out.2.1 HP.out.1 HP.out.2.2.1 HP.out.2.2.2 HR.out CB.out).mono ?_; rintro e w6 ⟨⟨vv, rfl⟩, hC⟩; replace CB := Aside0.mk hC; clear hC) | (go_at_call 131; refine (done_step CB.out (fits_fold rs (N := 0) (T := 0) (s := ([], .none)) (Nat.le_refl 0) HP.out.1) (by have := HP.out; omega)).mono ?_; rintro e w7 ⟨vd, rfl, hR, hBd⟩; have RD := Aside0.mk hR; have BD := Aside0.mk hBd; clear hR hBd))
    go_ret2
    exact ⟨_, rfl, RD.out, BD.out⟩
  have CI := Aside0.mk ci
  have ci' : decide ((i : Int) < (n : Int)) = true := decide_eq_true (by omega)
  have hi2 : (i : Int) < (n : Int) := by omega
  cases gk with
  | zero => have := HI.out; omega
  | succ kk =>
  clear ci
  have hlen : i < rs.length := by have := HP.out; have := CI.out; omega
  obtain ⟨ad, rfl, hx0, hx1, hx2⟩ := at_T102 (Kd.C_below HR.out BB.out) (i : Int) (by omega) (by have := CI.out; omega)
  rw [Int.toNat_natCast] at hx0 hx1 hx2
  have hrd : rd_T102 (rs.map Raw.op) (i : Int) = rs[i].op := by simp [rd_T102, hlen]
  rw [hrd] at hx0 hx1 hx2
  clear hrd
  obtain ⟨r, hr⟩ : ∃ r, rs[i] = r := ⟨_, rfl⟩
  rw [hr] at hx0 hx1 hx2
  clear hr hlen
  cases r with
  | keep x =>
    have hx0 : wr.cell? (ad.add (i * 3)) = some (.int .i64 1) := hx0
    have hx1 : wr.cell? ⟨(ad.add (i * 3)).block, (ad.add (i * 3)).off + 1, none⟩ = some (.int .i64 x.size) := hx1
    have hx2 : wr.cell? ⟨(ad.add (i * 3)).block, (ad.add (i * 3)).off + 2, none⟩ = some (.string ⟨#[]⟩) := hx2
    go_upto_region 4 with ((with_reducible refine gate_dst (N := 5) rfl ?_); refine box_event ?hg (N := 5) ?hd (cs := #[.int .i64 0, .int .i64 0, .string ⟨#[]⟩]) (t := 102) ?hr ?_; (case hd => rfl); (case hg => rfl); (case hr => first | (go_simp; done) | (go_simp; rfl)); intro gb hgb w6 hbox hb; have BK := Aside0.mk hbox; have HB6 := Aside0.mk hb; have HG6 : Aside0 (wr.heap.size ≤ gb) := ⟨by rw [hgb]; exact Nat.le_refl _⟩; have hcz0 := (blk_cell BK.out 0).trans rfl; have hcz1 := (blk_cell BK.out 1).trans rfl; have hcz2 := (blk_cell BK.out 2).trans rfl; have hfz0 := blk_frozen BK.out 0; have hfz1 := blk_frozen BK.out 1; have hfz2 := blk_frozen BK.out 2; clear hbox hb hgb)
    refine world_ (fun V hV => ?_)
    have Q : V.heap[gb]? = some (.cells #[.int .i64 1, .int .i64 x.size, .string ⟨#[]⟩] 102 (0, 0)) := by
      rw [hV]
      refine blk_put (cs := #[.int .i64 1, .int .i64 x.size, .string ⟨#[]⟩]) ?_ 2 _ rfl
      refine blk_put (cs := #[.int .i64 1, .int .i64 0, .string ⟨#[]⟩]) ?_ 1 _ rfl
      exact blk_put (cs := #[.int .i64 0, .int .i64 0, .string ⟨#[]⟩]) BK.out 0 _ rfl
    have BV : Below wr.heap.size wr V := by
      rw [hV]
      exact ((HB6.out.setCell HG6.out _).setCell HG6.out _).setCell HG6.out _
    replace BB := Aside0.mk (BB.out.trans (BV.mono BB.out.size))
    clear hV BK HB6 HG6 hcz0 hcz1 hcz2 hfz0 hfz1 hfz2 hx0 hx1 hx2
    have c0 : V.cell? ⟨gb, 0, none⟩ = some (.int .i64 1) := (blk_cell Q 0).trans rfl
    have c1 : V.cell? ⟨gb, 1, none⟩ = some (.int .i64 x.size) := (blk_cell Q 1).trans rfl
    have c2 : V.cell? ⟨gb, 2, none⟩ = some (.string ⟨#[]⟩) := (blk_cell Q 2).trans rfl
    have p0 : ((x.size : Int) < 0) = False := eq_false (by omega)
    have p1 : decide ((x.size : Int) < 0) = false := decide_eq_false (by omega)
    clear BV Q
    go_wp2
    go_roundg kk
    case measure => omega
    case rel => exact ⟨i + 1, by have := CI.out; have := HP.out; first | rfl | (congr 1; unfold wrap64; omega), ⟨by have := CI.out; omega, by have := HI.out; omega⟩, BB⟩
  | put x =>
    have hx0 : wr.cell? (ad.add (i * 3)) = some (.int .i64 2) := hx0
    have hx1 : wr.cell? ⟨(ad.add (i * 3)).block, (ad.add (i * 3)).off + 1, none⟩ = some (.int .i64 0) := hx1
    have hx2 : wr.cell? ⟨(ad.add (i * 3)).block, (ad.add (i * 3)).off + 2, none⟩ = some (.string x) := hx2
    go_upto_region 4 with ((with_reducible refine gate_dst (N := 5) rfl ?_); refine box_event ?hg (N := 5) ?hd (cs := #[.int .i64 0, .int .i64 0, .string ⟨#[]⟩]) (t := 102) ?hr ?_; (case hd => rfl); (case hg => rfl); (case hr => first | (go_simp; done) | (go_simp; rfl)); intro gb hgb w6 hbox hb; have BK := Aside0.mk hbox; have HB6 := Aside0.mk hb; have HG6 : Aside0 (wr.heap.size ≤ gb) := ⟨by rw [hgb]; exact Nat.le_refl _⟩; have hcz0 := (blk_cell BK.out 0).trans rfl; have hcz1 := (blk_cell BK.out 1).trans rfl; have hcz2 := (blk_cell BK.out 2).trans rfl; have hfz0 := blk_frozen BK.out 0; have hfz1 := blk_frozen BK.out 1; have hfz2 := blk_frozen BK.out 2; clear hbox hb hgb)
    refine world_ (fun V hV => ?_)
    have Q : V.heap[gb]? = some (.cells #[.int .i64 2, .int .i64 0, .string x] 102 (0, 0)) := by
      rw [hV]
      refine blk_put (cs := #[.int .i64 2, .int .i64 0, .string ⟨#[]⟩]) ?_ 2 _ rfl
      refine blk_put (cs := #[.int .i64 2, .int .i64 0, .string ⟨#[]⟩]) ?_ 1 _ rfl
      exact blk_put (cs := #[.int .i64 0, .int .i64 0, .string ⟨#[]⟩]) BK.out 0 _ rfl
    have BV : Below wr.heap.size wr V := by
      rw [hV]
      exact ((HB6.out.setCell HG6.out _).setCell HG6.out _).setCell HG6.out _
    replace BB := Aside0.mk (BB.out.trans (BV.mono BB.out.size))
    clear hV BK HB6 HG6 hcz0 hcz1 hcz2 hfz0 hfz1 hfz2 hx0 hx1 hx2
    have c0 : V.cell? ⟨gb, 0, none⟩ = some (.int .i64 2) := (blk_cell Q 0).trans rfl
    have c1 : V.cell? ⟨gb, 1, none⟩ = some (.int .i64 0) := (blk_cell Q 1).trans rfl
    have c2 : V.cell? ⟨gb, 2, none⟩ = some (.string x) := (blk_cell Q 2).trans rfl
    have p0 : ((x.size : Int) < 0) = False := eq_false (by omega)
    have p1 : decide ((x.size : Int) < 0) = false := decide_eq_false (by omega)
    clear BV Q
    go_wp2
    go_roundg kk
    case measure => omega
    case rel => exact ⟨i + 1, by have := CI.out; have := HP.out; first | rfl | (congr 1; unfold wrap64; omega), ⟨by have := CI.out; omega, by have := HI.out; omega⟩, BB⟩
  | drop x =>
    have hx0 : wr.cell? (ad.add (i * 3)) = some (.int .i64 3) := hx0
    have hx1 : wr.cell? ⟨(ad.add (i * 3)).block, (ad.add (i * 3)).off + 1, none⟩ = some (.int .i64 x.size) := hx1
    have hx2 : wr.cell? ⟨(ad.add (i * 3)).block, (ad.add (i * 3)).off + 2, none⟩ = some (.string ⟨#[]⟩) := hx2
    go_upto_region 4 with ((with_reducible refine gate_dst (N := 5) rfl ?_); refine box_event ?hg (N := 5) ?hd (cs := #[.int .i64 0, .int .i64 0, .string ⟨#[]⟩]) (t := 102) ?hr ?_; (case hd => rfl); (case hg => rfl); (case hr => first | (go_simp; done) | (go_simp; rfl)); intro gb hgb w6 hbox hb; have BK := Aside0.mk hbox; have HB6 := Aside0.mk hb; have HG6 : Aside0 (wr.heap.size ≤ gb) := ⟨by rw [hgb]; exact Nat.le_refl _⟩; have hcz0 := (blk_cell BK.out 0).trans rfl; have hcz1 := (blk_cell BK.out 1).trans rfl; have hcz2 := (blk_cell BK.out 2).trans rfl; have hfz0 := blk_frozen BK.out 0; have hfz1 := blk_frozen BK.out 1; have hfz2 := blk_frozen BK.out 2; clear hbox hb hgb)
    refine world_ (fun V hV => ?_)
    have Q : V.heap[gb]? = some (.cells #[.int .i64 3, .int .i64 x.size, .string ⟨#[]⟩] 102 (0, 0)) := by
      rw [hV]
      refine blk_put (cs := #[.int .i64 3, .int .i64 x.size, .string ⟨#[]⟩]) ?_ 2 _ rfl
      refine blk_put (cs := #[.int .i64 3, .int .i64 0, .string ⟨#[]⟩]) ?_ 1 _ rfl
      exact blk_put (cs := #[.int .i64 0, .int .i64 0, .string ⟨#[]⟩]) BK.out 0 _ rfl
    have BV : Below wr.heap.size wr V := by
      rw [hV]
      exact ((HB6.out.setCell HG6.out _).setCell HG6.out _).setCell HG6.out _
    replace BB := Aside0.mk (BB.out.trans (BV.mono BB.out.size))
    clear hV BK HB6 HG6 hcz0 hcz1 hcz2 hfz0 hfz1 hfz2 hx0 hx1 hx2
    have c0 : V.cell? ⟨gb, 0, none⟩ = some (.int .i64 3) := (blk_cell Q 0).trans rfl
    have c1 : V.cell? ⟨gb, 1, none⟩ = some (.int .i64 x.size) := (blk_cell Q 1).trans rfl
    have c2 : V.cell? ⟨gb, 2, none⟩ = some (.string ⟨#[]⟩) := (blk_cell Q 2).trans rfl
    have p0 : ((x.size : Int) < 0) = False := eq_false (by omega)
    have p1 : decide ((x.size : Int) < 0) = false := decide_eq_false (by omega)
    clear BV Q
    go_wp2
    go_roundg kk
    case measure => omega
    case rel => exact ⟨i + 1, by have := CI.out; have := HP.out; first | rfl | (congr 1; unfold wrap64; omega), ⟨by have := CI.out; omega, by have := HI.out; omega⟩, BB⟩
end Go.Proofs.YtbomhpfckplgaaaDoor.P
namespace Go.Proofs.YtbomhpfckplgaaaDoor.P
open Go.RowKit Go.Proofs.YtbomhpfckplgaaaDoorW.PrintWords Go.Proofs.YtbomhpfckplgaaaDoorW.PrintLast Go.Proofs.YtbomhpfckplgaaaDoorW.PrintMore
set_option linter.unusedVariables false
set_option linter.unusedSimpArgs false
set_option maxRecDepth 100000
attribute [local go_sem] max2_int min2_int max_two min_two max_three min_three max_four min_four
def linesF (l : List Int) : Nat → Int → Int → List S144
  | 0, _, _ => []
  | k + 1, i, s => if i < (l.length : Int) then (if rd l i = 10 then ⟨s, i, i, i + 1⟩ :: linesF l k (i + 1) (i + 1) else if rd l i = 13 then (if i + 1 < (l.length : Int) ∧ rd l (i + 1) = 10 then ⟨s, i, i + 1, i + 2⟩ :: linesF l k (i + 2) (i + 2) else ⟨s, i, i, i + 1⟩ :: linesF l k (i + 1) (i + 1)) else linesF l k (i + 1) s) else [⟨s, (l.length : Int), (l.length : Int), (l.length : Int)⟩]
def linesL (l : List Int) : List S144 := linesF l (l.length + 1) 0 0
theorem info144 : (Tryd.prog.info? 144).map (fun i => (i.zero, i.size, i.bytes)) = some (some (.agg #[(.int .i64 0), (.int .i64 0), (.int .i64 0), (.int .i64 0)]), 4, 32) := by kernel_rfl
def lines_all.f (l0 : List Int) : Option (List S144) := if l0.length < 4398046511000 then some (linesL l0) else none
set_option maxHeartbeats 8000000 in
theorem lines_all.calls (A0 : Option Addr) (c0 : Nat) (l0 : List Int) (r : List S144) (w : World) (hr0 : Kd.C (Kd.int .u8) w A0 l0.length l0) (hc0 : l0.length ≤ c0) (h : lines_all.f l0 = some r) :
    Calls Tryd.prog 102 #[.slice A0 l0.length c0] w fun e w' => ∃ v0_ : Value, e = .returned (v0_) ∧ Kd.R k144 144 w' w.heap.size (fun _ => True) v0_ r ∧ Below w.heap.size w w' := by
  have hu144 := Tryd.underlying144
  unfold lines_all.f at h
  by_cases hl : l0.length < 4398046511000
  case neg => rw [if_neg hl] at h; cases h
  rw [if_pos hl] at h
  obtain rfl := Option.some.inj h
  have HR0 := Aside0.mk hr0
  have HC0 := Aside0.mk hl
  clear hr0 hc0 hl h
  have HB := Aside0.mk (Below.refl w.heap.size w)
  go_enter Tryd.func102, Tryd.ntmps102
  go_wp2
  go_step3
  go_wp2
  go_step3
  go_wp2
  go_loopg [3, 4, 5] (l0.length + 1) (fun kq v3 v4 v5 w' => ∃ (xs : List S144) (s i : Int), v4 = .int .i64 s ∧ v5 = .int .i64 i ∧ Aside0 (0 ≤ i ∧ i ≤ (l0.length : Int) ∧ (l0.length : Int) - i < (kq : Int) ∧ (xs.length : Int) ≤ i ∧ linesL l0 = xs ++ linesF l0 kq i s) ∧ Aside0 (Kd.R k144 144 w' w.heap.size (fun _ => True) v3 xs) ∧ Aside0 (Below w.heap.size w w'))
  case atStart => exact ⟨[], 0, 0, rfl, rfl, ⟨by omega, by omega, by omega, by simp, rfl⟩, ⟨Kd.R_nil _ _ _ _ _⟩, HB⟩
  case round =>
    clear HB
    obtain ⟨xs, s, i, rfl, rfl, HI, HO, HB⟩ := hrel
    cases gk with
    | zero => exact absurd HI.out (by omega)
    | succ kk =>
    by_cases c1 : i < (l0.length : Int)
    case neg =>
      have c1' : decide (i < (l0.length : Int)) = false := decide_eq_false c1
      have HE : Aside0 (linesL l0 = xs ++ [⟨s, (l0.length : Int), (l0.length : Int), (l0.length : Int)⟩]) := ⟨by have := HI.out.2.2.2.2; rw [this]; simp only [linesF, if_neg c1]⟩
      clear c1
      go_wp2_with ((with_reducible refine gate_builtin (b := .append) (xs := #[.tmp 65, .tmp 74]) rfl ?_); (try (refine gate_guard (by rfl) ?_; dsimp only)); at_builtin; refine Kd.R_append k144 (w0 := w) w.heap.size rfl (.tmp 65) (.tmp 74) 141 144 (.agg #[(.int .i64 0), (.int .i64 0), (.int .i64 0), (.int .i64 0)]) 32 rfl Tryd.underlying141 info144 rfl (by decide) (by omega) u3 xs (⟨s, (l0.length : Int), (l0.length : Int), (l0.length : Int)⟩ : S144) [.int .i64 s, .int .i64 (l0.length : Int), .int .i64 (l0.length : Int), .int .i64 (l0.length : Int)] (fun _ => True) (fun _ => False) rfl rfl ?aP (fun _ hk => hk.elim) ?aF ?aO ?aB ?aS ?aL ?_; (case aP => exact k144_mkM _ _ _ (⟨s, (l0.length : Int), (l0.length : Int), (l0.length : Int)⟩ : S144)); (case aB => exact HB.out); (case aF => exact (fun _ _ => trivial)); (case aO => exact HO.out); (case aS => exact (below_size HB.out)); (case aL => have := HI.out; have := HC0.out; omega); intro v7 w15 ho hb hg hat; have HB := Aside0.mk hb; have HO := Aside0.mk ho; clear hb ho hg hat)
      try rw [Exit.noGoto_ret]
      go_ret
      exact ⟨_, rfl, by rw [HE.out]; exact HO.out, HB.out⟩
    have c1' : decide (i < (l0.length : Int)) = true := decide_eq_true c1
    have p0 : 0 ≤ i := HI.out.1
    have q0 : i < (l0.length : Int) := c1
    have hW1 : wrap64 (i + 1) = i + 1 := by
      have := HC0.out
      unfold wrap64
      omega
    have hW2 : wrap64 (i + 2) = i + 2 := by
      have := HC0.out
      unfold wrap64
      omega
    have HS := Aside0.mk HI.out.2.2.2.2
    obtain ⟨ad, ea, hx0⟩ := Kd.at_int HR0.out i p0 q0
    cases ea
    have hx := (HB.out.cell (World.block_lt_of_cell? w _ hx0)).trans hx0
    have HP := Aside0.mk (And.intro p0 q0)
    replace p0 := eq_true p0
    replace q0 := eq_true q0
    clear c1
    by_cases c2 : rd l0 i = 10
    case pos =>
      have c2' : (rd l0 i == 10) = true := beq_iff_eq.mpr c2
      have HE : Aside0 (linesL l0 = (xs ++ [⟨s, i, i, i + 1⟩]) ++ linesF l0 kk (i + 1) (i + 1)) := ⟨by rw [HS.out]; simp only [linesF, if_pos HP.out.2, if_pos c2, List.append_assoc, List.singleton_append]⟩
      have HW := Aside0.mk hW1
      clear c2 hW1 hW2
      go_wp2_with ((with_reducible refine gate_builtin (b := .append) (xs := #[.tmp 18, .tmp 25]) rfl ?_); (try (refine gate_guard (by rfl) ?_; dsimp only)); at_builtin; refine Kd.R_append k144 (w0 := w) w.heap.size rfl (.tmp 18) (.tmp 25) 141 144 (.agg #[(.int .i64 0), (.int .i64 0), (.int .i64 0), (.int .i64 0)]) 32 rfl Tryd.underlying141 info144 rfl (by decide) (by omega) u3 xs (⟨s, i, i, wrap64 (i + 1)⟩ : S144) [.int .i64 s, .int .i64 i, .int .i64 i, .int .i64 (wrap64 (i + 1))] (fun _ => True) (fun _ => False) rfl rfl ?aP (fun _ hk => hk.elim) ?aF ?aO ?aB ?aS ?aL ?_; (case aP => exact k144_mkM _ _ _ (⟨s, i, i, wrap64 (i + 1)⟩ : S144)); (case aB => exact HB.out); (case aF => exact (fun _ _ => trivial)); (case aO => exact HO.out); (case aS => exact (below_size HB.out)); (case aL => have := HI.out; have := HC0.out; omega); intro v7 w15 ho hb hg hat; have HB := Aside0.mk hb; have HO := Aside0.mk ho; clear hb ho hg hat)
      go_roundg kk
      case measure => omega
      case rel => exact ⟨xs ++ [⟨s, i, i, i + 1⟩], i + 1, i + 1, by rw [HW.out], by rw [HW.out], ⟨by have := HP.out; omega, by have := HP.out; omega, by have := HI.out; omega, by have := HI.out; simp; omega, HE.out⟩, ⟨by have h_ := HO.out; rw [HW.out] at h_; exact h_⟩, HB⟩
    have c2' : (rd l0 i == 10) = false := beq_eq_false_iff_ne.mpr c2
    by_cases c3 : rd l0 i = 13
    case neg =>
      have c3' : (rd l0 i == 13) = false := beq_eq_false_iff_ne.mpr c3
      have HE : Aside0 (linesL l0 = xs ++ linesF l0 kk (i + 1) s) := ⟨by rw [HS.out]; simp only [linesF, if_pos HP.out.2, if_neg c2, if_neg c3]⟩
      have HW := Aside0.mk hW1
      clear c2 c3 hW1 hW2
      go_wp2
      go_roundg kk
      case measure => omega
      case rel => exact ⟨xs, s, i + 1, rfl, by rw [HW.out], ⟨by have := HP.out; omega, by have := HP.out; omega, by have := HI.out; omega, by have := HI.out; omega, HE.out⟩, HO, HB⟩
    have c3' : (rd l0 i == 13) = true := beq_iff_eq.mpr c3
    by_cases c4 : i + 1 < (l0.length : Int)
    case neg =>
      have c4' : decide (wrap64 (i + 1) < (l0.length : Int)) = false := decide_eq_false (by rw [hW1]; exact c4)
      have HE : Aside0 (linesL l0 = (xs ++ [⟨s, i, i, i + 1⟩]) ++ linesF l0 kk (i + 1) (i + 1)) := ⟨by rw [HS.out]; simp only [linesF, if_pos HP.out.2, if_neg c2, if_pos c3, c4, false_and, if_false, List.append_assoc, List.singleton_append]⟩
      have HW := Aside0.mk hW1
      clear c2 c3 c4 hW1 hW2
      go_wp2_with ((with_reducible refine gate_builtin (b := .append) (xs := #[.tmp 54, .tmp 61]) rfl ?_); (try (refine gate_guard (by rfl) ?_; dsimp only)); at_builtin; refine Kd.R_append k144 (w0 := w) w.heap.size rfl (.tmp 54) (.tmp 61) 141 144 (.agg #[(.int .i64 0), (.int .i64 0), (.int .i64 0), (.int .i64 0)]) 32 rfl Tryd.underlying141 info144 rfl (by decide) (by omega) u3 xs (⟨s, i, i, wrap64 (i + 1)⟩ : S144) [.int .i64 s, .int .i64 i, .int .i64 i, .int .i64 (wrap64 (i + 1))] (fun _ => True) (fun _ => False) rfl rfl ?aP (fun _ hk => hk.elim) ?aF ?aO ?aB ?aS ?aL ?_; (case aP => exact k144_mkM _ _ _ (⟨s, i, i, wrap64 (i + 1)⟩ : S144)); (case aB => exact HB.out); (case aF => exact (fun _ _ => trivial)); (case aO => exact HO.out); (case aS => exact (below_size HB.out)); (case aL => have := HI.out; have := HC0.out; omega); intro v7 w15 ho hb hg hat; have HB := Aside0.mk hb; have HO := Aside0.mk ho; clear hb ho hg hat)
      go_roundg kk
      case measure => omega
      case rel => exact ⟨xs ++ [⟨s, i, i, i + 1⟩], i + 1, i + 1, by rw [HW.out], by rw [HW.out], ⟨by have := HP.out; omega, by have := HP.out; omega, by have := HI.out; omega, by have := HI.out; simp; omega, HE.out⟩, ⟨by have h_ := HO.out; rw [HW.out] at h_; exact h_⟩, HB⟩
    have c4' : decide (wrap64 (i + 1) < (l0.length : Int)) = true := decide_eq_true (by rw [hW1]; exact c4)
    have p1 : 0 ≤ wrap64 (i + 1) := by rw [hW1]; have := HP.out; omega
    have q1 : wrap64 (i + 1) < (l0.length : Int) := by rw [hW1]; exact c4
    obtain ⟨ad1, ea1, hx1⟩ := Kd.at_int HR0.out (wrap64 (i + 1)) p1 q1
    obtain rfl : ad = ad1 := (by injection ea1)
    have hx2 := (HB.out.cell (World.block_lt_of_cell? w _ hx1)).trans hx1
    have HP1 := Aside0.mk q1
    replace p1 := eq_true p1
    replace q1 := eq_true q1
    by_cases c5 : rd l0 (i + 1) = 10
    · have c5' : (rd l0 (wrap64 (i + 1)) == 10) = true := beq_iff_eq.mpr (by rw [hW1]; exact c5)
      have HE : Aside0 (linesL l0 = (xs ++ [⟨s, i, i + 1, i + 2⟩]) ++ linesF l0 kk (i + 2) (i + 2)) := ⟨by rw [HS.out]; simp only [linesF, if_pos HP.out.2, if_neg c2, if_pos c3, c4, c5, and_self, if_true, List.append_assoc, List.singleton_append]⟩
      have HW := Aside0.mk hW1
      have HW2 := Aside0.mk hW2
      have HW3 : Aside0 (wrap64 (wrap64 (i + 1) + 1) = i + 2) := ⟨by
        rw [hW1]
        have := HC0.out
        have := HP.out
        unfold wrap64
        omega⟩
      have HC4 := Aside0.mk c4
      clear c2 c3 c4 c5 hW1 hW2
      go_wp2_with ((with_reducible refine gate_builtin (b := .append) (xs := #[.tmp 42, .tmp 50]) rfl ?_); (try (refine gate_guard (by rfl) ?_; dsimp only)); at_builtin; refine Kd.R_append k144 (w0 := w) w.heap.size rfl (.tmp 42) (.tmp 50) 141 144 (.agg #[(.int .i64 0), (.int .i64 0), (.int .i64 0), (.int .i64 0)]) 32 rfl Tryd.underlying141 info144 rfl (by decide) (by omega) u3 xs (⟨s, i, wrap64 (i + 1), wrap64 (i + 2)⟩ : S144) [.int .i64 s, .int .i64 i, .int .i64 (wrap64 (i + 1)), .int .i64 (wrap64 (i + 2))] (fun _ => True) (fun _ => False) rfl rfl ?aP (fun _ hk => hk.elim) ?aF ?aO ?aB ?aS ?aL ?_; (case aP => exact k144_mkM _ _ _ (⟨s, i, wrap64 (i + 1), wrap64 (i + 2)⟩ : S144)); (case aB => exact HB.out); (case aF => exact (fun _ _ => trivial)); (case aO => exact HO.out); (case aS => exact (below_size HB.out)); (case aL => have := HI.out; have := HC0.out; omega); intro v7 w15 ho hb hg hat; have HB := Aside0.mk hb; have HO := Aside0.mk ho; clear hb ho hg hat)
      go_roundg kk
      case measure => omega
      case rel => exact ⟨xs ++ [⟨s, i, i + 1, i + 2⟩], i + 2, i + 2, by rw [HW3.out], by rw [HW3.out], ⟨by have := HP.out; omega, by have := HC4.out; omega, by have := HI.out; omega, by have := HI.out; simp; omega, HE.out⟩, ⟨by have h_ := HO.out; rw [HW.out, HW2.out] at h_; exact h_⟩, HB⟩
    · have c5' : (rd l0 (wrap64 (i + 1)) == 10) = false := beq_eq_false_iff_ne.mpr (by rw [hW1]; exact c5)
      have HE : Aside0 (linesL l0 = (xs ++ [⟨s, i, i, i + 1⟩]) ++ linesF l0 kk (i + 1) (i + 1)) := ⟨by rw [HS.out]; simp only [linesF, if_pos HP.out.2, if_neg c2, if_pos c3, c5, and_false, if_false, List.append_assoc, List.singleton_append]⟩
      have HW := Aside0.mk hW1
      clear c2 c3 c4 c5 hW1 hW2
      go_wp2_with ((with_reducible refine gate_builtin (b := .append) (xs := #[.tmp 54, .tmp 61]) rfl ?_); (try (refine gate_guard (by rfl) ?_; dsimp only)); at_builtin; refine Kd.R_append k144 (w0 := w) w.heap.size rfl (.tmp 54) (.tmp 61) 141 144 (.agg #[(.int .i64 0), (.int .i64 0), (.int .i64 0), (.int .i64 0)]) 32 rfl Tryd.underlying141 info144 rfl (by decide) (by omega) u3 xs (⟨s, i, i, wrap64 (i + 1)⟩ : S144) [.int .i64 s, .int .i64 i, .int .i64 i, .int .i64 (wrap64 (i + 1))] (fun _ => True) (fun _ => False) rfl rfl ?aP (fun _ hk => hk.elim) ?aF ?aO ?aB ?aS ?aL ?_; (case aP => exact k144_mkM _ _ _ (⟨s, i, i, wrap64 (i + 1)⟩ : S144)); (case aB => exact HB.out); (case aF => exact (fun _ _ => trivial)); (case aO => exact HO.out); (case aS => exact (below_size HB.out)); (case aL => have := HI.out; have := HC0.out; omega); intro v7 w15 ho hb hg hat; have HB := Aside0.mk hb; have HO := Aside0.mk ho; clear hb ho hg hat)
      go_roundg kk
      case measure => omega
      case rel => exact ⟨xs ++ [⟨s, i, i, i + 1⟩], i + 1, i + 1, by rw [HW.out], by rw [HW.out], ⟨by have := HP.out; omega, by have := HP.out; omega, by have := HI.out; omega, by have := HI.out; simp; omega, HE.out⟩, ⟨by have h_ := HO.out; rw [HW.out] at h_; exact h_⟩, HB⟩
end Go.Proofs.YtbomhpfckplgaaaDoor.P
