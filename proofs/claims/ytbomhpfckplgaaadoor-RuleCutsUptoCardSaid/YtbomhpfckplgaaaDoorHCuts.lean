/- The walk of the statement RuleCuts. -/
import Derived.Test.YtbomhpfckplgaaaDoorHCut
namespace Go.Proofs.YtbomhpfckplgaaaDoor.P
open Go Go.RowKit Go.Proofs.YtbomhpfckplgaaaDoorW.PrintWords Go.Proofs.YtbomhpfckplgaaaDoorW.PrintLast Go.Proofs.YtbomhpfckplgaaaDoorW.PrintMore
set_option linter.unusedVariables false
set_option linter.unusedSimpArgs false
set_option maxRecDepth 100000
attribute [local go_sem] max2_int min2_int max_two min_two max_three min_three max_four min_four
def galleylaw06_RuleCuts.T3 : Bool × List (List Nat × List Nat) := (true, [([], []), ([0], [0]), ([], []), ([2], [2]), ([], []), ([4], [4]), ([], []), ([6], [6]), ([], []), ([8], [8]), ([1, 3, 5, 7, 9, 1], [1, 3, 5, 7, 9]), ([10], [10]), ([11], [11]), ([11], [11]), ([12, 10, 0, 1, 2, 3, 4, 5, 6, 7, 8, 9, 10, 11, 12], [12]), ([13, 14, 0, 1, 2, 3, 4, 5, 6, 7, 8, 9, 10, 11, 12, 13, 14], [13])])
def galleylaw06_RuleCuts.B3 : List Nat := [0, 1, 0, 4, 0, 16, 0, 64, 0, 256, 1023, 2047, 4095, 4095, 8191, 32767]
theorem galleylaw06_RuleCuts.tab3 : rtab .any (opsOf Tryd.f5 3) = galleylaw06_RuleCuts.T3 := by kernel_rfl
theorem galleylaw06_RuleCuts.bits3 : waitsOk galleylaw06_RuleCuts.T3.2 galleylaw06_RuleCuts.B3 = true := by kernel_rfl
open Classical in
noncomputable def galleylaw06_RuleCuts.f (k : Nat) (l : List Int) (a b x y z : Int) : Option Bool := if l.length ≤ 140737488351232 ∧ ∃ v n, rule_Cut.f k l x a b z = some (v, n) ∧ refCut.f k l x a b z = some (v, n) then some true else none
set_option maxHeartbeats 8000000 in
theorem galleylaw06_RuleCuts.calls (k : Nat) (A : Option Addr) (c : Nat) (l : List Int) (a b x y z : Int) (r : Bool) (w : World) (hr : Kd.C (Kd.int .u8) w A l.length l) (hc : l.length ≤ c) (hG : Laid w) (h : galleylaw06_RuleCuts.f k l a b x y z = some r) :
    Calls Tryd.prog 5 #[.slice A l.length c, .agg #[.int .i64 a, .int .i64 b], .agg #[.int .i64 x, .int .i64 y, .int .i64 z]] w fun e w' => e = .returned (.bool r) ∧ Below w.heap.size w w' := by
  have hu39 := Tryd.underlying39
  have hu45 := Tryd.underlying45
  unfold galleylaw06_RuleCuts.f at h
  by_cases hl : l.length ≤ 140737488351232 ∧ ∃ v n, rule_Cut.f k l x a b z = some (v, n) ∧ refCut.f k l x a b z = some (v, n)
  case neg => rw [if_neg hl] at h; cases h
  rw [if_pos hl] at h
  obtain rfl := Option.some.inj h
  obtain ⟨hl, v, n, h1, h2⟩ := hl
  have HP := Aside0.mk h1
  have HQ := Aside0.mk h2
  have HL := Aside0.mk (And.intro hl hc)
  clear h h1 h2 hl hc
  have HW : Aside0 (∀ W, Below w.heap.size w W → Calls Tryd.prog 27 #[] W fun e w' => e = .returned (.bool true) ∧ Below W.heap.size W w') := ⟨fun W hW => wakes06_any W (hG.below hW)⟩
  have HI : Aside0 (Keeps (fun W => Kd.C (Kd.int .u8) W A l.length l ∧ Laid W ∧ Below w.heap.size w W) w) := ⟨(keeps_C hr).and ((keeps_laid hG).and (keeps_below (Below.refl _ _) (Nat.le_refl _)))⟩
  clear hr hG
  go_enter Tryd.func5, Tryd.ntmps5
  go_upto_region 3 with (first | ((with_reducible refine gate_dst (N := 4) rfl ?_); refine box_event ?hg (N := 4) ?hd (cs := #[.int .i64 a, .int .i64 b]) (t := 45) ?hr ?_; (case hd => rfl); (case hg => rfl); (case hr => first | (go_simp; done) | (go_simp; rfl)); intro g4 hg4 w3 hx4 hb3; clear hg4) | ((with_reducible refine gate_dst (N := 5) rfl ?_); refine box_event ?hg (N := 5) ?hd (cs := #[.int .i64 x, .int .i64 y, .int .i64 z]) (t := 39) ?hr ?_; (case hd => rfl); (case hg => rfl); (case hr => first | (go_simp; done) | (go_simp; rfl)); intro g5 hg5 w4 hx5 hb4; clear hg5) | (go_at_call 27; refine (HW.out _ (hb3.trans (hb4.mono hb3.size))).mono ?_; rintro e w5 ⟨rfl, hb5⟩))
  have F : Aside0 (Keeps (fun W => Kd.C (Kd.int .u8) W A l.length l ∧ Laid W ∧ Below w.heap.size w W ∧ W.cell? ⟨g4, 0, none⟩ = some (.int .i64 a) ∧ W.cell? ⟨g4, 1, none⟩ = some (.int .i64 b) ∧ W.cell? ⟨g5, 0, none⟩ = some (.int .i64 x) ∧ W.cell? ⟨g5, 1, none⟩ = some (.int .i64 y) ∧ W.cell? ⟨g5, 2, none⟩ = some (.int .i64 z)) w5) := ⟨by
    have b4 := blk_below hx4 hb4
    have K := ((keeps_blk b4).and (keeps_blk hx5)).next hb5
    have I := (HI.out.next hb3).next hb4 |>.next hb5
    intro W hW
    obtain ⟨k4, k5⟩ := K W hW
    obtain ⟨i1, i2, i3⟩ := I W hW
    exact ⟨i1, i2, i3, (blk_cell k4 0).trans rfl, (blk_cell k4 1).trans rfl, (blk_cell k5 0).trans rfl, (blk_cell k5 1).trans rfl, (blk_cell k5 2).trans rfl⟩⟩
  clear HW HI hx4 hx5 hb3 hb4 hb5
  refine start_ (n := 16) (S := fun w' => Below w5.heap.size w5 w') (ds := []) #[false, false, false, false, false, false, false, false, false, false, false, false, false, false, false, false] (by kernel_rfl) rfl rfl (Below.refl _ _).drew (fun hHeld => ?_); refine with_tabW galleylaw06_RuleCuts.tab3 galleylaw06_RuleCuts.bits3 (fun HT_ HW_ => ?_)
  obtain ⟨w6, hZ_⟩ : ∃ Z_, w5.drew = Z_ := ⟨_, rfl⟩
  rw [hZ_] at hHeld ⊢
  clear hZ_
  refine pure_ (i := 0) (N := some 14) (v := ?_) (a' := ?_) #[true, false, false, false, false, false, false, false, false, false, false, false, false, false, false, false] rfl rfl (any_of HT_.out (by kernel_rfl)) (fun _ _ _ h => h) (Or.inl ⟨by rfl, ?_⟩) ?_ ?_
  rotate_left
  · intro w'
    go_simp
    with_reducible rfl
  rotate_left
  · simp only [Act.put, List.setIfInBounds_toArray, List.set_cons_zero, List.set_cons_succ, i64_w, i32_w]
    rfl
  refine pure_ (i := 2) (N := some 16) (v := ?_) (a' := ?_) #[true, false, true, false, false, false, false, false, false, false, false, false, false, false, false, false] rfl rfl (any_of HT_.out (by kernel_rfl)) (fun _ _ _ h => h) (Or.inl ⟨by rfl, ?_⟩) ?_ ?_
  rotate_left
  · intro w'
    go_simp
    with_reducible rfl
  rotate_left
  · simp only [Act.put, List.setIfInBounds_toArray, List.set_cons_zero, List.set_cons_succ, i64_w, i32_w]
    rfl
  refine pure_ (i := 4) (N := some 18) (v := ?_) (a' := ?_) #[true, false, true, false, true, false, false, false, false, false, false, false, false, false, false, false] rfl rfl (any_of HT_.out (by kernel_rfl)) (fun _ _ _ h => h) (Or.inl ⟨by rfl, ?_⟩) ?_ ?_
  rotate_left
  · intro w'
    go_simp
    with_reducible rfl
  rotate_left
  · simp only [Act.put, List.setIfInBounds_toArray, List.set_cons_zero, List.set_cons_succ, i64_w, i32_w]
    rfl
  refine pure_ (i := 6) (N := some 20) (v := ?_) (a' := ?_) #[true, false, true, false, true, false, true, false, false, false, false, false, false, false, false, false] rfl rfl (any_of HT_.out (by kernel_rfl)) (fun _ _ _ h => h) (Or.inl ⟨by rfl, ?_⟩) ?_ ?_
  rotate_left
  · intro w'
    go_simp
    with_reducible rfl
  rotate_left
  · simp only [Act.put, List.setIfInBounds_toArray, List.set_cons_zero, List.set_cons_succ, i64_w, i32_w]
    rfl
  refine pure_ (i := 8) (N := some 22) (v := ?_) (a' := ?_) #[true, false, true, false, true, false, true, false, true, false, false, false, false, false, false, false] rfl rfl (any_of HT_.out (by kernel_rfl)) (fun _ _ _ h => h) (Or.inl ⟨by rfl, ?_⟩) ?_ ?_
  rotate_left
  · intro w'
    go_simp
    with_reducible rfl
  rotate_left
  · simp only [Act.put, List.setIfInBounds_toArray, List.set_cons_zero, List.set_cons_succ, i64_w, i32_w]
    rfl
  refine take_ (i := 3) (N := some 17) (v := ?_) (a' := ?_) #[true, false, true, true, true, false, true, false, true, false, false, false, false, false, false, false] rfl rfl (take_ofW HT_.out HW_.out (by kernel_rfl)) (fun _ _ _ h => h) (Or.inl ⟨by rfl, ?_⟩) hHeld ?_ ?_
  rotate_left
  · intro w' hS_
    obtain ⟨_, _, _, s0, s1, s2, s3, s4⟩ := F.out.of hS_
    go_simp
    with_reducible rfl
  rotate_left
  · simp only [Act.put, List.setIfInBounds_toArray, List.set_cons_zero, List.set_cons_succ, i64_w, i32_w]
    rfl
  refine take_ (i := 5) (N := some 19) (v := ?_) (a' := ?_) #[true, false, true, true, true, true, true, false, true, false, false, false, false, false, false, false] rfl rfl (take_ofW HT_.out HW_.out (by kernel_rfl)) (fun _ _ _ h => h) (Or.inl ⟨by rfl, ?_⟩) hHeld ?_ ?_
  rotate_left
  · intro w' hS_
    obtain ⟨_, _, _, s0, s1, s2, s3, s4⟩ := F.out.of hS_
    go_simp
    with_reducible rfl
  rotate_left
  · simp only [Act.put, List.setIfInBounds_toArray, List.set_cons_zero, List.set_cons_succ, i64_w, i32_w]
    rfl
  refine take_ (i := 7) (N := some 21) (v := ?_) (a' := ?_) #[true, false, true, true, true, true, true, true, true, false, false, false, false, false, false, false] rfl rfl (take_ofW HT_.out HW_.out (by kernel_rfl)) (fun _ _ _ h => h) (Or.inl ⟨by rfl, ?_⟩) hHeld ?_ ?_
  rotate_left
  · intro w' hS_
    obtain ⟨_, _, _, s0, s1, s2, s3, s4⟩ := F.out.of hS_
    go_simp
    with_reducible rfl
  rotate_left
  · simp only [Act.put, List.setIfInBounds_toArray, List.set_cons_zero, List.set_cons_succ, i64_w, i32_w]
    rfl
  refine take_ (i := 9) (N := some 23) (v := ?_) (a' := ?_) #[true, false, true, true, true, true, true, true, true, true, false, false, false, false, false, false] rfl rfl (take_ofW HT_.out HW_.out (by kernel_rfl)) (fun _ _ _ h => h) (Or.inl ⟨by rfl, ?_⟩) hHeld ?_ ?_
  rotate_left
  · intro w' hS_
    obtain ⟨_, _, _, s0, s1, s2, s3, s4⟩ := F.out.of hS_
    go_simp
    with_reducible rfl
  rotate_left
  · simp only [Act.put, List.setIfInBounds_toArray, List.set_cons_zero, List.set_cons_succ, i64_w, i32_w]
    rfl
  refine one_ (i := 1) (N := some 15) #[true, true, true, true, true, true, true, true, true, true, false, false, false, false, false, false] rfl rfl (one_of HT_.out (by kernel_rfl)) (by decide) (fun K hK => ?_)
  refine goes_ Tryd.func29 (by kernel_rfl) rfl #[.slice A l.length c] (by rfl) rfl rfl (by (try simp only [List.map_toArray, List.map_cons, List.map_nil]); first | done | rfl) ?_
  with_reducible refine (own_any A c l HL.out.1 _ (F.out.of hHeld).1 HL.out.2).mono ?_
  rintro e w7 ⟨A3, c3, rfl, hc3, hC3, hb⟩
  refine ⟨_, rfl, ?_⟩
  refine hK.out _ _ (hHeld.trans (hb.mono hHeld.size)) (fun hHeld => ?_)
  clear hK K hb
  refine norm_ (a' := ?_) ?_ ?_
  rotate_left
  · show Act.put _ (some 15) _ = _
    simp only [Act.put, List.setIfInBounds_toArray, List.set_cons_zero, List.set_cons_succ, i64_w, i32_w]
    rfl
  refine one_ (i := 10) (N := some 24) #[true, true, true, true, true, true, true, true, true, true, true, false, false, false, false, false] rfl rfl (one_of HT_.out (by kernel_rfl)) (by decide) (fun K hK => ?_)
  refine goes_ Tryd.func39 (by kernel_rfl) rfl #[.slice A3 l.length c3, .int .i64 x, .int .i64 a, .int .i64 b, .int .i64 z] (by rfl) rfl rfl (by (try simp only [List.map_toArray, List.map_cons, List.map_nil]); first | done | rfl) ?_
  with_reducible refine (cut_any k A3 c3 l x a b z v n _ hC3 hc3 (F.out.of hHeld).2.1 HP.out).mono ?_
  rintro e w8 ⟨A4, c4, rfl, hc4, hC4, hb⟩
  refine ⟨_, rfl, ?_⟩
  refine hK.out _ _ (hHeld.trans (hb.mono hHeld.size)) (fun hHeld => ?_)
  clear hK K hb
  refine norm_ (a' := ?_) ?_ ?_
  rotate_left
  · show Act.put _ (some 24) _ = _
    simp only [Act.put, List.setIfInBounds_toArray, List.set_cons_zero, List.set_cons_succ, i64_w, i32_w]
    rfl
  refine pure_ (i := 11) (N := some 13) (v := ?_) (a' := ?_) #[true, true, true, true, true, true, true, true, true, true, true, true, false, false, false, false] rfl rfl (any_of HT_.out (by kernel_rfl)) (fun _ _ _ h => h) (Or.inl ⟨by rfl, ?_⟩) ?_ ?_
  rotate_left
  · intro w'
    go_simp
    with_reducible rfl
  rotate_left
  · simp only [Act.put, List.setIfInBounds_toArray, List.set_cons_zero, List.set_cons_succ, i64_w, i32_w]
    rfl
  refine pure_ (i := 12) (N := some 25) (v := ?_) (a' := ?_) #[true, true, true, true, true, true, true, true, true, true, true, true, true, false, false, false] rfl rfl (any_of HT_.out (by kernel_rfl)) (fun _ _ _ h => h) (Or.inl ⟨by rfl, ?_⟩) ?_ ?_
  rotate_left
  · intro w'
    go_simp
    with_reducible rfl
  rotate_left
  · simp only [Act.put, List.setIfInBounds_toArray, List.set_cons_zero, List.set_cons_succ, i64_w, i32_w]
    rfl
  refine pure_ (i := 13) (N := some 26) (v := ?_) (a' := ?_) #[true, true, true, true, true, true, true, true, true, true, true, true, true, true, false, false] rfl rfl (any_of HT_.out (by kernel_rfl)) (fun _ _ _ h => h) (Or.inl ⟨by rfl, ?_⟩) ?_ ?_
  rotate_left
  · intro w'
    go_simp
    with_reducible rfl
  rotate_left
  · simp only [Act.put, List.setIfInBounds_toArray, List.set_cons_zero, List.set_cons_succ, i64_w, i32_w]
    rfl
  refine pure_ (i := 14) (N := some 7) (v := ?_) (a' := ?_) #[true, true, true, true, true, true, true, true, true, true, true, true, true, true, true, false] rfl rfl (any_of HT_.out (by kernel_rfl)) (fun _ _ _ h => h) (Or.inl ⟨by rfl, ?_⟩) ?_ ?_
  rotate_left
  · intro w'
    go_simp
    with_reducible rfl
  rotate_left
  · simp only [Act.put, List.setIfInBounds_toArray, List.set_cons_zero, List.set_cons_succ, i64_w, i32_w]
    rfl
  refine pure_ (i := 15) (N := some 8) (v := ?_) (a' := ?_) #[true, true, true, true, true, true, true, true, true, true, true, true, true, true, true, true] rfl rfl (any_of HT_.out (by kernel_rfl)) (fun _ _ _ h => h) (Or.inl ⟨by rfl, ?_⟩) ?_ ?_
  rotate_left
  · intro w'
    go_simp
    with_reducible rfl
  rotate_left
  · simp only [Act.put, List.setIfInBounds_toArray, List.set_cons_zero, List.set_cons_succ, i64_w, i32_w]
    rfl
  refine done_ (done_of HT_.out (by kernel_rfl)) ?_
  clear HT_ HW_
  have F4 := Aside0.mk ((F.out.next hHeld).and (keeps_C hC4))
  clear hC3 hc3 hHeld hc4 hC4 F
  obtain ⟨i1, i2, i3, s0, s1, s2, s3, s4⟩ := F4.out.here.1
  clear i1 i2 i3
  go_wp2_with (go_at_call 40; refine (refCut.calls k A c l x a b z v n _ F4.out.here.1.1 HL.out.2 HQ.out).mono ?_; rintro e w9 ⟨A5, c5, rfl, hc5, hC5, hb⟩; have F5 := Aside0.mk (F4.out.next hb); clear hb; have u1 := str_of (c := c4) F5.out.here.2; have u2 := str_of (c := c5) hC5; clear hC5)
  go_ret
  exact ⟨rfl, F5.out.here.1.2.2.1⟩
end Go.Proofs.YtbomhpfckplgaaaDoor.P
