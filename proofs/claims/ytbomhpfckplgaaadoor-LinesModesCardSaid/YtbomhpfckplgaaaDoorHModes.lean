/- The walk of the statement LinesModes. -/
import Derived.Test.YtbomhpfckplgaaaDoorHLines
namespace Go.Proofs.YtbomhpfckplgaaaDoor.P
open Go Go.RowKit Go.Proofs.YtbomhpfckplgaaaDoorW.PrintWords Go.Proofs.YtbomhpfckplgaaaDoorW.PrintLast Go.Proofs.YtbomhpfckplgaaaDoorW.PrintMore
set_option linter.unusedVariables false
set_option linter.unusedSimpArgs false
set_option maxRecDepth 100000
attribute [local go_sem] max2_int min2_int max_two min_two max_three min_three max_four min_four
def galleylaw07_LinesModes.T5 : Bool × List (List Nat × List Nat) := (true, [([], []), ([0], [0]), ([], []), ([], []), ([1, 2, 3, 1], [1, 2, 3]), ([4], [4]), ([5], [5]), ([5], [5]), ([6, 4, 0, 1, 2, 3, 4, 5, 6], [6]), ([7, 8, 0, 1, 2, 3, 4, 5, 6, 7, 8], [7])])
def galleylaw07_LinesModes.B5 : List Nat := [0, 1, 0, 0, 15, 31, 63, 63, 127, 511]
theorem galleylaw07_LinesModes.tab5 : rtab .any (opsOf Tryd.f17 5) = galleylaw07_LinesModes.T5 := by kernel_rfl
theorem galleylaw07_LinesModes.bits5 : waitsOk galleylaw07_LinesModes.T5.2 galleylaw07_LinesModes.B5 = true := by kernel_rfl
def galleylaw07_LinesModes.T6 : Bool × List (List Nat × List Nat) := (true, [([], []), ([0], [0]), ([], []), ([], []), ([1, 2, 3, 1], [1, 2, 3]), ([4], [4]), ([5], [5]), ([5], [5]), ([6, 4, 0, 1, 2, 3, 4, 5, 6], [6]), ([7, 8, 0, 1, 2, 3, 4, 5, 6, 7, 8], [7])])
def galleylaw07_LinesModes.B6 : List Nat := [0, 1, 0, 0, 15, 31, 63, 63, 127, 511]
theorem galleylaw07_LinesModes.tab6 : rtab .any (opsOf Tryd.f17 6) = galleylaw07_LinesModes.T6 := by kernel_rfl
theorem galleylaw07_LinesModes.bits6 : waitsOk galleylaw07_LinesModes.T6.2 galleylaw07_LinesModes.B6 = true := by kernel_rfl
def galleylaw07_LinesModes.T7 : Bool × List (List Nat × List Nat) := (true, [([], []), ([0], [0]), ([], []), ([], []), ([1, 2, 3, 1], [1, 2, 3]), ([4], [4]), ([5], [5]), ([5], [5]), ([6, 4, 0, 1, 2, 3, 4, 5, 6], [6]), ([7, 8, 0, 1, 2, 3, 4, 5, 6, 7, 8], [7])])
def galleylaw07_LinesModes.B7 : List Nat := [0, 1, 0, 0, 15, 31, 63, 63, 127, 511]
theorem galleylaw07_LinesModes.tab7 : rtab .any (opsOf Tryd.f17 7) = galleylaw07_LinesModes.T7 := by kernel_rfl
theorem galleylaw07_LinesModes.bits7 : waitsOk galleylaw07_LinesModes.T7.2 galleylaw07_LinesModes.B7 = true := by kernel_rfl
def galleylaw07_LinesModes.T14 : Bool × List (List Nat × List Nat) := (true, [([], []), ([0], [0]), ([], []), ([2], [2]), ([1, 3, 1], [1, 3]), ([4], [4]), ([5], [5]), ([5], [5]), ([5], [5]), ([5], [5]), ([6, 4, 0, 1, 2, 3, 4, 5, 6], [6]), ([7, 10, 0, 1, 2, 3, 4, 5, 6, 7, 10], [7]), ([8, 11, 0, 1, 2, 3, 4, 5, 6, 7, 8, 10, 11], [8]), ([9, 12, 0, 1, 2, 3, 4, 5, 6, 7, 8, 9, 10, 11, 12], [9])])
def galleylaw07_LinesModes.B14 : List Nat := [0, 1, 0, 4, 15, 31, 63, 63, 63, 63, 127, 1279, 3583, 8191]
theorem galleylaw07_LinesModes.tab14 : rtab .any (opsOf Tryd.f17 14) = galleylaw07_LinesModes.T14 := by kernel_rfl
theorem galleylaw07_LinesModes.bits14 : waitsOk galleylaw07_LinesModes.T14.2 galleylaw07_LinesModes.B14 = true := by kernel_rfl
/-- What the answers must be to one another. -/
def galleylaw07_LinesModes.fits (k : Nat) (l : List Int) (s c r : Int) : Prop := ∃ x e lo f hi g, lines_At.f k l s c r 3 = some (x, e) ∧ lines_At.f k l s c r 1 = some (lo, f) ∧ lines_At.f k l s c r 2 = some (hi, g) ∧
  ((e = 0 ∧ f = 0 ∧ g = 0 ∧ lo = x ∧ hi = x) ∨ (e ≠ 0 ∧ f ≠ 0 ∧ g = f ∧ f = e ∧ lo = 0 ∧ hi = 0) ∨
   (e ≠ 0 ∧ f = 0 ∧ g = 0 ∧ ∃ st ct nx, lines_Line.f l s = some (st, ct, nx, 0) ∧ ∃ a2 a3 a5 a6 a7 b2 b3 b5 b6 b7, lines_Where.f k l lo = some (lo, a2, a3, s, a5, a6, a7, 0) ∧ lines_Where.f k l hi = some (hi, b2, b3, s, b5, b6, b7, 0) ∧
     ((e = 2 ∧ lo = ct ∧ hi = ct) ∨ (e = 4 ∧ lo < hi ∧ st ≤ lo ∧ hi ≤ nx))))
open Classical in
noncomputable def galleylaw07_LinesModes.f (k : Nat) (l : List Int) (s c r : Int) : Option Bool := if l.length > 600 ∨ galleylaw07_LinesModes.fits k l s c r then some true else none
set_option maxHeartbeats 16000000 in
theorem galleylaw07_LinesModes.calls (k : Nat) (A : Option Addr) (cc : Nat) (l : List Int) (s c r : Int) (res : Bool) (w : World) (hr : Kd.C (Kd.int .u8) w A l.length l) (hc : l.length ≤ cc) (hG : Laid w) (h : galleylaw07_LinesModes.f k l s c r = some res) :
    Calls Tryd.prog 17 #[.slice A l.length cc, .agg #[.int .i64 s, .int .i64 c], .int .i64 r] w fun e w' => e = .returned (.bool res) ∧ Below w.heap.size w w' := by
  have hu71 := Tryd.underlying71
  have hu79 := Tryd.underlying79
  unfold galleylaw07_LinesModes.f at h
  by_cases hF : l.length > 600 ∨ galleylaw07_LinesModes.fits k l s c r
  case neg => rw [if_neg hF] at h; cases h
  rw [if_pos hF] at h
  obtain rfl := Option.some.inj h
  have HW : Aside0 (∀ W, Laid W → Calls Tryd.prog 56 #[] W fun e w' => e = .returned (.bool true) ∧ Below W.heap.size W w') := ⟨fun W hW => awake07_any W hW⟩
  have HI : Aside0 (Keeps (fun W => Kd.C (Kd.int .u8) W A l.length l ∧ Laid W ∧ Below w.heap.size w W) w) := ⟨(keeps_C hr).and ((keeps_laid hG).and (keeps_below (Below.refl _ _) (Nat.le_refl _)))⟩
  have HC := Aside0.mk hc
  have HF := Aside0.mk hF
  clear hr hG hc hF h
  go_enter Tryd.func17, Tryd.ntmps17
  go_upto_region 3 with (first | ((with_reducible refine gate_dst (N := 4) rfl ?_); refine box_event ?hg (N := 4) ?hd (cs := #[.int .i64 s, .int .i64 c]) (t := 71) ?hr ?_; (case hd => rfl); (case hg => rfl); (case hr => first | (go_simp; done) | (go_simp; rfl)); intro g4 hg4 w3 hx4 hb3; clear hg4) | (go_at_call 56; refine (HW.out _ (HI.out.of hb3).2.1).mono ?_; rintro e w5 ⟨rfl, hb5⟩))
  have F : Aside0 (Keeps (fun W => Kd.C (Kd.int .u8) W A l.length l ∧ Laid W ∧ Below w.heap.size w W ∧ W.cell? ⟨g4, 0, none⟩ = some (.int .i64 s) ∧ W.cell? ⟨g4, 1, none⟩ = some (.int .i64 c)) w5) := ⟨by
    have K := (keeps_blk hx4).next hb5
    have I := (HI.out.next hb3).next hb5
    intro W hW
    have k4 := K W hW
    obtain ⟨i1, i2, i3⟩ := I W hW
    exact ⟨i1, i2, i3, (blk_cell k4 0).trans rfl, (blk_cell k4 1).trans rfl⟩⟩
  clear HW HI hx4 hb3 hb5
  by_cases hlen : l.length > 600
  · have HLa : Aside0 (galleylaw07_Large.f l = some true) := ⟨by unfold galleylaw07_Large.f; rw [decide_eq_true (show (l.length : Int) > 600 by omega)]⟩
    clear hlen HF
    go_wp2_with (go_at_call 57; refine (galleylaw07_Large.calls A cc l _ _ F.out.here.1 HC.out HLa.out).mono ?_; rintro e w9 ⟨rfl, hd_⟩; have hb := hd_.below; replace F := Aside0.mk (F.out.next hb); clear hb hd_)
    go_ret
    exact ⟨rfl, F.out.here.2.2.1⟩
  have HLa : Aside0 (galleylaw07_Large.f l = some false) := ⟨by unfold galleylaw07_Large.f; rw [decide_eq_false (show ¬ (l.length : Int) > 600 by omega)]⟩
  have HL : Aside0 (l.length ≤ 140737488351232 ∧ l.length ≤ cc) := ⟨by omega, HC.out⟩
  obtain ⟨x, e, lo, f, hi, g, t1, t2, t3, hcase⟩ : galleylaw07_LinesModes.fits k l s c r := by
    rcases HF.out with h | h
    · exact absurd h hlen
    · exact h
  have T1 := Aside0.mk t1
  have T2 := Aside0.mk t2
  have T3 := Aside0.mk t3
  have HCASE := Aside0.mk hcase
  clear t1 t2 t3 hcase hlen HF
  go_upto_region 5 with (go_at_call 57; refine (galleylaw07_Large.calls A cc l _ _ F.out.here.1 HC.out HLa.out).mono ?_; rintro e w6 ⟨rfl, hd_⟩; have hb := hd_.below; replace F := Aside0.mk (F.out.next hb); clear hb hd_)
  refine start_ (n := 10) (S := fun w' => Below w6.heap.size w6 w') (ds := []) #[false, false, false, false, false, false, false, false, false, false] (by kernel_rfl) rfl rfl (Below.refl _ _).drew (fun hHeld => ?_); refine with_tabW galleylaw07_LinesModes.tab5 galleylaw07_LinesModes.bits5 (fun HT_ HW_ => ?_)
  obtain ⟨w7, hZ_⟩ : ∃ Z_, w6.drew = Z_ := ⟨_, rfl⟩
  rw [hZ_] at hHeld ⊢
  clear hZ_
  refine pure_ (i := 0) (N := some 26) (v := ?_) (a' := ?_) #[true, false, false, false, false, false, false, false, false, false] rfl rfl (any_of HT_.out (by kernel_rfl)) (fun _ _ _ h => h) (Or.inl ⟨by rfl, ?_⟩) ?_ ?_
  rotate_left
  · intro w'
    go_simp
    with_reducible rfl
  rotate_left
  · simp only [Act.put, List.setIfInBounds_toArray, List.set_cons_zero, List.set_cons_succ, i64_w, i32_w]
    rfl
  refine pure_ (i := 3) (N := some 29) (v := ?_) (a' := ?_) #[true, false, false, true, false, false, false, false, false, false] rfl rfl (any_of HT_.out (by kernel_rfl)) (fun _ _ _ h => h) (Or.inl ⟨by rfl, ?_⟩) ?_ ?_
  rotate_left
  · intro w'
    go_simp
    with_reducible rfl
  rotate_left
  · simp only [Act.put, List.setIfInBounds_toArray, List.set_cons_zero, List.set_cons_succ, i64_w, i32_w]
    rfl
  refine take_ (i := 2) (N := some 28) (v := ?_) (a' := ?_) #[true, false, true, true, false, false, false, false, false, false] rfl rfl (take_ofW HT_.out HW_.out (by kernel_rfl)) (fun _ _ _ h => h) (Or.inl ⟨by rfl, ?_⟩) hHeld ?_ ?_
  rotate_left
  · intro w' hS_
    obtain ⟨_, _, _, s0, s1⟩ := F.out.of hS_
    go_simp
    with_reducible rfl
  rotate_left
  · simp only [Act.put, List.setIfInBounds_toArray, List.set_cons_zero, List.set_cons_succ, i64_w, i32_w]
    rfl
  refine one_ (i := 1) (N := some 27) #[true, true, true, true, false, false, false, false, false, false] rfl rfl (one_of HT_.out (by kernel_rfl)) (by decide) (fun K hK => ?_)
  refine goes_ Tryd.func59 (by kernel_rfl) rfl #[.slice A l.length cc] (by rfl) rfl rfl (by (try simp only [List.map_toArray, List.map_cons, List.map_nil]); first | done | rfl) ?_
  with_reducible refine (own07_any A cc l HL.out.1 _ (F.out.of hHeld).1 HL.out.2).mono ?_
  rintro e w8 ⟨A5, c5, rfl, hc5, hC5, hb⟩
  refine ⟨_, rfl, ?_⟩
  refine hK.out _ _ (hHeld.trans (hb.mono hHeld.size)) (fun hHeld => ?_)
  clear hK K hb
  refine norm_ (a' := ?_) ?_ ?_
  rotate_left
  · show Act.put _ (some 27) _ = _
    simp only [Act.put, List.setIfInBounds_toArray, List.set_cons_zero, List.set_cons_succ, i64_w, i32_w]
    rfl
  refine one_ (i := 4) (N := some 30) #[true, true, true, true, true, false, false, false, false, false] rfl rfl (one_of HT_.out (by kernel_rfl)) (by decide) (fun K hK => ?_)
  refine goes_ Tryd.func58 (by kernel_rfl) rfl #[.slice A5 l.length c5, .agg #[.int .i64 s, .int .i64 c], .int .i64 r, .int .i64 3] (by rfl) rfl rfl (by (try simp only [List.map_toArray, List.map_cons, List.map_nil]); first | done | rfl) ?_
  with_reducible refine (lines_At.calls k A5 c5 l s c r 3 x e _ hC5 hc5 (F.out.of hHeld).2.1 T1.out).mono ?_
  rintro e w9 ⟨rfl, hb⟩
  refine ⟨_, rfl, ?_⟩
  refine hK.out _ _ (hHeld.trans (hb.mono hHeld.size)) (fun hHeld => ?_)
  clear hK K hb
  refine norm_ (a' := ?_) ?_ ?_
  rotate_left
  · show Act.put _ (some 30) _ = _
    simp only [Act.put, List.setIfInBounds_toArray, List.set_cons_zero, List.set_cons_succ, i64_w, i32_w]
    rfl
  refine pure_ (i := 5) (N := some 25) (v := ?_) (a' := ?_) #[true, true, true, true, true, true, false, false, false, false] rfl rfl (any_of HT_.out (by kernel_rfl)) (fun _ _ _ h => h) (Or.inl ⟨by rfl, ?_⟩) ?_ ?_
  rotate_left
  · intro w'
    go_simp
    with_reducible rfl
  rotate_left
  · simp only [Act.put, List.setIfInBounds_toArray, List.set_cons_zero, List.set_cons_succ, i64_w, i32_w]
    rfl
  refine pure_ (i := 6) (N := some 31) (v := ?_) (a' := ?_) #[true, true, true, true, true, true, true, false, false, false] rfl rfl (any_of HT_.out (by kernel_rfl)) (fun _ _ _ h => h) (Or.inl ⟨by rfl, ?_⟩) ?_ ?_
  rotate_left
  · intro w'
    go_simp
    with_reducible rfl
  rotate_left
  · simp only [Act.put, List.setIfInBounds_toArray, List.set_cons_zero, List.set_cons_succ, i64_w, i32_w]
    rfl
  refine pure_ (i := 7) (N := some 32) (v := ?_) (a' := ?_) #[true, true, true, true, true, true, true, true, false, false] rfl rfl (any_of HT_.out (by kernel_rfl)) (fun _ _ _ h => h) (Or.inl ⟨by rfl, ?_⟩) ?_ ?_
  rotate_left
  · intro w'
    go_simp
    with_reducible rfl
  rotate_left
  · simp only [Act.put, List.setIfInBounds_toArray, List.set_cons_zero, List.set_cons_succ, i64_w, i32_w]
    rfl
  refine pure_ (i := 8) (N := some 7) (v := ?_) (a' := ?_) #[true, true, true, true, true, true, true, true, true, false] rfl rfl (any_of HT_.out (by kernel_rfl)) (fun _ _ _ h => h) (Or.inl ⟨by rfl, ?_⟩) ?_ ?_
  rotate_left
  · intro w'
    go_simp
    with_reducible rfl
  rotate_left
  · simp only [Act.put, List.setIfInBounds_toArray, List.set_cons_zero, List.set_cons_succ, i64_w, i32_w]
    rfl
  refine pure_ (i := 9) (N := some 8) (v := ?_) (a' := ?_) #[true, true, true, true, true, true, true, true, true, true] rfl rfl (any_of HT_.out (by kernel_rfl)) (fun _ _ _ h => h) (Or.inl ⟨by rfl, ?_⟩) ?_ ?_
  rotate_left
  · intro w'
    go_simp
    with_reducible rfl
  rotate_left
  · simp only [Act.put, List.setIfInBounds_toArray, List.set_cons_zero, List.set_cons_succ, i64_w, i32_w]
    rfl
  refine done_ (done_of HT_.out (by kernel_rfl)) ?_
  clear HT_ HW_
  clear hC5 hc5
  replace F := Aside0.mk (F.out.next hHeld)
  clear hHeld
  go_upto_region 6 with (fail)
  refine start_ (n := 10) (S := fun w' => Below w9.heap.size w9 w') (ds := []) #[false, false, false, false, false, false, false, false, false, false] (by kernel_rfl) rfl rfl (Below.refl _ _).drew (fun hHeld => ?_); refine with_tabW galleylaw07_LinesModes.tab6 galleylaw07_LinesModes.bits6 (fun HT_ HW_ => ?_)
  obtain ⟨w10, hZ_⟩ : ∃ Z_, w9.drew = Z_ := ⟨_, rfl⟩
  rw [hZ_] at hHeld ⊢
  clear hZ_
  refine pure_ (i := 0) (N := some 34) (v := ?_) (a' := ?_) #[true, false, false, false, false, false, false, false, false, false] rfl rfl (any_of HT_.out (by kernel_rfl)) (fun _ _ _ h => h) (Or.inl ⟨by rfl, ?_⟩) ?_ ?_
  rotate_left
  · intro w'
    go_simp
    with_reducible rfl
  rotate_left
  · simp only [Act.put, List.setIfInBounds_toArray, List.set_cons_zero, List.set_cons_succ, i64_w, i32_w]
    rfl
  refine pure_ (i := 3) (N := some 37) (v := ?_) (a' := ?_) #[true, false, false, true, false, false, false, false, false, false] rfl rfl (any_of HT_.out (by kernel_rfl)) (fun _ _ _ h => h) (Or.inl ⟨by rfl, ?_⟩) ?_ ?_
  rotate_left
  · intro w'
    go_simp
    with_reducible rfl
  rotate_left
  · simp only [Act.put, List.setIfInBounds_toArray, List.set_cons_zero, List.set_cons_succ, i64_w, i32_w]
    rfl
  refine take_ (i := 2) (N := some 36) (v := ?_) (a' := ?_) #[true, false, true, true, false, false, false, false, false, false] rfl rfl (take_ofW HT_.out HW_.out (by kernel_rfl)) (fun _ _ _ h => h) (Or.inl ⟨by rfl, ?_⟩) hHeld ?_ ?_
  rotate_left
  · intro w' hS_
    obtain ⟨_, _, _, s0, s1⟩ := F.out.of hS_
    go_simp
    with_reducible rfl
  rotate_left
  · simp only [Act.put, List.setIfInBounds_toArray, List.set_cons_zero, List.set_cons_succ, i64_w, i32_w]
    rfl
  refine one_ (i := 1) (N := some 35) #[true, true, true, true, false, false, false, false, false, false] rfl rfl (one_of HT_.out (by kernel_rfl)) (by decide) (fun K hK => ?_)
  refine goes_ Tryd.func59 (by kernel_rfl) rfl #[.slice A l.length cc] (by rfl) rfl rfl (by (try simp only [List.map_toArray, List.map_cons, List.map_nil]); first | done | rfl) ?_
  with_reducible refine (own07_any A cc l HL.out.1 _ (F.out.of hHeld).1 HL.out.2).mono ?_
  rintro e w11 ⟨A6, c6, rfl, hc6, hC6, hb⟩
  refine ⟨_, rfl, ?_⟩
  refine hK.out _ _ (hHeld.trans (hb.mono hHeld.size)) (fun hHeld => ?_)
  clear hK K hb
  refine norm_ (a' := ?_) ?_ ?_
  rotate_left
  · show Act.put _ (some 35) _ = _
    simp only [Act.put, List.setIfInBounds_toArray, List.set_cons_zero, List.set_cons_succ, i64_w, i32_w]
    rfl
  refine one_ (i := 4) (N := some 38) #[true, true, true, true, true, false, false, false, false, false] rfl rfl (one_of HT_.out (by kernel_rfl)) (by decide) (fun K hK => ?_)
  refine goes_ Tryd.func58 (by kernel_rfl) rfl #[.slice A6 l.length c6, .agg #[.int .i64 s, .int .i64 c], .int .i64 r, .int .i64 1] (by rfl) rfl rfl (by (try simp only [List.map_toArray, List.map_cons, List.map_nil]); first | done | rfl) ?_
  with_reducible refine (lines_At.calls k A6 c6 l s c r 1 lo f _ hC6 hc6 (F.out.of hHeld).2.1 T2.out).mono ?_
  rintro e w12 ⟨rfl, hb⟩
  refine ⟨_, rfl, ?_⟩
  refine hK.out _ _ (hHeld.trans (hb.mono hHeld.size)) (fun hHeld => ?_)
  clear hK K hb
  refine norm_ (a' := ?_) ?_ ?_
  rotate_left
  · show Act.put _ (some 38) _ = _
    simp only [Act.put, List.setIfInBounds_toArray, List.set_cons_zero, List.set_cons_succ, i64_w, i32_w]
    rfl
  refine pure_ (i := 5) (N := some 33) (v := ?_) (a' := ?_) #[true, true, true, true, true, true, false, false, false, false] rfl rfl (any_of HT_.out (by kernel_rfl)) (fun _ _ _ h => h) (Or.inl ⟨by rfl, ?_⟩) ?_ ?_
  rotate_left
  · intro w'
    go_simp
    with_reducible rfl
  rotate_left
  · simp only [Act.put, List.setIfInBounds_toArray, List.set_cons_zero, List.set_cons_succ, i64_w, i32_w]
    rfl
  refine pure_ (i := 6) (N := some 39) (v := ?_) (a' := ?_) #[true, true, true, true, true, true, true, false, false, false] rfl rfl (any_of HT_.out (by kernel_rfl)) (fun _ _ _ h => h) (Or.inl ⟨by rfl, ?_⟩) ?_ ?_
  rotate_left
  · intro w'
    go_simp
    with_reducible rfl
  rotate_left
  · simp only [Act.put, List.setIfInBounds_toArray, List.set_cons_zero, List.set_cons_succ, i64_w, i32_w]
    rfl
  refine pure_ (i := 7) (N := some 40) (v := ?_) (a' := ?_) #[true, true, true, true, true, true, true, true, false, false] rfl rfl (any_of HT_.out (by kernel_rfl)) (fun _ _ _ h => h) (Or.inl ⟨by rfl, ?_⟩) ?_ ?_
  rotate_left
  · intro w'
    go_simp
    with_reducible rfl
  rotate_left
  · simp only [Act.put, List.setIfInBounds_toArray, List.set_cons_zero, List.set_cons_succ, i64_w, i32_w]
    rfl
  refine pure_ (i := 8) (N := some 9) (v := ?_) (a' := ?_) #[true, true, true, true, true, true, true, true, true, false] rfl rfl (any_of HT_.out (by kernel_rfl)) (fun _ _ _ h => h) (Or.inl ⟨by rfl, ?_⟩) ?_ ?_
  rotate_left
  · intro w'
    go_simp
    with_reducible rfl
  rotate_left
  · simp only [Act.put, List.setIfInBounds_toArray, List.set_cons_zero, List.set_cons_succ, i64_w, i32_w]
    rfl
  refine pure_ (i := 9) (N := some 10) (v := ?_) (a' := ?_) #[true, true, true, true, true, true, true, true, true, true] rfl rfl (any_of HT_.out (by kernel_rfl)) (fun _ _ _ h => h) (Or.inl ⟨by rfl, ?_⟩) ?_ ?_
  rotate_left
  · intro w'
    go_simp
    with_reducible rfl
  rotate_left
  · simp only [Act.put, List.setIfInBounds_toArray, List.set_cons_zero, List.set_cons_succ, i64_w, i32_w]
    rfl
  refine done_ (done_of HT_.out (by kernel_rfl)) ?_
  clear HT_ HW_
  clear hC6 hc6
  replace F := Aside0.mk (F.out.next hHeld)
  clear hHeld
  go_upto_region 7 with (fail)
  refine start_ (n := 10) (S := fun w' => Below w12.heap.size w12 w') (ds := []) #[false, false, false, false, false, false, false, false, false, false] (by kernel_rfl) rfl rfl (Below.refl _ _).drew (fun hHeld => ?_); refine with_tabW galleylaw07_LinesModes.tab7 galleylaw07_LinesModes.bits7 (fun HT_ HW_ => ?_)
  obtain ⟨w13, hZ_⟩ : ∃ Z_, w12.drew = Z_ := ⟨_, rfl⟩
  rw [hZ_] at hHeld ⊢
  clear hZ_
  refine pure_ (i := 0) (N := some 42) (v := ?_) (a' := ?_) #[true, false, false, false, false, false, false, false, false, false] rfl rfl (any_of HT_.out (by kernel_rfl)) (fun _ _ _ h => h) (Or.inl ⟨by rfl, ?_⟩) ?_ ?_
  rotate_left
  · intro w'
    go_simp
    with_reducible rfl
  rotate_left
  · simp only [Act.put, List.setIfInBounds_toArray, List.set_cons_zero, List.set_cons_succ, i64_w, i32_w]
    rfl
  refine pure_ (i := 3) (N := some 45) (v := ?_) (a' := ?_) #[true, false, false, true, false, false, false, false, false, false] rfl rfl (any_of HT_.out (by kernel_rfl)) (fun _ _ _ h => h) (Or.inl ⟨by rfl, ?_⟩) ?_ ?_
  rotate_left
  · intro w'
    go_simp
    with_reducible rfl
  rotate_left
  · simp only [Act.put, List.setIfInBounds_toArray, List.set_cons_zero, List.set_cons_succ, i64_w, i32_w]
    rfl
  refine take_ (i := 2) (N := some 44) (v := ?_) (a' := ?_) #[true, false, true, true, false, false, false, false, false, false] rfl rfl (take_ofW HT_.out HW_.out (by kernel_rfl)) (fun _ _ _ h => h) (Or.inl ⟨by rfl, ?_⟩) hHeld ?_ ?_
  rotate_left
  · intro w' hS_
    obtain ⟨_, _, _, s0, s1⟩ := F.out.of hS_
    go_simp
    with_reducible rfl
  rotate_left
  · simp only [Act.put, List.setIfInBounds_toArray, List.set_cons_zero, List.set_cons_succ, i64_w, i32_w]
    rfl
  refine one_ (i := 1) (N := some 43) #[true, true, true, true, false, false, false, false, false, false] rfl rfl (one_of HT_.out (by kernel_rfl)) (by decide) (fun K hK => ?_)
  refine goes_ Tryd.func59 (by kernel_rfl) rfl #[.slice A l.length cc] (by rfl) rfl rfl (by (try simp only [List.map_toArray, List.map_cons, List.map_nil]); first | done | rfl) ?_
  with_reducible refine (own07_any A cc l HL.out.1 _ (F.out.of hHeld).1 HL.out.2).mono ?_
  rintro e w14 ⟨A7, c7, rfl, hc7, hC7, hb⟩
  refine ⟨_, rfl, ?_⟩
  refine hK.out _ _ (hHeld.trans (hb.mono hHeld.size)) (fun hHeld => ?_)
  clear hK K hb
  refine norm_ (a' := ?_) ?_ ?_
  rotate_left
  · show Act.put _ (some 43) _ = _
    simp only [Act.put, List.setIfInBounds_toArray, List.set_cons_zero, List.set_cons_succ, i64_w, i32_w]
    rfl
  refine one_ (i := 4) (N := some 46) #[true, true, true, true, true, false, false, false, false, false] rfl rfl (one_of HT_.out (by kernel_rfl)) (by decide) (fun K hK => ?_)
  refine goes_ Tryd.func58 (by kernel_rfl) rfl #[.slice A7 l.length c7, .agg #[.int .i64 s, .int .i64 c], .int .i64 r, .int .i64 2] (by rfl) rfl rfl (by (try simp only [List.map_toArray, List.map_cons, List.map_nil]); first | done | rfl) ?_
  with_reducible refine (lines_At.calls k A7 c7 l s c r 2 hi g _ hC7 hc7 (F.out.of hHeld).2.1 T3.out).mono ?_
  rintro e w15 ⟨rfl, hb⟩
  refine ⟨_, rfl, ?_⟩
  refine hK.out _ _ (hHeld.trans (hb.mono hHeld.size)) (fun hHeld => ?_)
  clear hK K hb
  refine norm_ (a' := ?_) ?_ ?_
  rotate_left
  · show Act.put _ (some 46) _ = _
    simp only [Act.put, List.setIfInBounds_toArray, List.set_cons_zero, List.set_cons_succ, i64_w, i32_w]
    rfl
  refine pure_ (i := 5) (N := some 41) (v := ?_) (a' := ?_) #[true, true, true, true, true, true, false, false, false, false] rfl rfl (any_of HT_.out (by kernel_rfl)) (fun _ _ _ h => h) (Or.inl ⟨by rfl, ?_⟩) ?_ ?_
  rotate_left
  · intro w'
    go_simp
    with_reducible rfl
  rotate_left
  · simp only [Act.put, List.setIfInBounds_toArray, List.set_cons_zero, List.set_cons_succ, i64_w, i32_w]
    rfl
  refine pure_ (i := 6) (N := some 47) (v := ?_) (a' := ?_) #[true, true, true, true, true, true, true, false, false, false] rfl rfl (any_of HT_.out (by kernel_rfl)) (fun _ _ _ h => h) (Or.inl ⟨by rfl, ?_⟩) ?_ ?_
  rotate_left
  · intro w'
    go_simp
    with_reducible rfl
  rotate_left
  · simp only [Act.put, List.setIfInBounds_toArray, List.set_cons_zero, List.set_cons_succ, i64_w, i32_w]
    rfl
  refine pure_ (i := 7) (N := some 48) (v := ?_) (a' := ?_) #[true, true, true, true, true, true, true, true, false, false] rfl rfl (any_of HT_.out (by kernel_rfl)) (fun _ _ _ h => h) (Or.inl ⟨by rfl, ?_⟩) ?_ ?_
  rotate_left
  · intro w'
    go_simp
    with_reducible rfl
  rotate_left
  · simp only [Act.put, List.setIfInBounds_toArray, List.set_cons_zero, List.set_cons_succ, i64_w, i32_w]
    rfl
  refine pure_ (i := 8) (N := some 11) (v := ?_) (a' := ?_) #[true, true, true, true, true, true, true, true, true, false] rfl rfl (any_of HT_.out (by kernel_rfl)) (fun _ _ _ h => h) (Or.inl ⟨by rfl, ?_⟩) ?_ ?_
  rotate_left
  · intro w'
    go_simp
    with_reducible rfl
  rotate_left
  · simp only [Act.put, List.setIfInBounds_toArray, List.set_cons_zero, List.set_cons_succ, i64_w, i32_w]
    rfl
  refine pure_ (i := 9) (N := some 12) (v := ?_) (a' := ?_) #[true, true, true, true, true, true, true, true, true, true] rfl rfl (any_of HT_.out (by kernel_rfl)) (fun _ _ _ h => h) (Or.inl ⟨by rfl, ?_⟩) ?_ ?_
  rotate_left
  · intro w'
    go_simp
    with_reducible rfl
  rotate_left
  · simp only [Act.put, List.setIfInBounds_toArray, List.set_cons_zero, List.set_cons_succ, i64_w, i32_w]
    rfl
  refine done_ (done_of HT_.out (by kernel_rfl)) ?_
  clear HT_ HW_
  clear hC7 hc7
  replace F := Aside0.mk (F.out.next hHeld)
  clear hHeld
  rcases HCASE.out with ⟨rfl, rfl, rfl, rfl, rfl⟩ | ⟨he, hf, rfl, rfl, rfl, rfl⟩ | ⟨he, rfl, rfl, st, ct, nx, hline, a2, a3, a5, a6, a7, b2, b3, b5, b6, b7, hwa, hwb, hend⟩
  · clear HCASE
    go_wp2
    go_ret
    exact ⟨by simp, F.out.here.2.2.1⟩
  · clear HCASE
    have he' : (g == 0) = false := by simpa using he
    have he2 : (g != 0) = true := by simp [he]
    clear he hf
    go_wp2
    go_ret
    exact ⟨by simp, F.out.here.2.2.1⟩
  clear HCASE
  have he' : (e == 0) = false := by simpa using he
  have HLI := Aside0.mk hline
  have HWA := Aside0.mk hwa
  have HWB := Aside0.mk hwb
  have HEND := Aside0.mk hend
  clear he hline hwa hwb hend
  go_upto_region 14 with (fail)
  refine start_ (n := 14) (S := fun w' => Below w15.heap.size w15 w') (ds := []) #[false, false, false, false, false, false, false, false, false, false, false, false, false, false] (by kernel_rfl) rfl rfl (Below.refl _ _).drew (fun hHeld => ?_); refine with_tabW galleylaw07_LinesModes.tab14 galleylaw07_LinesModes.bits14 (fun HT_ HW_ => ?_)
  obtain ⟨w16, hZ_⟩ : ∃ Z_, w15.drew = Z_ := ⟨_, rfl⟩
  rw [hZ_] at hHeld ⊢
  clear hZ_
  refine pure_ (i := 0) (N := some 88) (v := ?_) (a' := ?_) #[true, false, false, false, false, false, false, false, false, false, false, false, false, false] rfl rfl (any_of HT_.out (by kernel_rfl)) (fun _ _ _ h => h) (Or.inl ⟨by rfl, ?_⟩) ?_ ?_
  rotate_left
  · intro w'
    go_simp
    with_reducible rfl
  rotate_left
  · simp only [Act.put, List.setIfInBounds_toArray, List.set_cons_zero, List.set_cons_succ, i64_w, i32_w]
    rfl
  refine pure_ (i := 2) (N := some 90) (v := ?_) (a' := ?_) #[true, false, true, false, false, false, false, false, false, false, false, false, false, false] rfl rfl (any_of HT_.out (by kernel_rfl)) (fun _ _ _ h => h) (Or.inl ⟨by rfl, ?_⟩) ?_ ?_
  rotate_left
  · intro w'
    go_simp
    with_reducible rfl
  rotate_left
  · simp only [Act.put, List.setIfInBounds_toArray, List.set_cons_zero, List.set_cons_succ, i64_w, i32_w]
    rfl
  refine take_ (i := 3) (N := some 91) (v := ?_) (a' := ?_) #[true, false, true, true, false, false, false, false, false, false, false, false, false, false] rfl rfl (take_ofW HT_.out HW_.out (by kernel_rfl)) (fun _ _ _ h => h) (Or.inl ⟨by rfl, ?_⟩) hHeld ?_ ?_
  rotate_left
  · intro w' hS_
    obtain ⟨_, _, _, s0, s1⟩ := F.out.of hS_
    go_simp
    with_reducible rfl
  rotate_left
  · simp only [Act.put, List.setIfInBounds_toArray, List.set_cons_zero, List.set_cons_succ, i64_w, i32_w]
    rfl
  refine one_ (i := 1) (N := some 89) #[true, true, true, true, false, false, false, false, false, false, false, false, false, false] rfl rfl (one_of HT_.out (by kernel_rfl)) (by decide) (fun K hK => ?_)
  refine goes_ Tryd.func59 (by kernel_rfl) rfl #[.slice A l.length cc] (by rfl) rfl rfl (by (try simp only [List.map_toArray, List.map_cons, List.map_nil]); first | done | rfl) ?_
  with_reducible refine (own07_any A cc l HL.out.1 _ (F.out.of hHeld).1 HL.out.2).mono ?_
  rintro e w17 ⟨A14, c14, rfl, hc14, hC14, hb⟩
  refine ⟨_, rfl, ?_⟩
  refine hK.out _ _ (hHeld.trans (hb.mono hHeld.size)) (fun hHeld => ?_)
  clear hK K hb
  refine norm_ (a' := ?_) ?_ ?_
  rotate_left
  · show Act.put _ (some 89) _ = _
    simp only [Act.put, List.setIfInBounds_toArray, List.set_cons_zero, List.set_cons_succ, i64_w, i32_w]
    rfl
  refine one_ (i := 4) (N := some 92) #[true, true, true, true, true, false, false, false, false, false, false, false, false, false] rfl rfl (one_of HT_.out (by kernel_rfl)) (by decide) (fun K hK => ?_)
  refine goes_ Tryd.func65 (by kernel_rfl) rfl #[.slice A14 l.length c14, .int .i64 s] (by rfl) rfl rfl (by (try simp only [List.map_toArray, List.map_cons, List.map_nil]); first | done | rfl) ?_
  with_reducible refine (lines_Line.calls A14 c14 l s st ct nx 0 _ hC14 hc14 HLI.out).mono ?_
  rintro e w18 ⟨rfl, hb⟩
  refine ⟨_, rfl, ?_⟩
  refine hK.out _ _ (hHeld.trans (hb.mono hHeld.size)) (fun hHeld => ?_)
  clear hK K hb
  refine norm_ (a' := ?_) ?_ ?_
  rotate_left
  · show Act.put _ (some 92) _ = _
    simp only [Act.put, List.setIfInBounds_toArray, List.set_cons_zero, List.set_cons_succ, i64_w, i32_w]
    rfl
  refine pure_ (i := 5) (N := some 87) (v := ?_) (a' := ?_) #[true, true, true, true, true, true, false, false, false, false, false, false, false, false] rfl rfl (any_of HT_.out (by kernel_rfl)) (fun _ _ _ h => h) (Or.inl ⟨by rfl, ?_⟩) ?_ ?_
  rotate_left
  · intro w'
    go_simp
    with_reducible rfl
  rotate_left
  · simp only [Act.put, List.setIfInBounds_toArray, List.set_cons_zero, List.set_cons_succ, i64_w, i32_w]
    rfl
  refine pure_ (i := 6) (N := some 93) (v := ?_) (a' := ?_) #[true, true, true, true, true, true, true, false, false, false, false, false, false, false] rfl rfl (any_of HT_.out (by kernel_rfl)) (fun _ _ _ h => h) (Or.inl ⟨by rfl, ?_⟩) ?_ ?_
  rotate_left
  · intro w'
    go_simp
    with_reducible rfl
  rotate_left
  · simp only [Act.put, List.setIfInBounds_toArray, List.set_cons_zero, List.set_cons_succ, i64_w, i32_w]
    rfl
  refine pure_ (i := 7) (N := some 94) (v := ?_) (a' := ?_) #[true, true, true, true, true, true, true, true, false, false, false, false, false, false] rfl rfl (any_of HT_.out (by kernel_rfl)) (fun _ _ _ h => h) (Or.inl ⟨by rfl, ?_⟩) ?_ ?_
  rotate_left
  · intro w'
    go_simp
    with_reducible rfl
  rotate_left
  · simp only [Act.put, List.setIfInBounds_toArray, List.set_cons_zero, List.set_cons_succ, i64_w, i32_w]
    rfl
  refine pure_ (i := 8) (N := some 95) (v := ?_) (a' := ?_) #[true, true, true, true, true, true, true, true, true, false, false, false, false, false] rfl rfl (any_of HT_.out (by kernel_rfl)) (fun _ _ _ h => h) (Or.inl ⟨by rfl, ?_⟩) ?_ ?_
  rotate_left
  · intro w'
    go_simp
    with_reducible rfl
  rotate_left
  · simp only [Act.put, List.setIfInBounds_toArray, List.set_cons_zero, List.set_cons_succ, i64_w, i32_w]
    rfl
  refine pure_ (i := 9) (N := some 96) (v := ?_) (a' := ?_) #[true, true, true, true, true, true, true, true, true, true, false, false, false, false] rfl rfl (any_of HT_.out (by kernel_rfl)) (fun _ _ _ h => h) (Or.inl ⟨by rfl, ?_⟩) ?_ ?_
  rotate_left
  · intro w'
    go_simp
    with_reducible rfl
  rotate_left
  · simp only [Act.put, List.setIfInBounds_toArray, List.set_cons_zero, List.set_cons_succ, i64_w, i32_w]
    rfl
  refine pure_ (i := 10) (N := some 13) (v := ?_) (a' := ?_) #[true, true, true, true, true, true, true, true, true, true, true, false, false, false] rfl rfl (any_of HT_.out (by kernel_rfl)) (fun _ _ _ h => h) (Or.inl ⟨by rfl, ?_⟩) ?_ ?_
  rotate_left
  · intro w'
    go_simp
    with_reducible rfl
  rotate_left
  · simp only [Act.put, List.setIfInBounds_toArray, List.set_cons_zero, List.set_cons_succ, i64_w, i32_w]
    rfl
  refine pure_ (i := 11) (N := some 14) (v := ?_) (a' := ?_) #[true, true, true, true, true, true, true, true, true, true, true, true, false, false] rfl rfl (any_of HT_.out (by kernel_rfl)) (fun _ _ _ h => h) (Or.inl ⟨by rfl, ?_⟩) ?_ ?_
  rotate_left
  · intro w'
    go_simp
    with_reducible rfl
  rotate_left
  · simp only [Act.put, List.setIfInBounds_toArray, List.set_cons_zero, List.set_cons_succ, i64_w, i32_w]
    rfl
  refine pure_ (i := 12) (N := some 15) (v := ?_) (a' := ?_) #[true, true, true, true, true, true, true, true, true, true, true, true, true, false] rfl rfl (any_of HT_.out (by kernel_rfl)) (fun _ _ _ h => h) (Or.inl ⟨by rfl, ?_⟩) ?_ ?_
  rotate_left
  · intro w'
    go_simp
    with_reducible rfl
  rotate_left
  · simp only [Act.put, List.setIfInBounds_toArray, List.set_cons_zero, List.set_cons_succ, i64_w, i32_w]
    rfl
  refine pure_ (i := 13) (N := some 16) (v := ?_) (a' := ?_) #[true, true, true, true, true, true, true, true, true, true, true, true, true, true] rfl rfl (any_of HT_.out (by kernel_rfl)) (fun _ _ _ h => h) (Or.inl ⟨by rfl, ?_⟩) ?_ ?_
  rotate_left
  · intro w'
    go_simp
    with_reducible rfl
  rotate_left
  · simp only [Act.put, List.setIfInBounds_toArray, List.set_cons_zero, List.set_cons_succ, i64_w, i32_w]
    rfl
  refine done_ (done_of HT_.out (by kernel_rfl)) ?_
  clear HT_ HW_
  clear hC14 hc14
  replace F := Aside0.mk (F.out.next hHeld)
  clear hHeld
  go_upto_region 16 with (first | (go_at_call 59; refine (own07_any A cc l HL.out.1 _ F.out.here.1 HL.out.2).mono ?_; rintro e_ w20 ⟨A', c', rfl, hc', hC', hb⟩; replace F := Aside0.mk (F.out.next hb); clear hb) | (go_at_call 62; refine (lines_Where.calls k A' c' l lo _ _ _ _ _ _ _ _ _ hC' hc' F.out.here.2.1 HWA.out).mono ?_; rintro e_ w21 ⟨rfl, hb⟩; replace F := Aside0.mk (F.out.next hb); clear hb hC' hc') | ((with_reducible refine gate_dst (N := 17) rfl ?_); refine box_event ?hg (N := 17) ?hd (cs := #[.int .i64 0, .int .i64 0, .int .i64 0, .int .i64 0, .int .i64 0, .int .i64 0, .int .i64 0]) (t := 79) ?hr ?_; (case hd => rfl); (case hg => rfl); (case hr => first | (go_simp; done) | (go_simp; rfl)); intro gA hgA wA hx hb; have XA := Aside0.mk hx; have BA := Aside0.mk hb; have GA : Aside0 (w21.heap.size ≤ gA) := ⟨by rw [hgA]; exact Nat.le_refl _⟩; clear hx hb hgA; have cA0 : wA.cell? ⟨gA, 0, none⟩ = some (.int .i64 0) := (blk_cell XA.out 0).trans rfl; have fA0 := blk_frozen XA.out 0; have cA1 : wA.cell? ⟨gA, 1, none⟩ = some (.int .i64 0) := (blk_cell XA.out 1).trans rfl; have fA1 := blk_frozen XA.out 1; have cA2 : wA.cell? ⟨gA, 2, none⟩ = some (.int .i64 0) := (blk_cell XA.out 2).trans rfl; have fA2 := blk_frozen XA.out 2; have cA3 : wA.cell? ⟨gA, 3, none⟩ = some (.int .i64 0) := (blk_cell XA.out 3).trans rfl; have fA3 := blk_frozen XA.out 3; have cA4 : wA.cell? ⟨gA, 4, none⟩ = some (.int .i64 0) := (blk_cell XA.out 4).trans rfl; have fA4 := blk_frozen XA.out 4; have cA5 : wA.cell? ⟨gA, 5, none⟩ = some (.int .i64 0) := (blk_cell XA.out 5).trans rfl; have fA5 := blk_frozen XA.out 5; have cA6 : wA.cell? ⟨gA, 6, none⟩ = some (.int .i64 0) := (blk_cell XA.out 6).trans rfl; have fA6 := blk_frozen XA.out 6))
  refine wp_world (fun V1 hV1 => ?_)
  have QA : V1.heap[gA]? = some (.cells #[.int .i64 lo, .int .i64 a2, .int .i64 a3, .int .i64 s, .int .i64 a5, .int .i64 a6, .int .i64 a7] 79 (0, 0)) := by
    rw [hV1]
    refine blk_put (cs := #[.int .i64 lo, .int .i64 a2, .int .i64 a3, .int .i64 s, .int .i64 a5, .int .i64 a6, .int .i64 0]) ?_ 6 _ rfl
    refine blk_put (cs := #[.int .i64 lo, .int .i64 a2, .int .i64 a3, .int .i64 s, .int .i64 a5, .int .i64 0, .int .i64 0]) ?_ 5 _ rfl
    refine blk_put (cs := #[.int .i64 lo, .int .i64 a2, .int .i64 a3, .int .i64 s, .int .i64 0, .int .i64 0, .int .i64 0]) ?_ 4 _ rfl
    refine blk_put (cs := #[.int .i64 lo, .int .i64 a2, .int .i64 a3, .int .i64 0, .int .i64 0, .int .i64 0, .int .i64 0]) ?_ 3 _ rfl
    refine blk_put (cs := #[.int .i64 lo, .int .i64 a2, .int .i64 0, .int .i64 0, .int .i64 0, .int .i64 0, .int .i64 0]) ?_ 2 _ rfl
    refine blk_put (cs := #[.int .i64 lo, .int .i64 0, .int .i64 0, .int .i64 0, .int .i64 0, .int .i64 0, .int .i64 0]) ?_ 1 _ rfl
    refine blk_put (cs := #[.int .i64 0, .int .i64 0, .int .i64 0, .int .i64 0, .int .i64 0, .int .i64 0, .int .i64 0]) ?_ 0 _ rfl
    exact XA.out
  have FV : Keeps (fun W => Kd.C (Kd.int .u8) W A l.length l ∧ Laid W ∧ Below w.heap.size w W ∧ W.cell? ⟨g4, 0, none⟩ = some (.int .i64 s) ∧ W.cell? ⟨g4, 1, none⟩ = some (.int .i64 c)) V1 := by
    have hb : Below w21.heap.size w21 V1 := by
      rw [hV1]
      exact ((((((BA.out.setCell GA.out _).setCell GA.out _).setCell GA.out _).setCell GA.out _).setCell GA.out _).setCell GA.out _).setCell GA.out _
    exact F.out.next hb
  clear cA0 fA0 cA1 fA1 cA2 fA2 cA3 fA3 cA4 fA4 cA5 fA5 cA6 fA6 hV1
  replace F : Aside0 (Keeps (fun W => Kd.C (Kd.int .u8) W A l.length l ∧ Laid W ∧ Below w.heap.size w W ∧ W.cell? ⟨g4, 0, none⟩ = some (.int .i64 s) ∧ W.cell? ⟨g4, 1, none⟩ = some (.int .i64 c) ∧ W.cell? ⟨gA, 0, none⟩ = some (.int .i64 lo) ∧ W.cell? ⟨gA, 3, none⟩ = some (.int .i64 s)) V1) := ⟨fun W hW => by
    obtain ⟨i1, i2, i3, i4, i5⟩ := FV W hW
    exact ⟨i1, i2, i3, i4, i5, keeps_cell ((blk_cell QA 0).trans rfl) W hW, keeps_cell ((blk_cell QA 3).trans rfl) W hW⟩⟩
  clear FV QA XA BA GA
  go_upto_region 17 with (first | (go_at_call 59; refine (own07_any A cc l HL.out.1 _ F.out.here.1 HL.out.2).mono ?_; rintro e_ w20 ⟨A', c', rfl, hc', hC', hb⟩; replace F := Aside0.mk (F.out.next hb); clear hb) | (go_at_call 62; refine (lines_Where.calls k A' c' l hi _ _ _ _ _ _ _ _ _ hC' hc' F.out.here.2.1 HWB.out).mono ?_; rintro e_ w21 ⟨rfl, hb⟩; replace F := Aside0.mk (F.out.next hb); clear hb hC' hc') | ((with_reducible refine gate_dst (N := 19) rfl ?_); refine box_event ?hg (N := 19) ?hd (cs := #[.int .i64 0, .int .i64 0, .int .i64 0, .int .i64 0, .int .i64 0, .int .i64 0, .int .i64 0]) (t := 79) ?hr ?_; (case hd => rfl); (case hg => rfl); (case hr => first | (go_simp; done) | (go_simp; rfl)); intro gB hgB wB hx hb; have XB := Aside0.mk hx; have BB := Aside0.mk hb; have GB : Aside0 (w21.heap.size ≤ gB) := ⟨by rw [hgB]; exact Nat.le_refl _⟩; clear hx hb hgB; have cB0 : wB.cell? ⟨gB, 0, none⟩ = some (.int .i64 0) := (blk_cell XB.out 0).trans rfl; have fB0 := blk_frozen XB.out 0; have cB1 : wB.cell? ⟨gB, 1, none⟩ = some (.int .i64 0) := (blk_cell XB.out 1).trans rfl; have fB1 := blk_frozen XB.out 1; have cB2 : wB.cell? ⟨gB, 2, none⟩ = some (.int .i64 0) := (blk_cell XB.out 2).trans rfl; have fB2 := blk_frozen XB.out 2; have cB3 : wB.cell? ⟨gB, 3, none⟩ = some (.int .i64 0) := (blk_cell XB.out 3).trans rfl; have fB3 := blk_frozen XB.out 3; have cB4 : wB.cell? ⟨gB, 4, none⟩ = some (.int .i64 0) := (blk_cell XB.out 4).trans rfl; have fB4 := blk_frozen XB.out 4; have cB5 : wB.cell? ⟨gB, 5, none⟩ = some (.int .i64 0) := (blk_cell XB.out 5).trans rfl; have fB5 := blk_frozen XB.out 5; have cB6 : wB.cell? ⟨gB, 6, none⟩ = some (.int .i64 0) := (blk_cell XB.out 6).trans rfl; have fB6 := blk_frozen XB.out 6))
  refine wp_world (fun V2 hV2 => ?_)
  have QB : V2.heap[gB]? = some (.cells #[.int .i64 hi, .int .i64 b2, .int .i64 b3, .int .i64 s, .int .i64 b5, .int .i64 b6, .int .i64 b7] 79 (0, 0)) := by
    rw [hV2]
    refine blk_put (cs := #[.int .i64 hi, .int .i64 b2, .int .i64 b3, .int .i64 s, .int .i64 b5, .int .i64 b6, .int .i64 0]) ?_ 6 _ rfl
    refine blk_put (cs := #[.int .i64 hi, .int .i64 b2, .int .i64 b3, .int .i64 s, .int .i64 b5, .int .i64 0, .int .i64 0]) ?_ 5 _ rfl
    refine blk_put (cs := #[.int .i64 hi, .int .i64 b2, .int .i64 b3, .int .i64 s, .int .i64 0, .int .i64 0, .int .i64 0]) ?_ 4 _ rfl
    refine blk_put (cs := #[.int .i64 hi, .int .i64 b2, .int .i64 b3, .int .i64 0, .int .i64 0, .int .i64 0, .int .i64 0]) ?_ 3 _ rfl
    refine blk_put (cs := #[.int .i64 hi, .int .i64 b2, .int .i64 0, .int .i64 0, .int .i64 0, .int .i64 0, .int .i64 0]) ?_ 2 _ rfl
    refine blk_put (cs := #[.int .i64 hi, .int .i64 0, .int .i64 0, .int .i64 0, .int .i64 0, .int .i64 0, .int .i64 0]) ?_ 1 _ rfl
    refine blk_put (cs := #[.int .i64 0, .int .i64 0, .int .i64 0, .int .i64 0, .int .i64 0, .int .i64 0, .int .i64 0]) ?_ 0 _ rfl
    exact XB.out
  have FV : Keeps (fun W => Kd.C (Kd.int .u8) W A l.length l ∧ Laid W ∧ Below w.heap.size w W ∧ W.cell? ⟨g4, 0, none⟩ = some (.int .i64 s) ∧ W.cell? ⟨g4, 1, none⟩ = some (.int .i64 c) ∧ W.cell? ⟨gA, 0, none⟩ = some (.int .i64 lo) ∧ W.cell? ⟨gA, 3, none⟩ = some (.int .i64 s)) V2 := by
    have hb : Below w21.heap.size w21 V2 := by
      rw [hV2]
      exact ((((((BB.out.setCell GB.out _).setCell GB.out _).setCell GB.out _).setCell GB.out _).setCell GB.out _).setCell GB.out _).setCell GB.out _
    exact F.out.next hb
  clear cB0 fB0 cB1 fB1 cB2 fB2 cB3 fB3 cB4 fB4 cB5 fB5 cB6 fB6 hV2
  obtain ⟨i1, i2, i3, i4, i5, i6, i7⟩ := FV.here
  have j0 : V2.cell? ⟨gB, 0, none⟩ = some (.int .i64 hi) := (blk_cell QB 0).trans rfl
  have j3 : V2.cell? ⟨gB, 3, none⟩ = some (.int .i64 s) := (blk_cell QB 3).trans rfl
  have BL := Aside0.mk i3
  clear FV QB XB BB GB F i1 i2 i3
  rcases HEND.out with ⟨rfl, rfl, rfl⟩ | ⟨rfl, h1, h2, h3⟩
  · go_wp2
    go_ret
    exact ⟨by simp, BL.out⟩
  · have d1 : decide (lo < hi) = true := decide_eq_true h1
    have d2 : decide (st ≤ lo) = true := decide_eq_true h2
    have d3 : decide (hi ≤ nx) = true := decide_eq_true h3
    clear h1 h2 h3 HEND
    go_wp2
    go_ret
    exact ⟨by simp, BL.out⟩
end Go.Proofs.YtbomhpfckplgaaaDoor.P
