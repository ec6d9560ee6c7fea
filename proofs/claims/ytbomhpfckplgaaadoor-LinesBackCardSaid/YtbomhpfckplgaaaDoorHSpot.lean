/- What lines.Spot answers. -/
import Derived.Test.YtbomhpfckplgaaaDoorPx54
import Derived.Test.YtbomhpfckplgaaaDoorHKeep
namespace Go.Proofs.YtbomhpfckplgaaaDoor.P
open Go Go.RowKit Go.Proofs.YtbomhpfckplgaaaDoorW.PrintWords Go.Proofs.YtbomhpfckplgaaaDoorW.PrintLast Go.Proofs.YtbomhpfckplgaaaDoorW.PrintMore
set_option linter.unusedVariables false
set_option linter.unusedSimpArgs false
set_option maxRecDepth 100000
attribute [local go_sem] max2_int min2_int max_two min_two max_three min_three max_four min_four
def lines_Spot.T7 : Bool × List (List Nat × List Nat) := (true, [([], []), ([0], [0]), ([], []), ([2], [2]), ([3], [3]), ([1, 4], [1, 4]), ([5, 0, 1, 2, 3, 4, 5], [5]), ([6, 0, 1, 2, 3, 4, 5, 6], [])])
def lines_Spot.B7 : List Nat := [0, 1, 0, 4, 12, 31, 63, 127]
theorem lines_Spot.tab7 : rtab .any (opsOf Tryd.f67 7) = lines_Spot.T7 := by kernel_rfl
theorem lines_Spot.bits7 : waitsOk lines_Spot.T7.2 lines_Spot.B7 = true := by kernel_rfl

def lines_Spot.k (k : Nat) (l : List Int) (p r : Int) : Option (Int × Int × Int) := if 1 ≤ r ∧ r ≤ 3 then (lines_Where.f k l p).bind fun t => if t.2.2.2.2.2.2.2 = 0 then some (t.2.2.2.1, (if r = 1 then t.2.2.2.2.1 else if r = 2 then t.2.2.2.2.2.1 else t.2.2.2.2.2.2.1), 0) else some (0, 0, t.2.2.2.2.2.2.2) else some (0, 0, 3)
open Classical in
noncomputable def lines_Spot.f (l : List Int) (p r : Int) : Option (Int × Int × Int) := if h : ∃ v, ∃ k, lines_Spot.k k l p r = some v then some (Classical.choose h) else none
theorem lines_Spot.fuel {l : List Int} {p r : Int} {v : Int × Int × Int} (h : lines_Spot.f l p r = some v) : ∃ k, lines_Spot.k k l p r = some v := by
  unfold lines_Spot.f at h
  split at h
  · next hh =>
    obtain rfl := Option.some.inj h
    exact Classical.choose_spec hh
  · cases h
set_option maxHeartbeats 8000000 in
theorem lines_Spot.callsK (k : Nat) (A : Option Addr) (c : Nat) (l : List Int) (p r : Int) (r1 r2 r3 : Int) (w : World) (hr0 : Kd.C (Kd.int .u8) w A l.length l) (hc : l.length ≤ c) (hG : Laid w) (h : lines_Spot.k k l p r = some (r1, r2, r3)) :
    Calls Tryd.prog 67 #[.slice A l.length c, .int .i64 p, .int .i64 r] w fun e w' => e = .returned (.tuple #[.agg #[.int .i64 r1, .int .i64 r2], .int .i64 r3]) ∧ Below w.heap.size w w' := by
  have hu71 := Tryd.underlying71
  have hu79 := Tryd.underlying79
  have hu118 := Tryd.underlying118
  unfold lines_Spot.k at h
  have HB := Aside0.mk (Below.refl w.heap.size w)
  have HI : Aside0 (Keeps (fun W => Kd.C (Kd.int .u8) W A l.length l ∧ Laid W) w) := ⟨(keeps_C hr0).and (keeps_laid hG)⟩
  have HC := Aside0.mk hc
  have HH := Aside0.mk h
  clear hr0 hG hc h
  go_enter Tryd.func67, Tryd.ntmps67
  go_upto_region 1 with ((with_reducible refine gate_dst (N := 6) rfl ?_); refine box_event ?hg (N := 6) ?hd (cs := #[.int .i64 0, .int .i64 0]) (t := 71) ?hr ?_; (case hd => rfl); (case hg => rfl); (case hr => first | (go_simp; done) | (go_simp; rfl)); intro g6 hg6 w3 hx6 hb3; have GE6 : Aside0 (w.heap.size ≤ g6) := ⟨by rw [hg6]; exact Nat.le_refl _⟩; have L6 : Aside0 (g6 < w3.heap.size) := ⟨blk_lt hx6⟩; have B3 := Aside0.mk hb3; have X6 := Aside0.mk hx6; clear hg6 hb3 hx6)
  by_cases hr : 1 ≤ r ∧ r ≤ 3
  case neg =>
    have h := HH.out
    rw [if_neg hr] at h
    simp only [Option.some.injEq, Prod.mk.injEq] at h
    obtain ⟨rfl, rfl, rfl⟩ := h
    have c0 : w3.cell? ⟨g6, 0, none⟩ = some (.int .i64 0) := (blk_cell X6.out 0).trans rfl
    have c1 : w3.cell? ⟨g6, 1, none⟩ = some (.int .i64 0) := (blk_cell X6.out 1).trans rfl
    have f0 := blk_frozen X6.out 0
    have f1 := blk_frozen X6.out 1
    have fin : bodyPost Tryd.prog Tryd.f67 (fun e w' => e = .returned (.tuple #[.agg #[.int .i64 0, .int .i64 0], .int .i64 3]) ∧ Below w.heap.size w w') = bodyPost Tryd.prog Tryd.f67 (fun e w' => e = .returned (.tuple #[.agg #[.int .i64 0, .int .i64 0], .int .i64 3]) ∧ Below w.heap.size w w') := rfl
    clear fin HH
    by_cases h1 : r < 1
    · have h1' : decide (r < 1) = true := decide_eq_true h1
      clear hr h1
      go_wp2
      refine bodyPost_ret (results_ct rfl _ _ g6 71 #[.int .i64 0, .int .i64 0] (0, 0) _ rfl (by refine blk_put (cs := #[.int .i64 0, .int .i64 0]) ?_ 1 _ rfl; refine blk_put (cs := #[.int .i64 0, .int .i64 0]) ?_ 0 _ rfl; exact X6.out) Tryd.underlying71 rfl (by kernel_rfl)) rfl ?_
      exact ⟨rfl, (B3.out.setCell GE6.out _).setCell GE6.out _⟩
    · have h1' : decide (r < 1) = false := decide_eq_false h1
      have h2' : decide (3 < r) = true := decide_eq_true (by omega)
      clear hr h1
      go_wp2
      refine bodyPost_ret (results_ct rfl _ _ g6 71 #[.int .i64 0, .int .i64 0] (0, 0) _ rfl (by refine blk_put (cs := #[.int .i64 0, .int .i64 0]) ?_ 1 _ rfl; refine blk_put (cs := #[.int .i64 0, .int .i64 0]) ?_ 0 _ rfl; exact X6.out) Tryd.underlying71 rfl (by kernel_rfl)) rfl ?_
      exact ⟨rfl, (B3.out.setCell GE6.out _).setCell GE6.out _⟩
  have h1' : decide (r < 1) = false := decide_eq_false (by omega)
  have h2' : decide (3 < r) = false := decide_eq_false (by omega)
  have h := HH.out
  clear HH
  rw [if_pos hr] at h
  obtain ⟨⟨t1, t2, t3, t4, t5, t6, t7, t8⟩, hw, h⟩ := Option.bind_eq_some_iff.1 h
  have A1 := Aside0.mk hw
  have HH : Aside0 ((if t8 = 0 then some (t4, (if r = 1 then t5 else if r = 2 then t6 else t7), 0) else some (0, 0, t8)) = some (r1, r2, r3)) := ⟨h⟩
  have HR := Aside0.mk hr
  clear hw h hr
  go_upto_region 4 with (first | (go_at_call 62; refine (lines_Where.calls k A c l p t1 t2 t3 t4 t5 t6 t7 t8 _ (HI.out.of B3.out).1 HC.out (HI.out.of B3.out).2 A1.out).mono ?_; rintro e w4 ⟨rfl, hb4⟩; have B4 := Aside0.mk hb4; clear hb4) | ((with_reducible refine gate_dst (N := 8) rfl ?_); refine box_event ?hg (N := 8) ?hd (cs := #[.int .i64 0, .int .i64 0, .int .i64 0, .int .i64 0, .int .i64 0, .int .i64 0, .int .i64 0]) (t := 79) ?hr ?_; (case hd => rfl); (case hg => rfl); (case hr => first | (go_simp; done) | (go_simp; rfl)); intro g8 hg8 w5 hx8 hb5; have X8 := Aside0.mk hx8; have B5 := Aside0.mk hb5; have L8 : Aside0 (g6 < g8) := ⟨by rw [hg8]; exact Nat.lt_of_lt_of_le L6.out B4.out.size⟩; clear hx8 hb5 hg8; have c80 : w5.cell? ⟨g8, 0, none⟩ = some (.int .i64 0) := (blk_cell X8.out 0).trans rfl; have f80 := blk_frozen X8.out 0; have c81 : w5.cell? ⟨g8, 1, none⟩ = some (.int .i64 0) := (blk_cell X8.out 1).trans rfl; have f81 := blk_frozen X8.out 1; have c82 : w5.cell? ⟨g8, 2, none⟩ = some (.int .i64 0) := (blk_cell X8.out 2).trans rfl; have f82 := blk_frozen X8.out 2; have c83 : w5.cell? ⟨g8, 3, none⟩ = some (.int .i64 0) := (blk_cell X8.out 3).trans rfl; have f83 := blk_frozen X8.out 3; have c84 : w5.cell? ⟨g8, 4, none⟩ = some (.int .i64 0) := (blk_cell X8.out 4).trans rfl; have f84 := blk_frozen X8.out 4; have c85 : w5.cell? ⟨g8, 5, none⟩ = some (.int .i64 0) := (blk_cell X8.out 5).trans rfl; have f85 := blk_frozen X8.out 5; have c86 : w5.cell? ⟨g8, 6, none⟩ = some (.int .i64 0) := (blk_cell X8.out 6).trans rfl; have f86 := blk_frozen X8.out 6))
  refine wp_world (fun W hW => ?_)
  have NE : g6 ≠ g8 := Nat.ne_of_lt L8.out
  have NE' : g8 ≠ g6 := fun h_ => NE h_.symm
  have Q8 : Aside0 (W.heap[g8]? = some (.cells #[.int .i64 t1, .int .i64 t2, .int .i64 t3, .int .i64 t4, .int .i64 t5, .int .i64 t6, .int .i64 t7] 79 (0, 0))) := ⟨by
    rw [hW]
    refine blk_put (cs := #[.int .i64 t1, .int .i64 t2, .int .i64 t3, .int .i64 t4, .int .i64 t5, .int .i64 t6, .int .i64 0]) ?_ 6 _ rfl
    refine blk_put (cs := #[.int .i64 t1, .int .i64 t2, .int .i64 t3, .int .i64 t4, .int .i64 t5, .int .i64 0, .int .i64 0]) ?_ 5 _ rfl
    refine blk_put (cs := #[.int .i64 t1, .int .i64 t2, .int .i64 t3, .int .i64 t4, .int .i64 0, .int .i64 0, .int .i64 0]) ?_ 4 _ rfl
    refine blk_put (cs := #[.int .i64 t1, .int .i64 t2, .int .i64 t3, .int .i64 0, .int .i64 0, .int .i64 0, .int .i64 0]) ?_ 3 _ rfl
    refine blk_put (cs := #[.int .i64 t1, .int .i64 t2, .int .i64 0, .int .i64 0, .int .i64 0, .int .i64 0, .int .i64 0]) ?_ 2 _ rfl
    refine blk_put (cs := #[.int .i64 t1, .int .i64 0, .int .i64 0, .int .i64 0, .int .i64 0, .int .i64 0, .int .i64 0]) ?_ 1 _ rfl
    refine blk_put (cs := #[.int .i64 0, .int .i64 0, .int .i64 0, .int .i64 0, .int .i64 0, .int .i64 0, .int .i64 0]) ?_ 0 _ rfl
    exact X8.out⟩
  have Q6 : Aside0 (W.heap[g6]? = some (.cells #[.int .i64 0, .int .i64 0] 71 (0, 0))) := ⟨by
    rw [hW]
    refine blk_far ?_ NE _
    refine blk_far ?_ NE _
    refine blk_far ?_ NE _
    refine blk_far ?_ NE _
    refine blk_far ?_ NE _
    refine blk_far ?_ NE _
    refine blk_far ?_ NE _
    exact blk_below (blk_below X6.out B4.out) B5.out⟩
  have GE8 : Aside0 (w.heap.size ≤ g8) := ⟨Nat.le_trans GE6.out (Nat.le_of_lt L8.out)⟩
  have BW : Aside0 (Below w.heap.size w W) := ⟨by
    have b4 := B3.out.trans (B4.out.mono B3.out.size)
    have b45 := b4.trans (B5.out.mono b4.size)
    rw [hW]
    exact ((((((b45.setCell GE8.out _).setCell GE8.out _).setCell GE8.out _).setCell GE8.out _).setCell GE8.out _).setCell GE8.out _).setCell GE8.out _⟩
  clear c80 f80 c81 f81 c82 f82 c83 f83 c84 f84 c85 f85 c86 f86
  clear hW
  by_cases e : t8 = 0
  case neg =>
    have c60 : W.cell? ⟨g6, 0, none⟩ = some (.int .i64 0) := (blk_cell Q6.out 0).trans rfl
    have c61 : W.cell? ⟨g6, 1, none⟩ = some (.int .i64 0) := (blk_cell Q6.out 1).trans rfl
    have f60 := blk_frozen Q6.out 0
    have f61 := blk_frozen Q6.out 1
    have h := HH.out
    rw [if_neg e] at h
    simp only [Option.some.injEq, Prod.mk.injEq] at h
    obtain ⟨rfl, rfl, rfl⟩ := h
    have e' : (t8 != 0) = true := by simp [e]
    clear HH e
    go_wp2
    refine bodyPost_ret (results_ct rfl _ _ g6 71 #[.int .i64 0, .int .i64 0] (0, 0) _ rfl (by refine blk_put (cs := #[.int .i64 0, .int .i64 0]) ?_ 1 _ rfl; refine blk_put (cs := #[.int .i64 0, .int .i64 0]) ?_ 0 _ rfl; exact Q6.out) Tryd.underlying71 rfl (by kernel_rfl)) rfl ?_
    exact ⟨rfl, (BW.out.setCell GE6.out _).setCell GE6.out _⟩
  subst e
  have h := HH.out
  rw [if_pos rfl] at h
  simp only [Option.some.injEq, Prod.mk.injEq] at h
  obtain ⟨rfl, htv, rfl⟩ := h
  have HTV := Aside0.mk htv
  clear HH htv
  have c84 : W.cell? ⟨g8, 4, none⟩ = some (.int .i64 t5) := (blk_cell Q8.out 4).trans rfl
  have c85 : W.cell? ⟨g8, 5, none⟩ = some (.int .i64 t6) := (blk_cell Q8.out 5).trans rfl
  have c86 : W.cell? ⟨g8, 6, none⟩ = some (.int .i64 t7) := (blk_cell Q8.out 6).trans rfl
  go_upto_region 7 with ((with_reducible refine gate_dst (N := 10) rfl ?_); refine box_event ?hg (N := 10) ?hd (cs := #[.int .i64 0, .int .i64 0, .int .i64 0, .int .i64 0]) (t := 118) ?hr ?_; (case hd => rfl); (case hg => rfl); (case hr => first | (go_simp; done) | (go_simp; rfl)); intro gA hgA wA hxA hbA; have XA := Aside0.mk hxA; have BA := Aside0.mk hbA; have LA : Aside0 (g6 < gA ∧ g8 < gA) := ⟨by rw [hgA]; exact ⟨blk_lt Q6.out, blk_lt Q8.out⟩⟩; clear hxA hbA hgA; have cA0 : wA.cell? ⟨gA, 0, none⟩ = some (.int .i64 0) := (blk_cell XA.out 0).trans rfl; have fA0 := blk_frozen XA.out 0; have cA1 : wA.cell? ⟨gA, 1, none⟩ = some (.int .i64 0) := (blk_cell XA.out 1).trans rfl; have fA1 := blk_frozen XA.out 1; have cA2 : wA.cell? ⟨gA, 2, none⟩ = some (.int .i64 0) := (blk_cell XA.out 2).trans rfl; have fA2 := blk_frozen XA.out 2; have cA3 : wA.cell? ⟨gA, 3, none⟩ = some (.int .i64 0) := (blk_cell XA.out 3).trans rfl; have fA3 := blk_frozen XA.out 3)
  refine wp_world (fun V hV => ?_)
  have NA6 : g6 ≠ gA := Nat.ne_of_lt LA.out.1
  have NA8 : g8 ≠ gA := Nat.ne_of_lt LA.out.2
  have GEA : Aside0 (w.heap.size ≤ gA) := ⟨Nat.le_trans GE6.out (Nat.le_of_lt LA.out.1)⟩
  have QA : V.heap[gA]? = some (.cells #[.int .i64 0, .int .i64 t5, .int .i64 t6, .int .i64 t7] 118 (0, 0)) := by
    rw [hV]
    refine blk_put (cs := #[.int .i64 0, .int .i64 t5, .int .i64 t6, .int .i64 0]) ?_ 3 _ rfl
    refine blk_put (cs := #[.int .i64 0, .int .i64 t5, .int .i64 0, .int .i64 0]) ?_ 2 _ rfl
    refine blk_put (cs := #[.int .i64 0, .int .i64 0, .int .i64 0, .int .i64 0]) ?_ 1 _ rfl
    refine blk_put (cs := #[.int .i64 0, .int .i64 0, .int .i64 0, .int .i64 0]) ?_ 0 _ rfl
    exact XA.out
  have Q8V : V.heap[g8]? = some (.cells #[.int .i64 t1, .int .i64 t2, .int .i64 t3, .int .i64 t4, .int .i64 t5, .int .i64 t6, .int .i64 t7] 79 (0, 0)) := by
    rw [hV]
    refine blk_far ?_ NA8 _
    refine blk_far ?_ NA8 _
    refine blk_far ?_ NA8 _
    refine blk_far ?_ NA8 _
    exact blk_below Q8.out BA.out
  have Q6V : V.heap[g6]? = some (.cells #[.int .i64 0, .int .i64 0] 71 (0, 0)) := by
    rw [hV]
    refine blk_far ?_ NA6 _
    refine blk_far ?_ NA6 _
    refine blk_far ?_ NA6 _
    refine blk_far ?_ NA6 _
    exact blk_below Q6.out BA.out
  have BV : Aside0 (Below w.heap.size w V) := ⟨by
    rw [hV]
    exact ((((BW.out.trans (BA.out.mono BW.out.size)).setCell GEA.out _).setCell GEA.out _).setCell GEA.out _).setCell GEA.out _⟩
  obtain ⟨n, rfl⟩ : ∃ n : Nat, r = n := ⟨r.toNat, by have := HR.out; omega⟩
  have hr4 : (n : Int) < 4 := by have := HR.out; omega
  have htv := HTV.out
  have hcol : V.cell? ⟨gA, n, none⟩ = some (.int .i64 r2) := by
    have := HR.out
    refine (blk_cell QA n).trans ?_
    obtain rfl | rfl | rfl : n = 1 ∨ n = 2 ∨ n = 3 := by omega
    · simp at htv; rw [htv]; rfl
    · simp at htv; rw [htv]; rfl
    · simp at htv; rw [htv]; rfl
  have FS : Aside0 (Keeps (fun W' => W'.cell? ⟨g8, 3, none⟩ = some (.int .i64 t4) ∧ W'.cell? ⟨gA, n, none⟩ = some (.int .i64 r2)) V) := ⟨(keeps_cell ((blk_cell Q8V 3).trans rfl)).and (keeps_cell hcol)⟩
  have F6 := Aside0.mk (keeps_blk Q6V)
  have FZ : Aside0 (Keeps (fun W' => W'.cell? ⟨g6, 0, none⟩ = some (.int .i64 0) ∧ W'.cell? ⟨g6, 1, none⟩ = some (.int .i64 0) ∧ W'.frozen? ⟨g6, 0, none⟩ = false ∧ W'.frozen? ⟨g6, 1, none⟩ = false) V) := ⟨fun W' hW' => by
    have q := keeps_blk Q6V W' hW'
    exact ⟨(blk_cell q 0).trans rfl, (blk_cell q 1).trans rfl, blk_frozen q 0, blk_frozen q 1⟩⟩
  clear QA Q8V Q6V hcol hV NA6 NA8 cA0 cA1 cA2 cA3 fA0 fA1 fA2 fA3 c84 c85 c86 NE NE'
  clear htv
  refine start_ (n := 8) (S := fun w' => Below V.heap.size V w') (ds := [6]) #[false, false, false, false, false, false, false, false] (by kernel_rfl) rfl rfl (Below.refl _ _).drew (fun hHeld => ?_); refine with_tabW lines_Spot.tab7 lines_Spot.bits7 (fun HT_ HW_ => ?_)
  obtain ⟨V2, hZ_⟩ : ∃ Z_, V.drew = Z_ := ⟨_, rfl⟩
  rw [hZ_] at hHeld ⊢
  clear hZ_
  refine pure_ (i := 0) (N := some 35) (v := ?_) (a' := ?_) #[true, false, false, false, false, false, false, false] rfl rfl (any_of HT_.out (by kernel_rfl)) (fun _ _ _ h => h) (Or.inl ⟨by rfl, ?_⟩) ?_ ?_
  rotate_left
  · intro w'
    go_simp
    with_reducible rfl
  rotate_left
  · simp only [Act.put, List.setIfInBounds_toArray, List.set_cons_zero, List.set_cons_succ, i64_w, i32_w]
    rfl
  refine pure_ (i := 2) (N := some 37) (v := ?_) (a' := ?_) #[true, false, true, false, false, false, false, false] rfl rfl (any_of HT_.out (by kernel_rfl)) (fun _ _ _ h => h) (Or.inl ⟨by rfl, ?_⟩) ?_ ?_
  rotate_left
  · intro w'
    go_simp
    with_reducible rfl
  rotate_left
  · simp only [Act.put, List.setIfInBounds_toArray, List.set_cons_zero, List.set_cons_succ, i64_w, i32_w]
    rfl
  refine pure_ (i := 3) (N := some 38) (v := ?_) (a' := ?_) #[true, false, true, true, false, false, false, false] rfl rfl (any_of HT_.out (by kernel_rfl)) (fun _ _ _ h => h) (Or.inl ⟨by rfl, ?_⟩) ?_ ?_
  rotate_left
  · intro w'
    go_simp
    with_reducible rfl
  rotate_left
  · simp only [Act.put, List.setIfInBounds_toArray, List.set_cons_zero, List.set_cons_succ, i64_w, i32_w]
    rfl
  refine take_ (i := 1) (N := some 36) (v := ?_) (a' := ?_) #[true, true, true, true, false, false, false, false] rfl rfl (take_ofW HT_.out HW_.out (by kernel_rfl)) (fun _ _ _ h => h) (Or.inl ⟨by rfl, ?_⟩) hHeld ?_ ?_
  rotate_left
  · intro w' hS_
    obtain ⟨s0, s1⟩ := FS.out.of hS_
    go_simp
    with_reducible rfl
  rotate_left
  · simp only [Act.put, List.setIfInBounds_toArray, List.set_cons_zero, List.set_cons_succ, i64_w, i32_w]
    rfl
  refine take_ (i := 4) (N := some 39) (v := ?_) (a' := ?_) #[true, true, true, true, true, false, false, false] rfl rfl (take_ofW HT_.out HW_.out (by kernel_rfl)) (fun _ _ _ h => h) (Or.inl ⟨by rfl, ?_⟩) hHeld ?_ ?_
  rotate_left
  · intro w' hS_
    obtain ⟨s0, s1⟩ := FS.out.of hS_
    go_simp
    with_reducible rfl
  rotate_left
  · simp only [Act.put, List.setIfInBounds_toArray, List.set_cons_zero, List.set_cons_succ, i64_w, i32_w]
    rfl
  refine pure_ (i := 5) (N := some 40) (v := ?_) (a' := ?_) #[true, true, true, true, true, true, false, false] rfl rfl (any_of HT_.out (by kernel_rfl)) (fun _ _ _ h => h) (Or.inl ⟨by rfl, ?_⟩) ?_ ?_
  rotate_left
  · intro w'
    go_simp
    with_reducible rfl
  rotate_left
  · simp only [Act.put, List.setIfInBounds_toArray, List.set_cons_zero, List.set_cons_succ, i64_w, i32_w]
    rfl
  refine last_ (i := 6) (N := none) #[true, true, true, true, true, true, true, false] rfl rfl (one_of HT_.out (by kernel_rfl)) (by decide) (fun K hK => ?_)
  have hcell := (FZ.out.of hHeld)
  obtain ⟨d0, d1, d2, d3⟩ := hcell
  refine skip_ (w1 := ?_) (by rfl) rfl ?_ ?_
  rotate_left
  · go_simp
    rfl
  refine hK.out _ _ ?_
  clear hK K
  refine pure_ (i := 7) (N := some 7) (v := ?_) (a' := ?_) #[true, true, true, true, true, true, true, true] rfl rfl (any_of HT_.out (by kernel_rfl)) (fun _ _ _ h => h) (Or.inl ⟨by rfl, ?_⟩) ?_ ?_
  rotate_left
  · intro w'
    go_simp
    with_reducible rfl
  rotate_left
  · simp only [Act.put, List.setIfInBounds_toArray, List.set_cons_zero, List.set_cons_succ, i64_w, i32_w]
    rfl
  refine done_ (done_of HT_.out (by kernel_rfl)) ?_
  clear HT_ HW_
  go_wp2
  refine bodyPost_ret (results_ct rfl _ _ g6 71 #[.int .i64 t4, .int .i64 r2] (0, 0) _ rfl (by refine blk_put (cs := #[.int .i64 t4, .int .i64 0]) ?_ 1 _ rfl; refine blk_put (cs := #[.int .i64 0, .int .i64 0]) ?_ 0 _ rfl; exact F6.out.of hHeld) Tryd.underlying71 rfl (by kernel_rfl)) rfl ?_
  have b2 := BV.out.trans (hHeld.mono BV.out.size)
  exact ⟨rfl, (b2.setCell GE6.out _).setCell GE6.out _⟩
theorem lines_Spot.calls (A0 : Option Addr) (c0 : Nat) (l0 : List Int) (a1 : Int) (a2 : Int) (r1 : Int) (r2 : Int) (r3 : Int) (w : World) (hr0 : Kd.C (Kd.int .u8) w A0 l0.length l0) (hc0 : l0.length ≤ c0) (hG : Laid w) (h : lines_Spot.f l0 a1 a2 = some (r1, r2, r3)) :
    Calls Tryd.prog 67 #[.slice A0 l0.length c0, .int .i64 a1, .int .i64 a2] w fun e w' => e = .returned (.tuple #[.agg #[.int .i64 r1, .int .i64 r2], .int .i64 r3]) ∧ Below w.heap.size w w' := by
  obtain ⟨k, hk⟩ := lines_Spot.fuel h
  exact lines_Spot.callsK k A0 c0 l0 a1 a2 r1 r2 r3 w hr0 hc0 hG hk
end Go.Proofs.YtbomhpfckplgaaaDoor.P
