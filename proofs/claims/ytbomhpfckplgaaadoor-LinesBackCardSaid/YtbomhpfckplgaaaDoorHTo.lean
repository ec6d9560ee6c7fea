/- What rule.find and rule.To answer: an edge of a text sought by its place. The world bears the variable step.bad as it was laid. -/
import Derived.Test.YtbomhpfckplgaaaDoorH
import Derived.Test.YtbomhpfckplgaaaDoorPx5
namespace Go.Proofs.YtbomhpfckplgaaaDoor.P
open Go Go.RowKit Go.Shelf Go.Proofs.YtbomhpfckplgaaaDoorW.PrintWords Go.Proofs.YtbomhpfckplgaaaDoorW.PrintLast Go.Proofs.YtbomhpfckplgaaaDoorW.PrintMore
set_option linter.unusedVariables false
set_option linter.unusedSimpArgs false
set_option maxRecDepth 100000
attribute [local go_sem] Oper.semAt_some

/-- The search: the edge found (or the last one below), and the error's number. -/
def findE (r : Nat) (place m : Int) : Edge3 → List Edge3 → Edge3 × Int
  | b, [] => (b, 2)
  | b, x :: xs => if pickE x r = place then (x, 0) else if pickE x r < place then findE r place m x xs else if m = 1 then (b, 0) else if m = 2 then (x, 0) else (b, 4)
theorem find_results {tmps : Array Value} {W : World} {g g' : Nat} {cs : Array Value} {n : Int} (hs : cs.size = 4) (h8 : tmps.getD 8 undef = .pointer (some ⟨g, 0, none⟩)) (h9 : tmps.getD 9 undef = .pointer (some ⟨g', 0, none⟩))
    (q8 : W.heap[g]? = some (.cells cs 118 (0, 0))) (q9 : W.heap[g']? = some (.cells #[.int .i64 n] 24 (0, 0))) : (results Tryd.f83 tmps).run Tryd.prog W = .ok (.tuple #[.agg cs, .int .i64 n]) W := by
  have h1 : tmps[8]?.getD undef = .pointer (some ⟨g, 0, none⟩) := by simpa using h8
  have h2 : tmps[9]?.getD undef = .pointer (some ⟨g', 0, none⟩) := by simpa using h9
  have hr := run_loadVar_row (P := Tryd.prog) W g 118 118 cs (0, 0) _ q8 Tryd.underlying118 rfl (by rw [hs]; kernel_rfl)
  have c9 : W.cell? ⟨g', 0, none⟩ = some (.int .i64 n) := (blk_cell q9 0).trans rfl
  have hl : (loadVar 24 ⟨g', 0, none⟩).run Tryd.prog W = .ok (.int .i64 n) W := by
    go_simp
  simp [results, show Tryd.f83.results = #[.cell 8 118, .cell 9 24] from rfl, h1, h2, asAddr, hr, hl]
section
variable {Y w : World} {b k n : Nat} {t : TypeId} {u0 u1 u2 u3 v0 v1 v2 v3 : Value}
def put4 (Y : World) (b : Nat) (v0 v1 v2 v3 : Value) : World := (((Y.setCell ⟨b, 0, none⟩ v0).setCell ⟨b, 1, none⟩ v1).setCell ⟨b, 2, none⟩ v2).setCell ⟨b, 3, none⟩ v3
theorem put4_same (h : Y.heap[b]? = some (.cells #[u0, u1, u2, u3] t (0, 0))) : (put4 Y b v0 v1 v2 v3).heap[b]? = some (.cells #[v0, v1, v2, v3] t (0, 0)) :=
  blk_put (cs := #[v0, v1, v2, u3]) (blk_put (cs := #[v0, v1, u2, u3]) (blk_put (cs := #[v0, u1, u2, u3]) (blk_put (cs := #[u0, u1, u2, u3]) h 0 _ rfl) 1 _ rfl) 2 _ rfl) 3 _ rfl
theorem put4_far (h : k ≠ b) : (put4 Y b v0 v1 v2 v3).heap[k]? = Y.heap[k]? :=
  (Below.heap_setCell _ _ _ k h).trans ((Below.heap_setCell _ _ _ k h).trans ((Below.heap_setCell _ _ _ k h).trans (Below.heap_setCell _ _ _ k h)))
theorem put4_KpC {C : Nat → Obj → Prop} (h : ∀ o, C b o) : KpC C Y (put4 Y b v0 v1 v2 v3) := (KpC.setCell _ _ _ h).trans ((KpC.setCell _ _ _ h).trans ((KpC.setCell _ _ _ h).trans (KpC.setCell _ _ _ h)))
theorem put4_below (hB : Below n w Y) (h : n ≤ b) : Below n w (put4 Y b v0 v1 v2 v3) := (((hB.setCell h _).setCell h _).setCell h _).setCell h _
end
set_option maxHeartbeats 8000000 in
theorem find_any (A : Option Addr) (c : Nat) (l : List Int) (hl : l.length ≤ 140737488351232) (r : Nat) (h1 : 1 ≤ r) (h3 : r ≤ 3) (place m : Int) (w : World) (hr : Kd.C (Kd.int .u8) w A l.length l) (hG : Laid w) :
    Calls Tryd.prog 83 #[.slice A l.length c, .int .i64 r, .int .i64 place, .int .i64 m] w fun e w' => e = .returned (.tuple #[.agg (aggE (findE r place m e0 (edgesL l)).1), .int .i64 (findE r place m e0 (edgesL l)).2]) ∧ Below w.heap.size w w' := by
  refine (callsIn_wide (n := 30)).1 ?_
  refine callsIn_of_wp_marks Tryd.func83 rfl trivial ?_ rfl
  simp only [Tryd.ntmps83, List.size_toArray, List.length_cons, List.length_nil, Nat.reduceAdd, Nat.reduceSub, Array.replicate_succ, Array.replicate_zero, List.push_toArray, List.append_toArray, List.nil_append, List.cons_append]
  have HG := Aside0.mk hG
  have HR := Aside0.mk hr
  clear hG hr
  gi_wp2_with (refine ⟨trivial, ?_⟩; gi_at_call 80; refine (callsIn_wide.2 (edges_any A c l.length _)).mono ?_; rintro e w3 ⟨rfl, rfl⟩)
  obtain ⟨W0, hW0⟩ : ∃ W0, (((((((w.alloc (.cells #[.int .i64 r] 28)).alloc (.cells #[.int .i64 place] 3)).alloc (.cells #[.int .i64 m] 41)).alloc (.cells #[.int .i64 0, .int .i64 0, .int .i64 0, .int .i64 0] 118)).alloc (.cells #[.int .i64 0] 24)).alloc (.cells #[.int .i64 0, .int .i64 0, .int .i64 0, .int .i64 0] 118)).alloc (.cells #[.slice A l.length c] 22)) = W0 := ⟨_, rfl⟩
  have b0 : W0.heap[w.heap.size]? = some (.cells #[.int .i64 r] 28 (0, 0)) := by
    have h_ := blk_alloc (blk_alloc (blk_alloc (blk_alloc (blk_alloc (blk_alloc (blk_new w (.cells #[.int .i64 r] 28)) (.cells #[.int .i64 place] 3)) (.cells #[.int .i64 m] 41)) (.cells #[.int .i64 0, .int .i64 0, .int .i64 0, .int .i64 0] 118)) (.cells #[.int .i64 0] 24)) (.cells #[.int .i64 0, .int .i64 0, .int .i64 0, .int .i64 0] 118)) (.cells #[.slice A l.length c] 22)
    skip
    rw [← hW0]
    exact h_
  have b1 : W0.heap[w.heap.size + 1]? = some (.cells #[.int .i64 place] 3 (0, 0)) := by
    have h_ := blk_alloc (blk_alloc (blk_alloc (blk_alloc (blk_alloc (blk_new (w.alloc (.cells #[.int .i64 r] 28)) (.cells #[.int .i64 place] 3)) (.cells #[.int .i64 m] 41)) (.cells #[.int .i64 0, .int .i64 0, .int .i64 0, .int .i64 0] 118)) (.cells #[.int .i64 0] 24)) (.cells #[.int .i64 0, .int .i64 0, .int .i64 0, .int .i64 0] 118)) (.cells #[.slice A l.length c] 22)
    simp only [World.size_alloc] at h_
    rw [← hW0]
    exact h_
  have b2 : W0.heap[w.heap.size + 1 + 1]? = some (.cells #[.int .i64 m] 41 (0, 0)) := by
    have h_ := blk_alloc (blk_alloc (blk_alloc (blk_alloc (blk_new ((w.alloc (.cells #[.int .i64 r] 28)).alloc (.cells #[.int .i64 place] 3)) (.cells #[.int .i64 m] 41)) (.cells #[.int .i64 0, .int .i64 0, .int .i64 0, .int .i64 0] 118)) (.cells #[.int .i64 0] 24)) (.cells #[.int .i64 0, .int .i64 0, .int .i64 0, .int .i64 0] 118)) (.cells #[.slice A l.length c] 22)
    simp only [World.size_alloc] at h_
    rw [← hW0]
    exact h_
  have b3 : W0.heap[w.heap.size + 1 + 1 + 1]? = some (.cells #[.int .i64 0, .int .i64 0, .int .i64 0, .int .i64 0] 118 (0, 0)) := by
    have h_ := blk_alloc (blk_alloc (blk_alloc (blk_new (((w.alloc (.cells #[.int .i64 r] 28)).alloc (.cells #[.int .i64 place] 3)).alloc (.cells #[.int .i64 m] 41)) (.cells #[.int .i64 0, .int .i64 0, .int .i64 0, .int .i64 0] 118)) (.cells #[.int .i64 0] 24)) (.cells #[.int .i64 0, .int .i64 0, .int .i64 0, .int .i64 0] 118)) (.cells #[.slice A l.length c] 22)
    simp only [World.size_alloc] at h_
    rw [← hW0]
    exact h_
  have b4 : W0.heap[w.heap.size + 1 + 1 + 1 + 1]? = some (.cells #[.int .i64 0] 24 (0, 0)) := by
    have h_ := blk_alloc (blk_alloc (blk_new ((((w.alloc (.cells #[.int .i64 r] 28)).alloc (.cells #[.int .i64 place] 3)).alloc (.cells #[.int .i64 m] 41)).alloc (.cells #[.int .i64 0, .int .i64 0, .int .i64 0, .int .i64 0] 118)) (.cells #[.int .i64 0] 24)) (.cells #[.int .i64 0, .int .i64 0, .int .i64 0, .int .i64 0] 118)) (.cells #[.slice A l.length c] 22)
    simp only [World.size_alloc] at h_
    rw [← hW0]
    exact h_
  have b5 : W0.heap[w.heap.size + 1 + 1 + 1 + 1 + 1]? = some (.cells #[.int .i64 0, .int .i64 0, .int .i64 0, .int .i64 0] 118 (0, 0)) := by
    have h_ := blk_alloc (blk_new (((((w.alloc (.cells #[.int .i64 r] 28)).alloc (.cells #[.int .i64 place] 3)).alloc (.cells #[.int .i64 m] 41)).alloc (.cells #[.int .i64 0, .int .i64 0, .int .i64 0, .int .i64 0] 118)).alloc (.cells #[.int .i64 0] 24)) (.cells #[.int .i64 0, .int .i64 0, .int .i64 0, .int .i64 0] 118)) (.cells #[.slice A l.length c] 22)
    simp only [World.size_alloc] at h_
    rw [← hW0]
    exact h_
  have b6 : W0.heap[w.heap.size + 1 + 1 + 1 + 1 + 1 + 1]? = some (.cells #[.slice A l.length c] 22 (0, 0)) := by
    have h_ := blk_new ((((((w.alloc (.cells #[.int .i64 r] 28)).alloc (.cells #[.int .i64 place] 3)).alloc (.cells #[.int .i64 m] 41)).alloc (.cells #[.int .i64 0, .int .i64 0, .int .i64 0, .int .i64 0] 118)).alloc (.cells #[.int .i64 0] 24)).alloc (.cells #[.int .i64 0, .int .i64 0, .int .i64 0, .int .i64 0] 118)) (.cells #[.slice A l.length c] 22)
    simp only [World.size_alloc] at h_
    rw [← hW0]
    exact h_
  have hb : Below w.heap.size w W0 := by
    rw [← hW0]
    exact (((((((Below.refl _ w).alloc (by (try simp only [World.size_alloc]); omega) _).alloc (by (try simp only [World.size_alloc]); omega) _).alloc (by (try simp only [World.size_alloc]); omega) _).alloc (by (try simp only [World.size_alloc]); omega) _).alloc (by (try simp only [World.size_alloc]); omega) _).alloc (by (try simp only [World.size_alloc]); omega) _).alloc (by (try simp only [World.size_alloc]); omega) _
  have hz : W0.heap.size = w.heap.size + 7 := by rw [← hW0]; simp only [World.size_alloc]
  rw [hW0]
  clear hW0
  refine wpIn_seq (T := T118) (fun _ h => .inl h) (by omega) (gf := 115) (lb := #[.pointer (some ⟨w.heap.size + 1 + 1 + 1 + 1 + 1 + 1, 0, none⟩)]) rfl (enters_of Tryd.func115 (by kernel_rfl) rfl)
    (edges1_seq A c l hl W0 (HG.out.below hb) (w.heap.size + 1 + 1 + 1 + 1 + 1 + 1) b6 (Kd.C_below HR.out hb)) (fun k _ => w.heap.size + 1 + 1 + 1 ≤ k ∧ k ≤ w.heap.size + 1 + 1 + 1 + 1 + 1) ?hS ?hD (Below.refl _ _) (fun _ => rfl)
    (fun pre X => X.heap[w.heap.size]? = some (.cells #[.int .i64 r] 28 (0, 0)) ∧ (X.heap[w.heap.size + 1]? = some (.cells #[.int .i64 place] 3 (0, 0)) ∧ (X.heap[w.heap.size + 1 + 1]? = some (.cells #[.int .i64 m] 41 (0, 0)) ∧ (X.heap[w.heap.size + 1 + 1 + 1]? = some (.cells (aggE e0) 118 (0, 0)) ∧ (X.heap[w.heap.size + 1 + 1 + 1 + 1]? = some (.cells #[.int .i64 0] 24 (0, 0)) ∧ (X.heap[w.heap.size + 1 + 1 + 1 + 1 + 1]? = some (.cells (aggE (pre.getLast?.getD e0)) 118 (0, 0)) ∧ (Below w.heap.size w X ∧ (∀ rest, edgesL l = pre ++ rest → findE r place m e0 (edgesL l) = findE r place m (pre.getLast?.getD e0) rest))))))))
    (fun cc pre X => cc = .ret ∧ (X.heap[w.heap.size + 1 + 1 + 1]? = some (.cells (aggE (findE r place m e0 (edgesL l)).1) 118 (0, 0)) ∧ (X.heap[w.heap.size + 1 + 1 + 1 + 1]? = some (.cells #[.int .i64 (findE r place m e0 (edgesL l)).2] 24 (0, 0)) ∧ Below w.heap.size w X)))
    ?hI ?hIx ⟨b0, b1, b2, b3, b4, b5, hb, fun rest h => by rw [show edgesL l = rest from h]; rfl⟩
    (fun x a' X => ∃ Bx, X.heap[Bx]? = some (.cells (aggE x) 118 (0, 0)) ∧ a' = { tmps := #[.slice A l.length c, .int .i64 r, .int .i64 place, .int .i64 m, undef, .pointer (some ⟨w.heap.size, 0, none⟩), .pointer (some ⟨w.heap.size + 1, 0, none⟩), .pointer (some ⟨w.heap.size + 1 + 1, 0, none⟩), .pointer (some ⟨w.heap.size + 1 + 1 + 1, 0, none⟩), .pointer (some ⟨w.heap.size + 1 + 1 + 1 + 1, 0, none⟩), .pointer (some ⟨w.heap.size + 1 + 1 + 1 + 1 + 1, 0, none⟩), .pointer (some ⟨Bx, 0, none⟩), .slice A l.length c, .func (.func 115) #[] #[.pointer (some ⟨w.heap.size + 1 + 1 + 1 + 1 + 1 + 1, 0, none⟩)], .agg (aggE x), undef, undef, undef, undef, undef, undef, undef, undef, undef, undef, undef, undef, undef, undef, undef, undef, undef, undef, undef, undef, undef, undef, undef], defers := [] })
    ?hAx ?assign ?body ?done ?stop
  case hS =>
    rintro k o ⟨_, h⟩
    exact .inl (by omega)
  case hD =>
    have := (HG.out).pos
    rintro k (rfl | rfl | ⟨hn, ad, e, rfl⟩)
    · exact ⟨by omega, fun _ _ => by omega⟩
    · exact ⟨by omega, fun _ _ => by omega⟩
    · have := lowA HR.out hn e
      exact ⟨by omega, fun _ _ => by omega⟩
  case hI => exact OwnT.and (ownT_low _ _ _ (by omega) _) (OwnT.and (ownT_low _ _ _ (by omega) _) (OwnT.and (ownT_low _ _ _ (by omega) _) (OwnT.and (ownT_low _ _ _ (by omega) _) (OwnT.and (ownT_low _ _ _ (by omega) _) (OwnT.and (ownT_low _ _ _ (by omega) _) (OwnT.and (ownT_below _ (Nat.le_refl _) (by omega)) (ownT_pure _ _ _)))))))
  case hIx => exact fun cc => OwnT.and (ownT_pure _ _ _) (OwnT.and (ownT_low _ _ _ (by omega) _) (OwnT.and (ownT_low _ _ _ (by omega) _) (ownT_below _ (Nat.le_refl _) (by omega))))
  case hAx =>
    rintro x a' s X X' row ⟨Bx, h1, h2⟩ hg hr
    exact ⟨Bx, ownT_blk (β := Unit) (fun o => o.isCells = false) _ Bx (fun _ => .cells (aggE x) 118 (0, 0)) (fun _ h => by cases h) () X X' row h1 hg hr, h2⟩
  case assign =>
    rintro l' pre x rest X K hxs hlt ⟨q0, q1, q2, q3, q4, q5, hB, hP⟩ hK
    dsimp only [encEdge]
    clear b0 b1 b2 b3 b4 b5 b6
    gi_wp2
    exact hK _ _ (KpC.alloc _ _) ⟨blk_alloc q0 _, blk_alloc q1 _, blk_alloc q2 _, blk_alloc q3 _, blk_alloc q4 _, blk_alloc q5 _, hB.alloc hB.size _, hP⟩ ⟨X.heap.size, blk_new _ _, rfl⟩
  case body =>
    clear b0 b1 b2 b3 b4 b5 b6
    rintro l' pre x rest a' X hxs hlt ⟨q0, q1, q2, q3, q4, q5, hB, hP⟩ ⟨Bx, bBx, rfl⟩
    have hP := hP (x :: rest) hxs
    have hr4 : (r : Int) < 4 := by omega
    have c00 : X.drew.cell? ⟨w.heap.size, 0, none⟩ = some (.int .i64 r) := (blk_cell q0 0).trans rfl
    have c10 : X.drew.cell? ⟨w.heap.size + 1, 0, none⟩ = some (.int .i64 place) := (blk_cell q1 0).trans rfl
    have cX : X.drew.cell? ⟨Bx, r, none⟩ = some (.int .i64 (pickE x r)) := (blk_cell bBx r).trans (aggE_get x r h1 h3)
    refine wpIn_block ?_
    refine Go.wpIn_seq ?_
    refine wpIn_block ?_
    refine Go.wpIn_seq ?_
    refine startIn_ (S := fun w' => w'.cell? ⟨w.heap.size, 0, none⟩ = some (.int .i64 r) ∧ w'.cell? ⟨w.heap.size + 1, 0, none⟩ = some (.int .i64 place) ∧ w'.cell? ⟨Bx, r, none⟩ = some (.int .i64 (pickE x r))) (ds := []) #[false, false, false, false, false, false] (by kernel_rfl) (by kernel_rfl) rfl rfl ⟨c00, c10, cX⟩ (fun hHeld => ?_)
    clear c00 c10 cX
    refine take_ (i := 0) (N := some 16) (v := ?_) (a' := ?_) #[true, false, false, false, false, false] rfl rfl (by kernel_rfl) (fun _ _ _ h => h) (Or.inl ⟨by rfl, ?_⟩) hHeld ?_ ?_
    rotate_left
    · rintro w' ⟨s0, s1, s2⟩
      go_simp
      with_reducible rfl
    rotate_left
    · simp only [Act.put, List.setIfInBounds_toArray, List.set_cons_zero, List.set_cons_succ, i64_w, i32_w]
      rfl
    refine pure_ (i := 1) (N := some 17) (v := ?_) (a' := ?_) #[true, true, false, false, false, false] rfl rfl (by kernel_rfl) (fun _ _ _ h => h) (Or.inl ⟨by rfl, ?_⟩) ?_ ?_
    rotate_left
    · intro w'
      go_simp
      with_reducible rfl
    rotate_left
    · simp only [Act.put, List.setIfInBounds_toArray, List.set_cons_zero, List.set_cons_succ, i64_w, i32_w]
      rfl
    refine take_ (i := 2) (N := some 18) (v := ?_) (a' := ?_) #[true, true, true, false, false, false] rfl rfl (by kernel_rfl) (fun _ _ _ h => h) (Or.inl ⟨by rfl, ?_⟩) hHeld ?_ ?_
    rotate_left
    · rintro w' ⟨s0, s1, s2⟩
      go_simp
      with_reducible rfl
    rotate_left
    · simp only [Act.put, List.setIfInBounds_toArray, List.set_cons_zero, List.set_cons_succ, i64_w, i32_w]
      rfl
    refine take_ (i := 3) (N := some 19) (v := ?_) (a' := ?_) #[true, true, true, true, false, false] rfl rfl (by kernel_rfl) (fun _ _ _ h => h) (Or.inl ⟨by rfl, ?_⟩) hHeld ?_ ?_
    rotate_left
    · rintro w' ⟨s0, s1, s2⟩
      go_simp
      with_reducible rfl
    rotate_left
    · simp only [Act.put, List.setIfInBounds_toArray, List.set_cons_zero, List.set_cons_succ, i64_w, i32_w]
      rfl
    refine pure_ (i := 4) (N := some 20) (v := ?_) (a' := ?_) #[true, true, true, true, true, false] rfl rfl (by kernel_rfl) (fun _ _ _ h => h) (Or.inl ⟨by rfl, ?_⟩) ?_ ?_
    rotate_left
    · intro w'
      go_simp
      with_reducible rfl
    rotate_left
    · simp only [Act.put, List.setIfInBounds_toArray, List.set_cons_zero, List.set_cons_succ, i64_w, i32_w]
      rfl
    refine pure_ (i := 5) (N := some 15) (v := ?_) (a' := ?_) #[true, true, true, true, true, true] rfl rfl (by kernel_rfl) (fun _ _ _ h => h) (Or.inl ⟨by rfl, ?_⟩) ?_ ?_
    rotate_left
    · intro w'
      go_simp
      with_reducible rfl
    rotate_left
    · simp only [Act.put, List.setIfInBounds_toArray, List.set_cons_zero, List.set_cons_succ, i64_w, i32_w]
      rfl
    refine done_ (by kernel_rfl) ?_
    change Code.wpIn _ _ _ _ _ _ _
    have hKp : KpC (fun (k : Nat) (_ : Obj) => w.heap.size + 1 + 1 + 1 ≤ k ∧ k ≤ w.heap.size + 1 + 1 + 1 + 1 + 1) X X.drew := KpC.drew X
    replace hB : Below w.heap.size w X.drew := hB.drew
    replace q0 : X.drew.heap[w.heap.size]? = some (.cells #[.int .i64 r] 28 (0, 0)) := q0
    replace q1 : X.drew.heap[w.heap.size + 1]? = some (.cells #[.int .i64 place] 3 (0, 0)) := q1
    replace q2 : X.drew.heap[w.heap.size + 1 + 1]? = some (.cells #[.int .i64 m] 41 (0, 0)) := q2
    replace q3 : X.drew.heap[w.heap.size + 1 + 1 + 1]? = some (.cells (aggE e0) 118 (0, 0)) := q3
    replace q4 : X.drew.heap[w.heap.size + 1 + 1 + 1 + 1]? = some (.cells #[.int .i64 0] 24 (0, 0)) := q4
    replace q5 : X.drew.heap[w.heap.size + 1 + 1 + 1 + 1 + 1]? = some (.cells (aggE (pre.getLast?.getD e0)) 118 (0, 0)) := q5
    replace bBx : X.drew.heap[Bx]? = some (.cells (aggE x) 118 (0, 0)) := bBx
    clear hHeld
    generalize X.drew = Y at *
    by_cases hp : pickE x r = place
    · have hd : (pickE x r == place) = true := by simp [hp]
      have c30 : Y.cell? ⟨w.heap.size + 1 + 1 + 1, 0, none⟩ = some (.int .i64 0) := (blk_cell q3 0).trans rfl
      have f30 : Y.frozen? ⟨w.heap.size + 1 + 1 + 1, 0, none⟩ = false := blk_frozen q3 0
      have c31 : Y.cell? ⟨w.heap.size + 1 + 1 + 1, 1, none⟩ = some (.int .i64 e0.1) := (blk_cell q3 1).trans rfl
      have f31 : Y.frozen? ⟨w.heap.size + 1 + 1 + 1, 1, none⟩ = false := blk_frozen q3 1
      have c32 : Y.cell? ⟨w.heap.size + 1 + 1 + 1, 2, none⟩ = some (.int .i64 e0.2.1) := (blk_cell q3 2).trans rfl
      have f32 : Y.frozen? ⟨w.heap.size + 1 + 1 + 1, 2, none⟩ = false := blk_frozen q3 2
      have c33 : Y.cell? ⟨w.heap.size + 1 + 1 + 1, 3, none⟩ = some (.int .i64 e0.2.2) := (blk_cell q3 3).trans rfl
      have f33 : Y.frozen? ⟨w.heap.size + 1 + 1 + 1, 3, none⟩ = false := blk_frozen q3 3
      have c40 : Y.cell? ⟨w.heap.size + 1 + 1 + 1 + 1, 0, none⟩ = some (.int .i64 0) := (blk_cell q4 0).trans rfl
      have f40 : Y.frozen? ⟨w.heap.size + 1 + 1 + 1 + 1, 0, none⟩ = false := blk_frozen q4 0
      have cX0 : Y.cell? ⟨Bx, 0, none⟩ = some (.int .i64 0) := (blk_cell bBx 0).trans rfl
      have fX0 : Y.frozen? ⟨Bx, 0, none⟩ = false := blk_frozen bBx 0
      have cX1 : Y.cell? ⟨Bx, 1, none⟩ = some (.int .i64 x.1) := (blk_cell bBx 1).trans rfl
      have fX1 : Y.frozen? ⟨Bx, 1, none⟩ = false := blk_frozen bBx 1
      have cX2 : Y.cell? ⟨Bx, 2, none⟩ = some (.int .i64 x.2.1) := (blk_cell bBx 2).trans rfl
      have fX2 : Y.frozen? ⟨Bx, 2, none⟩ = false := blk_frozen bBx 2
      have cX3 : Y.cell? ⟨Bx, 3, none⟩ = some (.int .i64 x.2.2) := (blk_cell bBx 3).trans rfl
      have fX3 : Y.frozen? ⟨Bx, 3, none⟩ = false := blk_frozen bBx 3
      have hres : findE r place m e0 (edgesL l) = (x, 0) := by rw [hP]; simp only [findE, if_pos hp]
      have HQ := Aside0.mk (And.intro hres (And.intro hKp (And.intro q0 (And.intro q1 (And.intro q2 (And.intro q3 (And.intro q4 (And.intro q5 (And.intro hB hxs)))))))))
      clear hres hP hKp q0 q1 q2 q3 q4 q5 hB bBx hxs
      obtain ⟨bl, hbl⟩ : ∃ bl, pre.getLast?.getD e0 = bl := ⟨_, rfl⟩
      try rw [hbl] at *
      gi_wp2
      obtain ⟨hres, hKp, q0, q1, q2, q3, q4, q5, hB, hxs⟩ := HQ.out
      rw [hres]
      refine ⟨hKp.trans ((put4_KpC (by intro _; exact ⟨by omega, by omega⟩)).trans (KpC.setCell _ _ _ (by intro _; exact ⟨by show _ ≤ w.heap.size + 1 + 1 + 1 + 1; omega, by show w.heap.size + 1 + 1 + 1 + 1 ≤ _; omega⟩))), rfl, ?_, ?_, ?_⟩
      · exact (Below.heap_setCell _ _ _ _ (by show _ ≠ w.heap.size + 1 + 1 + 1 + 1; omega)).trans (put4_same q3)
      · exact blk_put (cs := #[_]) ((put4_far (by omega)).trans q4) 0 _ rfl
      · exact (put4_below hB (by omega)).setCell (by show _ ≤ w.heap.size + 1 + 1 + 1 + 1; omega) _
    · have hd : (pickE x r == place) = false := by simp [hp]
      refine wpIn_cond_false (congrArg Value.bool hd) ?_
      refine Go.wpIn_seq ?_
      have c00 : Y.drew.cell? ⟨w.heap.size, 0, none⟩ = some (.int .i64 r) := (blk_cell q0 0).trans rfl
      have c10 : Y.drew.cell? ⟨w.heap.size + 1, 0, none⟩ = some (.int .i64 place) := (blk_cell q1 0).trans rfl
      have cX : Y.drew.cell? ⟨Bx, r, none⟩ = some (.int .i64 (pickE x r)) := (blk_cell bBx r).trans (aggE_get x r h1 h3)
      refine startIn_ (S := fun w' => w'.cell? ⟨w.heap.size, 0, none⟩ = some (.int .i64 r) ∧ w'.cell? ⟨w.heap.size + 1, 0, none⟩ = some (.int .i64 place) ∧ w'.cell? ⟨Bx, r, none⟩ = some (.int .i64 (pickE x r))) (ds := []) #[false, false, false, false, false, false] (by kernel_rfl) (by kernel_rfl) rfl rfl ⟨c00, c10, cX⟩ (fun hHeld => ?_)
      clear c00 c10 cX
      refine take_ (i := 0) (N := some 23) (v := ?_) (a' := ?_) #[true, false, false, false, false, false] rfl rfl (by kernel_rfl) (fun _ _ _ h => h) (Or.inl ⟨by rfl, ?_⟩) hHeld ?_ ?_
      rotate_left
      · rintro w' ⟨s0, s1, s2⟩
        go_simp
        with_reducible rfl
      rotate_left
      · simp only [Act.put, List.setIfInBounds_toArray, List.set_cons_zero, List.set_cons_succ, i64_w, i32_w]
        rfl
      refine pure_ (i := 1) (N := some 24) (v := ?_) (a' := ?_) #[true, true, false, false, false, false] rfl rfl (by kernel_rfl) (fun _ _ _ h => h) (Or.inl ⟨by rfl, ?_⟩) ?_ ?_
      rotate_left
      · intro w'
        go_simp
        with_reducible rfl
      rotate_left
      · simp only [Act.put, List.setIfInBounds_toArray, List.set_cons_zero, List.set_cons_succ, i64_w, i32_w]
        rfl
      refine take_ (i := 2) (N := some 25) (v := ?_) (a' := ?_) #[true, true, true, false, false, false] rfl rfl (by kernel_rfl) (fun _ _ _ h => h) (Or.inl ⟨by rfl, ?_⟩) hHeld ?_ ?_
      rotate_left
      · rintro w' ⟨s0, s1, s2⟩
        go_simp
        with_reducible rfl
      rotate_left
      · simp only [Act.put, List.setIfInBounds_toArray, List.set_cons_zero, List.set_cons_succ, i64_w, i32_w]
        rfl
      refine take_ (i := 3) (N := some 26) (v := ?_) (a' := ?_) #[true, true, true, true, false, false] rfl rfl (by kernel_rfl) (fun _ _ _ h => h) (Or.inl ⟨by rfl, ?_⟩) hHeld ?_ ?_
      rotate_left
      · rintro w' ⟨s0, s1, s2⟩
        go_simp
        with_reducible rfl
      rotate_left
      · simp only [Act.put, List.setIfInBounds_toArray, List.set_cons_zero, List.set_cons_succ, i64_w, i32_w]
        rfl
      refine pure_ (i := 4) (N := some 27) (v := ?_) (a' := ?_) #[true, true, true, true, true, false] rfl rfl (by kernel_rfl) (fun _ _ _ h => h) (Or.inl ⟨by rfl, ?_⟩) ?_ ?_
      rotate_left
      · intro w'
        go_simp
        with_reducible rfl
      rotate_left
      · simp only [Act.put, List.setIfInBounds_toArray, List.set_cons_zero, List.set_cons_succ, i64_w, i32_w]
        rfl
      refine pure_ (i := 5) (N := some 22) (v := ?_) (a' := ?_) #[true, true, true, true, true, true] rfl rfl (by kernel_rfl) (fun _ _ _ h => h) (Or.inl ⟨by rfl, ?_⟩) ?_ ?_
      rotate_left
      · intro w'
        go_simp
        with_reducible rfl
      rotate_left
      · simp only [Act.put, List.setIfInBounds_toArray, List.set_cons_zero, List.set_cons_succ, i64_w, i32_w]
        rfl
      refine done_ (by kernel_rfl) ?_
      change Code.wpIn _ _ _ _ _ _ _
      replace hKp : KpC (fun (k : Nat) (_ : Obj) => w.heap.size + 1 + 1 + 1 ≤ k ∧ k ≤ w.heap.size + 1 + 1 + 1 + 1 + 1) X Y.drew := hKp.trans (KpC.drew Y)
      replace hB : Below w.heap.size w Y.drew := hB.drew
      replace q0 : Y.drew.heap[w.heap.size]? = some (.cells #[.int .i64 r] 28 (0, 0)) := q0
      replace q1 : Y.drew.heap[w.heap.size + 1]? = some (.cells #[.int .i64 place] 3 (0, 0)) := q1
      replace q2 : Y.drew.heap[w.heap.size + 1 + 1]? = some (.cells #[.int .i64 m] 41 (0, 0)) := q2
      replace q3 : Y.drew.heap[w.heap.size + 1 + 1 + 1]? = some (.cells (aggE e0) 118 (0, 0)) := q3
      replace q4 : Y.drew.heap[w.heap.size + 1 + 1 + 1 + 1]? = some (.cells #[.int .i64 0] 24 (0, 0)) := q4
      replace q5 : Y.drew.heap[w.heap.size + 1 + 1 + 1 + 1 + 1]? = some (.cells (aggE (pre.getLast?.getD e0)) 118 (0, 0)) := q5
      replace bBx : Y.drew.heap[Bx]? = some (.cells (aggE x) 118 (0, 0)) := bBx
      clear hHeld
      generalize Y.drew = Z at *
      by_cases hp2 : pickE x r < place
      · have hd2 : decide (pickE x r < place) = true := decide_eq_true hp2
        have c50 : Z.cell? ⟨w.heap.size + 1 + 1 + 1 + 1 + 1, 0, none⟩ = some (.int .i64 0) := (blk_cell q5 0).trans rfl
        have f50 : Z.frozen? ⟨w.heap.size + 1 + 1 + 1 + 1 + 1, 0, none⟩ = false := blk_frozen q5 0
        have c51 : Z.cell? ⟨w.heap.size + 1 + 1 + 1 + 1 + 1, 1, none⟩ = some (.int .i64 (pre.getLast?.getD e0).1) := (blk_cell q5 1).trans rfl
        have f51 : Z.frozen? ⟨w.heap.size + 1 + 1 + 1 + 1 + 1, 1, none⟩ = false := blk_frozen q5 1
        have c52 : Z.cell? ⟨w.heap.size + 1 + 1 + 1 + 1 + 1, 2, none⟩ = some (.int .i64 (pre.getLast?.getD e0).2.1) := (blk_cell q5 2).trans rfl
        have f52 : Z.frozen? ⟨w.heap.size + 1 + 1 + 1 + 1 + 1, 2, none⟩ = false := blk_frozen q5 2
        have c53 : Z.cell? ⟨w.heap.size + 1 + 1 + 1 + 1 + 1, 3, none⟩ = some (.int .i64 (pre.getLast?.getD e0).2.2) := (blk_cell q5 3).trans rfl
        have f53 : Z.frozen? ⟨w.heap.size + 1 + 1 + 1 + 1 + 1, 3, none⟩ = false := blk_frozen q5 3
        have cX0 : Z.cell? ⟨Bx, 0, none⟩ = some (.int .i64 0) := (blk_cell bBx 0).trans rfl
        have fX0 : Z.frozen? ⟨Bx, 0, none⟩ = false := blk_frozen bBx 0
        have cX1 : Z.cell? ⟨Bx, 1, none⟩ = some (.int .i64 x.1) := (blk_cell bBx 1).trans rfl
        have fX1 : Z.frozen? ⟨Bx, 1, none⟩ = false := blk_frozen bBx 1
        have cX2 : Z.cell? ⟨Bx, 2, none⟩ = some (.int .i64 x.2.1) := (blk_cell bBx 2).trans rfl
        have fX2 : Z.frozen? ⟨Bx, 2, none⟩ = false := blk_frozen bBx 2
        have cX3 : Z.cell? ⟨Bx, 3, none⟩ = some (.int .i64 x.2.2) := (blk_cell bBx 3).trans rfl
        have fX3 : Z.frozen? ⟨Bx, 3, none⟩ = false := blk_frozen bBx 3
        have hres : findE r place m e0 (edgesL l) = findE r place m x rest := by rw [hP]; simp only [findE, if_neg hp, if_pos hp2]
        have HQ := Aside0.mk (And.intro hres (And.intro hKp (And.intro q0 (And.intro q1 (And.intro q2 (And.intro q3 (And.intro q4 (And.intro q5 (And.intro hB hxs)))))))))
        clear hres hP hKp q0 q1 q2 q3 q4 q5 hB bBx hxs
        obtain ⟨bl, hbl⟩ : ∃ bl, pre.getLast?.getD e0 = bl := ⟨_, rfl⟩
        try rw [hbl] at *
        gi_wp2
        obtain ⟨hres, hKp, q0, q1, q2, q3, q4, q5, hB, hxs⟩ := HQ.out
        have hlast : (pre ++ [x]).getLast?.getD e0 = x := by simp
        refine ⟨hKp.trans (put4_KpC (by intro _; exact ⟨by omega, by omega⟩)), (put4_far (by omega)).trans q0, (put4_far (by omega)).trans q1, (put4_far (by omega)).trans q2, (put4_far (by omega)).trans q3, (put4_far (by omega)).trans q4, ?_, put4_below hB (by omega), ?_⟩
        · rw [hlast]
          exact put4_same q5
        · intro rest' hr'
          rw [hlast, hres]
          have h_ : pre ++ x :: rest = pre ++ [x] ++ rest' := hxs.symm.trans hr'
          rw [List.append_assoc, List.append_cancel_left_eq, List.singleton_append, List.cons.injEq] at h_
          rw [← h_.2]
      · have hd2 : decide (pickE x r < place) = false := decide_eq_false hp2
        by_cases hm1 : m = 1
        · subst hm1
          have c20 : Z.cell? ⟨w.heap.size + 1 + 1, 0, none⟩ = some (.int .i64 1) := (blk_cell q2 0).trans rfl
          have f20 : Z.frozen? ⟨w.heap.size + 1 + 1, 0, none⟩ = false := blk_frozen q2 0
          have c30 : Z.cell? ⟨w.heap.size + 1 + 1 + 1, 0, none⟩ = some (.int .i64 0) := (blk_cell q3 0).trans rfl
          have f30 : Z.frozen? ⟨w.heap.size + 1 + 1 + 1, 0, none⟩ = false := blk_frozen q3 0
          have c31 : Z.cell? ⟨w.heap.size + 1 + 1 + 1, 1, none⟩ = some (.int .i64 e0.1) := (blk_cell q3 1).trans rfl
          have f31 : Z.frozen? ⟨w.heap.size + 1 + 1 + 1, 1, none⟩ = false := blk_frozen q3 1
          have c32 : Z.cell? ⟨w.heap.size + 1 + 1 + 1, 2, none⟩ = some (.int .i64 e0.2.1) := (blk_cell q3 2).trans rfl
          have f32 : Z.frozen? ⟨w.heap.size + 1 + 1 + 1, 2, none⟩ = false := blk_frozen q3 2
          have c33 : Z.cell? ⟨w.heap.size + 1 + 1 + 1, 3, none⟩ = some (.int .i64 e0.2.2) := (blk_cell q3 3).trans rfl
          have f33 : Z.frozen? ⟨w.heap.size + 1 + 1 + 1, 3, none⟩ = false := blk_frozen q3 3
          have c40 : Z.cell? ⟨w.heap.size + 1 + 1 + 1 + 1, 0, none⟩ = some (.int .i64 0) := (blk_cell q4 0).trans rfl
          have f40 : Z.frozen? ⟨w.heap.size + 1 + 1 + 1 + 1, 0, none⟩ = false := blk_frozen q4 0
          have c50 : Z.cell? ⟨w.heap.size + 1 + 1 + 1 + 1 + 1, 0, none⟩ = some (.int .i64 0) := (blk_cell q5 0).trans rfl
          have f50 : Z.frozen? ⟨w.heap.size + 1 + 1 + 1 + 1 + 1, 0, none⟩ = false := blk_frozen q5 0
          have c51 : Z.cell? ⟨w.heap.size + 1 + 1 + 1 + 1 + 1, 1, none⟩ = some (.int .i64 (pre.getLast?.getD e0).1) := (blk_cell q5 1).trans rfl
          have f51 : Z.frozen? ⟨w.heap.size + 1 + 1 + 1 + 1 + 1, 1, none⟩ = false := blk_frozen q5 1
          have c52 : Z.cell? ⟨w.heap.size + 1 + 1 + 1 + 1 + 1, 2, none⟩ = some (.int .i64 (pre.getLast?.getD e0).2.1) := (blk_cell q5 2).trans rfl
          have f52 : Z.frozen? ⟨w.heap.size + 1 + 1 + 1 + 1 + 1, 2, none⟩ = false := blk_frozen q5 2
          have c53 : Z.cell? ⟨w.heap.size + 1 + 1 + 1 + 1 + 1, 3, none⟩ = some (.int .i64 (pre.getLast?.getD e0).2.2) := (blk_cell q5 3).trans rfl
          have f53 : Z.frozen? ⟨w.heap.size + 1 + 1 + 1 + 1 + 1, 3, none⟩ = false := blk_frozen q5 3
          have hres : findE r place 1 e0 (edgesL l) = (pre.getLast?.getD e0, 0) := by rw [hP]; simp [findE, hp, hp2]
          have HQ := Aside0.mk (And.intro hres (And.intro hKp (And.intro q0 (And.intro q1 (And.intro q2 (And.intro q3 (And.intro q4 (And.intro q5 (And.intro hB hxs)))))))))
          clear hres hP hKp q0 q1 q2 q3 q4 q5 hB bBx hxs
          obtain ⟨bl, hbl⟩ : ∃ bl, pre.getLast?.getD e0 = bl := ⟨_, rfl⟩
          try rw [hbl] at *
          gi_wp2
          obtain ⟨hres, hKp, q0, q1, q2, q3, q4, q5, hB, hxs⟩ := HQ.out
          rw [hres]
          refine ⟨hKp.trans ((put4_KpC (by intro _; exact ⟨by omega, by omega⟩)).trans (KpC.setCell _ _ _ (by intro _; exact ⟨by show _ ≤ w.heap.size + 1 + 1 + 1 + 1; omega, by show w.heap.size + 1 + 1 + 1 + 1 ≤ _; omega⟩))), rfl, ?_, ?_, ?_⟩
          · exact (Below.heap_setCell _ _ _ _ (by show _ ≠ w.heap.size + 1 + 1 + 1 + 1; omega)).trans (put4_same q3)
          · exact blk_put (cs := #[_]) ((put4_far (by omega)).trans q4) 0 _ rfl
          · exact (put4_below hB (by omega)).setCell (by show _ ≤ w.heap.size + 1 + 1 + 1 + 1; omega) _
        · by_cases hm2 : m = 2
          · subst hm2
            have c20 : Z.cell? ⟨w.heap.size + 1 + 1, 0, none⟩ = some (.int .i64 2) := (blk_cell q2 0).trans rfl
            have f20 : Z.frozen? ⟨w.heap.size + 1 + 1, 0, none⟩ = false := blk_frozen q2 0
            have c30 : Z.cell? ⟨w.heap.size + 1 + 1 + 1, 0, none⟩ = some (.int .i64 0) := (blk_cell q3 0).trans rfl
            have f30 : Z.frozen? ⟨w.heap.size + 1 + 1 + 1, 0, none⟩ = false := blk_frozen q3 0
            have c31 : Z.cell? ⟨w.heap.size + 1 + 1 + 1, 1, none⟩ = some (.int .i64 e0.1) := (blk_cell q3 1).trans rfl
            have f31 : Z.frozen? ⟨w.heap.size + 1 + 1 + 1, 1, none⟩ = false := blk_frozen q3 1
            have c32 : Z.cell? ⟨w.heap.size + 1 + 1 + 1, 2, none⟩ = some (.int .i64 e0.2.1) := (blk_cell q3 2).trans rfl
            have f32 : Z.frozen? ⟨w.heap.size + 1 + 1 + 1, 2, none⟩ = false := blk_frozen q3 2
            have c33 : Z.cell? ⟨w.heap.size + 1 + 1 + 1, 3, none⟩ = some (.int .i64 e0.2.2) := (blk_cell q3 3).trans rfl
            have f33 : Z.frozen? ⟨w.heap.size + 1 + 1 + 1, 3, none⟩ = false := blk_frozen q3 3
            have c40 : Z.cell? ⟨w.heap.size + 1 + 1 + 1 + 1, 0, none⟩ = some (.int .i64 0) := (blk_cell q4 0).trans rfl
            have f40 : Z.frozen? ⟨w.heap.size + 1 + 1 + 1 + 1, 0, none⟩ = false := blk_frozen q4 0
            have cX0 : Z.cell? ⟨Bx, 0, none⟩ = some (.int .i64 0) := (blk_cell bBx 0).trans rfl
            have fX0 : Z.frozen? ⟨Bx, 0, none⟩ = false := blk_frozen bBx 0
            have cX1 : Z.cell? ⟨Bx, 1, none⟩ = some (.int .i64 x.1) := (blk_cell bBx 1).trans rfl
            have fX1 : Z.frozen? ⟨Bx, 1, none⟩ = false := blk_frozen bBx 1
            have cX2 : Z.cell? ⟨Bx, 2, none⟩ = some (.int .i64 x.2.1) := (blk_cell bBx 2).trans rfl
            have fX2 : Z.frozen? ⟨Bx, 2, none⟩ = false := blk_frozen bBx 2
            have cX3 : Z.cell? ⟨Bx, 3, none⟩ = some (.int .i64 x.2.2) := (blk_cell bBx 3).trans rfl
            have fX3 : Z.frozen? ⟨Bx, 3, none⟩ = false := blk_frozen bBx 3
            have hres : findE r place 2 e0 (edgesL l) = (x, 0) := by rw [hP]; simp [findE, hp, hp2]
            have HQ := Aside0.mk (And.intro hres (And.intro hKp (And.intro q0 (And.intro q1 (And.intro q2 (And.intro q3 (And.intro q4 (And.intro q5 (And.intro hB hxs)))))))))
            clear hres hP hKp q0 q1 q2 q3 q4 q5 hB bBx hxs
            obtain ⟨bl, hbl⟩ : ∃ bl, pre.getLast?.getD e0 = bl := ⟨_, rfl⟩
            try rw [hbl] at *
            gi_wp2
            obtain ⟨hres, hKp, q0, q1, q2, q3, q4, q5, hB, hxs⟩ := HQ.out
            rw [hres]
            refine ⟨hKp.trans ((put4_KpC (by intro _; exact ⟨by omega, by omega⟩)).trans (KpC.setCell _ _ _ (by intro _; exact ⟨by show _ ≤ w.heap.size + 1 + 1 + 1 + 1; omega, by show w.heap.size + 1 + 1 + 1 + 1 ≤ _; omega⟩))), rfl, ?_, ?_, ?_⟩
            · exact (Below.heap_setCell _ _ _ _ (by show _ ≠ w.heap.size + 1 + 1 + 1 + 1; omega)).trans (put4_same q3)
            · exact blk_put (cs := #[_]) ((put4_far (by omega)).trans q4) 0 _ rfl
            · exact (put4_below hB (by omega)).setCell (by show _ ≤ w.heap.size + 1 + 1 + 1 + 1; omega) _
          · have hm : (m == 1) = false := by simp [hm1]
            have hm' : (m == 2) = false := by simp [hm2]
            have c20 : Z.cell? ⟨w.heap.size + 1 + 1, 0, none⟩ = some (.int .i64 m) := (blk_cell q2 0).trans rfl
            have f20 : Z.frozen? ⟨w.heap.size + 1 + 1, 0, none⟩ = false := blk_frozen q2 0
            have c30 : Z.cell? ⟨w.heap.size + 1 + 1 + 1, 0, none⟩ = some (.int .i64 0) := (blk_cell q3 0).trans rfl
            have f30 : Z.frozen? ⟨w.heap.size + 1 + 1 + 1, 0, none⟩ = false := blk_frozen q3 0
            have c31 : Z.cell? ⟨w.heap.size + 1 + 1 + 1, 1, none⟩ = some (.int .i64 e0.1) := (blk_cell q3 1).trans rfl
            have f31 : Z.frozen? ⟨w.heap.size + 1 + 1 + 1, 1, none⟩ = false := blk_frozen q3 1
            have c32 : Z.cell? ⟨w.heap.size + 1 + 1 + 1, 2, none⟩ = some (.int .i64 e0.2.1) := (blk_cell q3 2).trans rfl
            have f32 : Z.frozen? ⟨w.heap.size + 1 + 1 + 1, 2, none⟩ = false := blk_frozen q3 2
            have c33 : Z.cell? ⟨w.heap.size + 1 + 1 + 1, 3, none⟩ = some (.int .i64 e0.2.2) := (blk_cell q3 3).trans rfl
            have f33 : Z.frozen? ⟨w.heap.size + 1 + 1 + 1, 3, none⟩ = false := blk_frozen q3 3
            have c40 : Z.cell? ⟨w.heap.size + 1 + 1 + 1 + 1, 0, none⟩ = some (.int .i64 0) := (blk_cell q4 0).trans rfl
            have f40 : Z.frozen? ⟨w.heap.size + 1 + 1 + 1 + 1, 0, none⟩ = false := blk_frozen q4 0
            have c50 : Z.cell? ⟨w.heap.size + 1 + 1 + 1 + 1 + 1, 0, none⟩ = some (.int .i64 0) := (blk_cell q5 0).trans rfl
            have f50 : Z.frozen? ⟨w.heap.size + 1 + 1 + 1 + 1 + 1, 0, none⟩ = false := blk_frozen q5 0
            have c51 : Z.cell? ⟨w.heap.size + 1 + 1 + 1 + 1 + 1, 1, none⟩ = some (.int .i64 (pre.getLast?.getD e0).1) := (blk_cell q5 1).trans rfl
            have f51 : Z.frozen? ⟨w.heap.size + 1 + 1 + 1 + 1 + 1, 1, none⟩ = false := blk_frozen q5 1
            have c52 : Z.cell? ⟨w.heap.size + 1 + 1 + 1 + 1 + 1, 2, none⟩ = some (.int .i64 (pre.getLast?.getD e0).2.1) := (blk_cell q5 2).trans rfl
            have f52 : Z.frozen? ⟨w.heap.size + 1 + 1 + 1 + 1 + 1, 2, none⟩ = false := blk_frozen q5 2
            have c53 : Z.cell? ⟨w.heap.size + 1 + 1 + 1 + 1 + 1, 3, none⟩ = some (.int .i64 (pre.getLast?.getD e0).2.2) := (blk_cell q5 3).trans rfl
            have f53 : Z.frozen? ⟨w.heap.size + 1 + 1 + 1 + 1 + 1, 3, none⟩ = false := blk_frozen q5 3
            have hres : findE r place m e0 (edgesL l) = (pre.getLast?.getD e0, 4) := by rw [hP]; simp only [findE, if_neg hp, if_neg hp2, if_neg hm1, if_neg hm2]
            have HQ := Aside0.mk (And.intro hres (And.intro hKp (And.intro q0 (And.intro q1 (And.intro q2 (And.intro q3 (And.intro q4 (And.intro q5 (And.intro hB hxs)))))))))
            clear hres hP hKp q0 q1 q2 q3 q4 q5 hB bBx hxs
            obtain ⟨bl, hbl⟩ : ∃ bl, pre.getLast?.getD e0 = bl := ⟨_, rfl⟩
            try rw [hbl] at *
            gi_wp2
            obtain ⟨hres, hKp, q0, q1, q2, q3, q4, q5, hB, hxs⟩ := HQ.out
            rw [hres]
            refine ⟨hKp.trans ((put4_KpC (by intro _; exact ⟨by omega, by omega⟩)).trans (KpC.setCell _ _ _ (by intro _; exact ⟨by show _ ≤ w.heap.size + 1 + 1 + 1 + 1; omega, by show w.heap.size + 1 + 1 + 1 + 1 ≤ _; omega⟩))), rfl, ?_, ?_, ?_⟩
            · exact (Below.heap_setCell _ _ _ _ (by show _ ≠ w.heap.size + 1 + 1 + 1 + 1; omega)).trans (put4_same q3)
            · exact blk_put (cs := #[_]) ((put4_far (by omega)).trans q4) 0 _ rfl
            · exact (put4_below hB (by omega)).setCell (by show _ ≤ w.heap.size + 1 + 1 + 1 + 1; omega) _
  case done =>
    clear b0 b1 b2 b3 b4 b5 b6
    rintro D X hD _ ⟨q0, q1, q2, q3, q4, q5, hB, hP⟩ hDf
    have hres : findE r place m e0 (edgesL l) = (((scanE e0 (items (strOfNums l))).getLast?.getD e0), 2) := (hP [] (by simp [edgesL])).trans rfl
    have c30 : X.cell? ⟨w.heap.size + 1 + 1 + 1, 0, none⟩ = some (.int .i64 0) := (blk_cell q3 0).trans rfl
    have f30 : X.frozen? ⟨w.heap.size + 1 + 1 + 1, 0, none⟩ = false := blk_frozen q3 0
    have c31 : X.cell? ⟨w.heap.size + 1 + 1 + 1, 1, none⟩ = some (.int .i64 e0.1) := (blk_cell q3 1).trans rfl
    have f31 : X.frozen? ⟨w.heap.size + 1 + 1 + 1, 1, none⟩ = false := blk_frozen q3 1
    have c32 : X.cell? ⟨w.heap.size + 1 + 1 + 1, 2, none⟩ = some (.int .i64 e0.2.1) := (blk_cell q3 2).trans rfl
    have f32 : X.frozen? ⟨w.heap.size + 1 + 1 + 1, 2, none⟩ = false := blk_frozen q3 2
    have c33 : X.cell? ⟨w.heap.size + 1 + 1 + 1, 3, none⟩ = some (.int .i64 e0.2.2) := (blk_cell q3 3).trans rfl
    have f33 : X.frozen? ⟨w.heap.size + 1 + 1 + 1, 3, none⟩ = false := blk_frozen q3 3
    have c40 : X.cell? ⟨w.heap.size + 1 + 1 + 1 + 1, 0, none⟩ = some (.int .i64 0) := (blk_cell q4 0).trans rfl
    have f40 : X.frozen? ⟨w.heap.size + 1 + 1 + 1 + 1, 0, none⟩ = false := blk_frozen q4 0
    have c50 : X.cell? ⟨w.heap.size + 1 + 1 + 1 + 1 + 1, 0, none⟩ = some (.int .i64 0) := (blk_cell q5 0).trans rfl
    have f50 : X.frozen? ⟨w.heap.size + 1 + 1 + 1 + 1 + 1, 0, none⟩ = false := blk_frozen q5 0
    have c51 : X.cell? ⟨w.heap.size + 1 + 1 + 1 + 1 + 1, 1, none⟩ = some (.int .i64 ((scanE e0 (items (strOfNums l))).getLast?.getD e0).1) := (blk_cell q5 1).trans rfl
    have f51 : X.frozen? ⟨w.heap.size + 1 + 1 + 1 + 1 + 1, 1, none⟩ = false := blk_frozen q5 1
    have c52 : X.cell? ⟨w.heap.size + 1 + 1 + 1 + 1 + 1, 2, none⟩ = some (.int .i64 ((scanE e0 (items (strOfNums l))).getLast?.getD e0).2.1) := (blk_cell q5 2).trans rfl
    have f52 : X.frozen? ⟨w.heap.size + 1 + 1 + 1 + 1 + 1, 2, none⟩ = false := blk_frozen q5 2
    have c53 : X.cell? ⟨w.heap.size + 1 + 1 + 1 + 1 + 1, 3, none⟩ = some (.int .i64 ((scanE e0 (items (strOfNums l))).getLast?.getD e0).2.2) := (blk_cell q5 3).trans rfl
    have f53 : X.frozen? ⟨w.heap.size + 1 + 1 + 1 + 1 + 1, 3, none⟩ = false := blk_frozen q5 3
    have HQ := Aside0.mk (And.intro hres (And.intro q3 (And.intro q4 hB)))
    clear hP hres q0 q1 q2 q3 q4 q5 hB
    gi_wp2
    obtain ⟨hres, q3, q4, hB⟩ := HQ.out
    have hDz : w.heap.size + 7 ≤ D := by omega
    refine ⟨by simp, .inl ⟨_, _, rfl, run_takeDeferred ((Below.heap_setCell _ _ _ D (by show _ ≠ w.heap.size + 1 + 1 + 1 + 1; omega)).trans ((put4_far (by omega)).trans hDf)), ?_⟩⟩
    refine ⟨_, find_results rfl rfl rfl ((World.putObj_heap_other (by omega)).trans ((Below.heap_setCell _ _ _ _ (by show _ ≠ w.heap.size + 1 + 1 + 1 + 1; omega)).trans (put4_same q3))) ((World.putObj_heap_other (by omega)).trans (blk_put (cs := #[_]) ((put4_far (by omega)).trans q4) 0 _ rfl)), by rw [hres]; rfl, ?_⟩
    exact ((put4_below hB (by omega)).setCell (by show _ ≤ w.heap.size + 1 + 1 + 1 + 1; omega) _).trans (belowK_b (w := w) (Nat.le_refl _) _ D _ _ (by omega) ((Below.heap_setCell _ _ _ D (by show _ ≠ w.heap.size + 1 + 1 + 1 + 1; omega)).trans ((put4_far (by omega)).trans hDf)) rfl rfl)
  case stop =>
    clear b0 b1 b2 b3 b4 b5 b6
    rintro D cc pre X hD _ hpre ⟨rfl, q3, q4, hB⟩ hDf
    have HQ := Aside0.mk (And.intro q3 (And.intro q4 hB))
    clear q3 q4 hB
    gi_wp2
    obtain ⟨q3, q4, hB⟩ := HQ.out
    refine ⟨by simp, .inl ⟨_, _, rfl, run_takeDeferred hDf, ?_⟩⟩
    refine ⟨_, find_results rfl rfl rfl ((World.putObj_heap_other (by omega)).trans q3) ((World.putObj_heap_other (by omega)).trans q4), rfl, ?_⟩
    exact hB.trans (belowK_b (w := w) (Nat.le_refl _) X D _ _ (by omega) hDf rfl rfl)

def rule_To.f (l0 : List Int) (a1 a2 a3 a4 : Int) : Option (Int × Int) :=
  (rule_ruler.f a1).bind fun b1 => if b1 = true then ((rule_ruler.f a3).bind fun b2 => if b2 = true then ((rule_mode.f a4).bind fun b3 => if b3 = true then (if a2 < 0 then some (0, 2) else
    if l0.length ≤ 140737488351232 then (if 1 ≤ a1 ∧ a1 ≤ 3 ∧ 1 ≤ a3 ∧ a3 ≤ 3 then
      (if (findE a1.toNat a2 a4 e0 (edgesL l0)).2 = 0 then some (pickE (findE a1.toNat a2 a4 e0 (edgesL l0)).1 a3.toNat, 0) else some (0, (findE a1.toNat a2 a4 e0 (edgesL l0)).2)) else none) else none)
    else some (0, 3)) else some (0, 3)) else some (0, 3)
set_option maxHeartbeats 8000000 in
theorem rule_To.calls (A0 : Option Addr) (c0 : Nat) (l0 : List Int) (a1 a2 a3 a4 : Int) (r1 : Int) (r2 : Int) (w : World) (hr0 : Kd.C (Kd.int .u8) w A0 l0.length l0) (hc0 : l0.length ≤ c0) (hG : Laid w) (h : rule_To.f l0 a1 a2 a3 a4 = some (r1, r2)) :
    Calls Tryd.prog 37 #[.slice A0 l0.length c0, .int .i64 a1, .int .i64 a2, .int .i64 a3, .int .i64 a4] w fun e w' => e = .returned (.tuple #[.int .i64 r1, .int .i64 r2]) ∧ Below w.heap.size w w' := by
  unfold rule_To.f at h
  obtain ⟨b1, hb1, h⟩ := Option.bind_eq_some_iff.1 h
  have HC1 := Aside0.mk hb1
  have HG := Aside0.mk hG
  have HR := Aside0.mk hr0
  clear hb1 hG hr0
  cases b1 with
  | false =>
    simp only [Bool.false_eq_true, if_false, Option.some.injEq, Prod.mk.injEq] at h
    obtain ⟨rfl, rfl⟩ := h
    go_enter Tryd.func37, Tryd.ntmps37
    go_wp2_with (go_at_call 78; refine (rule_ruler.calls a1 false _ HC1.out).mono ?_; rintro e w3 ⟨rfl, hb3⟩)
    go_ret2
    exact ⟨rfl, hb3.below⟩
  | true =>
    simp only [if_true] at h
    obtain ⟨b2, hb2, h⟩ := Option.bind_eq_some_iff.1 h
    have HC2 := Aside0.mk hb2
    clear hb2
    cases b2 with
    | false =>
      simp only [Bool.false_eq_true, if_false, Option.some.injEq, Prod.mk.injEq] at h
      obtain ⟨rfl, rfl⟩ := h
      go_enter Tryd.func37, Tryd.ntmps37
      go_wp2_with (go_at_call 78; first | (refine (rule_ruler.calls a1 true _ HC1.out).mono ?_; rintro e w3 ⟨rfl, hb3⟩) | (refine (rule_ruler.calls a3 false _ HC2.out).mono ?_; rintro e w4 ⟨rfl, hb4⟩))
      go_ret2
      exact ⟨rfl, hb3.below.trans (hb4.below.mono hb3.below.size)⟩
    | true =>
      simp only [if_true] at h
      obtain ⟨b3, hb3, h⟩ := Option.bind_eq_some_iff.1 h
      have HC3 := Aside0.mk hb3
      clear hb3
      cases b3 with
      | false =>
        simp only [Bool.false_eq_true, if_false, Option.some.injEq, Prod.mk.injEq] at h
        obtain ⟨rfl, rfl⟩ := h
        go_enter Tryd.func37, Tryd.ntmps37
        go_wp2_with (first | (go_at_call 78; first | (refine (rule_ruler.calls a1 true _ HC1.out).mono ?_; rintro e w3 ⟨rfl, hb3⟩) | (refine (rule_ruler.calls a3 true _ HC2.out).mono ?_; rintro e w4 ⟨rfl, hb4⟩)) | (go_at_call 82; refine (rule_mode.calls a4 false _ HC3.out).mono ?_; rintro e w5 ⟨rfl, hb5⟩))
        go_ret2
        exact ⟨rfl, (hb3.below.trans (hb4.below.mono hb3.below.size)).trans (hb5.below.mono (hb3.below.trans (hb4.below.mono hb3.below.size)).size)⟩
      | true =>
        simp only [if_true] at h
        by_cases hp : a2 < 0
        · rw [if_pos hp] at h
          simp only [Option.some.injEq, Prod.mk.injEq] at h
          obtain ⟨rfl, rfl⟩ := h
          go_enter Tryd.func37, Tryd.ntmps37
          go_wp2_with (first | (go_at_call 78; first | (refine (rule_ruler.calls a1 true _ HC1.out).mono ?_; rintro e w3 ⟨rfl, hb3⟩) | (refine (rule_ruler.calls a3 true _ HC2.out).mono ?_; rintro e w4 ⟨rfl, hb4⟩)) | (go_at_call 82; refine (rule_mode.calls a4 true _ HC3.out).mono ?_; rintro e w5 ⟨rfl, hb5⟩))
          go_ret2
          exact ⟨rfl, (hb3.below.trans (hb4.below.mono hb3.below.size)).trans (hb5.below.mono (hb3.below.trans (hb4.below.mono hb3.below.size)).size)⟩
        · rw [if_neg hp] at h
          by_cases hl : l0.length ≤ 140737488351232
          · rw [if_pos hl] at h
            by_cases hr : 1 ≤ a1 ∧ a1 ≤ 3 ∧ 1 ≤ a3 ∧ a3 ≤ 3
            · rw [if_pos hr] at h
              obtain ⟨n, rfl⟩ : ∃ n : Nat, a1 = n := ⟨a1.toNat, by omega⟩
              simp only [Int.toNat_natCast] at h
              obtain ⟨⟨ed, er⟩, hq⟩ : ∃ q, findE n a2 a4 e0 (edgesL l0) = q := ⟨_, rfl⟩
              rw [hq] at h
              have HF : Aside0 (∀ w', Below w.heap.size w w' → Calls Tryd.prog 83 #[.slice A0 l0.length c0, .int .i64 n, .int .i64 a2, .int .i64 a4] w' fun e w2 => e = .returned (.tuple #[.agg (aggE ed), .int .i64 er]) ∧ Below w'.heap.size w' w2) := ⟨fun w' hb => by
                have h_ := find_any A0 c0 l0 hl n (by omega) (by omega) a2 a4 w' (Kd.C_below HR.out hb) (HG.out.below hb)
                rw [hq] at h_
                exact h_⟩
              clear hq
              by_cases he : er = 0
              · subst he
                simp only [if_true, Option.some.injEq, Prod.mk.injEq] at h
                obtain ⟨rfl, rfl⟩ := h
                obtain rfl | rfl | rfl : a3 = 1 ∨ a3 = 2 ∨ a3 = 3 := by omega
                all_goals
                  go_enter Tryd.func37, Tryd.ntmps37
                  go_wp2_with (first | (go_at_call 78; first | (refine (rule_ruler.calls n true _ HC1.out).mono ?_; rintro e w3 ⟨rfl, hb3⟩) | (refine (rule_ruler.calls _ true _ HC2.out).mono ?_; rintro e w4 ⟨rfl, hb4⟩)) | (go_at_call 82; refine (rule_mode.calls a4 true _ HC3.out).mono ?_; rintro e w5 ⟨rfl, hb5⟩) | (go_at_call 83; have hb6 := (hb3.below.trans (hb4.below.mono hb3.below.size)).trans (hb5.below.mono (hb3.below.trans (hb4.below.mono hb3.below.size)).size); refine (HF.out _ hb6).mono ?_; rintro e w7 ⟨rfl, hb7⟩; simp only [aggE]))
                  go_ret2
                  refine ⟨rfl, ?_⟩
                  exact (hb6.trans (hb7.mono hb6.size)).alloc (Nat.le_trans hb6.size hb7.size) _
              · have hb' : (er == 0) = false := by simp [he]
                simp only [if_neg he, Option.some.injEq, Prod.mk.injEq] at h
                obtain ⟨rfl, rfl⟩ := h
                go_enter Tryd.func37, Tryd.ntmps37
                go_wp2_with (first | (go_at_call 78; first | (refine (rule_ruler.calls n true _ HC1.out).mono ?_; rintro e w3 ⟨rfl, hb3⟩) | (refine (rule_ruler.calls _ true _ HC2.out).mono ?_; rintro e w4 ⟨rfl, hb4⟩)) | (go_at_call 82; refine (rule_mode.calls a4 true _ HC3.out).mono ?_; rintro e w5 ⟨rfl, hb5⟩) | (go_at_call 83; have hb6 := (hb3.below.trans (hb4.below.mono hb3.below.size)).trans (hb5.below.mono (hb3.below.trans (hb4.below.mono hb3.below.size)).size); refine (HF.out _ hb6).mono ?_; rintro e w7 ⟨rfl, hb7⟩; simp only [aggE]))
                go_ret2
                refine ⟨rfl, ?_⟩
                exact (hb6.trans (hb7.mono hb6.size)).alloc (Nat.le_trans hb6.size hb7.size) _
            · rw [if_neg hr] at h; cases h
          · rw [if_neg hl] at h; cases h
end Go.Proofs.YtbomhpfckplgaaaDoor.P
