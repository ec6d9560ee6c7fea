/- Texts of this claim, put together: HTo, Px41, V, PxA, HKeep. -/
import Derived.Lib.DecodeN
import Derived.Lib.RuneCountTail
import Derived.Test.YtbomhpfckplgaaaDoorT0
import Derived.Test.YtbomhpfckplgaaaDoorT1
namespace Go.Proofs.YtbomhpfckplgaaaDoor.P
open Go Go.RowKit Go.Shelf Go.Proofs.YtbomhpfckplgaaaDoorW.PrintWords Go.Proofs.YtbomhpfckplgaaaDoorW.PrintLast Go.Proofs.YtbomhpfckplgaaaDoorW.PrintMore
set_option linter.unusedVariables false
set_option linter.unusedSimpArgs false
set_option maxRecDepth 100000
attribute [local go_sem] Oper.semAt_some
def findE (r : Nat) (place m : Int) : Edge3 → List Edge3 → Edge3 × Int
  | b, [] => (b, 2)
  | b, x :: xs => if pickE x r = place then (x, 0) else if pickE x r < place then findE r place m x xs else if m = 1 then (b, 0) else if m = 2 then (x, 0) else (b, 4)
theorem find_results {tmps : Array Value} {W : World} {g g' : Nat} {cs : Array Value} {n : Int} (hs : cs.size = 4) (h8 : tmps.getD 8 undef = .pointer (some ⟨g, 0, none⟩)) (h9 : tmps.getD 9 undef = .pointer (some ⟨g', 0, none⟩))
    (q8 : W.heap[g]? = some (.cells cs 118 (0, 0))) (q9 : W.heap[g']? = some (.cells #[.int .i64 n] 24 (0, 0))) : (results Tryd.f83 tmps).run Tryd.prog W = .ok (.tuple #[.agg cs, .int .i64 n]) W := by
  have h1 : tmps[8]?.getD undef = .pointer (some ⟨g, 0, none⟩) := by simpa using h8
  have h2 : tmps[9]?.getD undef = .pointer (some ⟨g', 0, none⟩) := by simpa using h9
  have hr := run_loadVar_row (P := Tryd.prog) W g 118 118 cs (0, 0) _ q8 Tryd.underlying118 rfl (by rw [hs]; kernel_rfl)
  have c9 : W.cell? ⟨g', 0, none⟩ = some (.int .i64 n) := (blk_cell q9 0).trans rfl
  have hl : (loadVar 24 ⟨g', 0, none⟩).run Tryd.prog W = .ok (.int .i64 n) W := by
    go_simp
  simp [results, show Tryd.f83.results = #[.cell 8 118, .cell 9 24] from rfl, h1, h2, asAddr, hr, hl]
section
variable {Y w : World} {b k n : Nat} {t : TypeId} {u0 u1 u2 u3 v0 v1 v2 v3 : Value}
def put4 (Y : World) (b : Nat) (v0 v1 v2 v3 : Value) : World := (((Y.setCell ⟨b, 0, none⟩ v0).setCell ⟨b, 1, none⟩ v1).setCell ⟨b, 2, none⟩ v2).setCell ⟨b, 3, none⟩ v3
theorem put4_same (h : Y.heap[b]? = some (.cells #[u0, u1, u2, u3] t (0, 0))) : (put4 Y b v0 v1 v2 v3).heap[b]? = some (.cells #[v0, v1, v2, v3] t (0, 0)) :=
  blk_put (cs := #[v0, v1, v2, u3]) (blk_put (cs := #[v0, v1, u2, u3]) (blk_put (cs := #[v0, u1, u2, u3]) (blk_put (cs := #[u0, u1, u2, u3]) h 0 _ rfl) 1 _ rfl) 2 _ rfl) 3 _ rfl
theorem put4_far (h : k ≠ b) : (put4 Y b v0 v1 v2 v3).heap[k]? = Y.heap[k]? :=
  (Below.heap_setCell _ _ _ k h).trans ((Below.heap_setCell _ _ _ k h).trans ((Below.heap_setCell _ _ _ k h).trans (Below.heap_setCell _ _ _ k h)))
theorem put4_KpC {C : Nat → Obj → Prop} (h : ∀ o, C b o) : KpC C Y (put4 Y b v0 v1 v2 v3) := (KpC.setCell _ _ _ h).trans ((KpC.setCell _ _ _ h).trans ((KpC.setCell _ _ _ h).trans (KpC.setCell _ _ _ h)))
theorem put4_below (hB : Below n w Y) (h : n ≤ b) : Below n w (put4 Y b v0 v1 v2 v3) := (((hB.setCell h _).setCell h _).setCell h _).setCell h _
end
set_option maxHeartbeats 8000000 in
theorem find_any (A : Option Addr) (c : Nat) (l : List Int) (hl : l.length ≤ 140737488351232) (r : Nat) (h1 : 1 ≤ r) (h3 : r ≤ 3) (place m : Int) (w : World) (hr : Kd.C (Kd.int .u8) w A l.length l) (hG : Laid w) :
    Calls Tryd.prog 83 #[.slice A l.length c, .int .i64 r, .int .i64 place, .int .i64 m] w fun e w' => e = .returned (.tuple #[.agg (aggE (findE r place m e0 (edgesL l)).1), .int .i64 (findE r place m e0 (edgesL l)).2]) ∧ Below w.heap.size w w' := by
  refine (callsIn_wide (n := 30)).1 ?_
  refine callsIn_of_wp_marks Tryd.func83 rfl trivial ?_ rfl
  simp only [Tryd.ntmps83, List.size_toArray, List.length_cons, List.length_nil, Nat.reduceAdd, Nat.reduceSub, Array.replicate_succ, Array.replicate_zero, List.push_toArray, List.append_toArray, List.nil_append, List.cons_append]
  have HG := Aside0.mk hG
  have HR := Aside0.mk hr
  clear hG hr
  gi_wp2_with (refine ⟨trivial, ?_⟩; gi_at_call 80; refine (callsIn_wide.2 (edges_any A c l.length _)).mono ?_; rintro e w3 ⟨rfl, rfl⟩)
  obtain ⟨W0, hW0⟩ : ∃ W0, (((((((w.alloc (.cells #[.int .i64 r] 28)).alloc (.cells #[.int .i64 place] 3)).alloc (.cells #[.int .i64 m] 41)).alloc (.cells #[.int .i64 0, .int .i64 0, .int .i64 0, .int .i64 0] 118)).alloc (.cells #[.int .i64 0] 24)).alloc (.cells #[.int .i64 0, .int .i64 0, .int .i64 0, .int .i64 0] 118)).alloc (.cells #[.slice A l.length c] 22)) = W0 := ⟨_, rfl⟩
  have b0 : W0.heap[w.heap.size]? = some (.cells #[.int .i64 r] 28 (0, 0)) := by
    have h_ := blk_alloc (blk_alloc (blk_alloc (blk_alloc (blk_alloc (blk_alloc (blk_new w (.cells #[.int .i64 r] 28)) (.cells #[.int .i64 place] 3)) (.cells #[.int .i64 m] 41)) (.cells #[.int .i64 0, .int .i64 0, .int .i64 0, .int .i64 0] 118)) (.cells #[.int .i64 0] 24)) (.cells #[.int .i64 0, .int .i64 0, .int .i64 0, .int .i64 0] 118)) (.cells #[.slice A l.length c] 22)
    skip
    rw [← hW0]
    exact h_
  have b1 : W0.heap[w.heap.size + 1]? = some (.cells #[.int .i64 place] 3 (0, 0)) := by
    have h_ := blk_alloc (blk_alloc (blk_alloc (blk_alloc (blk_alloc (blk_new (w.alloc (.cells #[.int .i64 r] 28)) (.cells #[.int .i64 place] 3)) (.cells #[.int .i64 m] 41)) (.cells #[.int .i64 0, .int .i64 0, .int .i64 0, .int .i64 0] 118)) (.cells #[.int .i64 0] 24)) (.cells #[.int .i64 0, .int .i64 0, .int .i64 0, .int .i64 0] 118)) (.cells #[.slice A l.length c] 22)
    simp only [World.size_alloc] at h_
    rw [← hW0]
    exact h_
  have b2 : W0.heap[w.heap.size + 1 + 1]? = some (.cells #[.int .i64 m] 41 (0, 0)) := by
    have h_ := blk_alloc (blk_alloc (blk_alloc (blk_alloc (blk_new ((w.alloc (.cells #[.int .i64 r] 28)).alloc (.cells #[.int .i64 place] 3)) (.cells #[.int .i64 m] 41)) (.cells #[.int .i64 0, .int .i64 0, .int .i64 0, .int .i64 0] 118)) (.cells #[.int .i64 0] 24)) (.cells #[.int .i64 0, .int .i64 0, .int .i64 0, .int .i64 0] 118)) (.cells #[.slice A l.length c] 22)
    simp only [World.size_alloc] at h_
    rw [← hW0]
    exact h_
  have b3 : W0.heap[w.heap.size + 1 + 1 + 1]? = some (.cells #[.int .i64 0, .int .i64 0, .int .i64 0, .int .i64 0] 118 (0, 0)) := by
    have h_ := blk_alloc (blk_alloc (blk_alloc (blk_new (((w.alloc (.cells #[.int .i64 r] 28)).alloc (.cells #[.int .i64 place] 3)).alloc (.cells #[.int .i64 m] 41)) (.cells #[.int .i64 0, .int .i64 0, .int .i64 0, .int .i64 0] 118)) (.cells #[.int .i64 0] 24)) (.cells #[.int .i64 0, .int .i64 0, .int .i64 0, .int .i64 0] 118)) (.cells #[.slice A l.length c] 22)
    simp only [World.size_alloc] at h_
    rw [← hW0]
    exact h_
  have b4 : W0.heap[w.heap.size + 1 + 1 + 1 + 1]? = some (.cells #[.int .i64 0] 24 (0, 0)) := by
    have h_ := blk_alloc (blk_alloc (blk_new ((((w.alloc (.cells #[.int .i64 r] 28)).alloc (.cells #[.int .i64 place] 3)).alloc (.cells #[.int .i64 m] 41)).alloc (.cells #[.int .i64 0, .int .i64 0, .int .i64 0, .int .i64 0] 118)) (.cells #[.int .i64 0] 24)) (.cells #[.int .i64 0, .int .i64 0, .int .i64 0, .int .i64 0] 118)) (.cells #[.slice A l.length c] 22)
    simp only [World.size_alloc] at h_
    rw [← hW0]
    exact h_
  have b5 : W0.heap[w.heap.size + 1 + 1 + 1 + 1 + 1]? = some (.cells #[.int .i64 0, .int .i64 0, .int .i64 0, .int .i64 0] 118 (0, 0)) := by
    have h_ := blk_alloc (blk_new (((((w.alloc (.cells #[.int .i64 r] 28)).alloc (.cells #[.int .i64 place] 3)).alloc (.cells #[.int .i64 m] 41)).alloc (.cells #[.int .i64 0, .int .i64 0, .int .i64 0, .int .i64 0] 118)).alloc (.cells #[.int .i64 0] 24)) (.cells #[.int .i64 0, .int .i64 0, .int .i64 0, .int .i64 0] 118)) (.cells #[.slice A l.length c] 22)
    simp only [World.size_alloc] at h_
    rw [← hW0]
    exact h_
  have b6 : W0.heap[w.heap.size + 1 + 1 + 1 + 1 + 1 + 1]? = some (.cells #[.slice A l.length c] 22 (0, 0)) := by
    have h_ := blk_new ((((((w.alloc (.cells #[.int .i64 r] 28)).alloc (.cells #[.int .i64 place] 3)).alloc (.cells #[.int .i64 m] 41)).alloc (.cells #[.int .i64 0, .int .i64 0, .int .i64 0, .int .i64 0] 118)).alloc (.cells #[.int .i64 0] 24)).alloc (.cells #[.int .i64 0, .int .i64 0, .int .i64 0, .int .i64 0] 118)) (.cells #[.slice A l.length c] 22)
    simp only [World.size_alloc] at h_
    rw [← hW0]
    exact h_
  have hb : Below w.heap.size w W0 := by
    rw [← hW0]
    exact (((((((Below.refl _ w).alloc (by (try simp only [World.size_alloc]); omega) _).alloc (by (try simp only [World.size_alloc]); omega) _).alloc (by (try simp only [World.size_alloc]); omega) _).alloc (by (try simp only [World.size_alloc]); omega) _).alloc (by (try simp only [World.size_alloc]); omega) _).alloc (by (try simp only [World.size_alloc]); omega) _).alloc (by (try simp only [World.size_alloc]); omega) _
  have hz : W0.heap.size = w.heap.size + 7 := by rw [← hW0]; simp only [World.size_alloc]
  rw [hW0]
  clear hW0
  refine wpIn_seq (T := T118) (fun _ h => .inl h) (by omega) (gf := 115) (lb := #[.pointer (some ⟨w.heap.size + 1 + 1 + 1 + 1 + 1 + 1, 0, none⟩)]) rfl (enters_of Tryd.func115 (by kernel_rfl) rfl)
    (edges1_seq A c l hl W0 (HG.out.below hb) (w.heap.size + 1 + 1 + 1 + 1 + 1 + 1) b6 (Kd.C_below HR.out hb)) (fun k _ => w.heap.size + 1 + 1 + 1 ≤ k ∧ k ≤ w.heap.size + 1 + 1 + 1 + 1 + 1) ?hS ?hD (Below.refl _ _) (fun _ => rfl)
    (fun pre X => X.heap[w.heap.size]? = some (.cells #[.int .i64 r] 28 (0, 0)) ∧ (X.heap[w.heap.size + 1]? = some (.cells #[.int .i64 place] 3 (0, 0)) ∧ (X.heap[w.heap.size + 1 + 1]? = some (.cells #[.int .i64 m] 41 (0, 0)) ∧ (X.heap[w.heap.size + 1 + 1 + 1]? = some (.cells (aggE e0) 118 (0, 0)) ∧ (X.heap[w.heap.size + 1 + 1 + 1 + 1]? = some (.cells #[.int .i64 0] 24 (0, 0)) ∧ (X.heap[w.heap.size + 1 + 1 + 1 + 1 + 1]? = some (.cells (aggE (pre.getLast?.getD e0)) 118 (0, 0)) ∧ (Below w.heap.size w X ∧ (∀ rest, edgesL l = pre ++ rest → findE r place m e0 (edgesL l) = findE r place m (pre.getLast?.getD e0) rest))))))))
    (fun cc pre X => cc = .ret ∧ (X.heap[w.heap.size + 1 + 1 + 1]? = some (.cells (aggE (findE r place m e0 (edgesL l)).1) 118 (0, 0)) ∧ (X.heap[w.heap.size + 1 + 1 + 1 + 1]? = some (.cells #[.int .i64 (findE r place m e0 (edgesL l)).2] 24 (0, 0)) ∧ Below w.heap.size w X)))
    ?hI ?hIx ⟨b0, b1, b2, b3, b4, b5, hb, fun rest h => by rw [show edgesL l = rest from h]; rfl⟩
    (fun x a' X => ∃ Bx, X.heap[Bx]? = some (.cells (aggE x) 118 (0, 0)) ∧ a' = { tmps := #[.slice A l.length c, .int .i64 r, .int .i64 place, .int .i64 m, undef, .pointer (some ⟨w.heap.size, 0, none⟩), .pointer (some ⟨w.heap.size + 1, 0, none⟩), .pointer (some ⟨w.heap.size + 1 + 1, 0, none⟩), .pointer (some ⟨w.heap.size + 1 + 1 + 1, 0, none⟩), .pointer (some ⟨w.heap.size + 1 + 1 + 1 + 1, 0, none⟩), .pointer (some ⟨w.heap.size + 1 + 1 + 1 + 1 + 1, 0, none⟩), .pointer (some ⟨Bx, 0, none⟩), .slice A l.length c, .func (.func 115) #[] #[.pointer (some ⟨w.heap.size + 1 + 1 + 1 + 1 + 1 + 1, 0, none⟩)], .agg (aggE x), undef, undef, undef, undef, undef, undef, undef, undef, undef, undef, undef, undef, undef, undef, undef, undef, undef, undef, undef, undef, undef, undef, undef], defers := [] })
    ?hAx ?assign ?body ?done ?stop
  case hS =>
    rintro k o ⟨_, h⟩
    exact .inl (by omega)
  case hD =>
    have := (HG.out).pos
    rintro k (rfl | rfl | ⟨hn, ad, e, rfl⟩)
    · exact ⟨by omega, fun _ _ => by omega⟩
    · exact ⟨by omega, fun _ _ => by omega⟩
    · have := lowA HR.out hn e
      exact ⟨by omega, fun _ _ => by omega⟩
  case hI => exact OwnT.and (ownT_low _ _ _ (by omega) _) (OwnT.and (ownT_low _ _ _ (by omega) _) (OwnT.and (ownT_low _ _ _ (by omega) _) (OwnT.and (ownT_low _ _ _ (by omega) _) (OwnT.and (ownT_low _ _ _ (by omega) _) (OwnT.and (ownT_low _ _ _ (by omega) _) (OwnT.and (ownT_below _ (Nat.le_refl _) (by omega)) (ownT_pure _ _ _)))))))
  case hIx => exact fun cc => OwnT.and (ownT_pure _ _ _) (OwnT.and (ownT_low _ _ _ (by omega) _) (OwnT.and (ownT_low _ _ _ (by omega) _) (ownT_below _ (Nat.le_refl _) (by omega))))
  case hAx =>
    rintro x a' s X X' row ⟨Bx, h1, h2⟩ hg hr
    exact ⟨Bx, ownT_blk (β := Unit) (fun o => o.isCells = false) _ Bx (fun _ => .cells (aggE x) 118 (0, 0)) (fun _ h => by cases h) () X X' row h1 hg hr, h2⟩
  case assign =>
    rintro l' pre x rest X K hxs hlt ⟨q0, q1, q2, q3, q4, q5, hB, hP⟩ hK
    dsimp only [encEdge]
    clear b0 b1 b2 b3 b4 b5 b6
    gi_wp2
    exact hK _ _ (KpC.alloc _ _) ⟨blk_alloc q0 _, blk_alloc q1 _, blk_alloc q2 _, blk_alloc q3 _, blk_alloc q4 _, blk_alloc q5 _, hB.alloc hB.size _, hP⟩ ⟨X.heap.size, blk_new _ _, rfl⟩
  case body =>
    clear b0 b1 b2 b3 b4 b5 b6
    rintro l' pre x rest a' X hxs hlt ⟨q0, q1, q2, q3, q4, q5, hB, hP⟩ ⟨Bx, bBx, rfl⟩
    have hP := hP (x :: rest) hxs
    have hr4 : (r : Int) < 4 := by omega
    have c00 : X.drew.cell? ⟨w.heap.size, 0, none⟩ = some (.int .i64 r) := (blk_cell q0 0).trans rfl
    have c10 : X.drew.cell? ⟨w.heap.size + 1, 0, none⟩ = some (.int .i64 place) := (blk_cell q1 0).trans rfl
    have cX : X.drew.cell? ⟨Bx, r, none⟩ = some (.int .i64 (pickE x r)) := (blk_cell bBx r).trans (aggE_get x r h1 h3)
    refine wpIn_block ?_
    refine Go.wpIn_seq ?_
    refine wpIn_block ?_
    refine Go.wpIn_seq ?_
    refine startIn_ (S := fun w' => w'.cell? ⟨w.heap.size, 0, none⟩ = some (.int .i64 r) ∧ w'.cell? ⟨w.heap.size + 1, 0, none⟩ = some (.int .i64 place) ∧ w'.cell? ⟨Bx, r, none⟩ = some (.int .i64 (pickE x r))) (ds := []) #[false, false, false, false, false, false] (by kernel_rfl) (by kernel_rfl) rfl rfl ⟨c00, c10, cX⟩ (fun hHeld => ?_)
    clear c00 c10 cX
    refine take_ (i := 0) (N := some 16) (v := ?_) (a' := ?_) #[true, false, false, false, false, false] rfl rfl (by kernel_rfl) (fun _ _ _ h => h) (Or.inl ⟨by rfl, ?_⟩) hHeld ?_ ?_
    rotate_left
    · rintro w' ⟨s0, s1, s2⟩
      go_simp
      with_reducible rfl
    rotate_left
    · simp only [Act.put, List.setIfInBounds_toArray, List.set_cons_zero, List.set_cons_succ, i64_w, i32_w]
      rfl
    refine pure_ (i := 1) (N := some 17) (v := ?_) (a' := ?_) #[true, true, false, false, false, false] rfl rfl (by kernel_rfl) (fun _ _ _ h => h) (Or.inl ⟨by rfl, ?_⟩) ?_ ?_
    rotate_left
    · intro w'
      go_simp
      with_reducible rfl
    rotate_left
    · simp only [Act.put, List.setIfInBounds_toArray, List.set_cons_zero, List.set_cons_succ, i64_w, i32_w]
      rfl
    refine take_ (i := 2) (N := some 18) (v := ?_) (a' := ?_) #[true, true, true, false, false, false] rfl rfl (by kernel_rfl) (fun _ _ _ h => h) (Or.inl ⟨by rfl, ?_⟩) hHeld ?_ ?_
    rotate_left
    · rintro w' ⟨s0, s1, s2⟩
      go_simp
      with_reducible rfl
    rotate_left
    · simp only [Act.put, List.setIfInBounds_toArray, List.set_cons_zero, List.set_cons_succ, i64_w, i32_w]
      rfl
    refine take_ (i := 3) (N := some 19) (v := ?_) (a' := ?_) #[true, true, true, true, false, false] rfl rfl (by kernel_rfl) (fun _ _ _ h => h) (Or.inl ⟨by rfl, ?_⟩) hHeld ?_ ?_
    rotate_left
    · rintro w' ⟨s0, s1, s2⟩
      go_simp
      with_reducible rfl
    rotate_left
    · simp only [Act.put, List.setIfInBounds_toArray, List.set_cons_zero, List.set_cons_succ, i64_w, i32_w]
      rfl
    refine pure_ (i := 4) (N := some 20) (v := ?_) (a' := ?_) #[true, true, true, true, true, false] rfl rfl (by kernel_rfl) (fun _ _ _ h => h) (Or.inl ⟨by rfl, ?_⟩) ?_ ?_
    rotate_left
    · intro w'
      go_simp
      with_reducible rfl
    rotate_left
    · simp only [Act.put, List.setIfInBounds_toArray, List.set_cons_zero, List.set_cons_succ, i64_w, i32_w]
      rfl
    refine pure_ (i := 5) (N := some 15) (v := ?_) (a' := ?_) #[true, true, true, true, true, true] rfl rfl (by kernel_rfl) (fun _ _ _ h => h) (Or.inl ⟨by rfl, ?_⟩) ?_ ?_
    rotate_left
    · intro w'
      go_simp
      with_reducible rfl
    rotate_left
    · simp only [Act.put, List.setIfInBounds_toArray, List.set_cons_zero, List.set_cons_succ, i64_w, i32_w]
      rfl
    refine done_ (by kernel_rfl) ?_
    change Code.wpIn _ _ _ _ _ _ _
    have hKp : KpC (fun (k : Nat) (_ : Obj) => w.heap.size + 1 + 1 + 1 ≤ k ∧ k ≤ w.heap.size + 1 + 1 + 1 + 1 + 1) X X.drew := KpC.drew X
    replace hB : Below w.heap.size w X.drew := hB.drew
    replace q0 : X.drew.heap[w.heap.size]? = some (.cells #[.int .i64 r] 28 (0, 0)) := q0
    replace q1 : X.drew.heap[w.heap.size + 1]? = some (.cells #[.int .i64 place] 3 (0, 0)) := q1
    replace q2 : X.drew.heap[w.heap.size + 1 + 1]? = some (.cells #[.int .i64 m] 41 (0, 0)) := q2
    replace q3 : X.drew.heap[w.heap.size + 1 + 1 + 1]? = some (.cells (aggE e0) 118 (0, 0)) := q3
    replace q4 : X.drew.heap[w.heap.size + 1 + 1 + 1 + 1]? = some (.cells #[.int .i64 0] 24 (0, 0)) := q4
    replace q5 : X.drew.heap[w.heap.size + 1 + 1 + 1 + 1 + 1]? = some (.cells (aggE (pre.getLast?.getD e0)) 118 (0, 0)) := q5
    replace bBx : X.drew.heap[Bx]? = some (.cells (aggE x) 118 (0, 0)) := bBx
    clear hHeld
    generalize X.drew = Y at *
    by_cases hp : pickE x r = place
    · have hd : (pickE x r == place) = true := by simp [hp]
      have c30 : Y.cell? ⟨w.heap.size + 1 + 1 + 1, 0, none⟩ = some (.int .i64 0) := (blk_cell q3 0).trans rfl
      have f30 : Y.frozen? ⟨w.heap.size + 1 + 1 + 1, 0, none⟩ = false := blk_frozen q3 0
      have c31 : Y.cell? ⟨w.heap.size + 1 + 1 + 1, 1, none⟩ = some (.int .i64 e0.1) := (blk_cell q3 1).trans rfl
      have f31 : Y.frozen? ⟨w.heap.size + 1 + 1 + 1, 1, none⟩ = false := blk_frozen q3 1
      have c32 : Y.cell? ⟨w.heap.size + 1 + 1 + 1, 2, none⟩ = some (.int .i64 e0.2.1) := (blk_cell q3 2).trans rfl
      have f32 : Y.frozen? ⟨w.heap.size + 1 + 1 + 1, 2, none⟩ = false := blk_frozen q3 2
      have c33 : Y.cell? ⟨w.heap.size + 1 + 1 + 1, 3, none⟩ = some (.int .i64 e0.2.2) := (blk_cell q3 3).trans rfl
      have f33 : Y.frozen? ⟨w.heap.size + 1 + 1 + 1, 3, none⟩ = false := blk_frozen q3 3
      have c40 : Y.cell? ⟨w.heap.size + 1 + 1 + 1 + 1, 0, none⟩ = some (.int .i64 0) := (blk_cell q4 0).trans rfl
      have f40 : Y.frozen? ⟨w.heap.size + 1 + 1 + 1 + 1, 0, none⟩ = false := blk_frozen q4 0
      have cX0 : Y.cell? ⟨Bx, 0, none⟩ = some (.int .i64 0) := (blk_cell bBx 0).trans rfl
      have fX0 : Y.frozen? ⟨Bx, 0, none⟩ = false := blk_frozen bBx 0
      have cX1 : Y.cell? ⟨Bx, 1, none⟩ = some (.int .i64 x.1) := (blk_cell bBx 1).trans rfl
      have fX1 : Y.frozen? ⟨Bx, 1, none⟩ = false := blk_frozen bBx 1
      have cX2 : Y.cell? ⟨Bx, 2, none⟩ = some (.int .i64 x.2.1) := (blk_cell bBx 2).trans rfl
      have fX2 : Y.frozen? ⟨Bx, 2, none⟩ = false := blk_frozen bBx 2
      have cX3 : Y.cell? ⟨Bx, 3, none⟩ = some (.int .i64 x.2.2) := (blk_cell bBx 3).trans rfl
      have fX3 : Y.frozen? ⟨Bx, 3, none⟩ = false := blk_frozen bBx 3
      have hres : findE r place m e0 (edgesL l) = (x, 0) := by rw [hP]; simp only [findE, if_pos hp]
      have HQ := Aside0.mk (And.intro hres (And.intro hKp (And.intro q0 (And.intro q1 (And.intro q2 (And.intro q3 (And.intro q4 (And.intro q5 (And.intro hB hxs)))))))))
      clear hres hP hKp q0 q1 q2 q3 q4 q5 hB bBx hxs
      obtain ⟨bl, hbl⟩ : ∃ bl, pre.getLast?.getD e0 = bl := ⟨_, rfl⟩
      try rw [hbl] at *
      gi_wp2
      obtain ⟨hres, hKp, q0, q1, q2, q3, q4, q5, hB, hxs⟩ := HQ.out
      rw [hres]
      refine ⟨hKp.trans ((put4_KpC (by intro _; exact ⟨by omega, by omega⟩)).trans (KpC.setCell _ _ _ (by intro _; exact ⟨by show _ ≤ w.heap.size + 1 + 1 + 1 + 1; omega, by show w.heap.size + 1 + 1 + 1 + 1 ≤ _; omega⟩))), rfl, ?_, ?_, ?_⟩
      · exact (Below.heap_setCell _ _ _ _ (by show _ ≠ w.heap.size + 1 + 1 + 1 + 1; omega)).trans (put4_same q3)
      · exact blk_put (cs := #[_]) ((put4_far (by omega)).trans q4) 0 _ rfl
      · exact (put4_below hB (by omega)).setCell (by show _ ≤ w.heap.size + 1 + 1 + 1 + 1; omega) _
    · have hd : (pickE x r == place) = false := by simp [hp]
      refine wpIn_cond_false (congrArg Value.bool hd) ?_
      refine Go.wpIn_seq ?_
      have c00 : Y.drew.cell? ⟨w.heap.size, 0, none⟩ = some (.int .i64 r) := (blk_cell q0 0).trans rfl
      have c10 : Y.drew.cell? ⟨w.heap.size + 1, 0, none⟩ = some (.int .i64 place) := (blk_cell q1 0).trans rfl
      have cX : Y.drew.cell? ⟨Bx, r, none⟩ = some (.int .i64 (pickE x r)) := (blk_cell bBx r).trans (aggE_get x r h1 h3)
      refine startIn_ (S := fun w' => w'.cell? ⟨w.heap.size, 0, none⟩ = some (.int .i64 r) ∧ w'.cell? ⟨w.heap.size + 1, 0, none⟩ = some (.int .i64 place) ∧ w'.cell? ⟨Bx, r, none⟩ = some (.int .i64 (pickE x r))) (ds := []) #[false, false, false, false, false, false] (by kernel_rfl) (by kernel_rfl) rfl rfl ⟨c00, c10, cX⟩ (fun hHeld => ?_)
      clear c00 c10 cX
      refine take_ (i := 0) (N := some 23) (v := ?_) (a' := ?_) #[true, false, false, false, false, false] rfl rfl (by kernel_rfl) (fun _ _ _ h => h) (Or.inl ⟨by rfl, ?_⟩) hHeld ?_ ?_
      rotate_left
      · rintro w' ⟨s0, s1, s2⟩
        go_simp
        with_reducible rfl
      rotate_left
      · simp only [Act.put, List.setIfInBounds_toArray, List.set_cons_zero, List.set_cons_succ, i64_w, i32_w]
        rfl
      refine pure_ (i := 1) (N := some 24) (v := ?_) (a' := ?_) #[true, true, false, false, false, false] rfl rfl (by kernel_rfl) (fun _ _ _ h => h) (Or.inl ⟨by rfl, ?_⟩) ?_ ?_
      rotate_left
      · intro w'
        go_simp
        with_reducible rfl
      rotate_left
      · simp only [Act.put, List.setIfInBounds_toArray, List.set_cons_zero, List.set_cons_succ, i64_w, i32_w]
        rfl
      refine take_ (i := 2) (N := some 25) (v := ?_) (a' := ?_) #[true, true, true, false, false, false] rfl rfl (by kernel_rfl) (fun _ _ _ h => h) (Or.inl ⟨by rfl, ?_⟩) hHeld ?_ ?_
      rotate_left
      · rintro w' ⟨s0, s1, s2⟩
        go_simp
        with_reducible rfl
      rotate_left
      · simp only [Act.put, List.setIfInBounds_toArray, List.set_cons_zero, List.set_cons_succ, i64_w, i32_w]
        rfl
      refine take_ (i := 3) (N := some 26) (v := ?_) (a' := ?_) #[true, true, true, true, false, false] rfl rfl (by kernel_rfl) (fun _ _ _ h => h) (Or.inl ⟨by rfl, ?_⟩) hHeld ?_ ?_
      rotate_left
      · rintro w' ⟨s0, s1, s2⟩
        go_simp
        with_reducible rfl
      rotate_left
      · simp only [Act.put, List.setIfInBounds_toArray, List.set_cons_zero, List.set_cons_succ, i64_w, i32_w]
        rfl
      refine pure_ (i := 4) (N := some 27) (v := ?_) (a' := ?_) #[true, true, true, true, true, false] rfl rfl (by kernel_rfl) (fun _ _ _ h => h) (Or.inl ⟨by rfl, ?_⟩) ?_ ?_
      rotate_left
      · intro w'
        go_simp
        with_reducible rfl
      rotate_left
      · simp only [Act.put, List.setIfInBounds_toArray, List.set_cons_zero, List.set_cons_succ, i64_w, i32_w]
        rfl
      refine pure_ (i := 5) (N := some 22) (v := ?_) (a' := ?_) #[true, true, true, true, true, true] rfl rfl (by kernel_rfl) (fun _ _ _ h => h) (Or.inl ⟨by rfl, ?_⟩) ?_ ?_
      rotate_left
      · intro w'
        go_simp
        with_reducible rfl
      rotate_left
      · simp only [Act.put, List.setIfInBounds_toArray, List.set_cons_zero, List.set_cons_succ, i64_w, i32_w]
        rfl
      refine done_ (by kernel_rfl) ?_
      change Code.wpIn _ _ _ _ _ _ _
      replace hKp : KpC (fun (k : Nat) (_ : Obj) => w.heap.size + 1 + 1 + 1 ≤ k ∧ k ≤ w.heap.size + 1 + 1 + 1 + 1 + 1) X Y.drew := hKp.trans (KpC.drew Y)
      replace hB : Below w.heap.size w Y.drew := hB.drew
      replace q0 : Y.drew.heap[w.heap.size]? = some (.cells #[.int .i64 r] 28 (0, 0)) := q0
      replace q1 : Y.drew.heap[w.heap.size + 1]? = some (.cells #[.int .i64 place] 3 (0, 0)) := q1
      replace q2 : Y.drew.heap[w.heap.size + 1 + 1]? = some (.cells #[.int .i64 m] 41 (0, 0)) := q2
      replace q3 : Y.drew.heap[w.heap.size + 1 + 1 + 1]? = some (.cells (aggE e0) 118 (0, 0)) := q3
      replace q4 : Y.drew.heap[w.heap.size + 1 + 1 + 1 + 1]? = some (.cells #[.int .i64 0] 24 (0, 0)) := q4
      replace q5 : Y.drew.heap[w.heap.size + 1 + 1 + 1 + 1 + 1]? = some (.cells (aggE (pre.getLast?.getD e0)) 118 (0, 0)) := q5
      replace bBx : Y.drew.heap[Bx]? = some (.cells (aggE x) 118 (0, 0)) := bBx
      clear hHeld
      generalize Y.drew = Z at *
      by_cases hp2 : pickE x r < place
      · have hd2 : decide (pickE x r < place) = true := decide_eq_true hp2
        have c50 : Z.cell? ⟨w.heap.size + 1 + 1 + 1 + 1 + 1, 0, none⟩ = some (.int .i64 0) := (blk_cell q5 0).trans rfl
        have f50 : Z.frozen? ⟨w.heap.size + 1 + 1 + 1 + 1 + 1, 0, none⟩ = false := blk_frozen q5 0
        have c51 : Z.cell? ⟨w.heap.size + 1 + 1 + 1 + 1 + 1, 1, none⟩ = some (.int .i64 (pre.getLast?.getD e0).1) := (blk_cell q5 1).trans rfl
        have f51 : Z.frozen? ⟨w.heap.size + 1 + 1 + 1 + 1 + 1, 1, none⟩ = false := blk_frozen q5 1
        have c52 : Z.cell? ⟨w.heap.size + 1 + 1 + 1 + 1 + 1, 2, none⟩ = some (.int .i64 (pre.getLast?.getD e0).2.1) := (blk_cell q5 2).trans rfl
        have f52 : Z.frozen? ⟨w.heap.size + 1 + 1 + 1 + 1 + 1, 2, none⟩ = false := blk_frozen q5 2
        have c53 : Z.cell? ⟨w.heap.size + 1 + 1 + 1 + 1 + 1, 3, none⟩ = some (.int .i64 (pre.getLast?.getD e0).2.2) := (blk_cell q5 3).trans rfl
        have f53 : Z.frozen? ⟨w.heap.size + 1 + 1 + 1 + 1 + 1, 3, none⟩ = false := blk_frozen q5 3
        have cX0 : Z.cell? ⟨Bx, 0, none⟩ = some (.int .i64 0) := (blk_cell bBx 0).trans rfl
        have fX0 : Z.frozen? ⟨Bx, 0, none⟩ = false := blk_frozen bBx 0
        have cX1 : Z.cell? ⟨Bx, 1, none⟩ = some (.int .i64 x.1) := (blk_cell bBx 1).trans rfl
        have fX1 : Z.frozen? ⟨Bx, 1, none⟩ = false := blk_frozen bBx 1
        have cX2 : Z.cell? ⟨Bx, 2, none⟩ = some (.int .i64 x.2.1) := (blk_cell bBx 2).trans rfl
        have fX2 : Z.frozen? ⟨Bx, 2, none⟩ = false := blk_frozen bBx 2
        have cX3 : Z.cell? ⟨Bx, 3, none⟩ = some (.int .i64 x.2.2) := (blk_cell bBx 3).trans rfl
        have fX3 : Z.frozen? ⟨Bx, 3, none⟩ = false := blk_frozen bBx 3
        have hres : findE r place m e0 (edgesL l) = findE r place m x rest := by rw [hP]; simp only [findE, if_neg hp, if_pos hp2]
        have HQ := Aside0.mk (And.intro hres (And.intro hKp (And.intro q0 (And.intro q1 (And.intro q2 (And.intro q3 (And.intro q4 (And.intro q5 (And.intro hB hxs)))))))))
        clear hres hP hKp q0 q1 q2 q3 q4 q5 hB bBx hxs
        obtain ⟨bl, hbl⟩ : ∃ bl, pre.getLast?.getD e0 = bl := ⟨_, rfl⟩
        try rw [hbl] at *
        gi_wp2
        obtain ⟨hres, hKp, q0, q1, q2, q3, q4, q5, hB, hxs⟩ := HQ.out
        have hlast : (pre ++ [x]).getLast?.getD e0 = x := by simp
        refine ⟨hKp.trans (put4_KpC (by intro _; exact ⟨by omega, by omega⟩)), (put4_far (by omega)).trans q0, (put4_far (by omega)).trans q1, (put4_far (by omega)).trans q2, (put4_far (by omega)).trans q3, (put4_far (by omega)).trans q4, ?_, put4_below hB (by omega), ?_⟩
        · rw [hlast]
          exact put4_same q5
        · intro rest' hr'
          rw [hlast, hres]
          have h_ : pre ++ x :: rest = pre ++ [x] ++ rest' := hxs.symm.trans hr'
          rw [List.append_assoc, List.append_cancel_left_eq, List.singleton_append, List.cons.injEq] at h_
          rw [← h_.2]
      · have hd2 : decide (pickE x r < place) = false := decide_eq_false hp2
        by_cases hm1 : m = 1
        · subst hm1
          have c20 : Z.cell? ⟨w.heap.size + 1 + 1, 0, none⟩ = some (.int .i64 1) := (blk_cell q2 0).trans rfl
          have f20 : Z.frozen? ⟨w.heap.size + 1 + 1, 0, none⟩ = false := blk_frozen q2 0
          have c30 : Z.cell? ⟨w.heap.size + 1 + 1 + 1, 0, none⟩ = some (.int .i64 0) := (blk_cell q3 0).trans rfl
          have f30 : Z.frozen? ⟨w.heap.size + 1 + 1 + 1, 0, none⟩ = false := blk_frozen q3 0
          have c31 : Z.cell? ⟨w.heap.size + 1 + 1 + 1, 1, none⟩ = some (.int .i64 e0.1) := (blk_cell q3 1).trans rfl
          have f31 : Z.frozen? ⟨w.heap.size + 1 + 1 + 1, 1, none⟩ = false := blk_frozen q3 1
          have c32 : Z.cell? ⟨w.heap.size + 1 + 1 + 1, 2, none⟩ = some (.int .i64 e0.2.1) := (blk_cell q3 2).trans rfl
          have f32 : Z.frozen? ⟨w.heap.size + 1 + 1 + 1, 2, none⟩ = false := blk_frozen q3 2
          have c33 : Z.cell? ⟨w.heap.size + 1 + 1 + 1, 3, none⟩ = some (.int .i64 e0.2.2) := (blk_cell q3 3).trans rfl
          have f33 : Z.frozen? ⟨w.heap.size + 1 + 1 + 1, 3, none⟩ = false := blk_frozen q3 3
          have c40 : Z.cell? ⟨w.heap.size + 1 + 1 + 1 + 1, 0, none⟩ = some (.int .i64 0) := (blk_cell q4 0).trans rfl
          have f40 : Z.frozen? ⟨w.heap.size + 1 + 1 + 1 + 1, 0, none⟩ = false := blk_frozen q4 0
          have c50 : Z.cell? ⟨w.heap.size + 1 + 1 + 1 + 1 + 1, 0, none⟩ = some (.int .i64 0) := (blk_cell q5 0).trans rfl
          have f50 : Z.frozen? ⟨w.heap.size + 1 + 1 + 1 + 1 + 1, 0, none⟩ = false := blk_frozen q5 0
          have c51 : Z.cell? ⟨w.heap.size + 1 + 1 + 1 + 1 + 1, 1, none⟩ = some (.int .i64 (pre.getLast?.getD e0).1) := (blk_cell q5 1).trans rfl
          have f51 : Z.frozen? ⟨w.heap.size + 1 + 1 + 1 + 1 + 1, 1, none⟩ = false := blk_frozen q5 1
          have c52 : Z.cell? ⟨w.heap.size + 1 + 1 + 1 + 1 + 1, 2, none⟩ = some (.int .i64 (pre.getLast?.getD e0).2.1) := (blk_cell q5 2).trans rfl
          have f52 : Z.frozen? ⟨w.heap.size + 1 + 1 + 1 + 1 + 1, 2, none⟩ = false := blk_frozen q5 2
          have c53 : Z.cell? ⟨w.heap.size + 1 + 1 + 1 + 1 + 1, 3, none⟩ = some (.int .i64 (pre.getLast?.getD e0).2.2) := (blk_cell q5 3).trans rfl
          have f53 : Z.frozen? ⟨w.heap.size + 1 + 1 + 1 + 1 + 1, 3, none⟩ = false := blk_frozen q5 3
          have hres : findE r place 1 e0 (edgesL l) = (pre.getLast?.getD e0, 0) := by rw [hP]; simp [findE, hp, hp2]
          have HQ := Aside0.mk (And.intro hres (And.intro hKp (And.intro q0 (And.intro q1 (And.intro q2 (And.intro q3 (And.intro q4 (And.intro q5 (And.intro hB hxs)))))))))
          clear hres hP hKp q0 q1 q2 q3 q4 q5 hB bBx hxs
          obtain ⟨bl, hbl⟩ : ∃ bl, pre.getLast?.getD e0 = bl := ⟨_, rfl⟩
          try rw [hbl] at *
          gi_wp2
          obtain ⟨hres, hKp, q0, q1, q2, q3, q4, q5, hB, hxs⟩ := HQ.out
          rw [hres]
          refine ⟨hKp.trans ((put4_KpC (by intro _; exact ⟨by omega, by omega⟩)).trans (KpC.setCell _ _ _ (by intro _; exact ⟨by show _ ≤ w.heap.size + 1 + 1 + 1 + 1; omega, by show w.heap.size + 1 + 1 + 1 + 1 ≤ _; omega⟩))), rfl, ?_, ?_, ?_⟩
          · exact (Below.heap_setCell _ _ _ _ (by show _ ≠ w.heap.size + 1 + 1 + 1 + 1; omega)).trans (put4_same q3)
          · exact blk_put (cs := #[_]) ((put4_far (by omega)).trans q4) 0 _ rfl
          · exact (put4_below hB (by omega)).setCell (by show _ ≤ w.heap.size + 1 + 1 + 1 + 1; omega) _
        · by_cases hm2 : m = 2
          · subst hm2
            have c20 : Z.cell? ⟨w.heap.size + 1 + 1, 0, none⟩ = some (.int .i64 2) := (blk_cell q2 0).trans rfl
            have f20 : Z.frozen? ⟨w.heap.size + 1 + 1, 0, none⟩ = false := blk_frozen q2 0
            have c30 : Z.cell? ⟨w.heap.size + 1 + 1 + 1, 0, none⟩ = some (.int .i64 0) := (blk_cell q3 0).trans rfl
            have f30 : Z.frozen? ⟨w.heap.size + 1 + 1 + 1, 0, none⟩ = false := blk_frozen q3 0
            have c31 : Z.cell? ⟨w.heap.size + 1 + 1 + 1, 1, none⟩ = some (.int .i64 e0.1) := (blk_cell q3 1).trans rfl
            have f31 : Z.frozen? ⟨w.heap.size + 1 + 1 + 1, 1, none⟩ = false := blk_frozen q3 1
            have c32 : Z.cell? ⟨w.heap.size + 1 + 1 + 1, 2, none⟩ = some (.int .i64 e0.2.1) := (blk_cell q3 2).trans rfl
            have f32 : Z.frozen? ⟨w.heap.size + 1 + 1 + 1, 2, none⟩ = false := blk_frozen q3 2
            have c33 : Z.cell? ⟨w.heap.size + 1 + 1 + 1, 3, none⟩ = some (.int .i64 e0.2.2) := (blk_cell q3 3).trans rfl
            have f33 : Z.frozen? ⟨w.heap.size + 1 + 1 + 1, 3, none⟩ = false := blk_frozen q3 3
            have c40 : Z.cell? ⟨w.heap.size + 1 + 1 + 1 + 1, 0, none⟩ = some (.int .i64 0) := (blk_cell q4 0).trans rfl
            have f40 : Z.frozen? ⟨w.heap.size + 1 + 1 + 1 + 1, 0, none⟩ = false := blk_frozen q4 0
            have cX0 : Z.cell? ⟨Bx, 0, none⟩ = some (.int .i64 0) := (blk_cell bBx 0).trans rfl
            have fX0 : Z.frozen? ⟨Bx, 0, none⟩ = false := blk_frozen bBx 0
            have cX1 : Z.cell? ⟨Bx, 1, none⟩ = some (.int .i64 x.1) := (blk_cell bBx 1).trans rfl
            have fX1 : Z.frozen? ⟨Bx, 1, none⟩ = false := blk_frozen bBx 1
            have cX2 : Z.cell? ⟨Bx, 2, none⟩ = some (.int .i64 x.2.1) := (blk_cell bBx 2).trans rfl
            have fX2 : Z.frozen? ⟨Bx, 2, none⟩ = false := blk_frozen bBx 2
            have cX3 : Z.cell? ⟨Bx, 3, none⟩ = some (.int .i64 x.2.2) := (blk_cell bBx 3).trans rfl
            have fX3 : Z.frozen? ⟨Bx, 3, none⟩ = false := blk_frozen bBx 3
            have hres : findE r place 2 e0 (edgesL l) = (x, 0) := by rw [hP]; simp [findE, hp, hp2]
            have HQ := Aside0.mk (And.intro hres (And.intro hKp (And.intro q0 (And.intro q1 (And.intro q2 (And.intro q3 (And.intro q4 (And.intro q5 (And.intro hB hxs)))))))))
            clear hres hP hKp q0 q1 q2 q3 q4 q5 hB bBx hxs
            obtain ⟨bl, hbl⟩ : ∃ bl, pre.getLast?.getD e0 = bl := ⟨_, rfl⟩
            try rw [hbl] at *
            gi_wp2
            obtain ⟨hres, hKp, q0, q1, q2, q3, q4, q5, hB, hxs⟩ := HQ.out
            rw [hres]
            refine ⟨hKp.trans ((put4_KpC (by intro _; exact ⟨by omega, by omega⟩)).trans (KpC.setCell _ _ _ (by intro _; exact ⟨by show _ ≤ w.heap.size + 1 + 1 + 1 + 1; omega, by show w.heap.size + 1 + 1 + 1 + 1 ≤ _; omega⟩))), rfl, ?_, ?_, ?_⟩
            · exact (Below.heap_setCell _ _ _ _ (by show _ ≠ w.heap.size + 1 + 1 + 1 + 1; omega)).trans (put4_same q3)
            · exact blk_put (cs := #[_]) ((put4_far (by omega)).trans q4) 0 _ rfl
            · exact (put4_below hB (by omega)).setCell (by show _ ≤ w.heap.size + 1 + 1 + 1 + 1; omega) _
          · have hm : (m == 1) = false := by simp [hm1]
            have hm' : (m == 2) = false := by simp [hm2]
            have c20 : Z.cell? ⟨w.heap.size + 1 + 1, 0, none⟩ = some (.int .i64 m) := (blk_cell q2 0).trans rfl
            have f20 : Z.frozen? ⟨w.heap.size + 1 + 1, 0, none⟩ = false := blk_frozen q2 0
            have c30 : Z.cell? ⟨w.heap.size + 1 + 1 + 1, 0, none⟩ = some (.int .i64 0) := (blk_cell q3 0).trans rfl
            have f30 : Z.frozen? ⟨w.heap.size + 1 + 1 + 1, 0, none⟩ = false := blk_frozen q3 0
            have c31 : Z.cell? ⟨w.heap.size + 1 + 1 + 1, 1, none⟩ = some (.int .i64 e0.1) := (blk_cell q3 1).trans rfl
            have f31 : Z.frozen? ⟨w.heap.size + 1 + 1 + 1, 1, none⟩ = false := blk_frozen q3 1
            have c32 : Z.cell? ⟨w.heap.size + 1 + 1 + 1, 2, none⟩ = some (.int .i64 e0.2.1) := (blk_cell q3 2).trans rfl
            have f32 : Z.frozen? ⟨w.heap.size + 1 + 1 + 1, 2, none⟩ = false := blk_frozen q3 2
            have c33 : Z.cell? ⟨w.heap.size + 1 + 1 + 1, 3, none⟩ = some (.int .i64 e0.2.2) := (blk_cell q3 3).trans rfl
            have f33 : Z.frozen? ⟨w.heap.size + 1 + 1 + 1, 3, none⟩ = false := blk_frozen q3 3
            have c40 : Z.cell? ⟨w.heap.size + 1 + 1 + 1 + 1, 0, none⟩ = some (.int .i64 0) := (blk_cell q4 0).trans rfl
            have f40 : Z.frozen? ⟨w.heap.size + 1 + 1 + 1 + 1, 0, none⟩ = false := blk_frozen q4 0
            have c50 : Z.cell? ⟨w.heap.size + 1 + 1 + 1 + 1 + 1, 0, none⟩ = some (.int .i64 0) := (blk_cell q5 0).trans rfl
            have f50 : Z.frozen? ⟨w.heap.size + 1 + 1 + 1 + 1 + 1, 0, none⟩ = false := blk_frozen q5 0
            have c51 : Z.cell? ⟨w.heap.size + 1 + 1 + 1 + 1 + 1, 1, none⟩ = some (.int .i64 (pre.getLast?.getD e0).1) := (blk_cell q5 1).trans rfl
            have f51 : Z.frozen? ⟨w.heap.size + 1 + 1 + 1 + 1 + 1, 1, none⟩ = false := blk_frozen q5 1
            have c52 : Z.cell? ⟨w.heap.size + 1 + 1 + 1 + 1 + 1, 2, none⟩ = some (.int .i64 (pre.getLast?.getD e0).2.1) := (blk_cell q5 2).trans rfl
            have f52 : Z.frozen? ⟨w.heap.size + 1 + 1 + 1 + 1 + 1, 2, none⟩ = false := blk_frozen q5 2
            have c53 : Z.cell? ⟨w.heap.size + 1 + 1 + 1 + 1 + 1, 3, none⟩ = some (.int .i64 (pre.getLast?.getD e0).2.2) := (blk_cell q5 3).trans rfl
            have f53 : Z.frozen? ⟨w.heap.size + 1 + 1 + 1 + 1 + 1, 3, none⟩ = false := blk_frozen q5 3
            have hres : findE r place m e0 (edgesL l) = (pre.getLast?.getD e0, 4) := by rw [hP]; simp only [findE, if_neg hp, if_neg hp2, if_neg hm1, if_neg hm2]
            have HQ := Aside0.mk (And.intro hres (And.intro hKp (And.intro q0 (And.intro q1 (And.intro q2 (And.intro q3 (And.intro q4 (And.intro q5 (And.intro hB hxs)))))))))
            clear hres hP hKp q0 q1 q2 q3 q4 q5 hB bBx hxs
            obtain ⟨bl, hbl⟩ : ∃ bl, pre.getLast?.getD e0 = bl := ⟨_, rfl⟩
            try rw [hbl] at *
            gi_wp2
            obtain ⟨hres, hKp, q0, q1, q2, q3, q4, q5, hB, hxs⟩ := HQ.out
            rw [hres]
            refine ⟨hKp.trans ((put4_KpC (by intro _; exact ⟨by omega, by omega⟩)).trans (KpC.setCell _ _ _ (by intro _; exact ⟨by show _ ≤ w.heap.size + 1 + 1 + 1 + 1; omega, by show w.heap.size + 1 + 1 + 1 + 1 ≤ _; omega⟩))), rfl, ?_, ?_, ?_⟩
            · exact (Below.heap_setCell _ _ _ _ (by show _ ≠ w.heap.size + 1 + 1 + 1 + 1; omega)).trans (put4_same q3)
            · exact blk_put (cs := #[_]) ((put4_far (by omega)).trans q4) 0 _ rfl
            · exact (put4_below hB (by omega)).setCell (by show _ ≤ w.heap.size + 1 + 1 + 1 + 1; omega) _
  case done =>
    clear b0 b1 b2 b3 b4 b5 b6
    rintro D X hD _ ⟨q0, q1, q2, q3, q4, q5, hB, hP⟩ hDf
    have hres : findE r place m e0 (edgesL l) = (((scanE e0 (items (strOfNums l))).getLast?.getD e0), 2) := (hP [] (by simp [edgesL])).trans rfl
    have c30 : X.cell? ⟨w.heap.size + 1 + 1 + 1, 0, none⟩ = some (.int .i64 0) := (blk_cell q3 0).trans rfl
    have f30 : X.frozen? ⟨w.heap.size + 1 + 1 + 1, 0, none⟩ = false := blk_frozen q3 0
    have c31 : X.cell? ⟨w.heap.size + 1 + 1 + 1, 1, none⟩ = some (.int .i64 e0.1) := (blk_cell q3 1).trans rfl
    have f31 : X.frozen? ⟨w.heap.size + 1 + 1 + 1, 1, none⟩ = false := blk_frozen q3 1
    have c32 : X.cell? ⟨w.heap.size + 1 + 1 + 1, 2, none⟩ = some (.int .i64 e0.2.1) := (blk_cell q3 2).trans rfl
    have f32 : X.frozen? ⟨w.heap.size + 1 + 1 + 1, 2, none⟩ = false := blk_frozen q3 2
    have c33 : X.cell? ⟨w.heap.size + 1 + 1 + 1, 3, none⟩ = some (.int .i64 e0.2.2) := (blk_cell q3 3).trans rfl
    have f33 : X.frozen? ⟨w.heap.size + 1 + 1 + 1, 3, none⟩ = false := blk_frozen q3 3
    have c40 : X.cell? ⟨w.heap.size + 1 + 1 + 1 + 1, 0, none⟩ = some (.int .i64 0) := (blk_cell q4 0).trans rfl
    have f40 : X.frozen? ⟨w.heap.size + 1 + 1 + 1 + 1, 0, none⟩ = false := blk_frozen q4 0
    have c50 : X.cell? ⟨w.heap.size + 1 + 1 + 1 + 1 + 1, 0, none⟩ = some (.int .i64 0) := (blk_cell q5 0).trans rfl
    have f50 : X.frozen? ⟨w.heap.size + 1 + 1 + 1 + 1 + 1, 0, none⟩ = false := blk_frozen q5 0
    have c51 : X.cell? ⟨w.heap.size + 1 + 1 + 1 + 1 + 1, 1, none⟩ = some (.int .i64 ((scanE e0 (items (strOfNums l))).getLast?.getD e0).1) := (blk_cell q5 1).trans rfl
    have f51 : X.frozen? ⟨w.heap.size + 1 + 1 + 1 + 1 + 1, 1, none⟩ = false := blk_frozen q5 1
    have c52 : X.cell? ⟨w.heap.size + 1 + 1 + 1 + 1 + 1, 2, none⟩ = some (.int .i64 ((scanE e0 (items (strOfNums l))).getLast?.getD e0).2.1) := (blk_cell q5 2).trans rfl
    have f52 : X.frozen? ⟨w.heap.size + 1 + 1 + 1 + 1 + 1, 2, none⟩ = false := blk_frozen q5 2
    have c53 : X.cell? ⟨w.heap.size + 1 + 1 + 1 + 1 + 1, 3, none⟩ = some (.int .i64 ((scanE e0 (items (strOfNums l))).getLast?.getD e0).2.2) := (blk_cell q5 3).trans rfl
    have f53 : X.frozen? ⟨w.heap.size + 1 + 1 + 1 + 1 + 1, 3, none⟩ = false := blk_frozen q5 3
    have HQ := Aside0.mk (And.intro hres (And.intro q3 (And.intro q4 hB)))
    clear hP hres q0 q1 q2 q3 q4 q5 hB
    gi_wp2
    obtain ⟨hres, q3, q4, hB⟩ := HQ.out
    have hDz : w.heap.size + 7 ≤ D := by omega
    refine ⟨by simp, .inl ⟨_, _, rfl, run_takeDeferred ((Below.heap_setCell _ _ _ D (by show _ ≠ w.heap.size + 1 + 1 + 1 + 1; omega)).trans ((put4_far (by omega)).trans hDf)), ?_⟩⟩
    refine ⟨_, find_results rfl rfl rfl ((World.putObj_heap_other (by omega)).trans ((Below.heap_setCell _ _ _ _ (by show _ ≠ w.heap.size + 1 + 1 + 1 + 1; omega)).trans (put4_same q3))) ((World.putObj_heap_other (by omega)).trans (blk_put (cs := #[_]) ((put4_far (by omega)).trans q4) 0 _ rfl)), by rw [hres]; rfl, ?_⟩
    exact ((put4_below hB (by omega)).setCell (by show _ ≤ w.heap.size + 1 + 1 + 1 + 1; omega) _).trans (belowK_b (w := w) (Nat.le_refl _) _ D _ _ (by omega) ((Below.heap_setCell _ _ _ D (by show _ ≠ w.heap.size + 1 + 1 + 1 + 1; omega)).trans ((put4_far (by omega)).trans hDf)) rfl rfl)
  case stop =>
    clear b0 b1 b2 b3 b4 b5 b6
    rintro D cc pre X hD _ hpre ⟨rfl, q3, q4, hB⟩ hDf
    have HQ := Aside0.mk (And.intro q3 (And.intro q4 hB))
    clear q3 q4 hB
    gi_wp2
    obtain ⟨q3, q4, hB⟩ := HQ.out
    refine ⟨by simp, .inl ⟨_, _, rfl, run_takeDeferred hDf, ?_⟩⟩
    refine ⟨_, find_results rfl rfl rfl ((World.putObj_heap_other (by omega)).trans q3) ((World.putObj_heap_other (by omega)).trans q4), rfl, ?_⟩
    exact hB.trans (belowK_b (w := w) (Nat.le_refl _) X D _ _ (by omega) hDf rfl rfl)
def rule_To.f (l0 : List Int) (a1 a2 a3 a4 : Int) : Option (Int × Int) :=
  (rule_ruler.f a1).bind fun b1 => if b1 = true then ((rule_ruler.f a3).bind fun b2 => if b2 = true then ((rule_mode.f a4).bind fun b3 => if b3 = true then (if a2 < 0 then some (0, 2) else
    if l0.length ≤ 140737488351232 then (if 1 ≤ a1 ∧ a1 ≤ 3 ∧ 1 ≤ a3 ∧ a3 ≤ 3 then
      (if (findE a1.toNat a2 a4 e0 (edgesL l0)).2 = 0 then some (pickE (findE a1.toNat a2 a4 e0 (edgesL l0)).1 a3.toNat, 0) else some (0, (findE a1.toNat a2 a4 e0 (edgesL l0)).2)) else none) else none)
    else some (0, 3)) else some (0, 3)) else some (0, 3)
set_option maxHeartbeats 8000000 in
theorem rule_To.calls (A0 : Option Addr) (c0 : Nat) (l0 : List Int) (a1 a2 a3 a4 : Int) (r1 : Int) (r2 : Int) (w : World) (hr0 : Kd.C (Kd.int .u8) w A0 l0.length l0) (hc0 : l0.length ≤ c0) (hG : Laid w) (h : rule_To.f l0 a1 a2 a3 a4 = some (r1, r2)) :
    Calls Tryd.prog 37 #[.slice A0 l0.length c0, .int .i64 a1, .int .i64 a2, .int .i64 a3, .int .i64 a4] w fun e w' => e = .returned (.tuple #[.int .i64 r1, .int .i64 r2]) ∧ Below w.heap.size w w' := by
  unfold rule_To.f at h
  obtain ⟨b1, hb1, h⟩ := Option.bind_eq_some_iff.1 h
  have HC1 := Aside0.mk hb1
  have HG := Aside0.mk hG
  have HR := Aside0.mk hr0
  clear hb1 hG hr0
  cases b1 with
  | false =>
    simp only [Bool.false_eq_true, if_false, Option.some.injEq, Prod.mk.injEq] at h
    obtain ⟨rfl, rfl⟩ := h
    go_enter Tryd.func37, Tryd.ntmps37
    go_wp2_with (go_at_call 78; refine (rule_ruler.calls a1 false _ HC1.out).mono ?_; rintro e w3 ⟨rfl, hb3⟩)
    go_ret2
    exact ⟨rfl, hb3.below⟩
  | true =>
    simp only [if_true] at h
    obtain ⟨b2, hb2, h⟩ := Option.bind_eq_some_iff.1 h
    have HC2 := Aside0.mk hb2
    clear hb2
    cases b2 with
    | false =>
      simp only [Bool.false_eq_true, if_false, Option.some.injEq, Prod.mk.injEq] at h
      obtain ⟨rfl, rfl⟩ := h
      go_enter Tryd.func37, Tryd.ntmps37
      go_wp2_with (go_at_call 78; first | (refine (rule_ruler.calls a1 true _ HC1.out).mono ?_; rintro e w3 ⟨rfl, hb3⟩) | (refine (rule_ruler.calls a3 false _ HC2.out).mono ?_; rintro e w4 ⟨rfl, hb4⟩))
      go_ret2
      exact ⟨rfl, hb3.below.trans (hb4.below.mono hb3.below.size)⟩
    | true =>
      simp only [if_true] at h
      obtain ⟨b3, hb3, h⟩ := Option.bind_eq_some_iff.1 h
      have HC3 := Aside0.mk hb3
      clear hb3
      cases b3 with
      | false =>
        simp only [Bool.false_eq_true, if_false, Option.some.injEq, Prod.mk.injEq] at h
        obtain ⟨rfl, rfl⟩ := h
        go_enter Tryd.func37, Tryd.ntmps37
        go_wp2_with (first | (go_at_call 78; first | (refine (rule_ruler.calls a1 true _ HC1.out).mono ?_; rintro e w3 ⟨rfl, hb3⟩) | (refine (rule_ruler.calls a3 true _ HC2.out).mono ?_; rintro e w4 ⟨rfl, hb4⟩)) | (go_at_call 82; refine (rule_mode.calls a4 false _ HC3.out).mono ?_; rintro e w5 ⟨rfl, hb5⟩))
        go_ret2
        exact ⟨rfl, (hb3.below.trans (hb4.below.mono hb3.below.size)).trans (hb5.below.mono (hb3.below.trans (hb4.below.mono hb3.below.size)).size)⟩
      | true =>
        simp only [if_true] at h
        by_cases hp : a2 < 0
        · rw [if_pos hp] at h
          simp only [Option.some.injEq, Prod.mk.injEq] at h
          obtain ⟨rfl, rfl⟩ := h
          go_enter Tryd.func37, Tryd.ntmps37
          go_wp2_with (first | (go_at_call 78; first | (refine (rule_ruler.calls a1 true _ HC1.out).mono ?_; rintro e w3 ⟨rfl, hb3⟩) | (refine (rule_ruler.calls a3 true _ HC2.out).mono ?_; rintro e w4 ⟨rfl, hb4⟩)) | (go_at_call 82; refine (rule_mode.calls a4 true _ HC3.out).mono ?_; rintro e w5 ⟨rfl, hb5⟩))
          go_ret2
          exact ⟨rfl, (hb3.below.trans (hb4.below.mono hb3.below.size)).trans (hb5.below.mono (hb3.below.trans (hb4.below.mono hb3.below.size)).size)⟩
        · rw [if_neg hp] at h
          by_cases hl : l0.length ≤ 140737488351232
          · rw [if_pos hl] at h
            by_cases hr : 1 ≤ a1 ∧ a1 ≤ 3 ∧ 1 ≤ a3 ∧ a3 ≤ 3
            · rw [if_pos hr] at h
              obtain ⟨n, rfl⟩ : ∃ n : Nat, a1 = n := ⟨a1.toNat, by omega⟩
              simp only [Int.toNat_natCast] at h
              obtain ⟨⟨ed, er⟩, hq⟩ : ∃ q, findE n a2 a4 e0 (edgesL l0) = q := ⟨_, rfl⟩
              rw [hq] at h
              have HF : Aside0 (∀ w', Below w.heap.size w w' → Calls Tryd.prog 83 #[.slice A0 l0.length c0, .int .i64 n, .int .i64 a2, .int .i64 a4] w' fun e w2 => e = .returned (.tuple #[.agg (aggE ed), .int .i64 er]) ∧ Below w'.heap.size w' w2) := ⟨fun w' hb => by
                have h_ := find_any A0 c0 l0 hl n (by omega) (by omega) a2 a4 w' (Kd.C_below HR.out hb) (HG.out.below hb)
                rw [hq] at h_
                exact h_⟩
              clear hq
              by_cases he : er = 0
              · subst he
                simp only [if_true, Option.some.injEq, Prod.mk.injEq] at h
                obtain ⟨rfl, rfl⟩ := h
                obtain rfl | rfl | rfl : a3 = 1 ∨ a3 = 2 ∨ a3 = 3 := by omega
                all_goals
                  go_enter Tryd.func37, Tryd.ntmps37
                  go_wp2_with (first | (go_at_call 78; first | (refine (rule_ruler.calls n true _ HC1.out).mono ?_; rintro e w3 ⟨rfl, hb3⟩) | (refine (rule_ruler.calls _ true _ HC2.out).mono ?_; rintro e w4 ⟨rfl, hb4⟩)) | (go_at_call 82; refine (rule_mode.calls a4 true _ HC3.out).mono ?_; rintro e w5 ⟨rfl, hb5⟩) | (go_at_call 83; have hb6 := (hb3.below.trans (hb4.below.mono hb3.below.size)).trans (hb5.below.mono (hb3.below.trans (hb4.below.mono hb3.below.size)).size); refine (HF.out _ hb6).mono ?_; rintro e w7 ⟨rfl, hb7⟩; simp only [aggE]))
                  go_ret2
                  refine ⟨rfl, ?_⟩
                  exact (hb6.trans (hb7.mono hb6.size)).alloc (Nat.le_trans hb6.size hb7.size) _
              · have hb' : (er == 0) = false := by simp [he]
                simp only [if_neg he, Option.some.injEq, Prod.mk.injEq] at h
                obtain ⟨rfl, rfl⟩ := h
                go_enter Tryd.func37, Tryd.ntmps37
                go_wp2_with (first | (go_at_call 78; first | (refine (rule_ruler.calls n true _ HC1.out).mono ?_; rintro e w3 ⟨rfl, hb3⟩) | (refine (rule_ruler.calls _ true _ HC2.out).mono ?_; rintro e w4 ⟨rfl, hb4⟩)) | (go_at_call 82; refine (rule_mode.calls a4 true _ HC3.out).mono ?_; rintro e w5 ⟨rfl, hb5⟩) | (go_at_call 83; have hb6 := (hb3.below.trans (hb4.below.mono hb3.below.size)).trans (hb5.below.mono (hb3.below.trans (hb4.below.mono hb3.below.size)).size); refine (HF.out _ hb6).mono ?_; rintro e w7 ⟨rfl, hb7⟩; simp only [aggE]))
                go_ret2
                refine ⟨rfl, ?_⟩
                exact (hb6.trans (hb7.mono hb6.size)).alloc (Nat.le_trans hb6.size hb7.size) _
            · rw [if_neg hr] at h; cases h
          · rw [if_neg hl] at h; cases h
end Go.Proofs.YtbomhpfckplgaaaDoor.P
namespace Go.Proofs.YtbomhpfckplgaaaDoor.P
open Go.RowKit Go.Proofs.YtbomhpfckplgaaaDoorW.PrintWords Go.Proofs.YtbomhpfckplgaaaDoorW.PrintLast Go.Proofs.YtbomhpfckplgaaaDoorW.PrintMore
attribute [local go_sem] max2_int min2_int max_two min_two max_three min_three max_four min_four   -- for this text's walks alone
set_option linter.unusedVariables false
set_option linter.unusedSimpArgs false
def rule_Size.f (l0 : List Int) (a1 : Int) : Option (Int × Int) := (rule_ruler.f a1).bind fun t101 => (if t101 = true then ((rule_size.f l0 a1).bind fun t102 => (some (t102, 0))) else (some (0, 3)))
set_option maxHeartbeats 8000000 in
set_option maxRecDepth 100000 in
theorem rule_Size.calls (A0 : Option Addr) (c0 : Nat) (l0 : List Int) (a1 : Int) (r1 : Int) (r2 : Int) (w : World) (hr0 : Kd.C (Kd.int .u8) w A0 l0.length l0) (hc0 : l0.length ≤ c0) (hG : Laid w) (h : rule_Size.f l0 a1 = some (r1, r2)) :
  Calls Tryd.prog 28 #[.slice A0 l0.length c0, .int .i64 a1] w fun e w' => e = .returned (.tuple #[.int .i64 r1, .int .i64 r2]) ∧ Below w.heap.size w w' := by
 have HG := Aside0.mk hG
 clear hG
 have HR0 := Aside0.mk hr0
 have HC0 := Aside0.mk hc0
 clear hr0 hc0
 have HB := Aside0.mk (Below.refl w.heap.size w)
 have H : ((rule_ruler.f a1).bind fun t101 => (if t101 = true then ((rule_size.f l0 a1).bind fun t102 => (some (t102, 0))) else (some (0, 3)))) = some (r1, r2) := h
 clear h
 replace H := Option.bind_eq_some_iff.mp H
 obtain ⟨t101, A30, H⟩ := H
 replace H : (if t101 = true then ((rule_size.f l0 a1).bind fun t102 => (some (t102, 0))) else (some (0, 3))) = some (r1, r2) := H
 have A3 := Aside0.mk A30
 clear A30
 by_cases c4 : t101 = true
 ·
  subst c4
  have H1 : ((rule_size.f l0 a1).bind fun t102 => (some (t102, 0))) = some (r1, r2) := by rw [if_pos rfl] at H; exact H
  clear H
  have H := H1
  clear H1
  replace H := Option.bind_eq_some_iff.mp H
  obtain ⟨t102, A50, H⟩ := H
  replace H : (some (t102, 0)) = some (r1, r2) := H
  have A5 := Aside0.mk A50
  clear A50
  simp only [Option.some.injEq, Prod.mk.injEq] at H
  obtain ⟨rfl, rfl⟩ := H
  go_enter Tryd.func28, Tryd.ntmps28
  go_wp2_with (first | ((with_reducible refine gate_callee (f := 78) rfl ?_); refine goesL_ (some 7) rfl rfl Tryd.func78 (by kernel_rfl) rfl #[.int .i64 a1] rfl (by (try simp only [List.map_toArray, List.map_cons, List.map_nil]); first | done | rfl | (simp only [List.length_drop, List.length_take]; rfl)) ?_; (with_reducible refine (rule_ruler.calls a1 true _ A3.out).mono ?_); rintro e w' ⟨rfl, ⟨nd, rfl⟩⟩; refine ⟨_, rfl, ?_⟩) | ((with_reducible refine gate_callee (f := 79) rfl ?_); refine goesL_ (some 11) rfl rfl Tryd.func79 (by kernel_rfl) rfl #[.slice A0 l0.length c0, .int .i64 a1] rfl (by (try simp only [List.map_toArray, List.map_cons, List.map_nil]); first | done | rfl | (simp only [List.length_drop, List.length_take]; rfl)) ?_; (with_reducible refine (rule_size.calls _ _ l0 a1 t102 _ ?side1 ?side2 ?side3 A5.out).mono ?_); (case side1 => repeat (first | exact HR0.out | (with_reducible refine Kd.C_alloc ?_ _) | (with_reducible refine Kd.C_drewN ?_ _) | (with_reducible refine Kd.C_drew ?_))); (case side2 => exact HC0.out); (case side3 => repeat (first | exact HG.out | exact Laid.below HG.out HB.out | (with_reducible refine Laid.alloc ?_ _) | (with_reducible refine Laid.drewN ?_ _) | (with_reducible refine Laid.drew ?_))); rintro e w6 ⟨rfl, hb⟩; refine ⟨_, rfl, ?_⟩; have n0_ := Aside0.mk (below_step (by repeat (first | (with_reducible first | exact HB.out | apply below_alloc | apply pw_below_drewN | apply below_drew1) | exact HB.out)) hb); clear HB; have HB := n0_; clear n0_; (try clear hb); (try clear hb2); (try clear hk); (try clear hi)))
  go_ret2
  exact ⟨by first | rfl | (simp [errW_none, errW_some] <;> rfl) | (simp [*, errW_none, errW_some] <;> rfl), by repeat (first | (with_reducible first | exact HB.out | apply below_alloc | apply pw_below_drewN | apply below_drew1) | exact HB.out)⟩
 ·
  replace c4 := Bool.eq_false_iff.mpr c4
  subst c4
  have H1 : (some (0, 3)) = some (r1, r2) := by rw [if_neg (show ¬ (false = true) by decide)] at H; exact H
  clear H
  have H := H1
  clear H1
  simp only [Option.some.injEq, Prod.mk.injEq] at H
  obtain ⟨rfl, rfl⟩ := H
  go_enter Tryd.func28, Tryd.ntmps28
  go_wp2_with (first | ((with_reducible refine gate_callee (f := 78) rfl ?_); refine goesL_ (some 7) rfl rfl Tryd.func78 (by kernel_rfl) rfl #[.int .i64 a1] rfl (by (try simp only [List.map_toArray, List.map_cons, List.map_nil]); first | done | rfl | (simp only [List.length_drop, List.length_take]; rfl)) ?_; (with_reducible refine (rule_ruler.calls a1 false _ A3.out).mono ?_); rintro e w' ⟨rfl, ⟨nd, rfl⟩⟩; refine ⟨_, rfl, ?_⟩))
  go_ret2
  exact ⟨by first | rfl | (simp [errW_none, errW_some] <;> rfl) | (simp [*, errW_none, errW_some] <;> rfl), by repeat (first | (with_reducible first | exact HB.out | apply below_alloc | apply pw_below_drewN | apply below_drew1) | exact HB.out)⟩
end Go.Proofs.YtbomhpfckplgaaaDoor.P
namespace Go.Proofs.YtbomhpfckplgaaaDoor.Utf
def at_ (b : List Int) (p : Nat) : Int := b.getD p (-1)
def tail (x : Int) : Prop := 0x80 ≤ x ∧ x ≤ 0xbf
instance (x : Int) : Decidable (tail x) := by unfold tail; infer_instance
def three (x y : Int) : Prop := (x = 0xe0 ∧ 0xa0 ≤ y ∧ y ≤ 0xbf) ∨ (0xe1 ≤ x ∧ x ≤ 0xec ∧ tail y) ∨ (x = 0xed ∧ 0x80 ≤ y ∧ y ≤ 0x9f) ∨ (0xee ≤ x ∧ x ≤ 0xef ∧ tail y)
def four (x y : Int) : Prop := (x = 0xf0 ∧ 0x90 ≤ y ∧ y ≤ 0xbf) ∨ (0xf1 ≤ x ∧ x ≤ 0xf3 ∧ tail y) ∨ (x = 0xf4 ∧ 0x80 ≤ y ∧ y ≤ 0x8f)
instance (x y : Int) : Decidable (three x y) := by unfold three; infer_instance
instance (x y : Int) : Decidable (four x y) := by unfold four; infer_instance
def long4 (x y z w : Int) : Nat :=
  if 0 ≤ x ∧ x ≤ 0x7f then 1
  else if (0xc2 ≤ x ∧ x ≤ 0xdf) ∧ tail y then 2
  else if tail z ∧ three x y then 3
  else if tail z ∧ tail w ∧ four x y then 4
  else 0
theorem long4_le (x y z w : Int) : long4 x y z w ≤ 4 := by unfold long4; repeat (first | split | omega)
theorem long4_tail {x y z w : Int} (h : tail x) : long4 x y z w = 0 := by
  unfold long4 tail three four at *
  repeat (first | rw [if_neg (by omega)])
theorem long4_y {x y z w : Int} (h : 1 < long4 x y z w) : tail y := by
  unfold long4 at h
  (repeat' split at h) <;> (try simp only [tail, three, four] at *) <;> omega
theorem long4_z {x y z w : Int} (h : 2 < long4 x y z w) : tail z := by
  unfold long4 at h
  (repeat' split at h) <;> (try simp only [tail, three, four] at *) <;> omega
theorem long4_w {x y z w : Int} (h : 3 < long4 x y z w) : tail w := by
  unfold long4 at h
  (repeat' split at h) <;> (try simp only [tail, three, four] at *) <;> omega
theorem long4_x {x y z w : Int} (h : 0 < long4 x y z w) : 0 ≤ x := by
  unfold long4 at h
  (repeat' split at h) <;> (try simp only [tail, three, four] at *) <;> omega
def long (b : List Int) (p : Nat) : Nat := long4 (at_ b p) (at_ b (p + 1)) (at_ b (p + 2)) (at_ b (p + 3))
def width (b : List Int) (p : Nat) : Nat := if long b p = 0 then 1 else long b p
theorem at_drop (b : List Int) (p q : Nat) : at_ (b.drop p) q = at_ b (p + q) := by simp [at_, List.getD_eq_getElem?_getD]
theorem long_drop (b : List Int) (p q : Nat) : long (b.drop p) q = long b (p + q) := by simp [long, at_drop, Nat.add_assoc]
theorem width_drop (b : List Int) (p q : Nat) : width (b.drop p) q = width b (p + q) := by simp [width, long_drop]
theorem long_le4 (b : List Int) (p : Nat) : long b p ≤ 4 := long4_le _ _ _ _
theorem width_pos (b : List Int) (p : Nat) : 0 < width b p := by unfold width; split <;> omega
theorem width_le4 (b : List Int) (p : Nat) : width b p ≤ 4 := by have := long_le4 b p; unfold width; split <;> omega
theorem long_le_width (b : List Int) (p : Nat) : long b p ≤ width b p := by unfold width; split <;> omega
theorem long_in {b : List Int} {p k : Nat} (h : k < long b p) : 0 < k → tail (at_ b (p + k)) := by
  intro hk
  have h4 := long_le4 b p
  obtain rfl | rfl | rfl : k = 1 ∨ k = 2 ∨ k = 3 := by omega
  · exact long4_y h
  · exact long4_z h
  · exact long4_w h
theorem long_tail {b : List Int} {p : Nat} (h : tail (at_ b p)) : long b p = 0 := long4_tail h
theorem long_within {b : List Int} {p k : Nat} (h : k < long b p) (hk : 0 < k) : long b (p + k) = 0 := long_tail (long_in h hk)
theorem at_lt {b : List Int} {p : Nat} (h : 0 ≤ at_ b p) : p < b.length := by
  rcases Nat.lt_or_ge p b.length with h1 | h1
  · exact h1
  · simp [at_, List.getD_eq_getElem?_getD, List.getElem?_eq_none h1] at h
theorem long_end {b : List Int} {p : Nat} (h : 0 < long b p) : p + long b p ≤ b.length := by
  rcases Nat.lt_or_ge (long b p) 2 with h1 | h1
  · have := at_lt (long4_x h); omega
  · have h2 : tail (at_ b (p + (long b p - 1))) := long_in (by omega) (by omega)
    have := at_lt (b := b) (p := p + (long b p - 1)) (by unfold tail at h2; omega)
    omega
theorem width_end {b : List Int} {p : Nat} (h : p < b.length) : p + width b p ≤ b.length := by
  unfold width
  split
  · omega
  · exact long_end (by omega)
def inside (b : List Int) (p : Nat) : Bool := (List.range 3).any fun j => decide (j + 1 ≤ p) && decide (j + 1 < long b (p - (j + 1)))
theorem inside_iff {b : List Int} {p : Nat} : inside b p = true ↔ ∃ k, 0 < k ∧ k ≤ p ∧ k < long b (p - k) := by
  unfold inside
  rw [List.any_eq_true]
  constructor
  · rintro ⟨j, hj, h⟩
    simp at h
    exact ⟨j + 1, by omega, h.1, h.2⟩
  · rintro ⟨k, h0, h1, h2⟩
    have := long_le4 b (p - k)
    refine ⟨k - 1, by simp; omega, ?_⟩
    simp
    have e : k - 1 + 1 = k := by omega
    rw [e]
    exact ⟨by omega, h2⟩
theorem inside_zero (b : List Int) : inside b 0 = false := by
  rw [Bool.eq_false_iff]; intro h
  obtain ⟨k, h0, h1, _⟩ := inside_iff.1 h
  omega
theorem inside_mid {b : List Int} {p k : Nat} (h0 : 0 < k) (h : k < width b p) : inside b (p + k) = true := by
  rw [inside_iff]
  refine ⟨k, h0, by omega, ?_⟩
  have e : p + k - k = p := by omega
  rw [e]
  unfold width at h
  split at h <;> omega
theorem inside_next {b : List Int} {p : Nat} (h : inside b p = false) : inside b (p + width b p) = false := by
  rw [Bool.eq_false_iff]; intro hi
  obtain ⟨k, h0, h1, h2⟩ := inside_iff.1 hi
  have hw := width_pos b p
  rcases Nat.lt_trichotomy (p + width b p - k) p with hq | hq | hq
  · have : inside b p = true := by
      rw [inside_iff]
      refine ⟨p - (p + width b p - k), by omega, by omega, ?_⟩
      have e : p - (p - (p + width b p - k)) = p + width b p - k := by omega
      rw [e]; omega
    rw [h] at this; cases this
  · rw [hq] at h2
    have := long_le_width b p
    omega
  · have : long b (p + (width b p - k)) = 0 := by
      refine long_within ?_ (by omega)
      have hkw : width b p - k < width b p := by omega
      have h1 : 1 < width b p := by omega
      have : width b p = long b p := by
        unfold width at h1 ⊢
        by_cases h0 : long b p = 0
        · rw [if_pos h0] at h1; omega
        · rw [if_neg h0]
      omega
    have e : p + width b p - k = p + (width b p - k) := by omega
    rw [e] at h2; omega
theorem inside_len (b : List Int) : inside b b.length = false := by
  rw [Bool.eq_false_iff]; intro hi
  obtain ⟨k, h0, h1, h2⟩ := inside_iff.1 hi
  have := long_end (b := b) (p := b.length - k) (by omega)
  omega
theorem at_take {b : List Int} {n q : Nat} (h : q < n) : at_ (b.take n) q = at_ b q := by simp [at_, List.getD_eq_getElem?_getD, h]
theorem long_take {b : List Int} {n q : Nat} (h : q + long b q ≤ n) (h0 : 0 < long b q) : long (b.take n) q = long b q := by
  have hl := long_le4 b q
  have e0 : at_ (b.take n) q = at_ b q := at_take (by omega)
  unfold long at h h0 hl ⊢
  rw [e0]
  have a1 : q + 1 < n → at_ (b.take n) (q + 1) = at_ b (q + 1) := fun h => at_take h
  have a2 : q + 2 < n → at_ (b.take n) (q + 2) = at_ b (q + 2) := fun h => at_take h
  have a3 : q + 3 < n → at_ (b.take n) (q + 3) = at_ b (q + 3) := fun h => at_take h
  generalize at_ (b.take n) (q + 1) = y' at *
  generalize at_ (b.take n) (q + 2) = z' at *
  generalize at_ (b.take n) (q + 3) = w' at *
  generalize at_ b q = x at *
  generalize at_ b (q + 1) = y at *
  generalize at_ b (q + 2) = z at *
  generalize at_ b (q + 3) = w at *
  unfold long4 at *
  by_cases c1 : 0 ≤ x ∧ x ≤ 0x7f
  · rw [if_pos c1, if_pos c1]
  rw [if_neg c1] at h h0 hl ⊢
  rw [if_neg c1]
  by_cases c2 : (0xc2 ≤ x ∧ x ≤ 0xdf) ∧ tail y
  · rw [if_pos c2] at h h0 hl ⊢
    rw [a1 (by omega), if_pos c2]
  rw [if_neg c2] at h h0 hl ⊢
  by_cases c3 : tail z ∧ three x y
  · rw [if_pos c3] at h h0 hl ⊢
    rw [a1 (by omega), a2 (by omega), if_neg c2, if_pos c3]
  rw [if_neg c3] at h h0 hl ⊢
  by_cases c4 : tail z ∧ tail w ∧ four x y
  · rw [if_pos c4] at h h0 hl ⊢
    rw [a1 (by omega), a2 (by omega), a3 (by omega), if_neg c2, if_neg c3, if_pos c4]
  rw [if_neg c4] at h0
  omega
theorem long_take_zero {b : List Int} {n q : Nat} (h : long b q = 0) : long (b.take n) q = 0 := by
  rcases Nat.eq_zero_or_pos (long (b.take n) q) with h0 | h0
  · exact h0
  · exfalso
    have he := long_end h0
    have hl : (b.take n).length ≤ n := by simp; omega
    have hl4 := long_le4 (b.take n) q
    have key : long b q = long (b.take n) q := by
      have e0 : at_ (b.take n) q = at_ b q := at_take (by omega)
      unfold long at he h0 hl4 ⊢
      rw [e0] at he h0 hl4 ⊢
      have a1 : q + 1 < n → at_ (b.take n) (q + 1) = at_ b (q + 1) := fun h => at_take h
      have a2 : q + 2 < n → at_ (b.take n) (q + 2) = at_ b (q + 2) := fun h => at_take h
      have a3 : q + 3 < n → at_ (b.take n) (q + 3) = at_ b (q + 3) := fun h => at_take h
      generalize at_ (b.take n) (q + 1) = y' at *
      generalize at_ (b.take n) (q + 2) = z' at *
      generalize at_ (b.take n) (q + 3) = w' at *
      generalize at_ b q = x at *
      generalize at_ b (q + 1) = y at *
      generalize at_ b (q + 2) = z at *
      generalize at_ b (q + 3) = w at *
      unfold long4 at *
      by_cases c1 : 0 ≤ x ∧ x ≤ 0x7f
      · rw [if_pos c1, if_pos c1]
      rw [if_neg c1] at he h0 hl4 ⊢
      rw [if_neg c1]
      by_cases c2 : (0xc2 ≤ x ∧ x ≤ 0xdf) ∧ tail y'
      · rw [if_pos c2] at he h0 hl4 ⊢
        rw [← a1 (by omega), if_pos c2]
      rw [if_neg c2] at he h0 hl4 ⊢
      by_cases c3 : tail z' ∧ three x y'
      · rw [if_pos c3] at he h0 hl4 ⊢
        rw [← a1 (by omega), ← a2 (by omega), if_neg c2, if_pos c3]
      rw [if_neg c3] at he h0 hl4 ⊢
      by_cases c4 : tail z' ∧ tail w' ∧ four x y'
      · rw [if_pos c4] at he h0 hl4 ⊢
        rw [← a1 (by omega), ← a2 (by omega), ← a3 (by omega), if_neg c2, if_neg c3, if_pos c4]
      rw [if_neg c4] at h0
      omega
    omega
theorem inside_of_drop {b : List Int} {w q : Nat} (h : inside (b.drop w) q = true) : inside b (w + q) = true := by
  rw [inside_iff] at h ⊢
  obtain ⟨k, h0, h1, h2⟩ := h
  refine ⟨k, h0, by omega, ?_⟩
  rw [long_drop] at h2
  have e : w + q - k = w + (q - k) := by omega
  rw [e]; exact h2
theorem edge_drop {b : List Int} {w q : Nat} (h : inside b (w + q) = false) : inside (b.drop w) q = false := by
  rw [Bool.eq_false_iff] at h ⊢
  exact fun hi => h (inside_of_drop hi)
end Go.Proofs.YtbomhpfckplgaaaDoor.Utf
namespace Go.Proofs.YtbomhpfckplgaaaDoor.P
open Go.RowKit Go.Proofs.YtbomhpfckplgaaaDoorW.PrintWords Utf
set_option linter.unusedVariables false
set_option linter.unusedSimpArgs false
theorem at_nat (l : List Int) (p : Nat) (h : p < l.length) : at_ l p = l[p] := by
  unfold at_
  rw [List.getD_eq_getElem?_getD, List.getElem?_eq_getElem h]
  rfl
theorem at_no (l : List Int) (p : Nat) (h : l.length ≤ p) : at_ l p = -1 := by
  unfold at_
  rw [List.getD_eq_getElem?_getD, List.getElem?_eq_none h]
  rfl
theorem rd_at {l : List Int} {p : Nat} (h : p < l.length) : rd l (p : Int) = at_ l p := by rw [rd_nat l p h, at_nat l p h]
theorem at_byte {l : List Int} (hl : Bytes l) {p : Nat} (h : p < l.length) : 0 ≤ at_ l p ∧ at_ l p ≤ 255 := by rw [at_nat l p h]; exact hl _ (List.getElem_mem h)
end Go.Proofs.YtbomhpfckplgaaaDoor.P
namespace Go.Proofs.YtbomhpfckplgaaaDoor.P
open Go Go.RowKit Go.Proofs.YtbomhpfckplgaaaDoorW.PrintWords Utf
set_option linter.unusedVariables false
set_option linter.unusedSimpArgs false
def runeV (n : Nat) (x y z w : Int) : Int := if n = 1 then x else if n = 2 then (x % 32) * 64 + y % 64 else if n = 3 then ((x % 16) * 64 + y % 64) * 64 + z % 64 else (((x % 8) * 64 + y % 64) * 64 + z % 64) * 64 + w % 64
def rune (l : List Int) (p : Nat) : Int := runeV (long l p) (at_ l p) (at_ l (p + 1)) (at_ l (p + 2)) (at_ l (p + 3))
set_option maxHeartbeats 4000000 in
theorem dec_pure (n a b c d : Nat) (x y z w : Int) (hx : x = a) (ha : a ≤ 255) (hn : 0 < n) (hy : (1 < n ∧ y = b ∧ b ≤ 255) ∨ (n ≤ 1 ∧ y = -1)) (hz : (2 < n ∧ z = c ∧ c ≤ 255) ∨ (n ≤ 2 ∧ z = -1)) (hw : (3 < n ∧ w = d ∧ d ≤ 255) ∨ (n ≤ 3 ∧ w = -1)) :
    Lib.decodeN n a b c d = if long4 x y z w = 0 then (65533, 1) else ((runeV (long4 x y z w) x y z w).toNat, long4 x y z w) := by
  subst hx
  unfold Lib.decodeN
  by_cases A1 : a < 128
  · have e : long4 a y z w = 1 := by unfold long4; rw [if_pos (by omega)]
    rw [if_pos A1, e]
    simp [runeV]
  rw [if_neg A1]
  by_cases A2 : a / 32 = 6 ∧ (1 < n ∧ b / 64 = 2)
  · rw [if_pos A2]
    by_cases A : a % 32 * 64 + b % 64 ≥ 128
    · have e : long4 a y z w = 2 := by
        unfold long4 tail
        rw [if_neg (by omega), if_pos (by omega)]
      have hyb : y = b := by omega
      rw [if_pos A, e]
      simp only [runeV, hyb]
      simp
      omega
    · have e : long4 a y z w = 0 := by
        unfold long4 three four tail
        rw [if_neg (by omega), if_neg (by omega), if_neg (by omega), if_neg (by omega)]
      rw [if_neg A, e]
      rfl
  rw [if_neg A2]
  by_cases A3 : a / 16 = 14 ∧ (1 < n ∧ b / 64 = 2) ∧ (2 < n ∧ c / 64 = 2)
  · rw [if_pos A3]
    have hyb : y = b := by omega
    have hzc : z = c := by omega
    have m1 : a % 16 = a - 224 := by omega
    have m2 : b % 64 = b - 128 := by omega
    have m3 : c % 64 = c - 128 := by omega
    have m4 : 224 ≤ a ∧ a ≤ 239 ∧ 128 ≤ b ∧ b ≤ 191 ∧ 128 ≤ c ∧ c ≤ 191 := by omega
    clear A1 A2 A3
    rw [m1, m2, m3]
    have n1 : (a - 224) * 4096 + (b - 128) * 64 + (c - 128) + 925824 = a * 4096 + b * 64 + c := by omega
    obtain ⟨v, hv⟩ : ∃ v, (a - 224) * 4096 + (b - 128) * 64 + (c - 128) = v := ⟨_, rfl⟩
    rw [hv]
    rw [hv] at n1
    have key : (v ≥ 2048 ∧ (v < 55296 ∨ (57344 ≤ v ∧ v ≤ 1114111))) ↔ ((a = 224 ∧ 160 ≤ b) ∨ (225 ≤ a ∧ a ≤ 236) ∨ (a = 237 ∧ b ≤ 159) ∨ (238 ≤ a)) := by
      constructor
      · intro h
        rcases Nat.lt_trichotomy a 237 with h1 | h1 | h1
        · omega
        · subst h1; omega
        · omega
      · rintro (⟨rfl, h⟩ | ⟨h, h'⟩ | ⟨rfl, h⟩ | h) <;> omega
    by_cases A : v ≥ 2048 ∧ (v < 55296 ∨ (57344 ≤ v ∧ v ≤ 1114111))
    · have A' := key.1 A
      have e : long4 a y z w = 3 := by
        clear A hv n1 key
        unfold long4 three four tail
        rw [if_neg (by omega), if_neg (by omega), if_pos (by refine ⟨by omega, ?_⟩; rcases A' with h | h | h | h; exact .inl (by omega); exact .inr (.inl (by omega)); exact .inr (.inr (.inl (by omega))); exact .inr (.inr (.inr (by omega))))]
      rw [if_pos A, e]
      simp only [runeV, hyb, hzc]
      simp
      omega
    · have A' := fun h => A (key.2 h)
      have e : long4 a y z w = 0 := by
        clear A hv n1 key
        unfold long4 three four tail
        rw [if_neg (by omega), if_neg (by omega), if_neg (by rintro ⟨h1, h2⟩; rcases h2 with h2 | h2 | h2 | h2; exact A' (.inl (by omega)); exact A' (.inr (.inl (by omega))); exact A' (.inr (.inr (.inl (by omega)))); exact A' (.inr (.inr (.inr (by omega))))), if_neg (by omega)]
      rw [if_neg A, e]
      rfl
  rw [if_neg A3]
  by_cases A4 : a / 8 = 30 ∧ (1 < n ∧ b / 64 = 2) ∧ (2 < n ∧ c / 64 = 2) ∧ (3 < n ∧ d / 64 = 2)
  · rw [if_pos A4]
    have hyb : y = b := by omega
    have hzc : z = c := by omega
    have hwd : w = d := by omega
    have m1 : a % 8 = a - 240 := by omega
    have m2 : b % 64 = b - 128 := by omega
    have m3 : c % 64 = c - 128 := by omega
    have m5 : d % 64 = d - 128 := by omega
    have m4 : 240 ≤ a ∧ a ≤ 247 ∧ 128 ≤ b ∧ b ≤ 191 ∧ 128 ≤ c ∧ c ≤ 191 ∧ 128 ≤ d ∧ d ≤ 191 := by omega
    clear A1 A2 A3 A4
    rw [m1, m2, m3, m5]
    have n1 : (a - 240) * 262144 + (b - 128) * 4096 + (c - 128) * 64 + (d - 128) + 63447168 = a * 262144 + b * 4096 + c * 64 + d := by omega
    obtain ⟨v, hv⟩ : ∃ v, (a - 240) * 262144 + (b - 128) * 4096 + (c - 128) * 64 + (d - 128) = v := ⟨_, rfl⟩
    rw [hv]
    rw [hv] at n1
    have key : (v ≥ 65536 ∧ (v < 55296 ∨ (57344 ≤ v ∧ v ≤ 1114111))) ↔ ((a = 240 ∧ 144 ≤ b) ∨ (241 ≤ a ∧ a ≤ 243) ∨ (a = 244 ∧ b ≤ 143)) := by
      constructor
      · intro h
        rcases Nat.lt_trichotomy a 244 with h1 | h1 | h1
        · omega
        · subst h1; omega
        · omega
      · rintro (⟨rfl, h⟩ | ⟨h, h'⟩ | ⟨rfl, h⟩) <;> omega
    by_cases A : v ≥ 65536 ∧ (v < 55296 ∨ (57344 ≤ v ∧ v ≤ 1114111))
    · have A' := key.1 A
      have e : long4 a y z w = 4 := by
        clear A hv n1 key
        unfold long4 three four tail
        rw [if_neg (by omega), if_neg (by omega), if_neg (by omega), if_pos (by refine ⟨by omega, by omega, ?_⟩; rcases A' with h | h | h; exact .inl (by omega); exact .inr (.inl (by omega)); exact .inr (.inr (by omega)))]
      rw [if_pos A, e]
      simp only [runeV, hyb, hzc, hwd]
      simp
      omega
    · have A' := fun h => A (key.2 h)
      have e : long4 a y z w = 0 := by
        clear A hv n1 key
        unfold long4 three four tail
        rw [if_neg (by omega), if_neg (by omega), if_neg (by omega), if_neg (by rintro ⟨h1, h2, h3⟩; rcases h3 with h2 | h2 | h2; exact A' (.inl (by omega)); exact A' (.inr (.inl (by omega))); exact A' (.inr (.inr (by omega))))]
      rw [if_neg A, e]
      rfl
  rw [if_neg A4]
  have B2 : ¬ (192 ≤ a ∧ a ≤ 223 ∧ 1 < n ∧ 128 ≤ b ∧ b ≤ 191) := by omega
  have B3 : ¬ (224 ≤ a ∧ a ≤ 239 ∧ 1 < n ∧ 128 ≤ b ∧ b ≤ 191 ∧ 2 < n ∧ 128 ≤ c ∧ c ≤ 191) := by omega
  have B4 : ¬ (240 ≤ a ∧ a ≤ 247 ∧ 1 < n ∧ 128 ≤ b ∧ b ≤ 191 ∧ 2 < n ∧ 128 ≤ c ∧ c ≤ 191 ∧ 3 < n ∧ 128 ≤ d ∧ d ≤ 191) := by omega
  have e : long4 a y z w = 0 := by
    clear A2 A3 A4
    have C2 : ¬ ((194 ≤ (a : Int) ∧ (a : Int) ≤ 223) ∧ (128 ≤ y ∧ y ≤ 191)) := by
      rintro ⟨h1, h2⟩
      rcases hy with ⟨h3, h4, h5⟩ | ⟨h3, h4⟩ <;> omega
    have C3 : ¬ (224 ≤ a ∧ a ≤ 239 ∧ (128 ≤ y ∧ y ≤ 191) ∧ (128 ≤ z ∧ z ≤ 191)) := by
      rintro ⟨h1, h2, h3, h4⟩
      rcases hy with ⟨k1, k2, k3⟩ | ⟨k1, k2⟩ <;> rcases hz with ⟨k4, k5, k6⟩ | ⟨k4, k5⟩ <;> omega
    have C4 : ¬ (240 ≤ a ∧ a ≤ 247 ∧ (128 ≤ y ∧ y ≤ 191) ∧ (128 ≤ z ∧ z ≤ 191) ∧ (128 ≤ w ∧ w ≤ 191)) := by
      rintro ⟨h1, h2, h3, h4, h5⟩
      rcases hy with ⟨k1, k2, k3⟩ | ⟨k1, k2⟩ <;> rcases hz with ⟨k4, k5, k6⟩ | ⟨k4, k5⟩ <;> rcases hw with ⟨k7, k8, k9⟩ | ⟨k7, k8⟩ <;> omega
    clear B2 B3 B4 hy hz hw
    unfold long4 three four tail
    rw [if_neg (by omega), if_neg C2, if_neg (by rintro ⟨h1, h2⟩; rcases h2 with h2 | h2 | h2 | h2 <;> exact C3 ⟨by omega, by omega, by omega, by omega⟩), if_neg (by rintro ⟨h1, h2, h3⟩; rcases h3 with h3 | h3 | h3 <;> exact C4 ⟨by omega, by omega, by omega, by omega, by omega⟩)]
  rw [e]
  rfl
theorem get_bytes {l : List Int} (hl : Bytes l) {i : Nat} (h : i < l.length) : ((strOfNums l).get! i).toNat = (at_ l i).toNat := by
  rw [← Lib.getD_get!', strOfNums_data, List.getD_eq_getElem?_getD, List.getElem?_map, List.getElem?_eq_getElem h, at_nat l i h]
  have := hl _ (List.getElem_mem h)
  show (UInt8.ofNat (l[i].toNat)).toNat = _
  rw [UInt8.toNat_ofNat']
  exact Nat.mod_eq_of_lt (by omega)
theorem decode_eq {l : List Int} (hl : Bytes l) {p : Nat} (h : p < l.length) : Utf8.decode (strOfNums l) p = if long l p = 0 then (65533, 1) else ((rune l p).toNat, long l p) := by
  rw [Lib.decode_at, strOfNums_size]
  have h0 := at_byte hl h
  refine dec_pure _ _ _ _ _ _ _ _ _ (by rw [get_bytes hl h]; omega) (by rw [get_bytes hl h]; omega) (by omega) ?_ ?_ ?_
  · rcases Nat.lt_or_ge (p + 1) l.length with h1 | h1
    · have := at_byte hl h1
      exact .inl ⟨by omega, by rw [get_bytes hl h1]; omega, by rw [get_bytes hl h1]; omega⟩
    · exact .inr ⟨by omega, at_no l _ h1⟩
  · rcases Nat.lt_or_ge (p + 2) l.length with h1 | h1
    · have := at_byte hl h1
      exact .inl ⟨by omega, by rw [get_bytes hl h1]; omega, by rw [get_bytes hl h1]; omega⟩
    · exact .inr ⟨by omega, at_no l _ h1⟩
  · rcases Nat.lt_or_ge (p + 3) l.length with h1 | h1
    · have := at_byte hl h1
      exact .inl ⟨by omega, by rw [get_bytes hl h1]; omega, by rw [get_bytes hl h1]; omega⟩
    · exact .inr ⟨by omega, at_no l _ h1⟩
theorem rune_range (x y z w : Int) (hx : 0 ≤ x) : (long4 x y z w = 0) ∨ (long4 x y z w = 1 ∧ 0 ≤ runeV 1 x y z w ∧ runeV 1 x y z w ≤ 127) ∨ (long4 x y z w = 2 ∧ 128 ≤ runeV 2 x y z w ∧ runeV 2 x y z w ≤ 2047) ∨
    (long4 x y z w = 3 ∧ 2048 ≤ runeV 3 x y z w ∧ runeV 3 x y z w ≤ 65535 ∧ ¬ (55296 ≤ runeV 3 x y z w ∧ runeV 3 x y z w ≤ 57343) ∧ (runeV 3 x y z w = 65533 ↔ (x = 239 ∧ y = 191 ∧ z = 189))) ∨
    (long4 x y z w = 4 ∧ 65536 ≤ runeV 4 x y z w ∧ runeV 4 x y z w ≤ 1114111) := by
  unfold long4
  by_cases c1 : 0 ≤ x ∧ x ≤ 127
  · rw [if_pos c1]
    exact .inr (.inl ⟨rfl, by simp [runeV]; omega, by simp [runeV]; omega⟩)
  rw [if_neg c1]
  by_cases c2 : (194 ≤ x ∧ x ≤ 223) ∧ tail y
  · rw [if_pos c2]
    unfold tail at c2
    exact .inr (.inr (.inl ⟨rfl, by simp [runeV]; omega, by simp [runeV]; omega⟩))
  rw [if_neg c2]
  by_cases c3 : tail z ∧ three x y
  · rw [if_pos c3]
    obtain ⟨hz, h3⟩ := c3
    unfold three at h3
    unfold tail at hz h3
    have e : runeV 3 x y z w = (x - 224) * 4096 + (y - 128) * 64 + (z - 128) := by simp [runeV]; omega
    rw [e]
    refine .inr (.inr (.inr (.inl ⟨rfl, ?_, ?_, ?_, ?_, ?_⟩)))
    · rcases h3 with h | h | h | h <;> omega
    · rcases h3 with h | h | h | h <;> omega
    · rcases h3 with h | h | h | h <;> omega
    · intro h
      rcases h3 with h | h | h | h <;> omega
    · rintro ⟨rfl, rfl, rfl⟩
      omega
  rw [if_neg c3]
  by_cases c4 : tail z ∧ tail w ∧ four x y
  · rw [if_pos c4]
    obtain ⟨hz, hw, h4⟩ := c4
    unfold four at h4
    unfold tail at hz hw h4
    have e : runeV 4 x y z w = (x - 240) * 262144 + (y - 128) * 4096 + (z - 128) * 64 + (w - 128) := by simp [runeV]; omega
    rw [e]
    refine .inr (.inr (.inr (.inr ⟨rfl, ?_, ?_⟩)))
    · rcases h4 with h | h | h <;> omega
    · rcases h4 with h | h | h <;> omega
  rw [if_neg c4]
  exact .inl rfl
theorem encode_size {r : Int} (h : (0 ≤ r ∧ r < 55296) ∨ (57344 ≤ r ∧ r ≤ 1114111)) : (Utf8.encode r).size = if r < 128 then 1 else if r < 2048 then 2 else if r < 65536 then 3 else 4 := by
  have hv : Utf8.valid r = true := by unfold Utf8.valid; simp; omega
  unfold Utf8.encode
  simp only [hv, if_true]
  have e1 : (r.toNat < 128) ↔ r < 128 := by omega
  have e2 : (r.toNat < 2048) ↔ r < 2048 := by omega
  have e3 : (r.toNat < 65536) ↔ r < 65536 := by omega
  by_cases c1 : r < 128
  · rw [if_pos (e1.2 c1), if_pos c1]; rfl
  rw [if_neg (fun h => c1 (e1.1 h)), if_neg c1]
  by_cases c2 : r < 2048
  · rw [if_pos (e2.2 c2), if_pos c2]; rfl
  rw [if_neg (fun h => c2 (e2.1 h)), if_neg c2]
  by_cases c3 : r < 65536
  · rw [if_pos (e3.2 c3), if_pos c3]; rfl
  rw [if_neg (fun h => c3 (e3.1 h)), if_neg c3]; rfl
def stepN (l : List Int) (p : Nat) : Int × Int × Bool := if long l p = 0 then (65533, 1, false) else (rune l p, (long l p : Int), true)
theorem three_bytes {l : List Int} (hl : Bytes l) {p : Nat} (h : p < l.length) : (3 ≤ ((strOfNums l).extract p (strOfNums l).size).size ∧ ((((strOfNums l).extract p (strOfNums l).size).extract 0 3).toList == [239, 191, 189]) = true) ↔ (at_ l p = 239 ∧ at_ l (p + 1) = 191 ∧ at_ l (p + 2) = 189) := by
  rw [Lib.tail_size, strOfNums_size, ByteArray.toList_eq, Lib.extract_data, Lib.extract_data, strOfNums_data]
  have e0 : ∀ (q : Nat) (v : Nat) (hv : v < 256) (hq : q < l.length), (UInt8.ofNat (l[q].toNat) = UInt8.ofNat v) ↔ at_ l q = v := by
    intro q v hv hq
    have hb := hl _ (List.getElem_mem hq)
    rw [at_nat l q hq]
    constructor
    · intro h
      have h2 := congrArg UInt8.toNat h
      rw [UInt8.toNat_ofNat', UInt8.toNat_ofNat', Nat.mod_eq_of_lt (by omega), Nat.mod_eq_of_lt (by omega)] at h2
      omega
    · intro h
      rw [h]
      rfl
  by_cases h3 : 3 ≤ l.length - p
  · have d : (((l.map fun n => UInt8.ofNat n.toNat).drop p).take ((strOfNums l).size - p) |>.drop 0 |>.take (3 - 0)) = [UInt8.ofNat (l[p]).toNat, UInt8.ofNat (l[p + 1]).toNat, UInt8.ofNat (l[p + 2]).toNat] := by
      rw [strOfNums_size, List.drop_zero, List.take_take, List.drop_eq_getElem_cons (by simp; omega), List.drop_eq_getElem_cons (by simp; omega), List.drop_eq_getElem_cons (by simp; omega)]
      rw [show min (3 - 0) (l.length - p) = 3 from by omega]
      simp
    rw [strOfNums_size] at d
    rw [d, beq_iff_eq]
    simp only [List.cons.injEq, and_true]
    have k0 := e0 p 239 (by omega) (by omega)
    have k1 := e0 (p + 1) 191 (by omega) (by omega)
    have k2 := e0 (p + 2) 189 (by omega) (by omega)
    constructor
    · rintro ⟨_, a, b, c⟩
      exact ⟨k0.1 a, k1.1 b, k2.1 c⟩
    · rintro ⟨a, b, c⟩
      exact ⟨h3, k0.2 a, k1.2 b, k2.2 c⟩
  · constructor
    · rintro ⟨h4, _⟩
      exact absurd h4 h3
    · rintro ⟨_, _, c⟩
      rw [at_no l (p + 2) (by omega)] at c
      omega
theorem stepW_eq {l : List Int} (hl : Bytes l) {p : Nat} (h : p < l.length) : stepW ((strOfNums l).extract p (strOfNums l).size) = stepN l p := by
  have hs : ¬ ((strOfNums l).extract p (strOfNums l).size).size = 0 := by rw [Lib.tail_size, strOfNums_size]; omega
  have hx := at_byte hl h
  unfold stepW stepN
  rw [if_neg hs, Lib.tail_decode, Nat.add_zero, decode_eq hl h]
  simp only [three_bytes hl h]
  have hr := rune_range (at_ l p) (at_ l (p + 1)) (at_ l (p + 2)) (at_ l (p + 3)) hx.1
  unfold rune
  unfold long at hr ⊢
  generalize at_ l p = x at *
  generalize at_ l (p + 1) = y at *
  generalize at_ l (p + 2) = z at *
  generalize at_ l (p + 3) = w at *
  rcases hr with e | ⟨e, h1, h2⟩ | ⟨e, h1, h2⟩ | ⟨e, h1, h2, h3, h4⟩ | ⟨e, h1, h2⟩
  · rw [e]
    simp only [if_true]
    rw [if_neg]
    rintro ⟨rfl, rfl, rfl⟩
    revert e
    unfold long4 three four tail
    simp
  all_goals rw [e]
  · have hne : ((runeV 1 x y z w).toNat = 65533) = False := by simp; omega
    simp only [hne, if_false, if_neg (show ¬ (1 = 0) by decide)]
    rw [Int.toNat_of_nonneg (by omega), encode_size (by omega), if_pos (by omega)]
  · have hne : ((runeV 2 x y z w).toNat = 65533) = False := by simp; omega
    simp only [hne, if_false, if_neg (show ¬ (2 = 0) by decide)]
    rw [Int.toNat_of_nonneg (by omega), encode_size (by omega), if_neg (by omega), if_pos (by omega)]
  · by_cases hne : runeV 3 x y z w = 65533
    · have hb := h4.1 hne
      simp only [if_neg (show ¬ (3 = 0) by decide)]
      rw [if_pos (by omega), if_pos hb, hne]
      rfl
    · simp only [if_neg (show ¬ (3 = 0) by decide)]
      rw [if_neg (by omega), Int.toNat_of_nonneg (by omega), encode_size (by omega), if_neg (by omega), if_neg (by omega), if_pos (by omega)]
  · have hne : ((runeV 4 x y z w).toNat = 65533) = False := by simp; omega
    simp only [hne, if_false, if_neg (show ¬ (4 = 0) by decide)]
    rw [Int.toNat_of_nonneg (by omega), encode_size (by omega), if_neg (by omega), if_neg (by omega), if_neg (by omega)]
end Go.Proofs.YtbomhpfckplgaaaDoor.P
namespace Go.Proofs.YtbomhpfckplgaaaDoor.P
open Go Go.RowKit Go.Proofs.YtbomhpfckplgaaaDoorW.PrintWords Utf
set_option linter.unusedVariables false
set_option linter.unusedSimpArgs false
def stepsF (l : List Int) : Nat → Nat → List (Nat × Int × Int × Bool)
  | 0, _ => []
  | k + 1, p => if p < l.length then (p, stepN l p) :: stepsF l k (p + width l p) else []
def stepsL (l : List Int) : List (Nat × Int × Int × Bool) := stepsF l l.length 0
theorem stepN_w (l : List Int) (p : Nat) : (stepN l p).2.1 = (width l p : Int) := by
  unfold stepN width
  split <;> rfl
theorem decode_w {l : List Int} (hl : Bytes l) {p : Nat} (h : p < l.length) : (Utf8.decode (strOfNums l) p).2 = width l p := by
  rw [decode_eq hl h]
  unfold width
  split <;> rfl
theorem items_F {l : List Int} (hl : Bytes l) : ∀ (k p : Nat), itemsFrom (strOfNums l) k p = stepsF l k p
  | 0, _ => rfl
  | k + 1, p => by
    unfold itemsFrom stepsF
    rw [strOfNums_size]
    by_cases h : p < l.length
    · rw [if_pos h, if_pos h, decode_w hl h, items_F hl k]
      have := stepW_eq hl h
      rw [strOfNums_size] at this
      rw [this]
    · rw [if_neg h, if_neg h]
theorem items_eq {l : List Int} (hl : Bytes l) : items (strOfNums l) = stepsL l := by
  unfold items stepsL
  rw [strOfNums_size]
  exact items_F hl _ _
theorem stepsF_length (l : List Int) : ∀ (k p : Nat), (stepsF l k p).length ≤ l.length - p
  | 0, _ => by simp [stepsF]
  | k + 1, p => by
    unfold stepsF
    by_cases h : p < l.length
    · rw [if_pos h]
      have h1 := stepsF_length l k (p + width l p)
      have h2 := width_pos l p
      simp
      omega
    · rw [if_neg h]; simp
theorem stepsF_fuel (l : List Int) : ∀ (k p j : Nat), l.length - p ≤ k → stepsF l (k + j) p = stepsF l k p
  | 0, p, 0, _ => rfl
  | 0, p, j + 1, h => by
    show stepsF l (0 + (j + 1)) p = _
    rw [show 0 + (j + 1) = j + 1 from by omega]
    unfold stepsF
    rw [if_neg (by omega)]
  | k + 1, p, j, h => by
    rw [show k + 1 + j = (k + j) + 1 from by omega]
    unfold stepsF
    by_cases hp : p < l.length
    · rw [if_pos hp, if_pos hp, stepsF_fuel l k _ j (by have := width_pos l p; omega)]
    · rw [if_neg hp, if_neg hp]
def placesL (l : List Int) : List Int := (stepsL l).map (fun x => (x.1 : Int)) ++ [(l.length : Int)]
end Go.Proofs.YtbomhpfckplgaaaDoor.P
namespace Go.Proofs.YtbomhpfckplgaaaDoor.P
open Go Go.RowKit Go.Proofs.YtbomhpfckplgaaaDoorW.PrintWords Utf
set_option linter.unusedVariables false
set_option linter.unusedSimpArgs false
theorem tmod_nat {x : Int} (h : 0 ≤ x) (m : Int) : Int.tmod x m = x % m := Int.tmod_eq_emod_of_nonneg h
def toS (x : Nat × Int × Int × Bool) : S121 := ⟨x.2.1, x.2.2.1, x.2.2.2⟩
theorem stepsF_mem (l : List Int) : ∀ (k p : Nat) x, x ∈ stepsF l k p → x.1 < l.length ∧ x.2 = stepN l x.1
  | 0, _, x, h => by simp [stepsF] at h
  | k + 1, p, x, h => by
    unfold stepsF at h
    by_cases hp : p < l.length
    · rw [if_pos hp] at h
      rcases List.mem_cons.1 h with rfl | h
      · exact ⟨hp, rfl⟩
      · exact stepsF_mem l k _ x h
    · rw [if_neg hp] at h
      simp at h
theorem stepsL_length (l : List Int) : (stepsL l).length ≤ l.length := stepsF_length l _ _
theorem placesL_length (l : List Int) : (placesL l).length = (stepsL l).length + 1 := by simp [placesL]
def cntR (r : Int) (x : S121) : Int := if r = 1 then x.f1 else if r = 3 then (if x.f0 > 65535 then 2 else 1) else 1
def scanT (r : Int) : Int → List S121 → List Int
  | _, [] => []
  | a, x :: xs => wrap64 (a + cntR r x) :: scanT r (wrap64 (a + cntR r x)) xs
theorem rd_T_nat (xs : List S121) (i : Nat) (h : i < xs.length) : rd_T121 xs (i : Int) = xs[i] := by
  unfold rd_T121
  rw [Int.toNat_natCast, List.getD_eq_getElem?_getD, List.getElem?_eq_getElem h]
  rfl
theorem stepN_units {l : List Int} (hl : Bytes l) {p : Nat} (hp : p < l.length) : lenU (stepN l p).1 = if (stepN l p).1 > 65535 then 2 else 1 := by
  have hx := at_byte hl hp
  unfold stepN rune long
  have hr := rune_range (at_ l p) (at_ l (p + 1)) (at_ l (p + 2)) (at_ l (p + 3)) hx.1
  rcases hr with e | ⟨e, h1, h2⟩ | ⟨e, h1, h2⟩ | ⟨e, h1, h2, h3, h4⟩ | ⟨e, h1, h2⟩
  all_goals rw [e]
  · rfl
  · rw [if_neg (by decide)]
    unfold lenU
    dsimp only
    rw [if_pos (by omega)]
  · rw [if_neg (by decide)]
    unfold lenU
    dsimp only
    rw [if_pos (by omega)]
  · rw [if_neg (by decide)]
    unfold lenU
    dsimp only
    rw [if_pos (by omega)]
  · rw [if_neg (by decide)]
    unfold lenU
    dsimp only
    rw [if_pos (by omega)]
theorem scan_pick (r : Nat) (h1 : 1 ≤ r) (h3 : r ≤ 3) : ∀ (xs : List (Nat × Int × Int × Bool)) (a : Edge3), (∀ x ∈ xs, lenU x.2.1 = if x.2.1 > 65535 then 2 else 1) →
    (scanE a xs).map (fun e => pickE e r) = pickE a r :: scanT r (pickE a r) (xs.map toS)
  | [], a, _ => rfl
  | x :: xs, a, h => by
    have ih := scan_pick r h1 h3 xs (addE a x) (fun y hy => h y (List.mem_cons_of_mem _ hy))
    have hx := h x List.mem_cons_self
    simp only [scanE, List.map_cons, ih, scanT]
    have e : pickE (addE a x) r = wrap64 (pickE a r + cntR r (toS x)) := by
      obtain rfl | rfl | rfl : r = 1 ∨ r = 2 ∨ r = 3 := by omega
      · rfl
      · rfl
      · show wrap64 (a.2.2 + lenU x.2.1) = wrap64 (a.2.2 + _)
        rw [hx]
        rfl
    rw [e]
def tabL (l : List Int) (r : Nat) : List Int := (edgesL l).map fun e => pickE e r
theorem tab_scan {l : List Int} (hl : Bytes l) (r : Nat) (h1 : 1 ≤ r) (h3 : r ≤ 3) : tabL l r = 0 :: scanT r 0 ((stepsL l).map toS) := by
  unfold tabL edgesL
  rw [items_eq hl, scan_pick r h1 h3]
  · obtain rfl | rfl | rfl : r = 1 ∨ r = 2 ∨ r = 3 := by omega
    all_goals rfl
  · intro x hx
    have hm := stepsF_mem l _ _ x hx
    rw [hm.2]
    exact stepN_units hl hm.1
end Go.Proofs.YtbomhpfckplgaaaDoor.P
namespace Go.Proofs.YtbomhpfckplgaaaDoor.P
open Go Go.RowKit Go.Proofs.YtbomhpfckplgaaaDoorW.PrintWords Utf
set_option linter.unusedVariables false
set_option linter.unusedSimpArgs false
theorem cnt_range {l : List Int} (hl : Bytes l) (r : Nat) (h1 : 1 ≤ r) (h3 : r ≤ 3) {x : Nat × Int × Int × Bool} (hx : x ∈ stepsL l) : 1 ≤ cntR r (toS x) ∧ cntR r (toS x) ≤ 4 := by
  have hm := stepsF_mem l _ _ x hx
  have hw := stepN_w l x.1
  have w1 := width_pos l x.1
  have w4 := width_le4 l x.1
  unfold cntR toS
  obtain rfl | rfl | rfl : r = 1 ∨ r = 2 ∨ r = 3 := by omega
  · dsimp only
    rw [if_pos (show ((1 : Nat) : Int) = 1 from rfl), hm.2, hw]
    omega
  · dsimp only
    rw [if_neg (by decide), if_neg (by decide)]
    omega
  · dsimp only
    rw [if_neg (by decide), if_pos (show ((3 : Nat) : Int) = 3 from rfl)]
    split <;> omega
theorem scanT_rises (r : Int) : ∀ (xs : List S121) (a : Int), 0 ≤ a → a + 4 * (xs.length : Int) < 4611686018427387904 → (∀ x ∈ xs, 1 ≤ cntR r x ∧ cntR r x ≤ 4) →
    (a :: scanT r a xs).Pairwise (· < ·) ∧ ∀ y ∈ scanT r a xs, a < y ∧ y ≤ a + 4 * (xs.length : Int)
  | [], a, _, _, _ => by simp [scanT]
  | x :: xs, a, h0, hb, h => by
    have hx := h x List.mem_cons_self
    simp only [List.length_cons, Int.natCast_add, Int.natCast_one] at hb
    have e : wrap64 (a + cntR r x) = a + cntR r x := w64 (by omega) (by omega)
    obtain ⟨ih1, ih2⟩ := scanT_rises r xs (a + cntR r x) (by omega) (by omega) (fun y hy => h y (List.mem_cons_of_mem _ hy))
    simp only [scanT, e]
    refine ⟨List.pairwise_cons.2 ⟨?_, ih1⟩, ?_⟩
    · intro y hy
      rcases List.mem_cons.1 hy with rfl | hy
      · omega
      · have := (ih2 y hy).1; omega
    · intro y hy
      simp only [List.length_cons, Int.natCast_add, Int.natCast_one]
      rcases List.mem_cons.1 hy with rfl | hy
      · omega
      · have := ih2 y hy; omega
theorem tab_rises {l : List Int} (hl : Bytes l) (hs : Wide l) (r : Nat) (h1 : 1 ≤ r) (h3 : r ≤ 3) : (tabL l r).Pairwise (· < ·) ∧ (∀ y ∈ tabL l r, 0 ≤ y ∧ y ≤ 4 * (l.length : Int)) := by
  have hlen := stepsL_length l
  unfold Wide at hs
  rw [tab_scan hl r h1 h3]
  obtain ⟨a, b⟩ := scanT_rises r ((stepsL l).map toS) 0 (by omega) (by simp; omega) (fun x hx => by
    obtain ⟨y, hy, rfl⟩ := List.mem_map.1 hx
    exact cnt_range hl r h1 h3 hy)
  refine ⟨a, fun y hy => ?_⟩
  rcases List.mem_cons.1 hy with rfl | hy
  · omega
  · have := b y hy
    simp only [List.length_map] at this
    omega
theorem tab_length {l : List Int} (hl : Bytes l) (r : Nat) (h1 : 1 ≤ r) (h3 : r ≤ 3) : (tabL l r).length = (stepsL l).length + 1 := by
  rw [tab_scan hl r h1 h3]
  have : ∀ (xs : List S121) (a : Int), (scanT r a xs).length = xs.length := by
    intro xs
    induction xs with
    | nil => intro a; rfl
    | cons x xs ih => intro a; simp [scanT, ih]
  simp [this]
theorem edges_length {l : List Int} (hl : Bytes l) : (edgesL l).length = (stepsL l).length + 1 := by
  have := tab_length hl 1 (by omega) (by omega)
  simpa [tabL] using this
def lastT (l : List Int) (r : Nat) : Int := (tabL l r).getLast?.getD 0
theorem tab_ne {l : List Int} (hl : Bytes l) (r : Nat) (h1 : 1 ≤ r) (h3 : r ≤ 3) : tabL l r ≠ [] := by
  intro h
  have := tab_length hl r h1 h3
  rw [h] at this
  simp at this
theorem last_pick {l : List Int} (hl : Bytes l) (r : Nat) (h1 : 1 ≤ r) (h3 : r ≤ 3) : pickE ((edgesL l).getLast?.getD e0) r = lastT l r := by
  have hne : edgesL l ≠ [] := by
    intro h
    have := edges_length hl
    rw [h] at this
    simp at this
  unfold lastT tabL
  rw [List.getLast?_map]
  obtain ⟨e, he⟩ : ∃ e, (edgesL l).getLast? = some e := ⟨_, List.getLast?_eq_some_getLast hne⟩
  rw [he]
  rfl
theorem tab_le_last {l : List Int} (hl : Bytes l) (hs : Wide l) (r : Nat) (h1 : 1 ≤ r) (h3 : r ≤ 3) : ∀ y ∈ tabL l r, y ≤ lastT l r := by
  have hp := (tab_rises hl hs r h1 h3).1
  have hne := tab_ne hl r h1 h3
  unfold lastT
  generalize tabL l r = T at *
  intro y hy
  induction T with
  | nil => exact absurd rfl hne
  | cons a T ih =>
    obtain ⟨ha, hp⟩ := List.pairwise_cons.1 hp
    by_cases hT : T = []
    · subst hT
      simp at hy
      simp [hy]
    · have e : (a :: T).getLast? = T.getLast? := by
        cases T with
        | nil => exact absurd rfl hT
        | cons b T => rfl
      rw [e]
      rcases List.mem_cons.1 hy with rfl | hy
      · obtain ⟨z, hz⟩ : ∃ z, T.getLast? = some z := ⟨_, List.getLast?_eq_some_getLast hT⟩
        rw [hz]
        have := ha z (List.mem_of_getLast? hz)
        simp
        omega
      · exact ih hp hT hy
theorem last_mem {l : List Int} (hl : Bytes l) (r : Nat) (h1 : 1 ≤ r) (h3 : r ≤ 3) : lastT l r ∈ tabL l r := by
  have hne := tab_ne hl r h1 h3
  unfold lastT
  obtain ⟨z, hz⟩ : ∃ z, (tabL l r).getLast? = some z := ⟨_, List.getLast?_eq_some_getLast hne⟩
  rw [hz]
  exact List.mem_of_getLast? hz
theorem rul_iff (r : Int) : rule_ruler.f r = some (decide (1 ≤ r ∧ r ≤ 3)) := by
  unfold rule_ruler.f
  by_cases h : r ≥ 1
  · rw [if_pos h]
    congr 1
    simp
    intro _
    exact h
  · rw [if_neg h]
    congr 1
    simp
    intro h2
    exact absurd h2 h
theorem mode_iff (r : Int) : rule_mode.f r = some (decide (1 ≤ r ∧ r ≤ 3)) := rul_iff r
theorem search (E : List Edge3) (r : Nat) (place m : Int) (hE : E.length < 4611686018427387904) : ∀ (xs pre : List Edge3), E = pre ++ xs →
    ((∀ x ∈ xs, pickE x r < place) ∧ (findE r place m (pre.getLast?.getD e0) xs).2 = 2) ∨
    ∃ i, pre.length ≤ i ∧ ∃ hi : i < E.length, (∀ j (hj : j < i), pre.length ≤ j → pickE (E[j]'(Nat.lt_trans hj hi)) r < place) ∧ place ≤ pickE E[i] r ∧
      ((pickE E[i] r = place ∧ findE r place m (pre.getLast?.getD e0) xs = (E[i], 0)) ∨
       (place < pickE E[i] r ∧ m = 1 ∧ findE r place m (pre.getLast?.getD e0) xs = ((E.take i).getLast?.getD e0, 0)) ∨
       (place < pickE E[i] r ∧ m = 2 ∧ findE r place m (pre.getLast?.getD e0) xs = (E[i], 0)) ∨
       (place < pickE E[i] r ∧ m ≠ 1 ∧ m ≠ 2 ∧ findE r place m (pre.getLast?.getD e0) xs = ((E.take i).getLast?.getD e0, 4)))
  | [], pre, hp => .inl ⟨by simp, rfl⟩
  | x :: xs, pre, hp => by
    have hi : pre.length < E.length := by rw [hp]; simp
    have hx : E[pre.length] = x := by simp [hp]
    have htk : E.take pre.length = pre := by rw [hp]; simp
    by_cases c1 : pickE x r = place
    · refine .inr ⟨pre.length, Nat.le_refl _, hi, fun j h1 h2 => by omega, by rw [hx]; omega, .inl ⟨by rw [hx]; exact c1, ?_⟩⟩
      unfold findE
      rw [if_pos c1, hx]
    by_cases c2 : pickE x r < place
    · have hp' : E = (pre ++ [x]) ++ xs := by rw [hp]; simp
      have ih := search E r place m hE xs (pre ++ [x]) hp'
      have hg : (pre ++ [x]).getLast?.getD e0 = x := by simp
      have hf : findE r place m (pre.getLast?.getD e0) (x :: xs) = findE r place m x xs := by
        conv => lhs; unfold findE
        rw [if_neg c1, if_pos c2]
      have hl1 : (pre ++ [x]).length = pre.length + 1 := by simp
      rw [hg, hl1] at ih
      rw [hf]
      rcases ih with ⟨a, b⟩ | ⟨i, h1, h2, h3, h4, h5⟩
      · refine .inl ⟨fun y hy => ?_, b⟩
        rcases List.mem_cons.1 hy with rfl | hy
        · exact c2
        · exact a y hy
      · refine .inr ⟨i, by omega, h2, fun j hj1 hj2 => ?_, h4, h5⟩
        rcases Nat.eq_or_lt_of_le hj2 with h | h
        · subst h
          rw [hx]
          exact c2
        · exact h3 j hj1 (by omega)
    · have c3 : pickE x r > place := by omega
      refine .inr ⟨pre.length, Nat.le_refl _, hi, fun j h1 h2 => by omega, by rw [hx]; omega, ?_⟩
      have hf : findE r place m (pre.getLast?.getD e0) (x :: xs) = if m = 1 then (pre.getLast?.getD e0, 0) else if m = 2 then (x, 0) else (pre.getLast?.getD e0, 4) := by
        conv => lhs; unfold findE
        rw [if_neg c1, if_neg c2]
      rw [hf, htk, hx]
      by_cases m1 : m = 1
      · exact .inr (.inl ⟨by omega, m1, if_pos m1⟩)
      by_cases m2 : m = 2
      · exact .inr (.inr (.inl ⟨by omega, m2, (if_neg m1).trans (if_pos m2)⟩))
      · exact .inr (.inr (.inr ⟨by omega, m1, m2, (if_neg m1).trans (if_neg m2)⟩))
theorem size_is {l : List Int} (hl : Bytes l) (hs : Wide l) (r : Int) : rule_Size.f l r = some (if 1 ≤ r ∧ r ≤ 3 then (lastT l r.toNat, 0) else (0, 3)) := by
  have hs' := hs
  unfold Wide at hs'
  unfold rule_Size.f rule_size.f
  simp only [rul_iff, Option.bind_some, decide_eq_true_eq]
  by_cases r1 : 1 ≤ r ∧ r ≤ 3
  · rw [if_pos r1, if_pos (by omega), if_pos r1, if_pos r1]
    simp only [Option.bind_some]
    rw [last_pick hl r.toNat (by omega) (by omega)]
  · rw [if_neg r1, if_neg r1]
end Go.Proofs.YtbomhpfckplgaaaDoor.P
namespace Go.Proofs.YtbomhpfckplgaaaDoor.P
open Go Go.RowKit Go.Proofs.YtbomhpfckplgaaaDoorW.PrintWords Utf
set_option linter.unusedVariables false
set_option linter.unusedSimpArgs false
theorem rune_drop (l : List Int) (e q : Nat) : rune (l.drop e) q = rune l (e + q) := by
  unfold rune
  rw [long_drop, at_drop, at_drop, at_drop, at_drop, Nat.add_assoc, Nat.add_assoc, Nat.add_assoc]
theorem stepN_drop (l : List Int) (e q : Nat) : stepN (l.drop e) q = stepN l (e + q) := by
  unfold stepN
  rw [long_drop, rune_drop]
theorem steps_drop (l : List Int) (e : Nat) (he : e ≤ l.length) : ∀ (k q : Nat), (stepsF (l.drop e) k q).map toS = (stepsF l k (e + q)).map toS
  | 0, _ => rfl
  | k + 1, q => by
    unfold stepsF
    have hl : (l.drop e).length = l.length - e := List.length_drop
    by_cases h : q < l.length - e
    · rw [if_pos (by omega), if_pos (by omega), List.map_cons, List.map_cons, steps_drop l e he k, width_drop]
      rw [show e + (q + width l (e + q)) = e + q + width l (e + q) from by omega]
      congr 1
      simp only [toS, stepN_drop]
    · rw [if_neg (by omega), if_neg (by omega)]
theorem runeV_n {n : Nat} {x y z w y' z' w' : Int} (hy : 1 < n → y = y') (hz : 2 < n → z = z') (hw : 3 < n → w = w') (hn : n ≤ 4) (h0 : 0 < n) : runeV n x y z w = runeV n x y' z' w' := by
  unfold runeV
  by_cases h1 : n = 1
  · rw [if_pos h1, if_pos h1]
  rw [if_neg h1, if_neg h1]
  by_cases h2 : n = 2
  · rw [if_pos h2, if_pos h2, hy (by omega)]
  rw [if_neg h2, if_neg h2]
  by_cases h3 : n = 3
  · rw [if_pos h3, if_pos h3, hy (by omega), hz (by omega)]
  rw [if_neg h3, if_neg h3]
  rw [hy (by omega), hz (by omega), hw (by omega)]
theorem stepN_take {l : List Int} {e q : Nat} (h : q + width l q ≤ e) : stepN (l.take e) q = stepN l q := by
  unfold stepN
  rcases Nat.eq_zero_or_pos (long l q) with h0 | h0
  · rw [if_pos (long_take_zero h0), if_pos h0]
  · have hw := long_le_width l q
    have h4 := long_le4 l q
    have e1 := long_take (b := l) (n := e) (q := q) (by omega) h0
    rw [if_neg (by omega), if_neg (by omega), e1]
    congr 1
    unfold rune
    rw [e1, at_take (by omega)]
    exact runeV_n (fun h => at_take (by omega)) (fun h => at_take (by omega)) (fun h => at_take (by omega)) h4 h0
theorem width_take' {l : List Int} {e q : Nat} (h : q + width l q ≤ e) : width (l.take e) q = width l q := by
  have := stepN_take h
  have h1 := stepN_w (l.take e) q
  have h2 := stepN_w l q
  rw [this, h2] at h1
  omega
theorem step_within {l : List Int} {e p : Nat} (he : inside l e = false) (hp : p < e) : p + width l p ≤ e := by
  rcases Nat.lt_or_ge e (p + width l p) with h | h
  · have := inside_mid (b := l) (p := p) (k := e - p) (by omega) (by omega)
    rw [show p + (e - p) = e from by omega, he] at this
    cases this
  · exact h
theorem stepsF_succ (l : List Int) (k p : Nat) : stepsF l (k + 1) p = if p < l.length then (p, stepN l p) :: stepsF l k (p + width l p) else [] := rfl
theorem steps_cut_from (l : List Int) (e : Nat) (he : e ≤ l.length) (hi : inside l e = false) : ∀ (k p : Nat), p ≤ e → e - p ≤ k → ∀ j, l.length ≤ j → (stepsF l (k + j) p).map toS = (stepsF (l.take e) k p).map toS ++ (stepsF (l.drop e) j 0).map toS
  | k, p, hp, hk, j, hj => by
    rcases Nat.lt_or_ge p e with h | h
    · obtain ⟨k, rfl⟩ : ∃ i, k = i + 1 := ⟨k - 1, by omega⟩
      have hw := step_within hi h
      have hwp := width_pos l p
      have ih := steps_cut_from l e he hi k (p + width l p) hw (by omega) j hj
      rw [show k + 1 + j = (k + j) + 1 from by omega]
      rw [stepsF_succ, stepsF_succ]
      have hl : (l.take e).length = e := by simp; omega
      rw [if_pos (by omega), if_pos (by omega), List.map_cons, List.map_cons, ih, width_take' hw]
      have et : toS (p, stepN l p) = toS (p, stepN (l.take e) p) := by simp only [toS, stepN_take hw]
      rw [et]
      rfl
    · obtain rfl : p = e := by omega
      have h0 : stepsF (l.take p) k p = [] := by
        cases k with
        | zero => rfl
        | succ k =>
          unfold stepsF
          rw [if_neg (by simp; omega)]
      rw [h0, List.map_nil, List.nil_append, steps_drop l p he j 0, Nat.add_zero]
      have e1 := stepsF_fuel l j p k (by omega)
      rw [Nat.add_comm k j, e1]
theorem steps_cut (l : List Int) (e : Nat) (he : e ≤ l.length) (hi : inside l e = false) : (stepsL l).map toS = (stepsL (l.take e)).map toS ++ (stepsL (l.drop e)).map toS := by
  have h := steps_cut_from l e he hi e 0 (Nat.zero_le _) (by omega) l.length (Nat.le_refl _)
  have f1 : stepsF l (e + l.length) 0 = stepsL l := by
    rw [Nat.add_comm]
    exact stepsF_fuel l l.length 0 e (by omega)
  have f2 : stepsF (l.take e) e 0 = stepsL (l.take e) := by
    unfold stepsL
    rw [show (l.take e).length = e from by simp; omega]
  have f3 : stepsF (l.drop e) l.length 0 = stepsL (l.drop e) := by
    unfold stepsL
    have := stepsF_fuel (l.drop e) (l.drop e).length 0 e (by omega)
    rw [show (l.drop e).length + e = l.length from by simp; omega] at this
    exact this
  rw [f1, f2, f3] at h
  exact h
end Go.Proofs.YtbomhpfckplgaaaDoor.P
namespace Go.Proofs.YtbomhpfckplgaaaDoor.P
open Go Go.RowKit Go.Proofs.YtbomhpfckplgaaaDoorW.PrintWords Utf
set_option linter.unusedVariables false
set_option linter.unusedSimpArgs false
theorem to_index {l : List Int} (hl : Bytes l) (hs : Wide l) (n n' : Nat) (p m : Int) (n1 : 1 ≤ n) (n3 : n ≤ 3) (m1 : 1 ≤ n') (m3 : n' ≤ 3) (hm : 1 ≤ m ∧ m ≤ 3) (hp0 : 0 ≤ p) (hp1 : p ≤ lastT l n) :
    ∃ i, ∃ hi : i < (edgesL l).length, (∀ j (hj : j < i), pickE ((edgesL l)[j]'(Nat.lt_trans hj hi)) n < p) ∧ p ≤ pickE (edgesL l)[i] n ∧ (pickE (edgesL l)[i] n ≠ p → 0 < i) ∧
      rule_To.f l n p n' m = some (if pickE (edgesL l)[i] n = p then (pickE (edgesL l)[i] n', 0) else if m = 1 then (pickE ((edgesL l)[i - 1]'(by omega)) n', 0) else if m = 2 then (pickE (edgesL l)[i] n', 0) else (0, 4)) := by
  have hs' := hs
  unfold Wide at hs'
  have hel := edges_length hl
  have hsl := stepsL_length l
  have hlen := tab_length hl n n1 n3
  have base : rule_To.f l n p n' m = (if (findE n p m e0 (edgesL l)).2 = 0 then some (pickE (findE n p m e0 (edgesL l)).1 n', 0) else some (0, (findE n p m e0 (edgesL l)).2)) := by
    unfold rule_To.f
    simp only [rul_iff, mode_iff, Option.bind_some, decide_eq_true_eq]
    rw [if_pos (by omega), if_pos (by omega), if_pos hm, if_neg (by omega), if_pos (by omega), if_pos (by omega)]
    simp only [Int.toNat_natCast]
  rcases search (edgesL l) n p m (by omega) (edgesL l) [] rfl with ⟨a, _⟩ | ⟨i, _, hi, hlow, h4, h5⟩
  · exfalso
    obtain ⟨x, hx, hxe⟩ := List.mem_map.1 (last_mem hl n n1 n3)
    have := a x hx
    omega
  · have h0 : pickE (edgesL l)[i] n ≠ p → 0 < i := by
      intro hne
      rcases Nat.eq_zero_or_pos i with rfl | h
      · have e : (tabL l n)[0]'(by omega) = 0 := by simp only [tab_scan hl n n1 n3]; rfl
        simp only [tabL, List.getElem_map] at e
        omega
      · exact h
    refine ⟨i, hi, fun j hj => hlow j hj (Nat.zero_le _), h4, h0, ?_⟩
    rw [base]
    have prev : pickE (edgesL l)[i] n ≠ p → ((edgesL l).take i).getLast?.getD e0 = (edgesL l)[i - 1]'(by omega) := fun hne => by
      have := h0 hne
      rw [List.getLast?_eq_getElem?, List.length_take, Nat.min_eq_left (by omega), List.getElem?_take, if_pos (by omega), List.getElem?_eq_getElem (by omega)]
      rfl
    rcases h5 with ⟨q1, q2⟩ | ⟨q1, q2, q3⟩ | ⟨q1, q2, q3⟩ | ⟨q1, q2, q2', q3⟩
    · have q2' : findE n p m e0 (edgesL l) = ((edgesL l)[i], 0) := q2
      rw [q2', if_pos rfl, if_pos q1]
    · have q3' : findE n p m e0 (edgesL l) = (((edgesL l).take i).getLast?.getD e0, 0) := q3
      rw [q3', if_pos rfl, if_neg (by omega), if_pos q2, prev (by omega)]
    · have q3' : findE n p m e0 (edgesL l) = ((edgesL l)[i], 0) := q3
      rw [q3', if_pos rfl, if_neg (by omega), if_neg (by omega), if_pos q2]
    · have q3' : findE n p m e0 (edgesL l) = (((edgesL l).take i).getLast?.getD e0, 4) := q3
      rw [q3', if_neg (show ¬ ((4 : Int) = 0) by decide), if_neg (by omega), if_neg q2, if_neg q2']
theorem to_range {l : List Int} (hl : Bytes l) (hs : Wide l) (n n' : Nat) (p m : Int) (n1 : 1 ≤ n) (n3 : n ≤ 3) (m1 : 1 ≤ n') (m3 : n' ≤ 3) (hm : 1 ≤ m ∧ m ≤ 3) (hp : p < 0 ∨ p > lastT l n) : rule_To.f l n p n' m = some (0, 2) := by
  have hs' := hs
  unfold Wide at hs'
  have hel := edges_length hl
  have hsl := stepsL_length l
  unfold rule_To.f
  simp only [rul_iff, mode_iff, Option.bind_some, decide_eq_true_eq]
  rw [if_pos (by omega), if_pos (by omega), if_pos hm]
  by_cases c : p < 0
  · rw [if_pos c]
  rw [if_neg c, if_pos (by omega), if_pos (by omega)]
  simp only [Int.toNat_natCast]
  have hall : ∀ x ∈ edgesL l, pickE x n < p := fun x hx => by
    have := tab_le_last hl hs n n1 n3 (pickE x n) (List.mem_map.2 ⟨x, hx, rfl⟩)
    omega
  rcases search (edgesL l) n p m (by omega) (edgesL l) [] rfl with ⟨_, b⟩ | ⟨i, _, hi, _, h4, _⟩
  · have b' : (findE n p m e0 (edgesL l)).2 = 2 := b
    rw [b']
    rfl
  · have := hall _ (List.getElem_mem hi)
    omega
theorem to_bad {l : List Int} (a1 p a3 m : Int) (h : ¬ ((1 ≤ a1 ∧ a1 ≤ 3) ∧ (1 ≤ a3 ∧ a3 ≤ 3) ∧ (1 ≤ m ∧ m ≤ 3))) : rule_To.f l a1 p a3 m = some (0, 3) := by
  unfold rule_To.f
  simp only [rul_iff, mode_iff, Option.bind_some, decide_eq_true_eq]
  by_cases c1 : 1 ≤ a1 ∧ a1 ≤ 3
  · rw [if_pos c1]
    by_cases c2 : 1 ≤ a3 ∧ a3 ≤ 3
    · rw [if_pos c2, if_neg (fun c3 => h ⟨c1, c2, c3⟩)]
    · rw [if_neg c2]
  · rw [if_neg c1]
theorem scan_bytes {l : List Int} (hs : Wide l) : ∀ (k p : Nat), p ≤ l.length → l.length - p ≤ k → (p : Int) :: scanT 1 p ((stepsF l k p).map toS) = (stepsF l k p).map (fun x => (x.1 : Int)) ++ [(l.length : Int)]
  | 0, p, hp, hk => by
    obtain rfl : p = l.length := by omega
    rfl
  | k + 1, p, hp, hk => by
    unfold Wide at hs
    by_cases h : p < l.length
    · rw [stepsF_succ, if_pos h]
      have hw := width_end h
      have hwp := width_pos l p
      have ih := scan_bytes (l := l) hs k (p + width l p) hw (by omega)
      have e : wrap64 ((p : Int) + cntR 1 (toS (p, stepN l p))) = ((p + width l p : Nat) : Int) := by
        have : cntR 1 (toS (p, stepN l p)) = (width l p : Int) := by
          unfold cntR toS
          rw [if_pos rfl]
          exact stepN_w l p
        rw [this, w64 (by omega) (by omega)]
        omega
      simp only [List.map_cons, scanT, List.cons_append]
      rw [e, ih]
    · rw [stepsF_succ, if_neg h]
      obtain rfl : p = l.length := by omega
      rfl
theorem tab_bytes {l : List Int} (hl : Bytes l) (hs : Wide l) : tabL l 1 = placesL l := by
  rw [tab_scan hl 1 (by omega) (by omega)]
  exact scan_bytes hs l.length 0 (by omega) (by omega)
theorem stepsF_edge {l : List Int} : ∀ (k p : Nat), inside l p = false → ∀ x ∈ stepsF l k p, inside l x.1 = false
  | 0, _, _, x, hx => by cases hx
  | k + 1, p, hp, x, hx => by
    rw [stepsF_succ] at hx
    by_cases h : p < l.length
    · rw [if_pos h] at hx
      rcases List.mem_cons.1 hx with rfl | hx
      · exact hp
      · exact stepsF_edge k _ (inside_next hp) x hx
    · rw [if_neg h] at hx
      cases hx
theorem byte_edge {l : List Int} (hl : Bytes l) (hs : Wide l) {y : Int} (h : y ∈ tabL l 1) : ∃ e : Nat, y = e ∧ e ≤ l.length ∧ inside l e = false := by
  rw [tab_bytes hl hs] at h
  rcases List.mem_append.1 h with h | h
  · obtain ⟨x, hx, rfl⟩ := List.mem_map.1 h
    have hm := stepsF_mem l _ _ x hx
    exact ⟨x.1, rfl, by omega, stepsF_edge _ _ (inside_zero l) x hx⟩
  · obtain rfl := List.mem_singleton.1 h
    exact ⟨l.length, rfl, Nat.le_refl _, inside_len l⟩
theorem last_bytes {l : List Int} (hl : Bytes l) (hs : Wide l) : lastT l 1 = (l.length : Int) := by
  unfold lastT
  rw [tab_bytes hl hs]
  simp [placesL]
end Go.Proofs.YtbomhpfckplgaaaDoor.P
namespace Go.Proofs.YtbomhpfckplgaaaDoor.P
open Go Go.RowKit Go.Proofs.YtbomhpfckplgaaaDoorW.PrintWords Utf
set_option linter.unusedVariables false
set_option linter.unusedSimpArgs false
theorem pick_mono {l : List Int} (hl : Bytes l) (hs : Wide l) (n : Nat) (n1 : 1 ≤ n) (n3 : n ≤ 3) {i j : Nat} (hi : i < (edgesL l).length) (hj : j < (edgesL l).length) (h : i ≤ j) : pickE (edgesL l)[i] n ≤ pickE (edgesL l)[j] n := by
  rcases Nat.eq_or_lt_of_le h with rfl | h
  · exact Int.le_refl _
  · have hris := (tab_rises hl hs n n1 n3).1
    have hT : (tabL l n)[i]'(by simpa [tabL] using hi) < (tabL l n)[j]'(by simpa [tabL] using hj) := List.pairwise_iff_getElem.1 hris i j _ _ h
    simp only [tabL, List.getElem_map] at hT
    omega
theorem to_edge {l : List Int} (hl : Bytes l) (hs : Wide l) (n : Nat) (p m : Int) (n1 : 1 ≤ n) (n3 : n ≤ 3) (hm : 1 ≤ m ∧ m ≤ 3) (hp0 : 0 ≤ p) (hp1 : p ≤ lastT l n) :
    (∃ j, ∃ hj : j < (edgesL l).length, (∀ n' : Nat, 1 ≤ n' → n' ≤ 3 → rule_To.f l n p n' m = some (pickE (edgesL l)[j] n', 0)) ∧ (m = 1 → pickE (edgesL l)[j] n ≤ p) ∧ (m = 2 → p ≤ pickE (edgesL l)[j] n) ∧ (m = 3 → p = pickE (edgesL l)[j] n) ∧
      (∀ i (hi : i < (edgesL l).length), i < j → pickE (edgesL l)[i] n < p) ∧ (∀ i (hi : i < (edgesL l).length), j < i → p < pickE (edgesL l)[i] n)) ∨
    (m = 3 ∧ (∀ n' : Nat, 1 ≤ n' → n' ≤ 3 → rule_To.f l n p n' m = some (0, 4)) ∧ ∀ i (hi : i < (edgesL l).length), pickE (edgesL l)[i] n ≠ p) := by
  have hne : 1 ≤ (edgesL l).length := by rw [edges_length hl]; omega
  obtain ⟨i, hi, h1, h2, h3, _⟩ := to_index hl hs n 1 p m n1 n3 (by omega) (by omega) hm hp0 hp1
  have key : ∀ n' : Nat, 1 ≤ n' → n' ≤ 3 → rule_To.f l n p n' m = some (if pickE (edgesL l)[i] n = p then (pickE (edgesL l)[i] n', 0) else if m = 1 then (pickE ((edgesL l)[i - 1]'(by omega)) n', 0) else if m = 2 then (pickE (edgesL l)[i] n', 0) else (0, 4)) := by
    intro n' m1 m3
    obtain ⟨i', hi', k1, k2, k3, k4⟩ := to_index hl hs n n' p m n1 n3 m1 m3 hm hp0 hp1
    have : i' = i := by
      rcases Nat.lt_trichotomy i' i with h | h | h
      · have := h1 i' h
        omega
      · exact h
      · have := k1 i h
        omega
    subst this
    exact k4
  have above : ∀ j (hj : j < (edgesL l).length), i < j → p < pickE (edgesL l)[j] n := by
    intro j hj hij
    have := pick_mono hl hs n n1 n3 (i := i + 1) (j := j) (by omega) hj hij
    have hris := (tab_rises hl hs n n1 n3).1
    have hT : (tabL l n)[i]'(by simpa [tabL] using hi) < (tabL l n)[i + 1]'(by simpa [tabL] using (show i + 1 < (edgesL l).length by omega)) := List.pairwise_iff_getElem.1 hris i (i + 1) _ _ (by omega)
    simp only [tabL, List.getElem_map] at hT
    omega
  by_cases c : pickE (edgesL l)[i] n = p
  · refine .inl ⟨i, hi, fun n' a b => by rw [key n' a b, if_pos c], by omega, by omega, by omega, fun j hj h => h1 j h, above⟩
  · have h0 := h3 c
    obtain rfl | rfl | rfl : m = 1 ∨ m = 2 ∨ m = 3 := by omega
    · refine .inl ⟨i - 1, by omega, fun n' a b => by rw [key n' a b, if_neg c, if_pos rfl], fun _ => ?_, by omega, by omega, fun j hj h => h1 j (by omega), fun j hj h => ?_⟩
      · have := h1 (i - 1) (by omega)
        omega
      · rcases Nat.eq_or_lt_of_le (show i ≤ j by omega) with h' | h'
        · subst h'
          omega
        · exact above j hj h'
    · refine .inl ⟨i, hi, fun n' a b => by rw [key n' a b, if_neg c, if_neg (by decide), if_pos rfl], by omega, by omega, by omega, fun j hj h => h1 j h, above⟩
    · refine .inr ⟨rfl, fun n' a b => by rw [key n' a b, if_neg c, if_neg (by decide), if_neg (by decide)], fun j hj => ?_⟩
      rcases Nat.lt_trichotomy j i with h | h | h
      · have := h1 j h
        omega
      · subst h
        exact c
      · have := above j hj h
        omega
theorem to_all (l : List Int) (hl : Bytes l) (hs : Wide l) (a p b m : Int) : ∃ v e, rule_To.f l a p b m = some (v, e) := by
  by_cases h : (1 ≤ a ∧ a ≤ 3) ∧ (1 ≤ b ∧ b ≤ 3) ∧ (1 ≤ m ∧ m ≤ 3)
  · obtain ⟨n, rfl⟩ : ∃ n : Nat, a = n := ⟨a.toNat, by omega⟩
    obtain ⟨n', rfl⟩ : ∃ n' : Nat, b = n' := ⟨b.toNat, by omega⟩
    by_cases hp : p < 0 ∨ p > lastT l n
    · exact ⟨_, _, to_range hl hs n n' p m (by omega) (by omega) (by omega) (by omega) h.2.2 hp⟩
    · obtain ⟨j, hj, h1, _⟩ | ⟨_, h1, _⟩ := to_edge hl hs n p m (by omega) (by omega) h.2.2 (by omega) (by omega)
      · exact ⟨_, _, h1 n' (by omega) (by omega)⟩
      · exact ⟨_, _, h1 n' (by omega) (by omega)⟩
  · exact ⟨_, _, to_bad a p b m h⟩
theorem to_byte {l : List Int} (hl : Bytes l) (hs : Wide l) (a p m v : Int) (hv : rule_To.f l a p 1 m = some (v, 0)) : 0 ≤ v ∧ v ≤ l.length := by
  by_cases hg : (1 ≤ a ∧ a ≤ 3) ∧ (1 ≤ (1 : Int) ∧ (1 : Int) ≤ 3) ∧ (1 ≤ m ∧ m ≤ 3)
  · obtain ⟨n, rfl⟩ : ∃ n : Nat, a = n := ⟨a.toNat, by omega⟩
    by_cases hp : p < 0 ∨ p > lastT l n
    · have := to_range hl hs n 1 p m (by omega) (by omega) (by omega) (by omega) hg.2.2 hp
      rw [show (((1 : Nat) : Int)) = 1 from rfl] at this
      rw [this] at hv
      simp at hv
    obtain ⟨j, hj, h1, _⟩ | ⟨_, h1, _⟩ := to_edge hl hs n p m (by omega) (by omega) hg.2.2 (by omega) (by omega)
    · have := h1 1 (by omega) (by omega)
      rw [show (((1 : Nat) : Int)) = 1 from rfl] at this
      rw [this] at hv
      simp only [Option.some.injEq, Prod.mk.injEq, and_true] at hv
      subst hv
      obtain ⟨e, he, hel2, hei⟩ := byte_edge hl hs (List.mem_map.2 ⟨_, List.getElem_mem hj, rfl⟩ : pickE (edgesL l)[j] 1 ∈ tabL l 1)
      omega
    · have := h1 1 (by omega) (by omega)
      rw [show (((1 : Nat) : Int)) = 1 from rfl] at this
      rw [this] at hv
      simp at hv
  · rw [to_bad a p 1 m hg] at hv
    simp at hv
end Go.Proofs.YtbomhpfckplgaaaDoor.P
namespace Go.Proofs.YtbomhpfckplgaaaDoor.P
open Go.RowKit Go.Proofs.YtbomhpfckplgaaaDoorW.PrintWords Go.Proofs.YtbomhpfckplgaaaDoorW.PrintLast Go.Proofs.YtbomhpfckplgaaaDoorW.PrintMore
attribute [local go_sem] max2_int min2_int max_two min_two max_three min_three max_four min_four   -- for this text's walks alone
set_option linter.unusedVariables false
set_option linter.unusedSimpArgs false
def lines_Starts.l0 : Nat → List Int → List (S144) → Int → Int → Option (List Int)
 | 0, _, _, _, _ => none
 | k + 1, x3, x7, x8, x9 => if x9 < x8 then (if 0 ≤ x9 then (if x9 < (x7.length : Int) then (if x3.length < 17592186044416 then (lines_Starts.l0 k (x3 ++ [(rd_T144 x7 x9).f0]) x7 x8 (wrap64 (x9 + 1))) else (none)) else (none)) else (none)) else (some x3)
def lines_Starts.f (k : Nat) (l0 : List Int) : Option (List Int) := (lines_all.f l0).bind fun t333 => (lines_Starts.l0 k ([] : List Int) t333 (t333.length : Int) 0)
set_option maxHeartbeats 8000000 in
set_option maxRecDepth 100000 in
theorem lines_Starts.calls (k : Nat) (A0 : Option Addr) (c0 : Nat) (l0 : List Int) (r : List Int) (w : World) (hr0 : Kd.C (Kd.int .u8) w A0 l0.length l0) (hc0 : l0.length ≤ c0) (h : lines_Starts.f k l0 = some r) :
  Calls Tryd.prog 61 #[.slice A0 l0.length c0] w fun e w' => ∃ v0_ : Value, e = .returned (v0_) ∧ Kd.R (Kd.int .i64) 3 w' w.heap.size (fun _ => True) v0_ r ∧ Below w.heap.size w w' := by
 have hu144 := Tryd.underlying144
 have HR0 := Aside0.mk hr0
 have HC0 := Aside0.mk hc0
 clear hr0 hc0
 have HB := Aside0.mk (Below.refl w.heap.size w)
 have H : ((lines_all.f l0).bind fun t333 => (lines_Starts.l0 k ([] : List Int) t333 (t333.length : Int) 0)) = some r := h
 clear h
 replace H := Option.bind_eq_some_iff.mp H
 obtain ⟨t333, A20, H⟩ := H
 replace H : (lines_Starts.l0 k ([] : List Int) t333 (t333.length : Int) 0) = some r := H
 have A2 := Aside0.mk A20
 clear A20
 have H' := Aside0.mk H
 clear H
 go_enter Tryd.func61, Tryd.ntmps61
 go_wp2_with (first | ((with_reducible refine gate_callee (f := 102) rfl ?_); refine goesL_ (some 7) rfl rfl Tryd.func102 (by kernel_rfl) rfl #[.slice A0 l0.length c0] rfl (by (try simp only [List.map_toArray, List.map_cons, List.map_nil]); first | done | rfl | (simp only [List.length_drop, List.length_take]; rfl)) ?_; (with_reducible refine (lines_all.calls _ _ l0 t333 _ ?side1 ?side2 A2.out).mono ?_); (case side1 => repeat (first | exact HR0.out | (with_reducible refine Kd.C_alloc ?_ _) | (with_reducible refine Kd.C_drewN ?_ _) | (with_reducible refine Kd.C_drew ?_))); (case side2 => exact HC0.out); rintro e w3 ⟨v334, rfl, ho0, hb⟩; refine ⟨_, rfl, ?_⟩; have n0_ := Aside0.mk (Kd.R_lower ho0 (below_size (by repeat (first | (with_reducible first | exact HB.out | apply below_alloc | apply pw_below_drewN | apply below_drew1) | exact HB.out)))); have n1_ := Aside0.mk (below_step (by repeat (first | (with_reducible first | exact HB.out | apply below_alloc | apply pw_below_drewN | apply below_drew1) | exact HB.out)) hb); clear HB; have HO335 := n0_; have HB := n1_; clear n0_ n1_; (try clear hb); (try clear hb2); (try clear hk); (try clear hi); (try clear ho0); obtain ⟨Ao4, co4, eo4⟩ := Kd.R_slice HO335.out; subst eo4))
 go_loopg [3, 9] k (fun kq v3 v9 w' => ∃ (x3_1 : List Int) (x9_1 : Int), v9 = .int .i64 x9_1 ∧ Aside0 (lines_Starts.l0 kq x3_1 t333 (t333.length : Int) x9_1 = some r) ∧ Aside0 (kq ≤ k) ∧ Aside0 (Kd.R (Kd.int .i64) 3 w' w.heap.size (fun _ => True) v3 x3_1) ∧ Aside0 (Kd.R k144 144 w' w.heap.size (fun _ => True) (.slice Ao4 t333.length co4) t333) ∧ Aside0 (Below w.heap.size w w'))
 case atStart => exact ⟨(([] : List Int)), (0), (by first | rfl | (simp; done) | (simp [*]; done)), H', ⟨Nat.le_refl _⟩, ⟨by first | exact Kd.R_nil _ _ _ _ _ | exact Kd.N_nil _ _ _ _ _ | exact Kd.V_nil _ _ _ _ _ | exact Kd.Q_nil _ _ _ _ _ | exact Kd.S_nil _ _ _ _ _⟩, ⟨by (with_reducible repeat (first | apply Kd.R_alloc | apply Kd.R_drewN | apply Kd.R_drew)); exact HO335.out⟩, ⟨by repeat (first | (with_reducible first | exact HB.out | apply below_alloc | apply pw_below_drewN | apply below_drew1) | exact HB.out)⟩⟩
 case round =>
  clear H'
  (try clear c1); (try clear p2)
  obtain ⟨x3_1, x9_1, rfl, HA, HK1, HO_3, HO_7, HB⟩ := hrel
  cases gk with
  | zero => exact absurd HA.out (by simp [lines_Starts.l0])
  | succ k1 =>
   have H := HA.out
   clear HA
   simp only [lines_Starts.l0] at H
   by_cases c5 : x9_1 < (t333.length : Int)
   ·
    rw [if_pos c5] at H
    have c5b0 : decide (x9_1 < (t333.length : Int)) = true := decide_eq_true c5
    clear c5
    by_cases c6 : 0 ≤ x9_1
    ·
     rw [if_pos c6] at H
     have c6b0 : decide (0 ≤ x9_1) = true := decide_eq_true c6
     clear c6
     by_cases c7 : x9_1 < (t333.length : Int)
     ·
      rw [if_pos c7] at H
      have c7b0 : decide (x9_1 < (t333.length : Int)) = true := decide_eq_true c7
      clear c7
      by_cases c8 : x3_1.length < 17592186044416
      ·
       rw [if_pos c8] at H
       have LMc8 := Aside0.mk c8
       clear c8
       obtain ⟨y338, hy338⟩ : ∃ y_ : List Int, y_ = (x3_1 ++ [(rd_T144 t333 x9_1).f0]) := ⟨_, rfl⟩
       replace H : (lines_Starts.l0 k1 y338 t333 (t333.length : Int) (wrap64 (x9_1 + 1))) = some r := by first | (rw [hy338]; with_reducible exact H) | (have H2_ := (Option.bind_some _ _).symm.trans H; rw [hy338]; with_reducible exact H2_) | (have H2_ := (Option.bind_some _ _).symm.trans H; with_reducible exact H2_) | with_reducible exact H | (rw [hy338]; exact H) | exact H
       have Ny338 := Aside0.mk hy338
       clear hy338
       have H' := Aside0.mk H
       clear H
       have p336 : 0 ≤ (x9_1 : Int) := of_decide_eq_true (by first | (with_reducible assumption) | assumption)
       have q336 : x9_1 < (t333.length : Int) := of_decide_eq_true (by first | (with_reducible assumption) | assumption)
       obtain ⟨ad336, e336, hx336_0, hx336_1, hx336_2, hx336_3⟩ := at_T144 (Kd.R_reads' HO_7.out).2.2 x9_1 p336 q336
       cases e336
       replace p336 := eq_true p336
       replace q336 := eq_true q336
       go_wp2_with (first | ((with_reducible refine gate_dst (N := 5) rfl ?_); refine box_event ?hg (N := 5) ?hd (cs := #[.int .i64 0, .int .i64 0, .int .i64 0, .int .i64 0]) (t := 144) ?hr ?_; (case hd => rfl); (case hg => rfl); (case hr => first | (go_simp; done) | (go_simp; rfl)); intro gb337 hg w9 hbox hb; have n0_ := Aside0.mk (Kd.R_below (by (with_reducible repeat (first | apply Kd.R_alloc | apply Kd.R_drewN | apply Kd.R_drew)); exact HO_3.out) hb); have n1_ := Aside0.mk (Kd.R_below (Kd.R_elderB (by (with_reducible repeat (first | apply Kd.R_alloc | apply Kd.R_drewN | apply Kd.R_drew)); exact HO_7.out) gb337 (Nat.le_of_eq hg.symm)) hb); have n2_ := Aside0.mk (below_step (by repeat (first | (with_reducible first | exact HB.out | apply below_alloc | apply pw_below_drewN | apply below_drew1) | exact HB.out)) hb); have n3_ := Aside0.mk (hbox); have n4_ := Aside0.mk ((by rw [hg]; exact (below_size (by repeat (first | (with_reducible first | exact HB.out | apply below_alloc | apply pw_below_drewN | apply below_drew1) | exact HB.out))) : w.heap.size ≤ gb337)); have n5_ := Aside0.mk ((by rw [hg]; exact (below_size (by repeat (first | (with_reducible first | exact HB.out | apply below_alloc | apply pw_below_drewN | apply below_drew1) | exact HB.out))) : w.heap.size ≤ gb337)); clear HO_3; clear HO_7; clear HB; have HO_3 := n0_; have HO_7 := n1_; have HB := n2_; have BK337 := n3_; have GW337 := n4_; have GE337 := n5_; clear n0_ n1_ n2_ n3_ n4_ n5_; clear hb hbox hg; have hcz10_0 : w9.cell? ⟨gb337, 0, none⟩ = some (.int .i64 0) := (blk_cell BK337.out 0).trans rfl; have hcz10_1 : w9.cell? ⟨gb337, 1, none⟩ = some (.int .i64 0) := (blk_cell BK337.out 1).trans rfl; have hcz10_2 : w9.cell? ⟨gb337, 2, none⟩ = some (.int .i64 0) := (blk_cell BK337.out 2).trans rfl; have hcz10_3 : w9.cell? ⟨gb337, 3, none⟩ = some (.int .i64 0) := (blk_cell BK337.out 3).trans rfl; have hfz10_0 := blk_frozen BK337.out 0; have hfz10_1 := blk_frozen BK337.out 1; have hfz10_2 := blk_frozen BK337.out 2; have hfz10_3 := blk_frozen BK337.out 3) | ((with_reducible refine gate_builtin (b := .append) (xs := #[.tmp 13, .tmp 16]) rfl ?_); at_builtin; refine Kd.R_append (Kd.int .i64) (w0 := w) w.heap.size rfl (.tmp 13) (.tmp 16) 29 3 (.int .i64 0) 8 rfl Tryd.underlying29 info3 rfl (by decide) (by omega) u3 x3_1 ((rd_T144 t333 x9_1).f0) [.int .i64 ((rd_T144 t333 x9_1).f0)] (fun _ => True) (fun _ => False) rfl (by first | (go_simp; done) | (go_simp; rfl)) ?aP (fun _ hk => hk.elim) ?aF ?aO ?aB ?aS ?aL ?_; (case aP => exact rfl); (case aB => exact (by repeat (first | (with_reducible first | exact HB.out | apply below_alloc | apply pw_below_drewN | apply below_drew1 | refine below_set ?_ GE337.out) | exact HB.out))); (case aF => exact (fun _ _ => trivial)); (case aO => exact (by (with_reducible repeat (first | apply Kd.R_alloc | apply Kd.R_drewN | apply Kd.R_drew)); exact Kd.R_mono (Kd.R_far (p := ⟨gb337, 3, none⟩) (Kd.R_far (p := ⟨gb337, 2, none⟩) (Kd.R_far (p := ⟨gb337, 1, none⟩) (Kd.R_far (p := ⟨gb337, 0, none⟩) (Kd.R_types HO_3.out BK337.out (by decide)) (fun _ hk => hk.2) (.int .i64 ((rd_T144 t333 x9_1).f0))) (fun _ hk => hk.2) (.int .i64 ((rd_T144 t333 x9_1).f1))) (fun _ hk => hk.2) (.int .i64 ((rd_T144 t333 x9_1).f2))) (fun _ hk => hk.2) (.int .i64 ((rd_T144 t333 x9_1).f3))) (fun _ hk => trivial))); (case aS => exact (below_size (by repeat (first | (with_reducible first | exact HB.out | apply below_alloc | apply pw_below_drewN | apply below_drew1 | refine below_set ?_ GE337.out) | exact HB.out)))); (case aL => have := LMc8.out; omega); intro v339 w11 ho hb hg hat; rw [← Ny338.out] at ho; have n0_ := Aside0.mk (Kd.R_over' (by (with_reducible repeat (first | apply Kd.R_alloc | apply Kd.R_drewN | apply Kd.R_drew)); exact (Kd.R_mono (Kd.R_far (p := ⟨gb337, 3, none⟩) (Kd.R_far (p := ⟨gb337, 2, none⟩) (Kd.R_far (p := ⟨gb337, 1, none⟩) (Kd.R_far (p := ⟨gb337, 0, none⟩) (Kd.R_mono HO_7.out (fun k_ hk => (⟨hk, hk.2⟩ : _ ∧ k_ ≠ gb337))) (fun _ hk => hk.2) (.int .i64 ((rd_T144 t333 x9_1).f0))) (fun _ hk => hk.2) (.int .i64 ((rd_T144 t333 x9_1).f1))) (fun _ hk => hk.2) (.int .i64 ((rd_T144 t333 x9_1).f2))) (fun _ hk => hk.2) (.int .i64 ((rd_T144 t333 x9_1).f3))) (fun _ h_ => h_.1))) (Kd.R_typed (by (with_reducible repeat (first | apply Kd.R_alloc | apply Kd.R_drewN | apply Kd.R_drew)); exact (Kd.R_mono (Kd.R_far (p := ⟨gb337, 3, none⟩) (Kd.R_far (p := ⟨gb337, 2, none⟩) (Kd.R_far (p := ⟨gb337, 1, none⟩) (Kd.R_far (p := ⟨gb337, 0, none⟩) (Kd.R_types HO_3.out BK337.out (by decide)) (fun _ hk => hk.2) (.int .i64 ((rd_T144 t333 x9_1).f0))) (fun _ hk => hk.2) (.int .i64 ((rd_T144 t333 x9_1).f1))) (fun _ hk => hk.2) (.int .i64 ((rd_T144 t333 x9_1).f2))) (fun _ hk => hk.2) (.int .i64 ((rd_T144 t333 x9_1).f3))) (fun _ h_ => h_.1)))) (by decide) hg); have n1_ := Aside0.mk (blk_grown (g := gb337) (o := .cells #[.int .i64 ((rd_T144 t333 x9_1).f0), .int .i64 ((rd_T144 t333 x9_1).f1), .int .i64 ((rd_T144 t333 x9_1).f2), .int .i64 ((rd_T144 t333 x9_1).f3)] 144 (0, 0)) (by (with_reducible repeat (first | refine blk_drewN ?_ _ | refine blk_drew ?_ | refine blk_alloc ?_ _)); refine blk_put (cs := #[.int .i64 ((rd_T144 t333 x9_1).f0), .int .i64 ((rd_T144 t333 x9_1).f1), .int .i64 ((rd_T144 t333 x9_1).f2), .int .i64 0]) ?_ 3 _ rfl; (with_reducible repeat (first | refine blk_drewN ?_ _ | refine blk_drew ?_ | refine blk_alloc ?_ _)); refine blk_put (cs := #[.int .i64 ((rd_T144 t333 x9_1).f0), .int .i64 ((rd_T144 t333 x9_1).f1), .int .i64 0, .int .i64 0]) ?_ 2 _ rfl; (with_reducible repeat (first | refine blk_drewN ?_ _ | refine blk_drew ?_ | refine blk_alloc ?_ _)); refine blk_put (cs := #[.int .i64 ((rd_T144 t333 x9_1).f0), .int .i64 0, .int .i64 0, .int .i64 0]) ?_ 1 _ rfl; (with_reducible repeat (first | refine blk_drewN ?_ _ | refine blk_drew ?_ | refine blk_alloc ?_ _)); refine blk_put (cs := #[.int .i64 0, .int .i64 0, .int .i64 0, .int .i64 0]) ?_ 0 _ rfl; (with_reducible repeat (first | refine blk_drewN ?_ _ | refine blk_drew ?_ | refine blk_alloc ?_ _)); exact BK337.out) hg (Kd.R_ne HO_3.out BK337.out (by decide))); have n2_ := Aside0.mk (hb); have n3_ := Aside0.mk (ho); clear HO_7; clear BK337; clear HB; clear HO_3; have HO_7 := n0_; have BK337 := n1_; have HB := n2_; have HO340 := n3_; clear n0_ n1_ n2_ n3_; clear ho hb hg hat))
       go_roundg k1
       case measure => have := HK1.out; omega
       case rel => exact ⟨(y338), (wrap64 (x9_1 + 1)), (by first | rfl | (simp; done) | (simp [*]; done)), H', ⟨by have := HK1.out; omega⟩, ⟨by (with_reducible repeat (first | apply Kd.R_alloc | apply Kd.R_drewN | apply Kd.R_drew)); exact HO340.out⟩, ⟨by (with_reducible repeat (first | apply Kd.R_alloc | apply Kd.R_drewN | apply Kd.R_drew)); exact Kd.R_mono HO_7.out (fun _ hk => trivial)⟩, ⟨by repeat (first | (with_reducible first | exact HB.out | apply below_alloc | apply pw_below_drewN | apply below_drew1 | refine below_set ?_ GE337.out) | exact HB.out)⟩⟩
      ·
       rw [if_neg c8] at H
       exact absurd H (by simp)
     ·
      rw [if_neg c7] at H
      exact absurd H (by simp)
    ·
     rw [if_neg c6] at H
     exact absurd H (by simp)
   ·
    rw [if_neg c5] at H
    have c5b0 : decide (x9_1 < (t333.length : Int)) = false := decide_eq_false c5
    clear c5
    obtain rfl := Option.some.inj H
    go_wp2
    go_ret
    exact ⟨_, by first | rfl | (simp [errW_none, errW_some] <;> rfl) | (simp [*, errW_none, errW_some] <;> rfl), by (with_reducible repeat (first | apply Kd.R_alloc | apply Kd.R_drewN | apply Kd.R_drew)); exact HO_3.out, by repeat (first | (with_reducible first | exact HB.out | apply below_alloc | apply pw_below_drewN | apply below_drew1) | exact HB.out)⟩
end Go.Proofs.YtbomhpfckplgaaaDoor.P
namespace Go.Proofs.YtbomhpfckplgaaaDoor.P
open Go Go.RowKit Go.Proofs.YtbomhpfckplgaaaDoorW.PrintWords Go.Proofs.YtbomhpfckplgaaaDoorW.PrintLast Go.Proofs.YtbomhpfckplgaaaDoorW.PrintMore
set_option linter.unusedVariables false
set_option linter.unusedSimpArgs false
def Keeps (P : World → Prop) (w0 : World) : Prop := ∀ W, Below w0.heap.size w0 W → P W
section
variable {P Q : World → Prop} {w0 w1 : World}
theorem Keeps.next (h : Keeps P w0) (hb : Below w0.heap.size w0 w1) : Keeps P w1 := fun W hW => h W (hb.trans (hW.mono hb.size))
theorem Keeps.of (h : Keeps P w0) {W : World} (hW : Below w0.heap.size w0 W) : P W := h W hW
theorem Keeps.here (h : Keeps P w0) : P w0 := h _ (Below.refl _ _)
theorem Keeps.and (h : Keeps P w0) (h' : Keeps Q w0) : Keeps (fun W => P W ∧ Q W) w0 := fun W hW => ⟨h W hW, h' W hW⟩
theorem keeps_C {α : Type} {d : Kd α} {A : Option Addr} {n : Nat} {xs : List α} (h : d.C w0 A n xs) : Keeps (fun W => d.C W A n xs) w0 := fun W hW => Kd.C_below h hW
theorem keeps_cell {p : Addr} {v : Value} (h : w0.cell? p = some v) : Keeps (fun W => W.cell? p = some v) w0 := fun W hW => pw_cell_below hW h
theorem keeps_laid (h : Laid w0) : Keeps (fun W => Laid W) w0 := fun W hW => h.below hW
theorem keeps_below {w : World} {n : Nat} (h : Below n w w0) (hn : n ≤ w0.heap.size) : Keeps (fun W => Below n w W) w0 := fun W hW => h.trans (hW.mono hn)
end
theorem C_blk {W : World} {g : Nat} {xs : List Int} {fz : Nat × Nat} {k : IntKind} {e : TypeId} (h : W.heap[g]? = some (.cells (List.map (Value.int k) xs).toArray e fz)) (hn : xs.length ≤ 9223372036854775807) : Kd.C (Kd.int k) W (some ⟨g, 0, none⟩) xs.length xs := by
  refine ⟨rfl, hn, fun _ => ⟨_, rfl, fun j p hj => ⟨[.int k p], rfl, rfl, fun i u hu => ?_⟩⟩⟩
  obtain ⟨rfl, rfl⟩ : i = 0 ∧ Value.int k p = u := by
    cases i with
    | zero => exact ⟨rfl, by simpa using hu⟩
    | succ i => simp at hu
  have ha : (⟨g, 0, none⟩ : Addr).add (j * (Kd.int k).sz + 0) = ⟨g, j, none⟩ := by
    have : j * (Kd.int k).sz + 0 = j := Nat.mul_one j
    rw [this]
    unfold Addr.add
    split <;> simp_all
  rw [ha]
  unfold World.cell?
  rw [h]
  simp [hj]
theorem wp_world {P : Program} {c : Code} {Q : Exit → Act → World → Prop} {a : Act} {w : World} (h : ∀ W, W = w → c.wp P Q a W) : c.wp P Q a w := h w rfl
end Go.Proofs.YtbomhpfckplgaaaDoor.P
