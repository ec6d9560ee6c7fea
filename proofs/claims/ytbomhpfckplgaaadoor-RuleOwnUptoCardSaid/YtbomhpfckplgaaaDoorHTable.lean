/- What rule.Table answers: the places of all edges of a text by a ruler. The world bears the variable step.bad as it was laid. -/
import Derived.Test.YtbomhpfckplgaaaDoorH
import Derived.Test.YtbomhpfckplgaaaDoorPx5
namespace Go.Proofs.YtbomhpfckplgaaaDoor.P
open Go Go.RowKit Go.Shelf Go.Proofs.YtbomhpfckplgaaaDoorW.PrintWords Go.Proofs.YtbomhpfckplgaaaDoorW.PrintLast Go.Proofs.YtbomhpfckplgaaaDoorW.PrintMore
set_option linter.unusedVariables false
set_option linter.unusedSimpArgs false
set_option maxRecDepth 100000
attribute [local go_sem] Oper.semAt_some

set_option maxHeartbeats 8000000 in
theorem table_any (A : Option Addr) (c : Nat) (l : List Int) (hl : l.length ≤ 140737488351232) (hE : (edgesL l).length ≤ 17592186044416) (r : Nat) (h1 : 1 ≤ r) (h3 : r ≤ 3) (w : World) (hr : Kd.C (Kd.int .u8) w A l.length l) (hG : Laid w) :
    Calls Tryd.prog 30 #[.slice A l.length c, .int .i64 r] w fun e w' => ∃ v0_ : Value, e = .returned (.tuple #[v0_, .int .i64 0]) ∧ Kd.R (Kd.int .i64) 3 w' w.heap.size (fun _ => True) v0_ ((edgesL l).map fun e => pickE e r) ∧ Below w.heap.size w w' := by
  have hru : rule_ruler.f (r : Int) = some true := by
    obtain rfl | rfl | rfl : r = 1 ∨ r = 2 ∨ r = 3 := by omega
    all_goals rfl
  have HRU := Aside0.mk hru
  clear hru
  refine (callsIn_wide (n := 30)).1 ?_
  refine callsIn_of_wp_marks Tryd.func30 rfl trivial ?_ rfl
  simp only [Tryd.ntmps30, List.size_toArray, List.length_cons, List.length_nil, Nat.reduceAdd, Nat.reduceSub, Array.replicate_succ, Array.replicate_zero, List.push_toArray, List.append_toArray, List.nil_append, List.cons_append]
  have HG := Aside0.mk hG
  have HR := Aside0.mk hr
  clear hG hr
  gi_wp2_with (first | (refine ⟨trivial, ?_⟩; gi_at_call 80; refine (callsIn_wide.2 (edges_any A c l.length _)).mono ?_; rintro e w3 ⟨rfl, rfl⟩) | (refine ⟨trivial, ?_⟩; gi_at_call 78; refine (callsIn_wide.2 (rule_ruler.calls r true _ HRU.out)).mono ?_; rintro e w3 ⟨rfl, hb3⟩))
  obtain ⟨n3, rfl⟩ := hb3.out
  clear hb3
  obtain ⟨W0, hW0⟩ : ∃ W0, ((((w.alloc (.cells #[.int .i64 r] 28)).drewN n3).alloc (.cells #[.slice none 0 0] 29)).alloc (.cells #[.slice A l.length c] 22)) = W0 := ⟨_, rfl⟩
  have hzz : ((w.alloc (.cells #[.int .i64 r] 28)).drewN n3).heap.size = w.heap.size + 1 := by show (w.alloc _).heap.size = _; simp
  have bR : W0.heap[w.heap.size]? = some (.cells #[.int .i64 r] 28 (0, 0)) := by rw [← hW0]; exact blk_alloc (blk_alloc (show ((w.alloc (.cells #[.int .i64 r] 28)).drewN n3).heap[w.heap.size]? = _ from blk_new w _) _) _
  have bN : W0.heap[w.heap.size + 1]? = some (.cells #[.slice none 0 0] 29 (0, 0)) := by
    have h_ := blk_alloc (blk_new ((w.alloc (.cells #[.int .i64 r] 28)).drewN n3) (.cells #[.slice none 0 0] 29)) (.cells #[.slice A l.length c] 22)
    rw [hzz] at h_
    rw [← hW0]
    exact h_
  have bB : W0.heap[w.heap.size + 1 + 1]? = some (.cells #[.slice A l.length c] 22 (0, 0)) := by
    have h_ := blk_new (((w.alloc (.cells #[.int .i64 r] 28)).drewN n3).alloc (.cells #[.slice none 0 0] 29)) (.cells #[.slice A l.length c] 22)
    rw [World.size_alloc, hzz] at h_
    rw [← hW0]
    exact h_
  have hb : Below w.heap.size w W0 := by
    rw [← hW0]
    exact ((pw_below_drewN ((Below.refl _ w).alloc (Nat.le_refl _) _) n3).alloc (by rw [hzz]; omega) _).alloc (by rw [World.size_alloc, hzz]; omega) _
  have hz : W0.heap.size = w.heap.size + 3 := by rw [← hW0, World.size_alloc, World.size_alloc, hzz]
  rw [hW0]
  rw [hzz]
  clear hW0 hzz
  refine wpIn_seq (T := T118) (fun _ h => .inl h) (by omega) (gf := 115) (lb := #[.pointer (some ⟨w.heap.size + 1 + 1, 0, none⟩)]) rfl (enters_of Tryd.func115 (by kernel_rfl) rfl)
    (edges1_seq A c l hl W0 (HG.out.below hb) (w.heap.size + 1 + 1) bB (Kd.C_below HR.out hb)) (fun k o => k = w.heap.size + 1 ∨ (w.heap.size + 3 ≤ k ∧ Rw o)) ?hS ?hD (Below.refl _ _) (fun _ => rfl)
    (fun pre X => X.heap[w.heap.size]? = some (.cells #[.int .i64 r] 28 (0, 0)) ∧ (Below w.heap.size w X ∧ ∃ v, (X.heap[w.heap.size + 1]? = some (.cells #[v] 29 (0, 0)) ∧ Kd.R (Kd.int .i64) 3 X (w.heap.size + 3) (fun _ => True) v (pre.map fun e => pickE e r))))
    (fun _ _ _ => False)
    (OwnT.and (ownT_low _ _ _ (by omega) _) (OwnT.and (ownT_below _ (Nat.le_refl _) (by omega)) ?hI2)) (fun _ _ _ _ _ h _ _ => h) ⟨bR, hb, _, bN, Kd.R_nil _ _ _ _ _⟩
    (fun x a' X => ∃ Bx, X.heap[Bx]? = some (.cells (aggE x) 118 (0, 0)) ∧ a' = { tmps := #[.slice A l.length c, .int .i64 r, undef, .pointer (some ⟨w.heap.size, 0, none⟩), .slice none 0 0, .int .i64 0, .pointer (some ⟨w.heap.size + 1, 0, none⟩), .pointer (some ⟨Bx, 0, none⟩), .int .i64 r, .bool true, .bool false, .slice A l.length c, .func (.func 115) #[] #[.pointer (some ⟨w.heap.size + 1 + 1, 0, none⟩)], .agg (aggE x), undef, undef, undef, undef, undef, undef, undef], defers := [] })
    ?hAx ?assign ?body ?done ?stop
  case hS =>
    rintro k o (rfl | ⟨_, h⟩)
    · exact .inl (by omega)
    · exact .inr h
  case hD =>
    rintro k (rfl | rfl | ⟨hn, ad, e, rfl⟩)
    · exact ⟨by omega, fun _ _ => by omega⟩
    · exact ⟨by omega, fun _ _ => by omega⟩
    · have := lowA HR.out hn e
      exact ⟨by omega, fun _ _ => by omega⟩
  case hI2 =>
    rintro pre X X' row ⟨v, h1, h2⟩ hg hr
    exact ⟨v, ownT_low (β := Unit) _ _ _ (by omega) (fun _ => .cells #[v] 29 (0, 0)) () X X' row h1 hg hr, ownT_R (β := Unit) (Kd.int .i64) rfl 3 (fun cs fz => T118_cells (by decide)) (fun _ => v) (fun _ => pre.map fun e => pickE e r) () X X' row h2 hg hr⟩
  case hAx =>
    rintro x a' s X X' row ⟨Bx, h1, h2⟩ hg hr
    exact ⟨Bx, ownT_blk (β := Unit) (fun o => o.isCells = false) _ Bx (fun _ => .cells (aggE x) 118 (0, 0)) (fun _ h => by cases h) () X X' row h1 hg hr, h2⟩
  case assign =>
    rintro l' pre x rest X K hxs hlt ⟨hR1, hB1, v, hN1, hV1⟩ hK
    dsimp only [encEdge]
    clear bR bN bB
    gi_wp2
    exact hK _ _ (KpC.alloc _ _) ⟨blk_alloc hR1 _, hB1.alloc hB1.size _, v, blk_alloc hN1 _, Kd.R_alloc hV1 _⟩ ⟨X.heap.size, blk_new _ _, rfl⟩
  case body =>
    rintro l' pre x rest a' X hxs hlt ⟨hR1, hB1, v, hN1, hV1⟩ ⟨Bx, bBx, rfl⟩
    have cR : X.drew.cell? ⟨w.heap.size, 0, none⟩ = some (.int .i64 r) := (blk_cell hR1 0).trans rfl
    have cX : X.drew.cell? ⟨Bx, r, none⟩ = some (.int .i64 (pickE x r)) := (blk_cell bBx r).trans (aggE_get x r h1 h3)
    have cN : X.drew.cell? ⟨w.heap.size + 1, 0, none⟩ = some v := (blk_cell hN1 0).trans rfl
    have hr4 : (r : Int) < 4 := by omega
    refine wpIn_block ?_
    refine startIn_ (S := fun w' => w'.cell? ⟨w.heap.size + 1, 0, none⟩ = some v ∧ w'.cell? ⟨w.heap.size, 0, none⟩ = some (.int .i64 r) ∧ w'.cell? ⟨Bx, r, none⟩ = some (.int .i64 (pickE x r))) (ds := [5, 6]) #[false, false, false, false, false, false, false] (by kernel_rfl) (by kernel_rfl) rfl rfl ⟨cN, cR, cX⟩ (fun hHeld => ?_)
    clear cR cX cN
    refine take_ (i := 0) (N := some 14) (v := ?_) (a' := ?_) #[true, false, false, false, false, false, false] rfl rfl (by kernel_rfl) (fun _ _ _ h => h) (Or.inl ⟨by rfl, ?_⟩) hHeld ?_ ?_
    rotate_left
    · rintro w' ⟨s0, s1, s2⟩
      go_simp
      with_reducible rfl
    rotate_left
    · simp only [Act.put, List.setIfInBounds_toArray, List.set_cons_zero, List.set_cons_succ, i64_w, i32_w]
      rfl
    refine take_ (i := 1) (N := some 15) (v := ?_) (a' := ?_) #[true, true, false, false, false, false, false] rfl rfl (by kernel_rfl) (fun _ _ _ h => h) (Or.inl ⟨by rfl, ?_⟩) hHeld ?_ ?_
    rotate_left
    · rintro w' ⟨s0, s1, s2⟩
      go_simp
      with_reducible rfl
    rotate_left
    · simp only [Act.put, List.setIfInBounds_toArray, List.set_cons_zero, List.set_cons_succ, i64_w, i32_w]
      rfl
    refine pure_ (i := 2) (N := some 16) (v := ?_) (a' := ?_) #[true, true, true, false, false, false, false] rfl rfl (by kernel_rfl) (fun _ _ _ h => h) (Or.inl ⟨by rfl, ?_⟩) ?_ ?_
    rotate_left
    · intro w'
      go_simp
      with_reducible rfl
    rotate_left
    · simp only [Act.put, List.setIfInBounds_toArray, List.set_cons_zero, List.set_cons_succ, i64_w, i32_w]
      rfl
    refine take_ (i := 3) (N := some 17) (v := ?_) (a' := ?_) #[true, true, true, true, false, false, false] rfl rfl (by kernel_rfl) (fun _ _ _ h => h) (Or.inl ⟨by rfl, ?_⟩) hHeld ?_ ?_
    rotate_left
    · rintro w' ⟨s0, s1, s2⟩
      go_simp
      with_reducible rfl
    rotate_left
    · simp only [Act.put, List.setIfInBounds_toArray, List.set_cons_zero, List.set_cons_succ, i64_w, i32_w]
      rfl
    have hS4 : ∀ o : Obj, _ := fun o => And.intro (pw_cell_below ((Below.refl _ X.drew).alloc (Nat.le_refl _) o) hHeld.1) (And.intro (pw_cell_below ((Below.refl _ X.drew).alloc (Nat.le_refl _) o) hHeld.2.1) (pw_cell_below ((Below.refl _ X.drew).alloc (Nat.le_refl _) o) hHeld.2.2))
    refine one_ (i := 4) (N := some 18) #[true, true, true, true, true, false, false] rfl rfl (by kernel_rfl) (by decide) (fun K hK => ?_)
    refine value_ (w1 := ?_) (v := ?_) (by rfl) rfl ?_ ?_
    rotate_left 2
    · go_simp
      constructor
      · rfl
      · rfl
    refine hK.out _ _ (hS4 _) (fun _ => ?_)
    clear hK K hS4
    refine norm_ (a' := ?_) ?_ ?_
    rotate_left
    · show Act.put _ (some 18) _ = _
      simp only [Act.put, List.setIfInBounds_toArray, List.set_cons_zero, List.set_cons_succ, i64_w, i32_w]
      rfl
    refine last_ (i := 5) (N := some 19) #[true, true, true, true, true, true, false] rfl rfl (by kernel_rfl) (by decide) (fun K hK => ?_)
    refine Kd.R_append_step (Kd.int .i64) (w0 := X.drew) (W := X.drew) (w.heap.size + 3) (by rfl) (.tmp 14) (.tmp 18) 29 3 (.int .i64 0) 8 rfl Tryd.underlying29 info3 rfl (by decide) (by omega) v (pre.map fun e => pickE e r) (pickE x r) [.int .i64 (pickE x r)] (fun _ => True) (fun _ => False) rfl rfl rfl (fun _ hk => hk.elim) (fun _ _ => trivial) (Kd.R_drew hV1) (Below.refl _ _) (by show _ ≤ X.heap.size; omega) ?aL ?_
    case aL =>
      have hlen : (edgesL l).length = (pre ++ x :: rest).length := congrArg List.length hxs
      rw [List.length_append, List.length_cons] at hlen
      rw [List.length_map]
      omega
    intro v1 w17 ho hbg hg hat
    refine hK.out _ _ ?_
    clear hK K
    refine norm_ (a' := ?_) ?_ ?_
    rotate_left
    · show Act.put _ (some 19) _ = _
      simp only [Act.put, List.setIfInBounds_toArray, List.set_cons_zero, List.set_cons_succ, i64_w, i32_w]
      rfl
    obtain ⟨A1, c1, rfl⟩ := Kd.R_slice ho
    rw [show ((pre.map fun e => pickE e r) ++ [pickE x r]).length = pre.length + 1 from by simp] at ho
    have hown : ∀ k, v.ownBlock = some k → w.heap.size + 3 ≤ k ∧ k < X.heap.size ∧ ∃ cells, X.heap[k]? = some (.cells cells 3 (0, 0)) := fun k hk => by
      obtain ⟨inner, ho1⟩ := Kd.R_own hV1
      exact ⟨own_base ho1 k hk, own_lt ho1 k hk, own_typed ho1 k hk⟩
    have hN17 : w17.heap[w.heap.size + 1]? = some (.cells #[v] 29 (0, 0)) := (hg.block _ (show _ < X.heap.size by omega) (fun e => by have := (hown _ e.symm).1; omega)).trans hN1
    have hR17 : w17.heap[w.heap.size]? = some (.cells #[.int .i64 r] 28 (0, 0)) := (hg.block _ (show _ < X.heap.size by omega) (fun e => by have := (hown _ e.symm).1; omega)).trans hR1
    have c17 : w17.cell? ⟨w.heap.size + 1, 0, none⟩ = some v := (blk_cell hN17 0).trans rfl
    have f17 := blk_frozen hN17 0
    have HZ := Aside0.mk (And.intro hown (And.intro hN17 (And.intro hR17 (And.intro ho (And.intro hbg (And.intro hg (And.intro hR1 (And.intro hB1 hN1))))))))
    clear hown hN17 hR17 ho hbg hg hat hR1 hB1 hN1 hHeld bBx
    refine last_ (i := 6) (N := none) #[true, true, true, true, true, true, true] rfl rfl (by kernel_rfl) (by decide) (fun K hK => ?_)
    refine skip_ (w1 := ?_) (by rfl) rfl ?_ ?_
    rotate_left
    · go_simp
      rfl
    refine hK.out _ _ ?_
    clear hK K
    refine done_ (by kernel_rfl) ?_
    obtain ⟨hown, hN17, hR17, ho, hbg, hg, hR1, hB1, hN1⟩ := HZ.out
    refine ⟨?k1, ?k2, ?k3, .slice A1 (pre.length + 1) c1, ?k4, ?k5⟩
    case k1 => exact (KpC.drew X).trans ((KpC.grown hg (fun q o e ho => by
      obtain ⟨h1, _, cells, hc⟩ := hown q e
      refine .inr ⟨h1, ?_⟩
      rw [show X.drew.heap[q]? = X.heap[q]? from rfl, hc] at ho
      cases ho
      exact ⟨_, _, rfl⟩)).trans (KpC.setCell _ _ _ (fun _ => .inl rfl)))
    case k2 => exact (Below.heap_setCell _ _ _ _ (by simp)).trans hR17
    case k3 => exact (hB1.drew.trans (hbg.mono (by omega))).setCell (by simp) _
    case k4 => exact blk_put (cs := #[_]) hN17 0 _ (by simp)
    case k5 =>
      rw [List.map_append]
      exact Kd.R_set ho hN17 (by decide) 0 _
  case done =>
    rintro D X hD _ ⟨hR1, hB1, v, hN1, hV1⟩ hDf
    have cN : X.cell? ⟨w.heap.size + 1, 0, none⟩ = some v := (blk_cell hN1 0).trans rfl
    have HN := Aside0.mk (And.intro hR1 (And.intro hN1 (And.intro hB1 hV1)))
    clear hR1 hN1 hB1 hV1 bR bN bB
    gi_wp2
    refine ⟨by simp, .inl ⟨_, _, rfl, run_takeDeferred hDf, ?_⟩⟩
    refine ⟨_, results_list (rs := [.tmp 4, .tmp 5]) rfl (by simp) (.tmp (.tmp .nil)), v, rfl, ?_, ?_⟩
    · exact Kd.R_lower ((ownT_R (β := Unit) (T := fun o => o.isCells = false) (B := 0) (Kd.int .i64) rfl 3 (fun _ _ h => by cases h) (fun _ => v) (fun _ => (edgesL l).map fun e => pickE e r)).putObj (s := ()) (.deferred none) HN.out.2.2.2 (Nat.zero_le _) hDf rfl) (by omega)
    · exact HN.out.2.2.1.trans (belowK_b (w := w) (Nat.le_refl _) X D _ _ (by omega) hDf rfl rfl)
  case stop =>
    rintro D cc pre X hD _ hpre h hDf
    exact h.elim

set_option maxHeartbeats 4000000 in
theorem table_bad (A : Option Addr) (c n : Nat) (a1 : Int) (h : rule_ruler.f a1 = some false) (w : World) :
    Calls Tryd.prog 30 #[.slice A n c, .int .i64 a1] w fun e w' => e = .returned (.tuple #[.slice none 0 0, .int .i64 3]) ∧ Below w.heap.size w w' := by
  refine (callsIn_wide (n := 30)).1 ?_
  refine callsIn_of_wp_marks Tryd.func30 rfl trivial ?_ rfl
  simp only [Tryd.ntmps30, List.size_toArray, List.length_cons, List.length_nil, Nat.reduceAdd, Nat.reduceSub, Array.replicate_succ, Array.replicate_zero, List.push_toArray, List.append_toArray, List.nil_append, List.cons_append]
  have HRU := Aside0.mk h
  clear h
  gi_wp2_with (refine ⟨trivial, ?_⟩; gi_at_call 78; refine (callsIn_wide.2 (rule_ruler.calls a1 false _ HRU.out)).mono ?_; rintro e w3 ⟨rfl, hb3⟩)
  refine ⟨_, results_list (rs := [.tmp 4, .tmp 5]) rfl (by simp) (.tmp (.tmp .nil)), rfl, ?_⟩
  exact ((Below.refl _ w).alloc (Nat.le_refl _) _).trans (hb3.below.mono (by simp))

def rule_Table.f (l0 : List Int) (a1 : Int) : Option (List Int × Int) :=
  if l0.length ≤ 140737488351232 then
    if (edgesL l0).length ≤ 17592186044416 then
      if 1 ≤ a1 ∧ a1 ≤ 3 then some ((edgesL l0).map fun e => pickE e a1.toNat, 0)
      else (rule_ruler.f a1).bind fun b => if b = false then some ([], 3) else none
    else none
  else none
theorem rule_Table.calls (A0 : Option Addr) (c0 : Nat) (l0 : List Int) (a1 : Int) (r1 : List Int) (r2 : Int) (w : World) (hr0 : Kd.C (Kd.int .u8) w A0 l0.length l0) (hc0 : l0.length ≤ c0) (hG : Laid w) (h : rule_Table.f l0 a1 = some (r1, r2)) :
    Calls Tryd.prog 30 #[.slice A0 l0.length c0, .int .i64 a1] w fun e w' => ∃ v0_ : Value, e = .returned (.tuple #[v0_, .int .i64 r2]) ∧ Kd.R (Kd.int .i64) 3 w' w.heap.size (fun _ => True) v0_ r1 ∧ Below w.heap.size w w' := by
  unfold rule_Table.f at h
  by_cases h1 : l0.length ≤ 140737488351232
  · rw [if_pos h1] at h
    by_cases h2 : (edgesL l0).length ≤ 17592186044416
    · rw [if_pos h2] at h
      by_cases h3 : 1 ≤ a1 ∧ a1 ≤ 3
      · rw [if_pos h3] at h
        obtain ⟨n, rfl⟩ : ∃ n : Nat, a1 = n := ⟨a1.toNat, by omega⟩
        simp only [Int.toNat_natCast, Option.some.injEq, Prod.mk.injEq] at h
        obtain ⟨rfl, rfl⟩ := h
        exact table_any A0 c0 l0 h1 h2 n (by omega) (by omega) w hr0 hG
      · rw [if_neg h3] at h
        cases hb : rule_ruler.f a1 with
        | none => rw [hb] at h; cases h
        | some b =>
          rw [hb] at h
          cases b with
          | true => simp at h
          | false =>
            simp at h
            obtain ⟨rfl, rfl⟩ := h
            refine (table_bad A0 c0 l0.length a1 hb w).mono ?_
            rintro e w' ⟨rfl, hb⟩
            exact ⟨_, rfl, Kd.R_nil _ _ _ _ _, hb⟩
    · rw [if_neg h2] at h; cases h
  · rw [if_neg h1] at h; cases h
end Go.Proofs.YtbomhpfckplgaaaDoor.P
