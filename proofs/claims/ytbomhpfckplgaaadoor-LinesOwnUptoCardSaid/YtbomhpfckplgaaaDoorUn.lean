/- What At and Spot of lines answer, in plain terms. -/
import Derived.Test.YtbomhpfckplgaaaDoorUm
namespace Go.Proofs.YtbomhpfckplgaaaDoor.P
open Go Go.RowKit Go.Proofs.YtbomhpfckplgaaaDoorW.PrintWords Go.Proofs.YtbomhpfckplgaaaDoorW.PrintMore Utf
set_option linter.unusedVariables false
set_option linter.unusedSimpArgs false

/-- The places of line s. -/
def lineT (l : List Int) (s : Int) : List Int := (l.take (rd_T144 (linesL l) s).f2.toNat).drop (rd_T144 (linesL l) s).f0.toNat
def atP (l : List Int) (s c r m : Int) : Int × Int :=
  if (1 ≤ r ∧ r ≤ 3) ∧ (1 ≤ m ∧ m ≤ 3) then
    if s < 0 ∨ s ≥ (linesL l).length ∨ c < 0 then (0, 2)
    else if c ≤ lastT (lineT l s) r.toNat then (if ((rule_To.f (lineT l s) r c 1 m).getD (0, 0)).2 = 0 then ((rd_T144 (linesL l) s).f0 + ((rule_To.f (lineT l s) r c 1 m).getD (0, 0)).1, 0) else (0, ((rule_To.f (lineT l s) r c 1 m).getD (0, 0)).2))
    else if m = 3 then (0, 2) else ((rd_T144 (linesL l) s).f1, 0)
  else (0, 3)
theorem lineT_bytes {l : List Int} (hl : Bytes l) (s : Int) : Bytes (lineT l s) := fun x hx => hl x (List.mem_of_mem_take (List.mem_of_mem_drop hx))
theorem lineT_length (l : List Int) (s : Int) : (lineT l s).length ≤ l.length := by unfold lineT; simp; omega
theorem at_p {l : List Int} (hl : Bytes l) (hs : Small l) (s c r m : Int) : Ev (fun k => lines_At.f k l s c r m) (atP l s c r m) := by
  have hs' := hs
  unfold Small at hs'
  by_cases hg : (1 ≤ r ∧ r ≤ 3) ∧ (1 ≤ m ∧ m ≤ 3)
  · have head : ∀ v, Ev (fun k => lines_At.j0 k l r m false s c) v → Ev (fun k => lines_At.f k l s c r m) v := by
      intro v hv
      refine Ev.congr (fun k => ?_) hv
      unfold lines_At.f
      rw [if_neg (by omega), if_neg (by omega), if_neg (by omega), decide_eq_false (by omega)]
    refine head _ ?_
    unfold atP
    rw [if_pos hg]
    have bad : Ev (fun k => lines_At.j1 k l r m (linesL l) true s c) (0, 2) := Ev.step (G := fun _ => some (0, 2)) (fun k => by simp only [lines_At.j1, if_true]) (Ev.pure _)
    by_cases h1 : s < 0
    · rw [if_pos (.inl h1)]
      refine Ev.step (G := fun k => lines_At.j1 k l r m (linesL l) true s c) (fun k => ?_) bad
      simp only [lines_At.j0, Bool.false_eq_true, if_false]
      rw [all_is hs, Option.bind_some, if_pos h1]
    by_cases h2 : s ≥ ((linesL l).length : Int)
    · rw [if_pos (.inr (.inl h2))]
      refine Ev.step (G := fun k => lines_At.j1 k l r m (linesL l) true s c) (fun k => ?_) bad
      simp only [lines_At.j0, Bool.false_eq_true, if_false]
      rw [all_is hs, Option.bind_some, if_neg h1, if_pos h2]
    refine Ev.step (G := fun k => lines_At.j1 k l r m (linesL l) (decide (c < 0)) s c) (fun k => ?_) ?_
    · simp only [lines_At.j0, Bool.false_eq_true, if_false]
      rw [all_is hs, Option.bind_some, if_neg h1, if_neg h2]
    by_cases h3 : c < 0
    · rw [if_pos (.inr (.inr h3)), decide_eq_true h3]
      exact bad
    rw [if_neg (by omega), decide_eq_false h3]
    obtain ⟨n, rfl⟩ : ∃ n : Nat, r = n := ⟨r.toNat, by omega⟩
    have hm := rd_mem (linesL l) s (by omega) (by omega)
    have hx := chain_line (chain_is l) _ hm
    have hy := last_line l _ hm
    have hlen := lineT_length l s
    have bT := lineT_bytes hl s
    have wT : Wide (lineT l s) := by unfold Wide; omega
    have hsz := lsize_is bT wT n (by omega) (by omega)
    obtain ⟨v, e, ht⟩ := to_all (lineT l s) bT wT n c 1 m
    refine Ev.step (G := fun _ => some _) (fun k => ?_) (Ev.pure _)
    simp only [lines_At.j1, Bool.false_eq_true, if_false]
    rw [if_pos (by omega), if_pos (by omega), if_pos hx.1, if_pos (by omega), if_pos (by omega)]
    rw [show (l.take (rd_T144 (linesL l) s).f2.toNat).drop (rd_T144 (linesL l) s).f0.toNat = lineT l s from rfl, hsz, Option.bind_some, ht, Option.bind_some, Int.toNat_natCast, Option.getD_some]
    by_cases h4 : c ≤ lastT (lineT l s) n
    · rw [if_pos h4, if_pos h4]
      dsimp only
      by_cases h5 : e = 0
      · subst h5
        have hb := to_byte bT wT n c m v ht
        rw [if_pos rfl, if_pos rfl, w64 (by omega) (by omega)]
      · rw [if_neg h5, if_neg h5]
    · rw [if_neg h4, if_neg h4]
      by_cases h5 : m = 3
      · rw [if_pos h5, if_pos h5]
      · rw [if_neg h5, if_neg h5]
  · have bad : ∀ b : Bool, b = true → Ev (fun k => lines_At.j0 k l r m b s c) (0, 3) := fun b hb => by
      subst hb
      exact Ev.step (G := fun _ => some (0, 3)) (fun k => by simp only [lines_At.j0, if_true]) (Ev.pure _)
    unfold atP
    rw [if_neg hg]
    unfold lines_At.f
    by_cases h1 : r < 1
    · exact Ev.ite_pos h1 (bad _ rfl)
    refine Ev.ite_neg h1 ?_
    by_cases h2 : r > 3
    · exact Ev.ite_pos h2 (bad _ rfl)
    refine Ev.ite_neg h2 ?_
    by_cases h3 : m < 1
    · exact Ev.ite_pos h3 (bad _ rfl)
    refine Ev.ite_neg h3 (bad _ ?_)
    exact decide_eq_true (by omega)
theorem where_up (l : List Int) (p : Int) (v) : ∀ (d k : Nat), lines_Where.f k l p = some v → lines_Where.f (k + d) l p = some v
  | 0, k, h => h
  | d + 1, k, h => by
    have := where_up l p v d k h
    exact lines_Where.mono l p (k + d) v this
theorem spot_up (l : List Int) (p r : Int) (v) (k k' : Nat) (hk : k ≤ k') (h : lines_Spot.k k l p r = some v) : lines_Spot.k k' l p r = some v := by
  unfold lines_Spot.k at h ⊢
  by_cases c : 1 ≤ r ∧ r ≤ 3
  · rw [if_pos c] at h ⊢
    obtain ⟨t, h1, h2⟩ := Option.bind_eq_some_iff.1 h
    have := where_up l p t (k' - k) k h1
    rw [show k + (k' - k) = k' by omega] at this
    rw [this]
    exact h2
  · rw [if_neg c] at h ⊢
    exact h
/-- Spot's answer, once some fuel tells it. -/
theorem spot_of {l : List Int} {p r : Int} {v} (h : Ev (fun k => lines_Spot.k k l p r) v) : lines_Spot.f l p r = some v := by
  obtain ⟨k, hk⟩ := h.get
  have hh : ∃ v, ∃ k, lines_Spot.k k l p r = some v := ⟨v, k, hk⟩
  unfold lines_Spot.f
  rw [dif_pos hh]
  obtain ⟨k', hk'⟩ := Classical.choose_spec hh
  have e1 := spot_up l p r _ k (max k k') (by omega) hk
  have e2 := spot_up l p r _ k' (max k k') (by omega) hk'
  rw [e1] at e2
  exact e2.symm
theorem spot_all {l : List Int} (hl : Bytes l) (hs : Small l) (p r : Int) : ∃ v, lines_Spot.f l p r = some v := by
  obtain ⟨t, ht⟩ := where_all hl hs p
  have : ∃ v, Ev (fun k => lines_Spot.k k l p r) v := by
    unfold lines_Spot.k
    by_cases c : 1 ≤ r ∧ r ≤ 3
    · by_cases c2 : t.2.2.2.2.2.2.2 = 0
      · exact ⟨_, Ev.ite_pos c (Ev.bind ht (Ev.ite_pos c2 (Ev.pure _)))⟩
      · exact ⟨_, Ev.ite_pos c (Ev.bind ht (Ev.ite_neg c2 (Ev.pure _)))⟩
    · exact ⟨_, Ev.ite_neg c (Ev.pure _)⟩
  obtain ⟨v, hv⟩ := this
  exact ⟨v, spot_of hv⟩
end Go.Proofs.YtbomhpfckplgaaaDoor.P
