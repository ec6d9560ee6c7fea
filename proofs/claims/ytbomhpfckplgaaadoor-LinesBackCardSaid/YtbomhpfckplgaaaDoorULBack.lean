/- The statement LinesBack holds of what its text computes. -/
import Derived.Test.YtbomhpfckplgaaaDoorUz
import Derived.Test.YtbomhpfckplgaaaDoorUw
import Derived.Test.YtbomhpfckplgaaaDoorPb60
namespace Go.Proofs.YtbomhpfckplgaaaDoor.P
open Go Go.RowKit Go.Proofs.YtbomhpfckplgaaaDoorW.PrintWords Go.Proofs.YtbomhpfckplgaaaDoorW.PrintMore Utf
set_option linter.unusedVariables false
set_option linter.unusedSimpArgs false
/-- The last edge ahead of a place, found among the edges. -/
theorem flr_found {l : List Int} (hl : Bytes l) (hs : Small l) (p K : Nat) (hp : p ≤ l.length) (hK : K < (placesL l).length) (h1 : (placesL l)[K] ≤ (p : Int)) (h2 : ∀ h : K + 1 < (placesL l).length, (p : Int) < (placesL l)[K + 1]) : (placesL l)[K] = (flr l p : Int) := by
  have hfl := flr_le l p
  have hT : tabL l 1 = placesL l := tab_bytes hl hs.wide
  have hris : (placesL l).Pairwise (· < ·) := hT ▸ (tab_rises hl hs.wide 1 (by omega) (by omega)).1
  obtain ⟨i, hi, hv⟩ := tab_cut hl (flr l p) (by omega) (flr_edge l p)
  have e1 := hv 1 (by omega) (by omega)
  rw [last_bytes (hl.take _) (hs.wide.take _), List.length_take, Nat.min_eq_left (by omega)] at e1
  have hi' : i < (placesL l).length := by rw [← hT]; simpa [tabL] using hi
  have ei : (placesL l)[i] = (flr l p : Int) := by
    rw [← e1]
    simp only [← hT, tabL, List.getElem_map]
  rcases Nat.lt_trichotomy i K with c | c | c
  · exfalso
    have hlt := List.pairwise_iff_getElem.1 hris i K hi' hK c
    obtain ⟨e, ee, e2, e3⟩ := byte_edge hl hs.wide (y := (placesL l)[K]) (by rw [hT]; exact List.getElem_mem hK)
    have := flr_mid l p e (by omega) (by omega) (fun h0 => by unfold flr at hfl ei; omega)
    rw [e3] at this
    cases this
  · subst c
    exact ei
  · exfalso
    have g := h2 (by omega)
    rcases Nat.eq_or_lt_of_le (show K + 1 ≤ i by omega) with c' | c'
    · subst c'
      omega
    · have := List.pairwise_iff_getElem.1 hris (K + 1) i (by omega) hi' c'
      omega
theorem lback_modes {l : List Int} (hlen : l.length < 140737488355328) (n : Int) (E : List Int) (K p : Nat) (q s c : Int) (hE : K < E.length) (hq : rd E K = q) (hat : ∀ m : Int, 1 ≤ m ∧ m ≤ 3 → Ev (fun k => lines_At.f k l s c n m) (q, 0)) (hsp : lines_Spot.f l q n = some (s, c, 0)) (hp : p ≤ l.length) (h : Ev (fun k => lb.l0 k l n E K ((p + 1 : Nat) : Int)) true) :
    ∀ d m : Nat, m + d = 4 → 1 ≤ m → Ev (fun k => lb.l2 k l n E K (p : Int) (m : Int) s c) true
  | 0, m, e, h1 => by
    refine Ev.step (G := fun k => lb.l0 k l n E K ((p + 1 : Nat) : Int)) (fun k => ?_) h
    conv => lhs; unfold lb.l2
    rw [if_neg (by omega), own07_eq l hlen, Option.bind_some, if_pos (by omega), if_pos (by omega), hq, hsp, Option.bind_some, if_pos rfl, if_neg (by simp), w64 (n := (p : Int) + 1) (by omega) (by omega)]
    rfl
  | d + 1, m, e, h1 => by
    have ih := lback_modes hlen n E K p q s c hE hq hat hsp hp h d (m + 1) (by omega) (by omega)
    refine Ev.step (G := fun k => (lines_At.f k l s c n (m : Int)).bind fun bt1106 => (if bt1106.2 = 0 then (if 0 ≤ (K : Int) then (if (K : Int) < (E.length : Int) then (if bt1106.1 = (rd E K) then (lb.l2 k l n E K p (wrap64 ((m : Int) + 1)) s c) else (some false)) else (none)) else (none)) else (some false))) (fun k => ?_) ?_
    · conv => lhs; unfold lb.l2
      rw [if_pos (by omega), own07_eq l hlen, Option.bind_some]
    · refine Ev.bind (hat m (by omega)) (Ev.ite_pos rfl (Ev.ite_pos (by omega) (Ev.ite_pos (by omega) (Ev.ite_pos hq.symm ?_))))
      rw [w64 (n := (m : Int) + 1) (by omega) (by omega)]
      exact ih
theorem lback_place {l : List Int} (hl : Bytes l) (hs : Small l) (n : Nat) (n1 : 1 ≤ n) (n3 : n ≤ 3) (p K : Nat) (hp : p ≤ l.length) (hK : K < (placesL l).length) (h1 : (placesL l)[K] ≤ (p : Int)) (h2 : ∀ h : K + 1 < (placesL l).length, (p : Int) < (placesL l)[K + 1]) (h : Ev (fun k => lb.l0 k l n (placesL l) K ((p + 1 : Nat) : Int)) true) :
    Ev (fun k => lb.j3 k l n (placesL l) K (p : Int)) true := by
  have hs' := hs
  unfold Small at hs'
  have hfl := flr_le l p
  have hf := flr_found hl hs p K hp hK h1 h2
  obtain ⟨s, g1, g2, g3, g4⟩ := where_line_of hl hs p hp
  have ho := line_order l s g1
  have sp := spot_where hl hs p (flr l p) s _ n n1 n3 ho.1 g2 (by omega) g4
  have g5 := where_line hl hs s (flr l p) g1 g2 g3 (flr_edge l p)
  have sq := spot_where hl hs (flr l p : Int) (flr l p) s _ n n1 n3 ho.1 g2 (by omega) g5
  have := lback_modes (by omega) (n : Int) (placesL l) K p (flr l p : Int) s _ hK (by rw [rd_nat _ _ hK, hf]) (fun m hm => at_edge hl hs s (flr l p) g1 g2 g3 (flr_edge l p) n n1 n3 m hm) sq hp h 3 1 rfl (by omega)
  refine Ev.step (G := fun k => lb.l2 k l n (placesL l) K (p : Int) ((1 : Nat) : Int) s (lastT ((l.take (flr l p)).drop (rd_T144 (linesL l) s).f0.toNat) n)) (fun k => ?_) this
  conv => lhs; unfold lb.j3
  rw [own07_eq l (by omega), Option.bind_some, sp, Option.bind_some, if_pos rfl]
  rfl
theorem lback_inner {l : List Int} (hl : Bytes l) (hs : Small l) (n : Nat) (n1 : 1 ≤ n) (n3 : n ≤ 3) (p : Nat) (hp : p ≤ l.length) (h : ∀ K (hK : K < (placesL l).length), (placesL l)[K] ≤ (p : Int) → Ev (fun k => lb.l0 k l n (placesL l) (K : Int) ((p + 1 : Nat) : Int)) true) :
    ∀ d K : Nat, (placesL l).length - K ≤ d → ∀ hK : K < (placesL l).length, (placesL l)[K] ≤ (p : Int) → Ev (fun k => lb.l1 k l n (placesL l) (K : Int) (p : Int)) true
  | 0, K, hd, hK, h1 => by omega
  | d + 1, K, hd, hK, h1 => by
    have hs' := hs
    unfold Small at hs'
    have hpl := placesL_length l
    have hsl := stepsL_length l
    have ew : wrap64 ((K : Int) + 1) = ((K + 1 : Nat) : Int) := by rw [w64 (by omega) (by omega)]; rfl
    by_cases c : K + 1 < (placesL l).length
    · by_cases c2 : (placesL l)[K + 1] ≤ (p : Int)
      · refine Ev.step (G := fun k => lb.l1 k l n (placesL l) ((K + 1 : Nat) : Int) (p : Int)) (fun k => ?_) (lback_inner hl hs n n1 n3 p hp h d (K + 1) (by omega) c c2)
        conv => lhs; unfold lb.l1
        rw [ew, if_pos (by omega), if_pos (by omega), rd_nat _ _ c, if_pos c2]
      · refine Ev.step (G := fun k => lb.j3 k l n (placesL l) (K : Int) (p : Int)) (fun k => ?_) (lback_place hl hs n n1 n3 p K hp hK h1 (fun _ => by omega) (h K hK h1))
        conv => lhs; unfold lb.l1
        rw [ew, if_pos (by omega), if_pos (by omega), rd_nat _ _ c, if_neg c2]
    · refine Ev.step (G := fun k => lb.j3 k l n (placesL l) (K : Int) (p : Int)) (fun k => ?_) (lback_place hl hs n n1 n3 p K hp hK h1 (fun h => absurd h c) (h K hK h1))
      conv => lhs; unfold lb.l1
      rw [ew, if_neg (by omega)]
theorem lback_loop {l : List Int} (hl : Bytes l) (hs : Small l) (n : Nat) (n1 : 1 ≤ n) (n3 : n ≤ 3) : ∀ d p : Nat, l.length + 1 - p ≤ d → p ≤ l.length + 1 → ∀ K (hK : K < (placesL l).length), (placesL l)[K] ≤ (p : Int) → Ev (fun k => lb.l0 k l n (placesL l) (K : Int) (p : Int)) true
  | 0, p, hd, hp, K, hK, h1 => by
    refine Ev.step (G := fun _ => some true) (fun k => ?_) (Ev.pure _)
    conv => lhs; unfold lb.l0
    rw [if_neg (by omega)]
  | d + 1, p, hd, hp, K, hK, h1 => by
    by_cases c : p ≤ l.length
    · refine Ev.step (G := fun k => lb.l1 k l n (placesL l) (K : Int) (p : Int)) (fun k => ?_) (lback_inner hl hs n n1 n3 p c (fun K' hK' h' => lback_loop hl hs n n1 n3 d (p + 1) (by omega) (by omega) K' hK' (by omega)) _ K (Nat.le_refl _) hK h1)
      conv => lhs; unfold lb.l0
      rw [if_pos (by omega)]
    · refine Ev.step (G := fun _ => some true) (fun k => ?_) (Ev.pure _)
      conv => lhs; unfold lb.l0
      rw [if_neg (by omega)]
theorem linesBack_law {l : List Int} (hl : Bytes l) (hw : Wide l) (r : Int) : ∃ k, lb.f k l r = some true := by
  refine Ev.get ?_
  unfold lb.f
  simp only [show ∀ k, galleylaw07_awake.f k = some true from fun _ => rfl, Option.bind_some, if_true]
  have tt : Ev (fun k => lb.j0 k l r true) true := by
    refine Ev.step (G := fun _ => some true) (fun k => ?_) (Ev.pure _)
    unfold lb.j0
    simp
  by_cases hbig : l.length > 600
  · have : galleylaw07_Large.f l = some true := by unfold galleylaw07_Large.f; rw [decide_eq_true (by omega)]
    simp only [this, Option.bind_some, if_true]
    exact tt
  have hs : Small l := by unfold Small; omega
  have : galleylaw07_Large.f l = some false := by unfold galleylaw07_Large.f; rw [decide_eq_false (by omega)]
  simp only [this, Option.bind_some, Bool.false_eq_true, if_false]
  by_cases c1 : r < 1
  · simp only [if_pos c1]
    exact tt
  simp only [if_neg c1]
  by_cases c3 : r > 3
  · simp only [decide_eq_true c3]
    exact tt
  simp only [decide_eq_false c3]
  obtain ⟨n, rfl⟩ : ∃ n : Nat, r = n := ⟨r.toNat, by omega⟩
  have hK : 0 < (placesL l).length := by rw [placesL_length]; omega
  have h0 : (placesL l)[0] = 0 := by
    have hT : tabL l 1 = placesL l := tab_bytes hl hw
    simp only [← hT, tab_scan hl 1 (by omega) (by omega), List.getElem_cons_zero]
  have main := lback_loop hl hs n (by omega) (by omega) _ 0 (Nat.le_refl _) (by omega) 0 hK (by omega)
  refine Ev.step (G := fun k => (galleyref04_Edges.f k l).bind fun t1092 => (lb.l0 k l n t1092 0 0)) (fun k => ?_) (Ev.bind (ev_edges4 hl hs) main)
  conv => lhs; unfold lb.j0
  simp
end Go.Proofs.YtbomhpfckplgaaaDoor.P
