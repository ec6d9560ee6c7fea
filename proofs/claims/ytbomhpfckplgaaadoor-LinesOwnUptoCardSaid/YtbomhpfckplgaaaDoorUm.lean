/- The floor of a place, the line that holds it, and what Where, At and Spot of lines answer, in plain terms. -/
import Derived.Test.YtbomhpfckplgaaaDoorV
import Derived.Test.YtbomhpfckplgaaaDoorUl
import Derived.Test.YtbomhpfckplgaaaDoorUchain
import Derived.Test.YtbomhpfckplgaaaDoorHSpot
namespace Go.Proofs.YtbomhpfckplgaaaDoor.P
open Go Go.RowKit Go.Proofs.YtbomhpfckplgaaaDoorW.PrintWords Go.Proofs.YtbomhpfckplgaaaDoorW.PrintMore Utf
set_option linter.unusedVariables false
set_option linter.unusedSimpArgs false

theorem extract_all (l : List Int) : (strOfNums l).extract 0 (strOfNums l).size = strOfNums l := by
  simp
/-- The step at a place: told by four bytes. -/
theorem at_is {l : List Int} (hl : Bytes l) (hs : Small l) (p : Nat) (hp : p < l.length) : step_at.f l (p : Int) = some (stepN l p) := by
  have hs' := hs
  unfold Small at hs'
  obtain ⟨e, he⟩ : ∃ e : Nat, e = min (p + 4) l.length := ⟨_, rfl⟩
  have hm : mn (wrap64 ((p : Int) + 4)) (l.length : Int) = (e : Int) := by
    rw [w64 (by omega) (by omega)]
    unfold mn
    split <;> omega
  have hw := width_le4 l p
  have hwe := width_end hp
  unfold step_at.f
  rw [hm, if_pos (by omega), if_pos (by omega), if_pos (by omega), Int.toNat_natCast, Int.toNat_natCast]
  have hb : Bytes ((l.take e).drop p) := fun x hx => hl x (List.mem_of_mem_take (List.mem_of_mem_drop hx))
  have hlen : 0 < ((l.take e).drop p).length := by simp; omega
  have h1 := stepW_eq hb hlen
  rw [extract_all] at h1
  have h2 : stepN ((l.take e).drop p) 0 = stepN l p := by
    rw [stepN_drop, Nat.add_zero]
    exact stepN_take (by omega)
  unfold step_first.f
  rw [h1, h2]
  rfl
/-- How far ahead the step begins that goes over a place. -/
def insideK (l : List Int) (p : Nat) : Nat := if 1 ≤ p ∧ 1 < width l (p - 1) then 1 else if 2 ≤ p ∧ 2 < width l (p - 2) then 2 else if 3 ≤ p ∧ 3 < width l (p - 3) then 3 else 0
theorem inside_step {l : List Int} (hl : Bytes l) (hs : Small l) (p x : Nat) (hp : p ≤ l.length) (h0 : 1 ≤ x) (h3 : x ≤ 3) (v : Int)
    (h : (x ≤ p ∧ x < width l (p - x) ∧ v = x) ∨ ((x ≤ p → ¬ x < width l (p - x)) ∧ (p < x → v = 0) ∧ (x ≤ p → Ev (fun k => step_inside.l0 k l (p : Int) ((x + 1 : Nat) : Int)) v))) : Ev (fun k => step_inside.l0 k l (p : Int) (x : Int)) v := by
  have hs' := hs
  unfold Small at hs'
  refine Ev.step (G := fun k => step_inside.j1 k l (p : Int) (x : Int) (decide ((x : Int) ≤ (p : Int)))) (fun k => ?_) ?_
  · conv => lhs; unfold step_inside.l0
    rw [if_pos (by omega)]
  by_cases c : x ≤ p
  · rw [decide_eq_true (show (x : Int) ≤ (p : Int) by omega)]
    have hat := at_is hl hs (p - x) (by omega)
    have hw : wrap64 ((p : Int) - (x : Int)) = ((p - x : Nat) : Int) := by
      rw [w64 (by omega) (by omega)]
      omega
    have hsw := stepN_w l (p - x)
    rcases h with ⟨_, h1, rfl⟩ | ⟨h1, _, h2⟩
    · refine Ev.step (G := fun _ => some (x : Int)) (fun k => ?_) (Ev.pure _)
      conv => lhs; unfold step_inside.j1
      rw [if_pos rfl, hw, hat, Option.bind_some, if_pos (by rw [hsw]; omega)]
    · refine Ev.step (G := fun k => step_inside.l0 k l (p : Int) ((x + 1 : Nat) : Int)) (fun k => ?_) (h2 c)
      have := h1 c
      conv => lhs; unfold step_inside.j1
      rw [if_pos rfl, hw, hat, Option.bind_some, if_neg (by rw [hsw]; omega), w64 (n := (x : Int) + 1) (by omega) (by omega)]
      rfl
  · rw [decide_eq_false (show ¬ (x : Int) ≤ (p : Int) by omega)]
    rcases h with ⟨h1, _⟩ | ⟨_, h1, _⟩
    · omega
    · rw [h1 (by omega)]
      refine Ev.step (G := fun _ => some (0 : Int)) (fun k => ?_) (Ev.pure _)
      conv => lhs; unfold step_inside.j1
      rw [if_neg (by simp)]
theorem ev_insideK {l : List Int} (hl : Bytes l) (hs : Small l) (p : Nat) (hp : p ≤ l.length) : Ev (fun k => step_inside.f k l (p : Int)) (insideK l p : Int) := by
  unfold step_inside.f
  refine inside_step hl hs p 1 hp (by omega) (by omega) _ ?_
  unfold insideK
  by_cases c1 : 1 ≤ p ∧ 1 < width l (p - 1)
  · rw [if_pos c1]
    exact .inl ⟨c1.1, c1.2, rfl⟩
  rw [if_neg c1]
  refine .inr ⟨fun h h' => c1 ⟨h, h'⟩, fun h => by rw [if_neg (by omega), if_neg (by omega)]; rfl, fun h => inside_step hl hs p 2 hp (by omega) (by omega) _ ?_⟩
  by_cases c2 : 2 ≤ p ∧ 2 < width l (p - 2)
  · rw [if_pos c2]
    exact .inl ⟨c2.1, c2.2, rfl⟩
  rw [if_neg c2]
  refine .inr ⟨fun h h' => c2 ⟨h, h'⟩, fun h => by rw [if_neg (by omega)]; rfl, fun h => inside_step hl hs p 3 hp (by omega) (by omega) _ ?_⟩
  by_cases c3 : 3 ≤ p ∧ 3 < width l (p - 3)
  · rw [if_pos c3]
    exact .inl ⟨c3.1, c3.2, rfl⟩
  rw [if_neg c3]
  refine .inr ⟨fun h h' => c3 ⟨h, h'⟩, fun h => rfl, fun h => ?_⟩
  refine Ev.step (G := fun k => step_inside.j1 k l (p : Int) ((3 + 1 : Nat) : Int) false) (fun k => ?_) ?_
  · conv => lhs; unfold step_inside.l0
    rw [if_neg (by omega)]
  refine Ev.step (G := fun _ => some (0 : Int)) (fun k => ?_) (Ev.pure _)
  conv => lhs; unfold step_inside.j1
  rw [if_neg (by simp)]
/-- The last edge at or ahead of a place. -/
def flr (l : List Int) (p : Nat) : Nat := p - insideK l p
theorem insideK_le (l : List Int) (p : Nat) : insideK l p ≤ p := by
  unfold insideK
  split
  · omega
  · split
    · omega
    · split <;> omega
theorem flr_le (l : List Int) (p : Nat) : flr l p ≤ p := Nat.sub_le _ _
theorem width_long {l : List Int} {p k : Nat} (h0 : 0 < k) (h : k < width l p) : k < long l p := by
  unfold width at h
  split at h
  · omega
  · exact h
theorem start_edge {l : List Int} {p : Nat} (h : 0 < long l p) : inside l p = false := by
  cases c : inside l p with
  | false => rfl
  | true =>
    obtain ⟨k, h0, h1, h2⟩ := inside_iff.1 c
    have h3 := long_within h2 h0
    rw [show p - k + k = p by omega] at h3
    omega
theorem flr_edge (l : List Int) (p : Nat) : inside l (flr l p) = false := by
  unfold flr insideK
  by_cases c1 : 1 ≤ p ∧ 1 < width l (p - 1)
  · rw [if_pos c1]
    exact start_edge (by have := width_long (by omega) c1.2; omega)
  rw [if_neg c1]
  by_cases c2 : 2 ≤ p ∧ 2 < width l (p - 2)
  · rw [if_pos c2]
    exact start_edge (by have := width_long (by omega) c2.2; omega)
  rw [if_neg c2]
  by_cases c3 : 3 ≤ p ∧ 3 < width l (p - 3)
  · rw [if_pos c3]
    exact start_edge (by have := width_long (by omega) c3.2; omega)
  rw [if_neg c3, Nat.sub_zero]
  cases c : inside l p with
  | false => rfl
  | true =>
    exfalso
    obtain ⟨k, h0, h1, h2⟩ := inside_iff.1 c
    have h4 := long_le4 l (p - k)
    have h5 := long_le_width l (p - k)
    rcases (show k = 1 ∨ k = 2 ∨ k = 3 by omega) with rfl | rfl | rfl
    · exact c1 ⟨h1, by omega⟩
    · exact c2 ⟨h1, by omega⟩
    · exact c3 ⟨h1, by omega⟩
/-- Between the floor and the place there is no edge. -/
theorem flr_mid (l : List Int) (p q : Nat) (h : flr l p < q) (hq : q ≤ p) (hk : insideK l p ≠ 0) : inside l q = true := by
  have key : flr l p + insideK l p = p ∧ insideK l p < width l (flr l p) := by
    unfold flr
    have := insideK_le l p
    refine ⟨by omega, ?_⟩
    unfold insideK at hk ⊢
    split
    · next c => exact c.2
    · next c1 =>
      rw [if_neg c1] at hk
      split
      · next c => exact c.2
      · next c2 =>
        rw [if_neg c2] at hk
        split
        · next c => exact c.2
        · next c3 =>
          rw [if_neg c3] at hk
          exact absurd rfl hk
  have := inside_mid (b := l) (p := flr l p) (k := q - flr l p) (by omega) (by omega)
  rwa [show flr l p + (q - flr l p) = q by omega] at this
theorem floor_in {l : List Int} (hl : Bytes l) (hs : Small l) (p : Nat) (hp : p ≤ l.length) : Ev (fun k => step_Floor.f k l (p : Int)) ((flr l p : Int), 0) := by
  have hs' := hs
  unfold Small at hs'
  have hk := insideK_le l p
  unfold step_Floor.f
  refine Ev.ite_neg (by omega) (Ev.ite_neg (by omega) (Ev.bind (ev_insideK hl hs p hp) (Ev.of ?_)))
  rw [w64 (by omega) (by omega)]
  unfold flr
  rw [Int.ofNat_sub hk]
theorem floor_out (l : List Int) (p : Int) (h : p < 0 ∨ p > (l.length : Int)) : Ev (fun k => step_Floor.f k l p) (0, 2) := by
  unfold step_Floor.f
  by_cases c : p < 0
  · exact Ev.ite_pos c (Ev.pure _)
  · exact Ev.ite_neg c (Ev.ite_pos (by omega) (Ev.pure _))

/-- The line whose place it is, from line i on. -/
theorem holds_from (L : List S144) (hL : L.length < 4611686018427387904) (q : Int) : ∀ (n i : Nat) (at_ : Nat), L.length - i ≤ n → i ≤ L.length → at_ < L.length → (i = 0 → at_ = 0) → (0 < i → at_ + 1 = i ∧ (rd_T144 L at_).f0 ≤ q) → (0 < L.length → (rd_T144 L 0).f0 ≤ q) →
    ∃ j : Nat, Ev (fun k => lines_holds.l0 k L q (at_ : Int) (L.length : Int) (i : Int)) (j : Int) ∧ j < L.length ∧ (rd_T144 L j).f0 ≤ q ∧ (j + 1 < L.length → q < (rd_T144 L (j + 1 : Nat)).f0)
  | 0, i, a, hn, hi, ha, h0, h1, hz => by
    refine ⟨a, Ev.step (G := fun _ => some (a : Int)) (fun k => ?_) (Ev.pure _), ha, (h1 (by omega)).2, fun h => ?_⟩
    · conv => lhs; unfold lines_holds.l0
      rw [if_neg (by omega)]
    · have := (h1 (by omega)).1
      omega
  | n + 1, i, a, hn, hi, ha, h0, h1, hz => by
    by_cases c : i < L.length
    · by_cases g : (rd_T144 L (i : Int)).f0 > q
      · have hi0 : 0 < i := by
          rcases Nat.eq_zero_or_pos i with rfl | h
          · have h_ : (rd_T144 L ((0 : Nat) : Int)).f0 ≤ q := hz (by omega)
            omega
          · exact h
        have ha1 := h1 hi0
        refine ⟨a, Ev.step (G := fun _ => some (a : Int)) (fun k => ?_) (Ev.pure _), ha, ha1.2, fun h => ?_⟩
        · conv => lhs; unfold lines_holds.l0
          rw [if_pos (by omega), if_pos (by omega), if_pos (by omega), if_pos g]
        · rw [show a + 1 = i from ha1.1]
          exact g
      · obtain ⟨j, hj, r⟩ := holds_from L hL q n (i + 1) i (by omega) (by omega) c (by omega) (fun _ => ⟨rfl, by omega⟩) hz
        refine ⟨j, Ev.step (G := fun k => lines_holds.l0 k L q (i : Int) (L.length : Int) ((i + 1 : Nat) : Int)) (fun k => ?_) hj, r⟩
        conv => lhs; unfold lines_holds.l0
        rw [if_pos (by omega), if_pos (by omega), if_pos (by omega), if_neg g, w64 (n := (i : Int) + 1) (by omega) (by omega)]
        rfl
    · refine ⟨a, Ev.step (G := fun _ => some (a : Int)) (fun k => ?_) (Ev.pure _), ha, (h1 (by omega)).2, fun h => ?_⟩
      · conv => lhs; unfold lines_holds.l0
        rw [if_neg (by omega)]
      · have := (h1 (by omega)).1
        omega
/-- A line: its places in order. -/
theorem chain_line {l : List Int} : ∀ {s : Int} {L : List S144}, Chain l s L → ∀ x ∈ L, 0 ≤ x.f0 ∧ x.f0 ≤ x.f1 ∧ x.f1 ≤ x.f3 ∧ x.f3 ≤ (l.length : Int)
  | s, [], h => h.elim
  | s, x :: r, ⟨h0, h1, h2, h3, h4, h5, h6⟩ => by
    intro y hy
    rcases List.mem_cons.1 hy with rfl | hy
    · rw [h0]
      exact ⟨h1, h2, h3, h4⟩
    · rcases h6 with ⟨rfl, _⟩ | ⟨_, _, hc⟩
      · cases hy
      · exact chain_line hc y hy
theorem rd_mem (L : List S144) (k : Int) (h0 : 0 ≤ k) (h1 : k < L.length) : rd_T144 L k ∈ L := by
  obtain ⟨n, rfl⟩ := Int.eq_ofNat_of_zero_le h0
  have c : n < L.length := by omega
  unfold rd_T144
  rw [Int.toNat_natCast, List.getD_eq_getElem?_getD, List.getElem?_eq_getElem c]
  exact List.getElem_mem c
theorem lines_first (l : List Int) : 0 < (linesL l).length ∧ (rd_T144 (linesL l) 0).f0 = 0 := by
  have h := chain_is l
  generalize linesL l = L at h
  cases L with
  | nil => exact h.elim
  | cons x r => exact ⟨by simp, h.1⟩
theorem last_line (l : List Int) : ∀ x ∈ linesL l, x.f1 ≤ x.f2 ∧ x.f2 ≤ x.f3 := by
  have : ∀ (n : Nat) (i s : Int), ∀ x ∈ linesF l n i s, x.f1 ≤ x.f2 ∧ x.f2 ≤ x.f3 := by
    intro n
    induction n with
    | zero => intro i s x hx; simp [linesF] at hx
    | succ n ih =>
      intro i s x hx
      unfold linesF at hx
      split at hx
      · split at hx
        · rcases List.mem_cons.1 hx with rfl | hx
          · exact ⟨Int.le_refl _, by show i ≤ i + 1; omega⟩
          · exact ih _ _ x hx
        · split at hx
          · split at hx
            · rcases List.mem_cons.1 hx with rfl | hx
              · exact ⟨by show i ≤ i + 1; omega, by show i + 1 ≤ i + 2; omega⟩
              · exact ih _ _ x hx
            · rcases List.mem_cons.1 hx with rfl | hx
              · exact ⟨Int.le_refl _, by show i ≤ i + 1; omega⟩
              · exact ih _ _ x hx
          · exact ih _ _ x hx
      · rcases List.mem_cons.1 hx with rfl | hx
        · exact ⟨Int.le_refl _, Int.le_refl _⟩
        · cases hx
  exact this _ _ _
theorem lsize_is {l : List Int} (hl : Bytes l) (hs : Wide l) (r : Nat) (h1 : 1 ≤ r) (h3 : r ≤ 3) : lines_size.f l (r : Int) = some (lastT l r) := by
  unfold lines_size.f
  rw [size_is hl hs, if_pos (by omega), Int.toNat_natCast]
  rfl
/-- What Where answers within the text. -/
theorem where_in {l : List Int} (hl : Bytes l) (hs : Small l) (p : Nat) (hp : p ≤ l.length) : ∃ j : Nat, j < (linesL l).length ∧ 0 ≤ (rd_T144 (linesL l) j).f0 ∧ (rd_T144 (linesL l) j).f0 ≤ (flr l p : Int) ∧ (j + 1 < (linesL l).length → (flr l p : Int) < (rd_T144 (linesL l) (j + 1 : Nat)).f0) ∧
    Ev (fun k => lines_Where.f k l (p : Int)) ((flr l p : Int), lastT (l.take (flr l p)) 2, lastT (l.take (flr l p)) 3, (j : Int), (flr l p : Int) - (rd_T144 (linesL l) j).f0, lastT ((l.take (flr l p)).drop (rd_T144 (linesL l) j).f0.toNat) 2, lastT ((l.take (flr l p)).drop (rd_T144 (linesL l) j).f0.toNat) 3, 0) := by
  have hs' := hs
  unfold Small at hs'
  have hfl := flr_le l p
  have hlen := linesL_length l
  have hfirst := lines_first l
  obtain ⟨j, hj, h1, h2, h3⟩ := holds_from (linesL l) (by omega) (flr l p : Int) _ 0 0 (Nat.le_refl _) (Nat.zero_le _) hfirst.1 (fun _ => rfl) (fun h => absurd h (by omega)) (fun _ => by rw [hfirst.2]; omega)
  have hx := chain_line (chain_is l) _ (rd_mem (linesL l) j (by omega) (by omega))
  refine ⟨j, h1, hx.1, h2, h3, ?_⟩
  have bt : Bytes (l.take (flr l p)) := fun x hx => hl x (List.mem_of_mem_take hx)
  have bd : Bytes ((l.take (flr l p)).drop (rd_T144 (linesL l) j).f0.toNat) := fun x hx => bt x (List.mem_of_mem_drop hx)
  have st : Wide (l.take (flr l p)) := by unfold Wide; simp; omega
  have sd : Wide ((l.take (flr l p)).drop (rd_T144 (linesL l) j).f0.toNat) := by unfold Wide at *; simp; omega
  have z1 := lsize_is bt st 2 (by omega) (by omega)
  have z2 := lsize_is bt st 3 (by omega) (by omega)
  have z3 := lsize_is bd sd 2 (by omega) (by omega)
  have z4 := lsize_is bd sd 3 (by omega) (by omega)
  unfold lines_Where.f
  refine Ev.bind (floor_in hl hs p hp) (Ev.ite_pos rfl ?_)
  simp only [all_is hs, Option.bind_some]
  refine Ev.bind (hj : Ev (fun k => lines_holds.f k (linesL l) (flr l p : Int)) (j : Int)) ?_
  refine Ev.ite_pos (by omega) (Ev.ite_pos (by omega) (Ev.ite_pos (by omega) (Ev.ite_pos (by omega) (Ev.ite_pos hx.1 (Ev.ite_pos h2 (Ev.of ?_))))))
  simp only [Int.toNat_natCast]
  rw [show (2 : Int) = ((2 : Nat) : Int) from rfl, show (3 : Int) = ((3 : Nat) : Int) from rfl, z1, z2, z3, z4]
  simp only [Option.bind_some]
  have e : ((((l.take (flr l p)).drop (rd_T144 (linesL l) j).f0.toNat).length : Nat) : Int) = (flr l p : Int) - (rd_T144 (linesL l) j).f0 := by
    rw [List.length_drop, List.length_take]
    omega
  rw [e]
theorem where_out (l : List Int) (p : Int) (h : p < 0 ∨ p > (l.length : Int)) : Ev (fun k => lines_Where.f k l p) (0, 0, 0, 0, 0, 0, 0, 2) := by
  unfold lines_Where.f
  exact Ev.bind (floor_out l p h) (Ev.ite_neg (show ¬ ((2 : Int) = 0) by decide) (Ev.pure _))
theorem where_all {l : List Int} (hl : Bytes l) (hs : Small l) (p : Int) : ∃ v, Ev (fun k => lines_Where.f k l p) v := by
  by_cases c : p < 0 ∨ p > (l.length : Int)
  · exact ⟨_, where_out l p c⟩
  · obtain ⟨n, rfl⟩ := Int.eq_ofNat_of_zero_le (show 0 ≤ p by omega)
    obtain ⟨j, _, _, _, _, h⟩ := where_in hl hs n (by omega)
    exact ⟨_, h⟩
end Go.Proofs.YtbomhpfckplgaaaDoor.P
