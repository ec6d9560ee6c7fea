/- The floor of a place, the line that holds it, what Where, At and Spot of lines answer, where lines lie among the edges: in plain terms. -/
import Derived.Test.YtbomhpfckplgaaaDoorV
import Derived.Test.YtbomhpfckplgaaaDoorUchain
import Derived.Test.YtbomhpfckplgaaaDoorHSpot
namespace Go.Proofs.YtbomhpfckplgaaaDoor.P
open Go Go.RowKit Go.Proofs.YtbomhpfckplgaaaDoorW.PrintWords Go.Proofs.YtbomhpfckplgaaaDoorW.PrintMore Utf
set_option linter.unusedVariables false
set_option linter.unusedSimpArgs false

theorem extract_all (l : List Int) : (strOfNums l).extract 0 (strOfNums l).size = strOfNums l := by
  simp
/-- The step at a place: told by four bytes. -/
theorem at_is {l : List Int} (hl : Bytes l) (hs : Small l) (p : Nat) (hp : p < l.length) : step_at.f l (p : Int) = some (stepN l p) := by
  have hs' := hs
  unfold Small at hs'
  obtain ⟨e, he⟩ : ∃ e : Nat, e = min (p + 4) l.length := ⟨_, rfl⟩
  have hm : mn (wrap64 ((p : Int) + 4)) (l.length : Int) = (e : Int) := by
    rw [w64 (by omega) (by omega)]
    unfold mn
    split <;> omega
  have hw := width_le4 l p
  have hwe := width_end hp
  unfold step_at.f
  rw [hm, if_pos (by omega), if_pos (by omega), if_pos (by omega), Int.toNat_natCast, Int.toNat_natCast]
  have hb : Bytes ((l.take e).drop p) := fun x hx => hl x (List.mem_of_mem_take (List.mem_of_mem_drop hx))
  have hlen : 0 < ((l.take e).drop p).length := by simp; omega
  have h1 := stepW_eq hb hlen
  rw [extract_all] at h1
  have h2 : stepN ((l.take e).drop p) 0 = stepN l p := by
    rw [stepN_drop, Nat.add_zero]
    exact stepN_take (by omega)
  unfold step_first.f
  rw [h1, h2]
  rfl
/-- How far ahead the step begins that goes over a place. -/
def insideK (l : List Int) (p : Nat) : Nat := if 1 ≤ p ∧ 1 < width l (p - 1) then 1 else if 2 ≤ p ∧ 2 < width l (p - 2) then 2 else if 3 ≤ p ∧ 3 < width l (p - 3) then 3 else 0
theorem inside_step {l : List Int} (hl : Bytes l) (hs : Small l) (p x : Nat) (hp : p ≤ l.length) (h0 : 1 ≤ x) (h3 : x ≤ 3) (v : Int)
    (h : (x ≤ p ∧ x < width l (p - x) ∧ v = x) ∨ ((x ≤ p → ¬ x < width l (p - x)) ∧ (p < x → v = 0) ∧ (x ≤ p → Ev (fun k => step_inside.l0 k l (p : Int) ((x + 1 : Nat) : Int)) v))) : Ev (fun k => step_inside.l0 k l (p : Int) (x : Int)) v := by
  have hs' := hs
  unfold Small at hs'
  refine Ev.step (G := fun k => step_inside.j1 k l (p : Int) (x : Int) (decide ((x : Int) ≤ (p : Int)))) (fun k => ?_) ?_
  · conv => lhs; unfold step_inside.l0
    rw [if_pos (by omega)]
  by_cases c : x ≤ p
  · rw [decide_eq_true (show (x : Int) ≤ (p : Int) by omega)]
    have hat := at_is hl hs (p - x) (by omega)
    have hw : wrap64 ((p : Int) - (x : Int)) = ((p - x : Nat) : Int) := by
      rw [w64 (by omega) (by omega)]
      omega
    have hsw := stepN_w l (p - x)
    rcases h with ⟨_, h1, rfl⟩ | ⟨h1, _, h2⟩
    · refine Ev.step (G := fun _ => some (x : Int)) (fun k => ?_) (Ev.pure _)
      conv => lhs; unfold step_inside.j1
      rw [if_pos rfl, hw, hat, Option.bind_some, if_pos (by rw [hsw]; omega)]
    · refine Ev.step (G := fun k => step_inside.l0 k l (p : Int) ((x + 1 : Nat) : Int)) (fun k => ?_) (h2 c)
      have := h1 c
      conv => lhs; unfold step_inside.j1
      rw [if_pos rfl, hw, hat, Option.bind_some, if_neg (by rw [hsw]; omega), w64 (n := (x : Int) + 1) (by omega) (by omega)]
      rfl
  · rw [decide_eq_false (show ¬ (x : Int) ≤ (p : Int) by omega)]
    rcases h with ⟨h1, _⟩ | ⟨_, h1, _⟩
    · omega
    · rw [h1 (by omega)]
      refine Ev.step (G := fun _ => some (0 : Int)) (fun k => ?_) (Ev.pure _)
      conv => lhs; unfold step_inside.j1
      rw [if_neg (by simp)]
theorem ev_insideK {l : List Int} (hl : Bytes l) (hs : Small l) (p : Nat) (hp : p ≤ l.length) : Ev (fun k => step_inside.f k l (p : Int)) (insideK l p : Int) := by
  unfold step_inside.f
  refine inside_step hl hs p 1 hp (by omega) (by omega) _ ?_
  unfold insideK
  by_cases c1 : 1 ≤ p ∧ 1 < width l (p - 1)
  · rw [if_pos c1]
    exact .inl ⟨c1.1, c1.2, rfl⟩
  rw [if_neg c1]
  refine .inr ⟨fun h h' => c1 ⟨h, h'⟩, fun h => by rw [if_neg (by omega), if_neg (by omega)]; rfl, fun h => inside_step hl hs p 2 hp (by omega) (by omega) _ ?_⟩
  by_cases c2 : 2 ≤ p ∧ 2 < width l (p - 2)
  · rw [if_pos c2]
    exact .inl ⟨c2.1, c2.2, rfl⟩
  rw [if_neg c2]
  refine .inr ⟨fun h h' => c2 ⟨h, h'⟩, fun h => by rw [if_neg (by omega)]; rfl, fun h => inside_step hl hs p 3 hp (by omega) (by omega) _ ?_⟩
  by_cases c3 : 3 ≤ p ∧ 3 < width l (p - 3)
  · rw [if_pos c3]
    exact .inl ⟨c3.1, c3.2, rfl⟩
  rw [if_neg c3]
  refine .inr ⟨fun h h' => c3 ⟨h, h'⟩, fun h => rfl, fun h => ?_⟩
  refine Ev.step (G := fun k => step_inside.j1 k l (p : Int) ((3 + 1 : Nat) : Int) false) (fun k => ?_) ?_
  · conv => lhs; unfold step_inside.l0
    rw [if_neg (by omega)]
  refine Ev.step (G := fun _ => some (0 : Int)) (fun k => ?_) (Ev.pure _)
  conv => lhs; unfold step_inside.j1
  rw [if_neg (by simp)]
/-- The last edge at or ahead of a place. -/
def flr (l : List Int) (p : Nat) : Nat := p - insideK l p
theorem insideK_le (l : List Int) (p : Nat) : insideK l p ≤ p := by
  unfold insideK
  split
  · omega
  · split
    · omega
    · split <;> omega
theorem flr_le (l : List Int) (p : Nat) : flr l p ≤ p := Nat.sub_le _ _
theorem width_long {l : List Int} {p k : Nat} (h0 : 0 < k) (h : k < width l p) : k < long l p := by
  unfold width at h
  split at h
  · omega
  · exact h
theorem start_edge {l : List Int} {p : Nat} (h : 0 < long l p) : inside l p = false := by
  cases c : inside l p with
  | false => rfl
  | true =>
    obtain ⟨k, h0, h1, h2⟩ := inside_iff.1 c
    have h3 := long_within h2 h0
    rw [show p - k + k = p by omega] at h3
    omega
theorem flr_edge (l : List Int) (p : Nat) : inside l (flr l p) = false := by
  unfold flr insideK
  by_cases c1 : 1 ≤ p ∧ 1 < width l (p - 1)
  · rw [if_pos c1]
    exact start_edge (by have := width_long (by omega) c1.2; omega)
  rw [if_neg c1]
  by_cases c2 : 2 ≤ p ∧ 2 < width l (p - 2)
  · rw [if_pos c2]
    exact start_edge (by have := width_long (by omega) c2.2; omega)
  rw [if_neg c2]
  by_cases c3 : 3 ≤ p ∧ 3 < width l (p - 3)
  · rw [if_pos c3]
    exact start_edge (by have := width_long (by omega) c3.2; omega)
  rw [if_neg c3, Nat.sub_zero]
  cases c : inside l p with
  | false => rfl
  | true =>
    exfalso
    obtain ⟨k, h0, h1, h2⟩ := inside_iff.1 c
    have h4 := long_le4 l (p - k)
    have h5 := long_le_width l (p - k)
    rcases (show k = 1 ∨ k = 2 ∨ k = 3 by omega) with rfl | rfl | rfl
    · exact c1 ⟨h1, by omega⟩
    · exact c2 ⟨h1, by omega⟩
    · exact c3 ⟨h1, by omega⟩
/-- Between the floor and the place there is no edge. -/
theorem flr_mid (l : List Int) (p q : Nat) (h : flr l p < q) (hq : q ≤ p) (hk : insideK l p ≠ 0) : inside l q = true := by
  have key : flr l p + insideK l p = p ∧ insideK l p < width l (flr l p) := by
    unfold flr
    have := insideK_le l p
    refine ⟨by omega, ?_⟩
    unfold insideK at hk ⊢
    split
    · next c => exact c.2
    · next c1 =>
      rw [if_neg c1] at hk
      split
      · next c => exact c.2
      · next c2 =>
        rw [if_neg c2] at hk
        split
        · next c => exact c.2
        · next c3 =>
          rw [if_neg c3] at hk
          exact absurd rfl hk
  have := inside_mid (b := l) (p := flr l p) (k := q - flr l p) (by omega) (by omega)
  rwa [show flr l p + (q - flr l p) = q by omega] at this
theorem floor_in {l : List Int} (hl : Bytes l) (hs : Small l) (p : Nat) (hp : p ≤ l.length) : Ev (fun k => step_Floor.f k l (p : Int)) ((flr l p : Int), 0) := by
  have hs' := hs
  unfold Small at hs'
  have hk := insideK_le l p
  unfold step_Floor.f
  refine Ev.ite_neg (by omega) (Ev.ite_neg (by omega) (Ev.bind (ev_insideK hl hs p hp) (Ev.of ?_)))
  rw [w64 (by omega) (by omega)]
  unfold flr
  rw [Int.ofNat_sub hk]
theorem floor_out (l : List Int) (p : Int) (h : p < 0 ∨ p > (l.length : Int)) : Ev (fun k => step_Floor.f k l p) (0, 2) := by
  unfold step_Floor.f
  by_cases c : p < 0
  · exact Ev.ite_pos c (Ev.pure _)
  · exact Ev.ite_neg c (Ev.ite_pos (by omega) (Ev.pure _))

/-- The line whose place it is, from line i on. -/
theorem holds_from (L : List S144) (hL : L.length < 4611686018427387904) (q : Int) : ∀ (n i : Nat) (at_ : Nat), L.length - i ≤ n → i ≤ L.length → at_ < L.length → (i = 0 → at_ = 0) → (0 < i → at_ + 1 = i ∧ (rd_T144 L at_).f0 ≤ q) → (0 < L.length → (rd_T144 L 0).f0 ≤ q) →
    ∃ j : Nat, Ev (fun k => lines_holds.l0 k L q (at_ : Int) (L.length : Int) (i : Int)) (j : Int) ∧ j < L.length ∧ (rd_T144 L j).f0 ≤ q ∧ (j + 1 < L.length → q < (rd_T144 L (j + 1 : Nat)).f0)
  | 0, i, a, hn, hi, ha, h0, h1, hz => by
    refine ⟨a, Ev.step (G := fun _ => some (a : Int)) (fun k => ?_) (Ev.pure _), ha, (h1 (by omega)).2, fun h => ?_⟩
    · conv => lhs; unfold lines_holds.l0
      rw [if_neg (by omega)]
    · have := (h1 (by omega)).1
      omega
  | n + 1, i, a, hn, hi, ha, h0, h1, hz => by
    by_cases c : i < L.length
    · by_cases g : (rd_T144 L (i : Int)).f0 > q
      · have hi0 : 0 < i := by
          rcases Nat.eq_zero_or_pos i with rfl | h
          · have h_ : (rd_T144 L ((0 : Nat) : Int)).f0 ≤ q := hz (by omega)
            omega
          · exact h
        have ha1 := h1 hi0
        refine ⟨a, Ev.step (G := fun _ => some (a : Int)) (fun k => ?_) (Ev.pure _), ha, ha1.2, fun h => ?_⟩
        · conv => lhs; unfold lines_holds.l0
          rw [if_pos (by omega), if_pos (by omega), if_pos (by omega), if_pos g]
        · rw [show a + 1 = i from ha1.1]
          exact g
      · obtain ⟨j, hj, r⟩ := holds_from L hL q n (i + 1) i (by omega) (by omega) c (by omega) (fun _ => ⟨rfl, by omega⟩) hz
        refine ⟨j, Ev.step (G := fun k => lines_holds.l0 k L q (i : Int) (L.length : Int) ((i + 1 : Nat) : Int)) (fun k => ?_) hj, r⟩
        conv => lhs; unfold lines_holds.l0
        rw [if_pos (by omega), if_pos (by omega), if_pos (by omega), if_neg g, w64 (n := (i : Int) + 1) (by omega) (by omega)]
        rfl
    · refine ⟨a, Ev.step (G := fun _ => some (a : Int)) (fun k => ?_) (Ev.pure _), ha, (h1 (by omega)).2, fun h => ?_⟩
      · conv => lhs; unfold lines_holds.l0
        rw [if_neg (by omega)]
      · have := (h1 (by omega)).1
        omega
/-- A line: its places in order. -/
theorem chain_line {l : List Int} : ∀ {s : Int} {L : List S144}, Chain l s L → ∀ x ∈ L, 0 ≤ x.f0 ∧ x.f0 ≤ x.f1 ∧ x.f1 ≤ x.f3 ∧ x.f3 ≤ (l.length : Int)
  | s, [], h => h.elim
  | s, x :: r, ⟨h0, h1, h2, h3, h4, h5, h6⟩ => by
    intro y hy
    rcases List.mem_cons.1 hy with rfl | hy
    · rw [h0]
      exact ⟨h1, h2, h3, h4⟩
    · rcases h6 with ⟨rfl, _⟩ | ⟨_, _, hc⟩
      · cases hy
      · exact chain_line hc y hy
theorem rd_mem (L : List S144) (k : Int) (h0 : 0 ≤ k) (h1 : k < L.length) : rd_T144 L k ∈ L := by
  obtain ⟨n, rfl⟩ := Int.eq_ofNat_of_zero_le h0
  have c : n < L.length := by omega
  unfold rd_T144
  rw [Int.toNat_natCast, List.getD_eq_getElem?_getD, List.getElem?_eq_getElem c]
  exact List.getElem_mem c
theorem lines_first (l : List Int) : 0 < (linesL l).length ∧ (rd_T144 (linesL l) 0).f0 = 0 := by
  have h := chain_is l
  generalize linesL l = L at h
  cases L with
  | nil => exact h.elim
  | cons x r => exact ⟨by simp, h.1⟩
theorem last_line (l : List Int) : ∀ x ∈ linesL l, x.f1 ≤ x.f2 ∧ x.f2 ≤ x.f3 := by
  have : ∀ (n : Nat) (i s : Int), ∀ x ∈ linesF l n i s, x.f1 ≤ x.f2 ∧ x.f2 ≤ x.f3 := by
    intro n
    induction n with
    | zero => intro i s x hx; simp [linesF] at hx
    | succ n ih =>
      intro i s x hx
      unfold linesF at hx
      split at hx
      · split at hx
        · rcases List.mem_cons.1 hx with rfl | hx
          · exact ⟨Int.le_refl _, by show i ≤ i + 1; omega⟩
          · exact ih _ _ x hx
        · split at hx
          · split at hx
            · rcases List.mem_cons.1 hx with rfl | hx
              · exact ⟨by show i ≤ i + 1; omega, by show i + 1 ≤ i + 2; omega⟩
              · exact ih _ _ x hx
            · rcases List.mem_cons.1 hx with rfl | hx
              · exact ⟨Int.le_refl _, by show i ≤ i + 1; omega⟩
              · exact ih _ _ x hx
          · exact ih _ _ x hx
      · rcases List.mem_cons.1 hx with rfl | hx
        · exact ⟨Int.le_refl _, Int.le_refl _⟩
        · cases hx
  exact this _ _ _
theorem lsize_is {l : List Int} (hl : Bytes l) (hs : Wide l) (r : Nat) (h1 : 1 ≤ r) (h3 : r ≤ 3) : lines_size.f l (r : Int) = some (lastT l r) := by
  unfold lines_size.f
  rw [size_is hl hs, if_pos (by omega), Int.toNat_natCast]
  rfl
/-- What Where answers within the text. -/
theorem where_in {l : List Int} (hl : Bytes l) (hs : Small l) (p : Nat) (hp : p ≤ l.length) : ∃ j : Nat, j < (linesL l).length ∧ 0 ≤ (rd_T144 (linesL l) j).f0 ∧ (rd_T144 (linesL l) j).f0 ≤ (flr l p : Int) ∧ (j + 1 < (linesL l).length → (flr l p : Int) < (rd_T144 (linesL l) (j + 1 : Nat)).f0) ∧
    Ev (fun k => lines_Where.f k l (p : Int)) ((flr l p : Int), lastT (l.take (flr l p)) 2, lastT (l.take (flr l p)) 3, (j : Int), (flr l p : Int) - (rd_T144 (linesL l) j).f0, lastT ((l.take (flr l p)).drop (rd_T144 (linesL l) j).f0.toNat) 2, lastT ((l.take (flr l p)).drop (rd_T144 (linesL l) j).f0.toNat) 3, 0) := by
  have hs' := hs
  unfold Small at hs'
  have hfl := flr_le l p
  have hlen := linesL_length l
  have hfirst := lines_first l
  obtain ⟨j, hj, h1, h2, h3⟩ := holds_from (linesL l) (by omega) (flr l p : Int) _ 0 0 (Nat.le_refl _) (Nat.zero_le _) hfirst.1 (fun _ => rfl) (fun h => absurd h (by omega)) (fun _ => by rw [hfirst.2]; omega)
  have hx := chain_line (chain_is l) _ (rd_mem (linesL l) j (by omega) (by omega))
  refine ⟨j, h1, hx.1, h2, h3, ?_⟩
  have bt : Bytes (l.take (flr l p)) := fun x hx => hl x (List.mem_of_mem_take hx)
  have bd : Bytes ((l.take (flr l p)).drop (rd_T144 (linesL l) j).f0.toNat) := fun x hx => bt x (List.mem_of_mem_drop hx)
  have st : Wide (l.take (flr l p)) := by unfold Wide; simp; omega
  have sd : Wide ((l.take (flr l p)).drop (rd_T144 (linesL l) j).f0.toNat) := by unfold Wide at *; simp; omega
  have z1 := lsize_is bt st 2 (by omega) (by omega)
  have z2 := lsize_is bt st 3 (by omega) (by omega)
  have z3 := lsize_is bd sd 2 (by omega) (by omega)
  have z4 := lsize_is bd sd 3 (by omega) (by omega)
  unfold lines_Where.f
  refine Ev.bind (floor_in hl hs p hp) (Ev.ite_pos rfl ?_)
  simp only [all_is hs, Option.bind_some]
  refine Ev.bind (hj : Ev (fun k => lines_holds.f k (linesL l) (flr l p : Int)) (j : Int)) ?_
  refine Ev.ite_pos (by omega) (Ev.ite_pos (by omega) (Ev.ite_pos (by omega) (Ev.ite_pos (by omega) (Ev.ite_pos hx.1 (Ev.ite_pos h2 (Ev.of ?_))))))
  simp only [Int.toNat_natCast]
  rw [show (2 : Int) = ((2 : Nat) : Int) from rfl, show (3 : Int) = ((3 : Nat) : Int) from rfl, z1, z2, z3, z4]
  simp only [Option.bind_some]
  have e : ((((l.take (flr l p)).drop (rd_T144 (linesL l) j).f0.toNat).length : Nat) : Int) = (flr l p : Int) - (rd_T144 (linesL l) j).f0 := by
    rw [List.length_drop, List.length_take]
    omega
  rw [e]
theorem where_out (l : List Int) (p : Int) (h : p < 0 ∨ p > (l.length : Int)) : Ev (fun k => lines_Where.f k l p) (0, 0, 0, 0, 0, 0, 0, 2) := by
  unfold lines_Where.f
  exact Ev.bind (floor_out l p h) (Ev.ite_neg (show ¬ ((2 : Int) = 0) by decide) (Ev.pure _))
theorem where_all {l : List Int} (hl : Bytes l) (hs : Small l) (p : Int) : ∃ v, Ev (fun k => lines_Where.f k l p) v := by
  by_cases c : p < 0 ∨ p > (l.length : Int)
  · exact ⟨_, where_out l p c⟩
  · obtain ⟨n, rfl⟩ := Int.eq_ofNat_of_zero_le (show 0 ≤ p by omega)
    obtain ⟨j, _, _, _, _, h⟩ := where_in hl hs n (by omega)
    exact ⟨_, h⟩
end Go.Proofs.YtbomhpfckplgaaaDoor.P
namespace Go.Proofs.YtbomhpfckplgaaaDoor.P
open Go Go.RowKit Go.Proofs.YtbomhpfckplgaaaDoorW.PrintWords Go.Proofs.YtbomhpfckplgaaaDoorW.PrintMore Utf
set_option linter.unusedVariables false
set_option linter.unusedSimpArgs false

/-- The places of line s. -/
def lineT (l : List Int) (s : Int) : List Int := (l.take (rd_T144 (linesL l) s).f2.toNat).drop (rd_T144 (linesL l) s).f0.toNat
def atP (l : List Int) (s c r m : Int) : Int × Int :=
  if (1 ≤ r ∧ r ≤ 3) ∧ (1 ≤ m ∧ m ≤ 3) then
    if s < 0 ∨ s ≥ (linesL l).length ∨ c < 0 then (0, 2)
    else if c ≤ lastT (lineT l s) r.toNat then (if ((rule_To.f (lineT l s) r c 1 m).getD (0, 0)).2 = 0 then ((rd_T144 (linesL l) s).f0 + ((rule_To.f (lineT l s) r c 1 m).getD (0, 0)).1, 0) else (0, ((rule_To.f (lineT l s) r c 1 m).getD (0, 0)).2))
    else if m = 3 then (0, 2) else ((rd_T144 (linesL l) s).f1, 0)
  else (0, 3)
theorem lineT_bytes {l : List Int} (hl : Bytes l) (s : Int) : Bytes (lineT l s) := fun x hx => hl x (List.mem_of_mem_take (List.mem_of_mem_drop hx))
theorem lineT_length (l : List Int) (s : Int) : (lineT l s).length ≤ l.length := by unfold lineT; simp; omega
theorem at_p {l : List Int} (hl : Bytes l) (hs : Small l) (s c r m : Int) : Ev (fun k => lines_At.f k l s c r m) (atP l s c r m) := by
  have hs' := hs
  unfold Small at hs'
  by_cases hg : (1 ≤ r ∧ r ≤ 3) ∧ (1 ≤ m ∧ m ≤ 3)
  · have head : ∀ v, Ev (fun k => lines_At.j0 k l r m false s c) v → Ev (fun k => lines_At.f k l s c r m) v := by
      intro v hv
      refine Ev.congr (fun k => ?_) hv
      unfold lines_At.f
      rw [if_neg (by omega), if_neg (by omega), if_neg (by omega), decide_eq_false (by omega)]
    refine head _ ?_
    unfold atP
    rw [if_pos hg]
    have bad : Ev (fun k => lines_At.j1 k l r m (linesL l) true s c) (0, 2) := Ev.step (G := fun _ => some (0, 2)) (fun k => by simp only [lines_At.j1, if_true]) (Ev.pure _)
    by_cases h1 : s < 0
    · rw [if_pos (.inl h1)]
      refine Ev.step (G := fun k => lines_At.j1 k l r m (linesL l) true s c) (fun k => ?_) bad
      simp only [lines_At.j0, Bool.false_eq_true, if_false]
      rw [all_is hs, Option.bind_some, if_pos h1]
    by_cases h2 : s ≥ ((linesL l).length : Int)
    · rw [if_pos (.inr (.inl h2))]
      refine Ev.step (G := fun k => lines_At.j1 k l r m (linesL l) true s c) (fun k => ?_) bad
      simp only [lines_At.j0, Bool.false_eq_true, if_false]
      rw [all_is hs, Option.bind_some, if_neg h1, if_pos h2]
    refine Ev.step (G := fun k => lines_At.j1 k l r m (linesL l) (decide (c < 0)) s c) (fun k => ?_) ?_
    · simp only [lines_At.j0, Bool.false_eq_true, if_false]
      rw [all_is hs, Option.bind_some, if_neg h1, if_neg h2]
    by_cases h3 : c < 0
    · rw [if_pos (.inr (.inr h3)), decide_eq_true h3]
      exact bad
    rw [if_neg (by omega), decide_eq_false h3]
    obtain ⟨n, rfl⟩ : ∃ n : Nat, r = n := ⟨r.toNat, by omega⟩
    have hm := rd_mem (linesL l) s (by omega) (by omega)
    have hx := chain_line (chain_is l) _ hm
    have hy := last_line l _ hm
    have hlen := lineT_length l s
    have bT := lineT_bytes hl s
    have wT : Wide (lineT l s) := by unfold Wide; omega
    have hsz := lsize_is bT wT n (by omega) (by omega)
    obtain ⟨v, e, ht⟩ := to_all (lineT l s) bT wT n c 1 m
    refine Ev.step (G := fun _ => some _) (fun k => ?_) (Ev.pure _)
    simp only [lines_At.j1, Bool.false_eq_true, if_false]
    rw [if_pos (by omega), if_pos (by omega), if_pos hx.1, if_pos (by omega), if_pos (by omega)]
    rw [show (l.take (rd_T144 (linesL l) s).f2.toNat).drop (rd_T144 (linesL l) s).f0.toNat = lineT l s from rfl, hsz, Option.bind_some, ht, Option.bind_some, Int.toNat_natCast, Option.getD_some]
    by_cases h4 : c ≤ lastT (lineT l s) n
    · rw [if_pos h4, if_pos h4]
      dsimp only
      by_cases h5 : e = 0
      · subst h5
        have hb := to_byte bT wT n c m v ht
        rw [if_pos rfl, if_pos rfl, w64 (by omega) (by omega)]
      · rw [if_neg h5, if_neg h5]
    · rw [if_neg h4, if_neg h4]
      by_cases h5 : m = 3
      · rw [if_pos h5, if_pos h5]
      · rw [if_neg h5, if_neg h5]
  · have bad : ∀ b : Bool, b = true → Ev (fun k => lines_At.j0 k l r m b s c) (0, 3) := fun b hb => by
      subst hb
      exact Ev.step (G := fun _ => some (0, 3)) (fun k => by simp only [lines_At.j0, if_true]) (Ev.pure _)
    unfold atP
    rw [if_neg hg]
    unfold lines_At.f
    by_cases h1 : r < 1
    · exact Ev.ite_pos h1 (bad _ rfl)
    refine Ev.ite_neg h1 ?_
    by_cases h2 : r > 3
    · exact Ev.ite_pos h2 (bad _ rfl)
    refine Ev.ite_neg h2 ?_
    by_cases h3 : m < 1
    · exact Ev.ite_pos h3 (bad _ rfl)
    refine Ev.ite_neg h3 (bad _ ?_)
    exact decide_eq_true (by omega)
theorem where_up (l : List Int) (p : Int) (v) : ∀ (d k : Nat), lines_Where.f k l p = some v → lines_Where.f (k + d) l p = some v
  | 0, k, h => h
  | d + 1, k, h => by
    have := where_up l p v d k h
    exact lines_Where.mono l p (k + d) v this
theorem spot_up (l : List Int) (p r : Int) (v) (k k' : Nat) (hk : k ≤ k') (h : lines_Spot.k k l p r = some v) : lines_Spot.k k' l p r = some v := by
  unfold lines_Spot.k at h ⊢
  by_cases c : 1 ≤ r ∧ r ≤ 3
  · rw [if_pos c] at h ⊢
    obtain ⟨t, h1, h2⟩ := Option.bind_eq_some_iff.1 h
    have := where_up l p t (k' - k) k h1
    rw [show k + (k' - k) = k' by omega] at this
    rw [this]
    exact h2
  · rw [if_neg c] at h ⊢
    exact h
/-- Spot's answer, once some fuel tells it. -/
theorem spot_of {l : List Int} {p r : Int} {v} (h : Ev (fun k => lines_Spot.k k l p r) v) : lines_Spot.f l p r = some v := by
  obtain ⟨k, hk⟩ := h.get
  have hh : ∃ v, ∃ k, lines_Spot.k k l p r = some v := ⟨v, k, hk⟩
  unfold lines_Spot.f
  rw [dif_pos hh]
  obtain ⟨k', hk'⟩ := Classical.choose_spec hh
  have e1 := spot_up l p r _ k (max k k') (by omega) hk
  have e2 := spot_up l p r _ k' (max k k') (by omega) hk'
  rw [e1] at e2
  exact e2.symm
theorem spot_all {l : List Int} (hl : Bytes l) (hs : Small l) (p r : Int) : ∃ v, lines_Spot.f l p r = some v := by
  obtain ⟨t, ht⟩ := where_all hl hs p
  have : ∃ v, Ev (fun k => lines_Spot.k k l p r) v := by
    unfold lines_Spot.k
    by_cases c : 1 ≤ r ∧ r ≤ 3
    · by_cases c2 : t.2.2.2.2.2.2.2 = 0
      · exact ⟨_, Ev.ite_pos c (Ev.bind ht (Ev.ite_pos c2 (Ev.pure _)))⟩
      · exact ⟨_, Ev.ite_pos c (Ev.bind ht (Ev.ite_neg c2 (Ev.pure _)))⟩
    · exact ⟨_, Ev.ite_neg c (Ev.pure _)⟩
  obtain ⟨v, hv⟩ := this
  exact ⟨v, spot_of hv⟩
end Go.Proofs.YtbomhpfckplgaaaDoor.P
namespace Go.Proofs.YtbomhpfckplgaaaDoor.P
open Go Go.RowKit Go.Proofs.YtbomhpfckplgaaaDoorW.PrintWords Go.Proofs.YtbomhpfckplgaaaDoorW.PrintMore Utf
set_option linter.unusedVariables false
set_option linter.unusedSimpArgs false

theorem long_ascii {l : List Int} {p : Nat} (h0 : 0 ≤ at_ l p) (h1 : at_ l p ≤ 127) : long l p = 1 := by
  unfold long long4
  rw [if_pos ⟨h0, h1⟩]
/-- About a byte below 128 there are edges. -/
theorem ascii_edge {l : List Int} {p : Nat} (h0 : 0 ≤ at_ l p) (h1 : at_ l p ≤ 127) : inside l p = false ∧ inside l (p + 1) = false := by
  have hnt : ¬ tail (at_ l p) := fun h => by unfold tail at h; omega
  constructor
  · cases c : inside l p with
    | false => rfl
    | true =>
      obtain ⟨k, k0, k1, k2⟩ := inside_iff.1 c
      have := long_in k2 k0
      rw [show p - k + k = p by omega] at this
      exact absurd this hnt
  · cases c : inside l (p + 1) with
    | false => rfl
    | true =>
      obtain ⟨k, k0, k1, k2⟩ := inside_iff.1 c
      rcases Nat.eq_or_lt_of_le (show 1 ≤ k from k0) with rfl | h
      · rw [show p + 1 - 1 = p by omega, long_ascii h0 h1] at k2
        omega
      · have := long_in (b := l) (p := p + 1 - k) (k := k - 1) (by omega) (by omega)
        rw [show p + 1 - k + (k - 1) = p by omega] at this
        exact absurd this hnt
/-- Edges of a part between two edges are edges of the whole. -/
theorem edge_part {l : List Int} {a b q : Nat} (hab : a ≤ b) (hb : b ≤ l.length) (ha : inside l a = false) (hbe : inside l b = false) (hq : a + q ≤ b) (h : inside ((l.take b).drop a) q = false) : inside l (a + q) = false := by
  cases c : inside l (a + q) with
  | false => rfl
  | true =>
    obtain ⟨k, k0, k1, k2⟩ := inside_iff.1 c
    have hp : a ≤ a + q - k := by
      rcases Nat.lt_or_ge (a + q - k) a with g | g
      · have hw := long_le_width l (a + q - k)
        have := inside_mid (b := l) (p := a + q - k) (k := a - (a + q - k)) (by omega) (by omega)
        rw [show a + q - k + (a - (a + q - k)) = a by omega, ha] at this
        cases this
      · exact g
    have hpb : a + q - k < b := by omega
    have hw := step_within hbe hpb
    have hlw := long_le_width l (a + q - k)
    have hlt := long_take (b := l) (n := b) (q := a + q - k) (by omega) (by omega)
    have : inside ((l.take b).drop a) q = true := by
      refine inside_iff.2 ⟨k, k0, by omega, ?_⟩
      rw [long_drop, show a + (q - k) = a + q - k by omega, hlt]
      exact k2
    rw [h] at this
    cases this
theorem flr_self {l : List Int} {q : Nat} (h : inside l q = false) : flr l q = q := by
  rcases Nat.eq_zero_or_pos (insideK l q) with g | g
  · unfold flr
    omega
  · have hk := insideK_le l q
    have := flr_mid l q q (by unfold flr; omega) (Nat.le_refl _) (by omega)
    rw [h] at this
    cases this
theorem at_rd {l : List Int} {i : Int} (h0 : 0 ≤ i) (h1 : i < (l.length : Int)) : at_ l i.toNat = rd l i := by
  obtain ⟨n, rfl⟩ := Int.eq_ofNat_of_zero_le h0
  rw [Int.toNat_natCast, rd_at (by omega)]
/-- Where lines begin, end, and have their last place there are edges; all but the last have a line end. -/
theorem lines_edges (l : List Int) : ∀ (n : Nat) (i s : Int), 0 ≤ s → s ≤ i → i ≤ (l.length : Int) → (l.length : Int) - i < (n : Int) → inside l s.toNat = false → clean l s i →
    (∀ x ∈ linesF l n i s, inside l x.f0.toNat = false ∧ inside l x.f1.toNat = false ∧ inside l x.f2.toNat = false) ∧ (∀ x ∈ (linesF l n i s).dropLast, x.f2 < x.f3)
  | 0, i, s, h0, h1, h2, h3, h4, h5 => by omega
  | n + 1, i, s, h0, h1, h2, h3, h4, h5 => by
    unfold linesF
    by_cases c : i < (l.length : Int)
    · rw [if_pos c]
      have ha : ∀ j : Int, 0 ≤ j → j < (l.length : Int) → (rd l j = 10 ∨ rd l j = 13) → inside l j.toNat = false ∧ inside l (j + 1).toNat = false := fun j g0 g1 g2 => by
        have e := at_rd g0 g1
        rw [show (j + 1).toNat = j.toNat + 1 by omega]
        exact ascii_edge (by rw [e]; omega) (by rw [e]; omega)
      have cons : ∀ (x : S144) (i' : Int) , (l.length : Int) - i' < (n : Int) → 0 ≤ i' → i' ≤ (l.length : Int) → inside l i'.toNat = false → inside l x.f0.toNat = false → inside l x.f1.toNat = false → inside l x.f2.toNat = false → x.f2 < x.f3 →
          (∀ y ∈ x :: linesF l n i' i', inside l y.f0.toNat = false ∧ inside l y.f1.toNat = false ∧ inside l y.f2.toNat = false) ∧ (∀ y ∈ (x :: linesF l n i' i').dropLast, y.f2 < y.f3) := fun x i' g1 g2 g3 g4 g5 g6 g7 g8 => by
        have ih := lines_edges l n i' i' g2 (Int.le_refl _) g3 g1 g4 (fun j a b => by omega)
        have hne := chain_ne (chain_F l n i' i' g2 (Int.le_refl _) g3 g1 (fun j a b => by omega))
        refine ⟨fun y hy => ?_, fun y hy => ?_⟩
        · rcases List.mem_cons.1 hy with rfl | hy
          · exact ⟨g5, g6, g7⟩
          · exact ih.1 y hy
        · rw [List.dropLast_cons_of_ne_nil hne] at hy
          rcases List.mem_cons.1 hy with rfl | hy
          · exact g8
          · exact ih.2 y hy
      by_cases c1 : rd l i = 10
      · rw [if_pos c1]
        have e := ha i (by omega) c (.inl c1)
        exact cons _ _ (by omega) (by omega) (by omega) e.2 h4 e.1 e.1 (by show i < i + 1; omega)
      · rw [if_neg c1]
        by_cases c2 : rd l i = 13
        · rw [if_pos c2]
          have e := ha i (by omega) c (.inr c2)
          by_cases c3 : i + 1 < (l.length : Int) ∧ rd l (i + 1) = 10
          · rw [if_pos c3]
            have e2 := ha (i + 1) (by omega) c3.1 (.inl c3.2)
            rw [show i + 1 + 1 = i + 2 by omega] at e2
            exact cons _ _ (by omega) (by omega) (by omega) e2.2 h4 e.1 e.2 (by show i + 1 < i + 2; omega)
          · rw [if_neg c3]
            exact cons _ _ (by omega) (by omega) (by omega) e.2 h4 e.1 e.1 (by show i < i + 1; omega)
        · rw [if_neg c2]
          refine lines_edges l n (i + 1) s h0 (by omega) (by omega) (by omega) h4 (fun j a b => ?_)
          rcases (show j < i ∨ i ≤ j by omega) with h | h
          · exact h5 j a h
          · obtain rfl : j = i := by omega
            exact ⟨c2, c1⟩
    · rw [if_neg c]
      refine ⟨fun x hx => ?_, fun x hx => by simp at hx⟩
      rcases List.mem_cons.1 hx with rfl | hx
      · refine ⟨h4, ?_, ?_⟩
        · show inside l ((l.length : Int)).toNat = false
          rw [Int.toNat_natCast]
          exact inside_len l
        · show inside l ((l.length : Int)).toNat = false
          rw [Int.toNat_natCast]
          exact inside_len l
      · cases hx
theorem rd_get (L : List S144) (k : Nat) (h : k < L.length) : rd_T144 L (k : Int) = L[k] := by
  unfold rd_T144
  rw [Int.toNat_natCast, List.getD_eq_getElem?_getD, List.getElem?_eq_getElem h]
  rfl
theorem line_edge (l : List Int) (s : Nat) (h : s < (linesL l).length) : inside l (rd_T144 (linesL l) s).f0.toNat = false ∧ inside l (rd_T144 (linesL l) s).f1.toNat = false ∧ inside l (rd_T144 (linesL l) s).f2.toNat = false :=
  (lines_edges l _ 0 0 (by omega) (by omega) (by omega) (by omega) (inside_zero l) (fun j a b => by omega)).1 _ (rd_mem (linesL l) s (by omega) (by omega))
theorem chain_next {l : List Int} : ∀ {a : Int} {L : List S144}, Chain l a L → ∀ (k : Nat) (h : k + 1 < L.length), L[k + 1].f0 = L[k].f3
  | a, [], h, k, hk => by simp at hk
  | a, x :: r, ⟨h0, h1, h2, h3, h4, h5, h6⟩, k, hk => by
    rcases h6 with ⟨rfl, _⟩ | ⟨_, _, hc⟩
    · simp at hk
    · cases k with
      | zero =>
        cases r with
        | nil => simp at hk
        | cons y r => exact hc.1
      | succ k => exact chain_next hc k (by simpa using hk)
theorem line_next (l : List Int) (s : Nat) (h : s + 1 < (linesL l).length) : (rd_T144 (linesL l) (s + 1 : Nat)).f0 = (rd_T144 (linesL l) s).f3 ∧ (rd_T144 (linesL l) s).f2 < (rd_T144 (linesL l) s).f3 := by
  rw [rd_get _ _ h, rd_get _ s (by omega)]
  refine ⟨chain_next (chain_is l) s h, ?_⟩
  have key : ∀ x ∈ (linesL l).dropLast, x.f2 < x.f3 := (lines_edges l (l.length + 1) 0 0 (by omega) (by omega) (by omega) (by omega) (inside_zero l) (fun j a b => by omega)).2
  refine key _ ?_
  rw [List.mem_iff_getElem]
  exact ⟨s, by rw [List.length_dropLast]; omega, by rw [List.getElem_dropLast]⟩
theorem line_order (l : List Int) (s : Nat) (h : s < (linesL l).length) : 0 ≤ (rd_T144 (linesL l) s).f0 ∧ (rd_T144 (linesL l) s).f0 ≤ (rd_T144 (linesL l) s).f1 ∧ (rd_T144 (linesL l) s).f1 ≤ (rd_T144 (linesL l) s).f2 ∧ (rd_T144 (linesL l) s).f2 ≤ (rd_T144 (linesL l) s).f3 ∧ (rd_T144 (linesL l) s).f3 ≤ (l.length : Int) := by
  have hm := rd_mem (linesL l) s (by omega) (by omega)
  have h1 := chain_line (chain_is l) _ hm
  have h2 := last_line l _ hm
  omega
theorem starts_rise (l : List Int) (i j : Nat) (h : i < j) (hj : j < (linesL l).length) : (rd_T144 (linesL l) i).f0 < (rd_T144 (linesL l) j).f0 := by
  induction j with
  | zero => omega
  | succ j ih =>
    have h1 := line_next l j hj
    have h2 := line_order l j (by omega)
    rcases Nat.eq_or_lt_of_le (show i ≤ j by omega) with rfl | h3
    · omega
    · have := ih h3 (by omega)
      omega
/-- An edge of a line: Where tells it, and the line. -/
theorem where_line {l : List Int} (hl : Bytes l) (hs : Small l) (s q : Nat) (h : s < (linesL l).length) (h0 : (rd_T144 (linesL l) s).f0 ≤ (q : Int)) (h2 : (q : Int) ≤ (rd_T144 (linesL l) s).f2) (hq : inside l q = false) :
    Ev (fun k => lines_Where.f k l (q : Int)) ((q : Int), lastT (l.take q) 2, lastT (l.take q) 3, (s : Int), (q : Int) - (rd_T144 (linesL l) s).f0, lastT ((l.take q).drop (rd_T144 (linesL l) s).f0.toNat) 2, lastT ((l.take q).drop (rd_T144 (linesL l) s).f0.toNat) 3, 0) := by
  have ho := line_order l s h
  obtain ⟨j, g1, g2, g3, g4, g5⟩ := where_in hl hs q (by omega)
  rw [flr_self hq] at g3 g4 g5
  have : j = s := by
    rcases Nat.lt_trichotomy j s with c | c | c
    · have a1 := g4 (by omega)
      rcases Nat.eq_or_lt_of_le (show j + 1 ≤ s by omega) with e | e
      · rw [e] at a1
        omega
      · have := starts_rise l (j + 1) s e h
        omega
    · exact c
    · have a1 := line_next l s (by omega)
      rcases Nat.eq_or_lt_of_le (show s + 1 ≤ j by omega) with e | e
      · rw [← e] at g3
        omega
      · have := starts_rise l (s + 1) j e g1
        omega
  subst this
  exact g5
/-- An edge of the places of a line, as an edge of the text. -/
theorem line_place {l : List Int} (s : Nat) (h : s < (linesL l).length) (e : Nat) (he : e ≤ (lineT l s).length) (hi : inside (lineT l s) e = false) : inside l ((rd_T144 (linesL l) s).f0.toNat + e) = false ∧ (rd_T144 (linesL l) s).f0 + (e : Int) ≤ (rd_T144 (linesL l) s).f2 := by
  have ho := line_order l s h
  have hed := line_edge l s h
  have hlen : (lineT l s).length = (rd_T144 (linesL l) s).f2.toNat - (rd_T144 (linesL l) s).f0.toNat := by
    unfold lineT
    rw [List.length_drop, List.length_take]
    omega
  refine ⟨edge_part (b := (rd_T144 (linesL l) s).f2.toNat) (by omega) (by omega) hed.1 hed.2.2 (by omega) hi, by omega⟩
end Go.Proofs.YtbomhpfckplgaaaDoor.P
namespace Go.Proofs.YtbomhpfckplgaaaDoor.P
open Go Go.RowKit Go.Proofs.YtbomhpfckplgaaaDoorW.PrintWords Go.Proofs.YtbomhpfckplgaaaDoorW.PrintMore Utf
set_option linter.unusedVariables false
set_option linter.unusedSimpArgs false
theorem pickV_lt {l : List Int} (hl : Bytes l) (hs : Wide l) (n : Nat) (n1 : 1 ≤ n) (n3 : n ≤ 3) {i j : Nat} (hi : i < (edgesL l).length) (hj : j < (edgesL l).length) (h : i < j) : pickE (edgesL l)[i] n < pickE (edgesL l)[j] n := by
  have hris := (tab_rises hl hs n n1 n3).1
  have hT : (tabL l n)[i]'(by simpa [tabL] using hi) < (tabL l n)[j]'(by simpa [tabL] using hj) := List.pairwise_iff_getElem.1 hris i j _ _ h
  simpa only [tabL, List.getElem_map] using hT
theorem pickV_rev {l : List Int} (hl : Bytes l) (hs : Wide l) (n : Nat) (n1 : 1 ≤ n) (n3 : n ≤ 3) {i j : Nat} (hi : i < (edgesL l).length) (hj : j < (edgesL l).length) (h : pickE (edgesL l)[i] n < pickE (edgesL l)[j] n) : i < j := by
  rcases Nat.lt_or_ge i j with c | c
  · exact c
  · have := pick_mono hl hs n n1 n3 hj hi c
    omega
theorem pickV_inj {l : List Int} (hl : Bytes l) (hs : Wide l) (n : Nat) (n1 : 1 ≤ n) (n3 : n ≤ 3) {i j : Nat} (hi : i < (edgesL l).length) (hj : j < (edgesL l).length) (h : pickE (edgesL l)[i] n = pickE (edgesL l)[j] n) : i = j := by
  rcases Nat.lt_trichotomy i j with c | c | c
  · have := pickV_lt hl hs n n1 n3 hi hj c
    omega
  · exact c
  · have := pickV_lt hl hs n n1 n3 hj hi c
    omega
/-- A step's edge of a line's places, as a place of the text, told by Where. -/
theorem place_where {l : List Int} (hl : Bytes l) (hs : Small l) (s : Nat) (h : s < (linesL l).length) (j : Nat) (hj : j < (edgesL (lineT l s)).length) :
    ∃ q : Nat, (rd_T144 (linesL l) s).f0 + pickE (edgesL (lineT l s))[j] 1 = (q : Int) ∧ (rd_T144 (linesL l) s).f0 ≤ (q : Int) ∧ (q : Int) ≤ (rd_T144 (linesL l) s).f2 ∧ inside l q = false := by
  have hlen := lineT_length l s
  have hs' := hs
  unfold Small at hs'
  have bT := lineT_bytes hl s
  have wT : Wide (lineT l s) := by unfold Wide; omega
  obtain ⟨e, he, h1, h2⟩ := byte_edge bT wT (List.mem_map.2 ⟨_, List.getElem_mem hj, rfl⟩ : pickE (edgesL (lineT l s))[j] 1 ∈ tabL (lineT l s) 1)
  have hp := line_place s h e h1 h2
  have ho := line_order l s h
  exact ⟨(rd_T144 (linesL l) s).f0.toNat + e, by omega, by omega, by omega, hp.1⟩
end Go.Proofs.YtbomhpfckplgaaaDoor.P
