/- Edges of a text, of its lines, and what Spot and At answer there. -/
import Derived.Test.YtbomhpfckplgaaaDoorUq
namespace Go.Proofs.YtbomhpfckplgaaaDoor.P
open Go Go.RowKit Go.Proofs.YtbomhpfckplgaaaDoorW.PrintWords Go.Proofs.YtbomhpfckplgaaaDoorW.PrintMore Utf
set_option linter.unusedVariables false
set_option linter.unusedSimpArgs false
theorem Bytes.take {l : List Int} (h : Bytes l) (n : Nat) : Bytes (l.take n) := fun x hx => h x (List.mem_of_mem_take hx)
theorem Bytes.drop {l : List Int} (h : Bytes l) (n : Nat) : Bytes (l.drop n) := fun x hx => h x (List.mem_of_mem_drop hx)
theorem Wide.take {l : List Int} (h : Wide l) (n : Nat) : Wide (l.take n) := by unfold Wide at *; simp; omega
theorem Wide.drop {l : List Int} (h : Wide l) (n : Nat) : Wide (l.drop n) := by unfold Wide at *; simp; omega
theorem long_take_pos {b : List Int} {n q : Nat} (h0 : 0 < long (b.take n) q) : long b q = long (b.take n) q := by
  have he := long_end h0
  have hl : (b.take n).length ≤ n := by simp; omega
  have hp : 0 < long b q := by
    rcases Nat.eq_zero_or_pos (long b q) with h | h
    · rw [long_take_zero h] at h0
      omega
    · exact h
  have hl4 := long_le4 (b.take n) q
  have e0 : at_ (b.take n) q = at_ b q := at_take (by omega)
  unfold long at he h0 hl4 ⊢
  rw [e0] at he h0 hl4 ⊢
  have a1 : q + 1 < n → at_ (b.take n) (q + 1) = at_ b (q + 1) := fun h => at_take h
  have a2 : q + 2 < n → at_ (b.take n) (q + 2) = at_ b (q + 2) := fun h => at_take h
  have a3 : q + 3 < n → at_ (b.take n) (q + 3) = at_ b (q + 3) := fun h => at_take h
  generalize at_ (b.take n) (q + 1) = y' at *
  generalize at_ (b.take n) (q + 2) = z' at *
  generalize at_ (b.take n) (q + 3) = w' at *
  generalize at_ b q = x at *
  generalize at_ b (q + 1) = y at *
  generalize at_ b (q + 2) = z at *
  generalize at_ b (q + 3) = w at *
  unfold long4 at *
  by_cases c1 : 0 ≤ x ∧ x ≤ 0x7f
  · rw [if_pos c1, if_pos c1]
  rw [if_neg c1] at he h0 hl4 ⊢
  rw [if_neg c1]
  by_cases c2 : (0xc2 ≤ x ∧ x ≤ 0xdf) ∧ tail y'
  · rw [if_pos c2] at he h0 hl4 ⊢
    rw [← a1 (by omega), if_pos c2]
  rw [if_neg c2] at he h0 hl4 ⊢
  by_cases c3 : tail z' ∧ three x y'
  · rw [if_pos c3] at he h0 hl4 ⊢
    rw [← a1 (by omega), ← a2 (by omega), if_neg c2, if_pos c3]
  rw [if_neg c3] at he h0 hl4 ⊢
  by_cases c4 : tail z' ∧ tail w' ∧ four x y'
  · rw [if_pos c4] at he h0 hl4 ⊢
    rw [← a1 (by omega), ← a2 (by omega), ← a3 (by omega), if_neg c2, if_neg c3, if_pos c4]
  rw [if_neg c4] at h0
  omega
theorem edge_take {l : List Int} {e n : Nat} (h : inside l e = false) : inside (l.take n) e = false := by
  rcases hb : inside (l.take n) e with _ | _
  · rfl
  · obtain ⟨k, k0, k1, k2⟩ := inside_iff.1 hb
    have e1 := long_take_pos (show 0 < long (l.take n) (e - k) by omega)
    rw [inside_iff.2 ⟨k, k0, k1, by omega⟩] at h
    cases h
theorem scan_at (r : Int) : ∀ (xs ys : List S121) (a : Int), (a :: scanT r a (xs ++ ys))[xs.length]? = (a :: scanT r a xs).getLast?
  | [], ys, a => by simp [scanT]
  | x :: xs, ys, a => by
    have ih := scan_at r xs ys (wrap64 (a + cntR r x))
    simp only [List.cons_append, scanT, List.length_cons, List.getElem?_cons_succ, List.getLast?_cons_cons]
    exact ih
/-- An edge of the text is one of the table's, and by every ruler what the text ahead of it counts. -/
theorem tab_cut {l : List Int} (hl : Bytes l) (e : Nat) (he : e ≤ l.length) (hi : inside l e = false) : ∃ i, ∃ h : i < (edgesL l).length, ∀ n : Nat, 1 ≤ n → n ≤ 3 → pickE (edgesL l)[i] n = lastT (l.take e) n := by
  have hc := steps_cut l e he hi
  have hlen : (stepsL (l.take e)).length ≤ (stepsL l).length := by
    have := congrArg List.length hc
    simp only [List.length_map, List.length_append] at this
    omega
  refine ⟨(stepsL (l.take e)).length, by rw [edges_length hl]; omega, fun n n1 n3 => ?_⟩
  have hT : (tabL l n)[(stepsL (l.take e)).length]? = (tabL (l.take e) n).getLast? := by
    rw [tab_scan hl n n1 n3, tab_scan (hl.take e) n n1 n3, hc]
    have := scan_at n ((stepsL (l.take e)).map toS) ((stepsL (l.drop e)).map toS) 0
    rwa [List.length_map] at this
  unfold lastT
  rw [← hT]
  unfold tabL
  rw [List.getElem?_map, List.getElem?_eq_getElem (by rw [edges_length hl]; omega)]
  rfl
/-- To of what the text ahead of an edge counts is the edge, with every mode. -/
theorem to_at_edge {l : List Int} (hl : Bytes l) (hs : Wide l) (n : Nat) (n1 : 1 ≤ n) (n3 : n ≤ 3) (e : Nat) (he : e ≤ l.length) (hi : inside l e = false) (m : Int) (hm : 1 ≤ m ∧ m ≤ 3) :
    0 ≤ lastT (l.take e) n ∧ lastT (l.take e) n ≤ lastT l n ∧ rule_To.f l n (lastT (l.take e) n) 1 m = some ((e : Int), 0) := by
  obtain ⟨i, h, hp⟩ := tab_cut hl e he hi
  have e1 := hp 1 (by omega) (by omega)
  rw [last_bytes (hl.take e) (hs.take e), List.length_take, Nat.min_eq_left he] at e1
  have en := hp n n1 n3
  have hmem : lastT (l.take e) n ∈ tabL l n := by
    rw [← en]
    exact List.mem_map.2 ⟨_, List.getElem_mem h, rfl⟩
  have hle := tab_le_last hl hs n n1 n3 _ hmem
  have h0 := ((tab_rises hl hs n n1 n3).2 _ hmem).1
  refine ⟨h0, hle, ?_⟩
  obtain ⟨j, hj, a1, _, _, _, a5, a6⟩ | ⟨_, _, hne⟩ := to_edge hl hs n (lastT (l.take e) n) m n1 n3 hm h0 hle
  · have : j = i := by
      rcases Nat.lt_trichotomy i j with c | c | c
      · have := a5 i h c
        omega
      · exact c.symm
      · have := a6 i h c
        omega
    subst this
    have := a1 1 (by omega) (by omega)
    rw [e1] at this
    exact this
  · exact absurd en (hne i h)
theorem chain_last {l : List Int} : ∀ {a : Int} {L : List S144}, Chain l a L → ∀ (k : Nat) (h : k < L.length), k + 1 = L.length → L[k].f1 = (l.length : Int)
  | a, [], h, k, hk, e => by simp at hk
  | a, x :: r, ⟨h0, h1, h2, h3, h4, h5, h6⟩, k, hk, e => by
    rcases h6 with ⟨rfl, g, _⟩ | ⟨hne, _, hc⟩
    · simp only [List.length_cons, List.length_nil] at e
      obtain rfl : k = 0 := by omega
      exact g
    · cases k with
      | zero =>
        simp only [List.length_cons] at e
        exact absurd (List.length_eq_zero_iff.1 (by omega)) hne
      | succ k =>
        simp only [List.length_cons] at e
        exact chain_last hc k (by simpa using hk) (by omega)
theorem line_f3 (l : List Int) : ∀ x ∈ linesL l, x.f3 = x.f2 + 1 ∨ x.f2 = (l.length : Int) := by
  have : ∀ (n : Nat) (i s : Int), ∀ x ∈ linesF l n i s, x.f3 = x.f2 + 1 ∨ x.f2 = (l.length : Int) := by
    intro n
    induction n with
    | zero => intro i s x hx; simp [linesF] at hx
    | succ n ih =>
      intro i s x hx
      unfold linesF at hx
      split at hx
      · split at hx
        · rcases List.mem_cons.1 hx with rfl | hx
          · exact .inl rfl
          · exact ih _ _ x hx
        · split at hx
          · split at hx
            · rcases List.mem_cons.1 hx with rfl | hx
              · exact .inl (by show i + 2 = i + 1 + 1; omega)
              · exact ih _ _ x hx
            · rcases List.mem_cons.1 hx with rfl | hx
              · exact .inl rfl
              · exact ih _ _ x hx
          · exact ih _ _ x hx
      · rcases List.mem_cons.1 hx with rfl | hx
        · exact .inr rfl
        · cases hx
  exact this _ _ _
/-- A place's line: its last edge lies in it. -/
theorem where_line_of {l : List Int} (hl : Bytes l) (hs : Small l) (p : Nat) (hp : p ≤ l.length) : ∃ j : Nat, j < (linesL l).length ∧ (rd_T144 (linesL l) j).f0 ≤ (flr l p : Int) ∧ (flr l p : Int) ≤ (rd_T144 (linesL l) j).f2 ∧
    Ev (fun k => lines_Where.f k l (p : Int)) ((flr l p : Int), lastT (l.take (flr l p)) 2, lastT (l.take (flr l p)) 3, (j : Int), (flr l p : Int) - (rd_T144 (linesL l) j).f0, lastT ((l.take (flr l p)).drop (rd_T144 (linesL l) j).f0.toNat) 2, lastT ((l.take (flr l p)).drop (rd_T144 (linesL l) j).f0.toNat) 3, 0) := by
  obtain ⟨j, g1, g2, g3, g4, g5⟩ := where_in hl hs p hp
  refine ⟨j, g1, g3, ?_, g5⟩
  have hfl := flr_le l p
  have ho := line_order l j g1
  rcases line_f3 l _ (rd_mem (linesL l) j (by omega) (by omega)) with e | e
  · by_cases c : j + 1 < (linesL l).length
    · have a := g4 c
      have b := line_next l j c
      omega
    · have := chain_last (chain_is l) j g1 (by omega)
      rw [← rd_get] at this
      omega
  · omega
/-- Spot, of what Where answers. -/
theorem spot_where {l : List Int} (hl : Bytes l) (hs : Small l) (p : Int) (q s : Nat) (f0 : Int) (n : Nat) (n1 : 1 ≤ n) (n3 : n ≤ 3) (h0 : 0 ≤ f0) (hq : f0 ≤ (q : Int)) (hql : q ≤ l.length)
    (h : Ev (fun k => lines_Where.f k l p) ((q : Int), lastT (l.take q) 2, lastT (l.take q) 3, (s : Int), (q : Int) - f0, lastT ((l.take q).drop f0.toNat) 2, lastT ((l.take q).drop f0.toNat) 3, 0)) :
    lines_Spot.f l p n = some ((s : Int), lastT ((l.take q).drop f0.toNat) n, 0) := by
  refine spot_of ?_
  unfold lines_Spot.k
  refine Ev.ite_pos (by omega) (Ev.bind h (Ev.ite_pos rfl (Ev.of ?_)))
  obtain rfl | rfl | rfl : n = 1 ∨ n = 2 ∨ n = 3 := by omega
  · have e := last_bytes ((hl.take q).drop f0.toNat) ((hs.wide.take q).drop f0.toNat)
    rw [List.length_drop, List.length_take] at e
    rw [if_pos (by decide), show lastT ((l.take q).drop f0.toNat) 1 = (q : Int) - f0 by omega]
  · rfl
  · rfl
/-- At of an edge's own column is the edge, with every mode. -/
theorem at_edge {l : List Int} (hl : Bytes l) (hs : Small l) (s q : Nat) (h : s < (linesL l).length) (h0 : (rd_T144 (linesL l) s).f0 ≤ (q : Int)) (h2 : (q : Int) ≤ (rd_T144 (linesL l) s).f2) (hq : inside l q = false) (n : Nat) (n1 : 1 ≤ n) (n3 : n ≤ 3) (m : Int) (hm : 1 ≤ m ∧ m ≤ 3) :
    Ev (fun k => lines_At.f k l (s : Int) (lastT ((l.take q).drop (rd_T144 (linesL l) s).f0.toNat) n) n m) ((q : Int), 0) := by
  have ho := line_order l s h
  have hlen := lineT_length l s
  have hs' := hs
  unfold Small at hs'
  have bT := lineT_bytes hl s
  have wT : Wide (lineT l s) := by unfold Wide; omega
  obtain ⟨a, ha⟩ : ∃ a : Nat, (rd_T144 (linesL l) s).f0 = a := ⟨_, (Int.toNat_of_nonneg ho.1).symm⟩
  obtain ⟨z, hz⟩ : ∃ z : Nat, (rd_T144 (linesL l) s).f2 = z := ⟨_, (Int.toNat_of_nonneg (by omega)).symm⟩
  obtain ⟨d, rfl⟩ : ∃ d, q = a + d := ⟨q - a, by omega⟩
  have hT : lineT l s = (l.take z).drop a := by
    unfold lineT
    rw [ha, hz, Int.toNat_natCast, Int.toNat_natCast]
  have hd : (lineT l s).length = z - a := by
    rw [hT, List.length_drop, List.length_take]
    omega
  have hin : inside (lineT l s) d = false := by
    rw [hT]
    exact edge_drop (edge_take hq)
  have hcut : (l.take (a + d)).drop a = (lineT l s).take d := by
    rw [hT, List.take_drop, List.take_take, Nat.min_eq_left (by omega)]
  obtain ⟨t0, t1, t2⟩ := to_at_edge bT wT n n1 n3 d (by omega) hin m hm
  rw [ha, Int.toNat_natCast, hcut]
  have := at_p hl hs (s : Int) (lastT ((lineT l s).take d) n) n m
  have e : atP l (s : Int) (lastT ((lineT l s).take d) n) n m = (((a + d : Nat) : Int), 0) := by
    unfold atP
    rw [if_pos ⟨by omega, hm⟩, if_neg (by omega), if_pos (by rw [Int.toNat_natCast]; exact t1), t2]
    simp only [Option.getD_some, if_true, ha]
    rfl
  rw [← e]
  exact this
end Go.Proofs.YtbomhpfckplgaaaDoor.P
