/- The statement RuleAdds holds of what its text computes. -/
import Derived.Test.YtbomhpfckplgaaaDoorUg
import Derived.Test.YtbomhpfckplgaaaDoorPx49
namespace Go.Proofs.YtbomhpfckplgaaaDoor.P
open Go Go.RowKit Go.Proofs.YtbomhpfckplgaaaDoorW.PrintWords Utf
set_option linter.unusedVariables false
set_option linter.unusedSimpArgs false

theorem pick_rises {l : List Int} (hl : Bytes l) (hs : Small l) (n : Nat) (n1 : 1 ≤ n) (n3 : n ≤ 3) {i j : Nat} (hi : i < (edgesL l).length) (hj : j < (edgesL l).length) (h : i < j) : pickE (edgesL l)[i] n < pickE (edgesL l)[j] n := by
  have hris := (tab_rises hl hs n n1 n3).1
  have hT : (tabL l n)[i]'(by simpa [tabL] using hi) < (tabL l n)[j]'(by simpa [tabL] using hj) := List.pairwise_iff_getElem.1 hris i j _ _ h
  simpa only [tabL, List.getElem_map] using hT
/-- Down: the greatest edge that is not above. -/
theorem to_down {l : List Int} (hl : Bytes l) (hs : Small l) (n n' : Nat) (p : Int) (n1 : 1 ≤ n) (n3 : n ≤ 3) (m1 : 1 ≤ n') (m3 : n' ≤ 3) (hp0 : 0 ≤ p) (hp1 : p ≤ lastT l n) :
    ∃ j, ∃ hj : j < (edgesL l).length, rule_To.f l n p n' 1 = some (pickE (edgesL l)[j] n', 0) ∧ pickE (edgesL l)[j] n ≤ p ∧ ∀ i (hi : i < (edgesL l).length), j < i → p < pickE (edgesL l)[i] n := by
  obtain ⟨i, hi, h1, h2, h3, h4⟩ := to_index hl hs n n' p 1 n1 n3 m1 m3 (by omega) hp0 hp1
  by_cases c : pickE (edgesL l)[i] n = p
  · refine ⟨i, hi, by rw [h4, if_pos c], by omega, fun j hj hij => ?_⟩
    have := pick_rises hl hs n n1 n3 hi hj hij
    omega
  · have h0 := h3 c
    refine ⟨i - 1, by omega, by rw [h4, if_neg c, if_pos rfl], ?_, fun j hj hij => ?_⟩
    · have := h1 (i - 1) (by omega)
      omega
    · rcases Nat.eq_or_lt_of_le (show i ≤ j by omega) with h | h
      · subst h
        omega
      · have := pick_rises hl hs n n1 n3 hi hj h
        omega
theorem first_edge {l : List Int} (hl : Bytes l) (n : Nat) (n1 : 1 ≤ n) (n3 : n ≤ 3) (h : 0 < (edgesL l).length) : pickE (edgesL l)[0] n = 0 := by
  have e : (tabL l n)[0]'(by simpa [tabL] using h) = 0 := by simp only [tab_scan hl n n1 n3]; rfl
  simpa only [tabL, List.getElem_map] using e
theorem last_edge {l : List Int} (hl : Bytes l) (n : Nat) (n1 : 1 ≤ n) (n3 : n ≤ 3) (h : (edgesL l).length - 1 < (edgesL l).length) : pickE (edgesL l)[(edgesL l).length - 1] n = lastT l n := by
  rw [← last_pick hl n n1 n3, List.getLast?_eq_getElem?, List.getElem?_eq_getElem h]
  rfl
/-- What Cut cuts out, both places within the text, Down. -/
theorem cut_down {l : List Int} (hl : Bytes l) (hs : Small l) (n : Nat) (a b : Int) (n1 : 1 ≤ n) (n3 : n ≤ 3) (ha : 0 ≤ a) (hab : a ≤ b) (hb : b ≤ lastT l n) (p q : Nat) (hp : rule_To.f l n a 1 1 = some ((p : Int), 0)) (hq : rule_To.f l n b 1 1 = some ((q : Int), 0)) (hpq : p ≤ q) (hql : q ≤ l.length) (k : Nat) :
    rule_Cut.f (k + 1) l n a b 1 = some ((l.take q).drop p, 0) := by
  have hs' := hs
  unfold Small at hs'
  have hsz : rule_size.f l n = some (lastT l n) := by
    unfold rule_size.f
    rw [if_pos (by omega), if_pos (by omega), Int.toNat_natCast, last_pick hl n n1 n3]
  unfold rule_Cut.f
  simp only [rul_iff, mode_iff, Option.bind_some, decide_eq_true_eq]
  rw [if_pos (by omega)]
  unfold rule_Cut.j0
  simp only [hsz, hp, hq, Option.bind_some]
  rw [if_neg (by simp), if_neg (by omega), if_neg (by omega), if_neg (by omega)]
  simp only [if_true]
  rw [if_pos (by omega), if_pos (by omega), if_pos (by omega)]
  simp only [Int.toNat_natCast, List.nil_append, List.length_nil, Nat.zero_add]
  rw [if_pos]
  have : ((l.take q).drop p).length ≤ l.length := by simp; omega
  omega

def sumT (r : Int) (xs : List S121) : Int := (xs.map fun x => cntR r x).sum
theorem last_scan (r : Int) : ∀ (xs : List S121) (a : Int), 0 ≤ a → a + 4 * (xs.length : Int) < 4611686018427387904 → (∀ x ∈ xs, 1 ≤ cntR r x ∧ cntR r x ≤ 4) → (a :: scanT r a xs).getLast?.getD 0 = a + sumT r xs
  | [], a, _, _, _ => by simp [scanT, sumT]
  | x :: xs, a, h0, hb, h => by
    have hx := h x List.mem_cons_self
    simp only [List.length_cons, Int.natCast_add, Int.natCast_one] at hb
    have e : wrap64 (a + cntR r x) = a + cntR r x := w64 (by omega) (by omega)
    have ih := last_scan r xs (a + cntR r x) (by omega) (by omega) (fun y hy => h y (List.mem_cons_of_mem _ hy))
    simp only [scanT, e, List.getLast?_cons_cons]
    rw [ih]
    simp [sumT]
    omega
theorem last_sum {l : List Int} (hl : Bytes l) (hs : Small l) (r : Nat) (h1 : 1 ≤ r) (h3 : r ≤ 3) : lastT l r = sumT r ((stepsL l).map toS) := by
  have hlen := stepsL_length l
  unfold Small at hs
  unfold lastT
  rw [tab_scan hl r h1 h3, last_scan r _ 0 (by omega) (by simp; omega)]
  · omega
  · intro x hx
    obtain ⟨y, hy, rfl⟩ := List.mem_map.1 hx
    exact cnt_range hl r h1 h3 hy
theorem Bytes.take {l : List Int} (h : Bytes l) (n : Nat) : Bytes (l.take n) := fun x hx => h x (List.mem_of_mem_take hx)
theorem Bytes.drop {l : List Int} (h : Bytes l) (n : Nat) : Bytes (l.drop n) := fun x hx => h x (List.mem_of_mem_drop hx)
theorem Small.take {l : List Int} (h : Small l) (n : Nat) : Small (l.take n) := by unfold Small at *; simp; omega
theorem Small.drop {l : List Int} (h : Small l) (n : Nat) : Small (l.drop n) := by unfold Small at *; simp; omega
theorem last_cut {l : List Int} (hl : Bytes l) (hs : Small l) (r : Nat) (h1 : 1 ≤ r) (h3 : r ≤ 3) (e : Nat) (he : e ≤ l.length) (hi : inside l e = false) : lastT (l.take e) r + lastT (l.drop e) r = lastT l r := by
  rw [last_sum hl hs r h1 h3, last_sum (hl.take e) (hs.take e) r h1 h3, last_sum (hl.drop e) (hs.drop e) r h1 h3, steps_cut l e he hi]
  simp [sumT]
theorem last_le {l : List Int} (hl : Bytes l) (hs : Small l) (r : Nat) (h1 : 1 ≤ r) (h3 : r ≤ 3) : 0 ≤ lastT l r ∧ lastT l r ≤ 4 * (l.length : Int) := (tab_rises hl hs r h1 h3).2 _ (last_mem hl r h1 h3)
theorem ev_sameS (T : List S121) (hT : T.length < 4611686018427387904) : Ev (fun k => galleyref02_Same.f k T T) true := by
  unfold galleyref02_Same.f
  refine Ev.ite_pos rfl ?_
  have : ∀ (n i : Nat), T.length - i ≤ n → Ev (fun k => galleyref02_Same.l0 k T T (i : Int)) true := by
    intro n
    induction n with
    | zero =>
      intro i hn
      refine Ev.step (G := fun _ => some true) (fun k => ?_) (Ev.pure _)
      unfold galleyref02_Same.l0
      rw [if_neg (by omega)]
    | succ n ih =>
      intro i hn
      by_cases h : i < T.length
      · refine Ev.step (G := fun k => galleyref02_Same.l0 k T T ((i + 1 : Nat) : Int)) (fun k => ?_) (ih (i + 1) (by omega))
        conv => lhs; unfold galleyref02_Same.l0
        rw [if_pos (by omega), if_pos (by omega), if_pos (by omega), if_neg (by simp), w64 (n := (i : Int) + 1) (by omega) (by omega)]
        rfl
      · refine Ev.step (G := fun _ => some true) (fun k => ?_) (Ev.pure _)
        unfold galleyref02_Same.l0
        rw [if_neg (by omega)]
  exact this _ 0 (Nat.le_refl _)

theorem str_append (a b : List Int) : (strOfNums a ++ strOfNums b).toList = (strOfNums (a ++ b)).toList := by
  rw [ByteArray.toList_eq, ByteArray.toList_eq, strOfNums_data, ByteArray.data_append, Array.toList_append, strOfNums_data, strOfNums_data, List.map_append]
theorem adds_sizes {l : List Int} (hl : Bytes l) (hs : Small l) (e : Nat) (he : e ≤ l.length) (hi : inside l e = false) (q : Nat) (q1 : 1 ≤ q) (q3 : q ≤ 3) (k : Nat) :
    galleylaw06_RuleAdds.l0 (k + 1) l (l.take e) (l.drop e) (q : Int) = galleylaw06_RuleAdds.l0 k l (l.take e) (l.drop e) ((q + 1 : Nat) : Int) := by
  have hs' := hs
  unfold Small at hs'
  have lt : (l.take e).length ≤ l.length := by simp; omega
  have ld : (l.drop e).length ≤ l.length := by simp
  have hc := last_cut hl hs q q1 q3 e he hi
  have b1 := last_le (hl.take e) (hs.take e) q q1 q3
  have b2 := last_le (hl.drop e) (hs.drop e) q q1 q3
  conv => lhs; unfold galleylaw06_RuleAdds.l0
  rw [if_pos (by omega), own_eq _ (by omega), own_eq _ (by omega), own_eq _ (by omega)]
  simp only [Option.bind_some, size_is (hl.take e) (hs.take e), size_is (hl.drop e) (hs.drop e), size_is hl hs]
  have hq : 1 ≤ (q : Int) ∧ (q : Int) ≤ 3 := by omega
  simp only [if_pos hq, Int.toNat_natCast]
  rw [w64 (n := lastT (l.take e) q + lastT (l.drop e) q) (by omega) (by omega), if_pos hc, w64 (n := (q : Int) + 1) (by omega) (by omega)]
  rfl
theorem ruleAdds_law {l : List Int} (hl : Bytes l) (hs : Small l) (p r : Int) : ∃ k, galleylaw06_RuleAdds.f k l p r = some true := by
  have hs' := hs
  unfold Small at hs'
  refine Ev.get ?_
  unfold galleylaw06_RuleAdds.f
  simp only [show ∀ k, galleylaw06_wakes.f k = some true from fun _ => rfl, own_eq l (by omega), Option.bind_some, if_true, size_is hl hs]
  by_cases r1 : 1 ≤ r ∧ r ≤ 3
  · obtain ⟨n, rfl⟩ : ∃ n : Nat, r = n := ⟨r.toNat, by omega⟩
    have n1 : 1 ≤ n := by omega
    have n3 : n ≤ 3 := by omega
    have hel := edges_length hl
    have hsl := stepsL_length l
    have hlast := last_le hl hs n n1 n3
    simp only [if_pos r1, Int.toNat_natCast, if_true]
    have out : ∀ b : Bool, b = true → Ev (fun k => galleylaw06_RuleAdds.j0 k l p n (lastT l n) b) true := fun b hb => by
      subst hb
      exact Ev.step (G := fun _ => some true) (fun k => rfl) (Ev.pure _)
    by_cases c1 : p < 0
    · exact Ev.ite_pos c1 (out _ rfl)
    refine Ev.ite_neg c1 ?_
    by_cases c2 : p > lastT l n
    · exact out _ (decide_eq_true c2)
    rw [decide_eq_false c2]
    obtain ⟨j, hj, t1, t2, t3⟩ := to_down hl hs n 1 p n1 n3 (by omega) (by omega) (by omega) (by omega)
    obtain ⟨e, he, hel2, hei⟩ := byte_edge hl hs (List.mem_map.2 ⟨_, List.getElem_mem hj, rfl⟩ : pickE (edgesL l)[j] 1 ∈ tabL l 1)
    rw [he] at t1
    replace t1 : rule_To.f l n p 1 1 = some ((e : Int), 0) := t1
    obtain ⟨j0, hj0, z1, z2, z3⟩ := to_down hl hs n 1 0 n1 n3 (by omega) (by omega) (by omega) (by omega)
    have hj00 : j0 = 0 := by
      rcases Nat.eq_zero_or_pos j0 with h | h
      · exact h
      · have := pick_rises hl hs n n1 n3 (show 0 < (edgesL l).length by omega) hj0 h
        rw [first_edge hl n n1 n3] at this
        omega
    subst hj00
    rw [first_edge hl 1 (by omega) (by omega)] at z1
    obtain ⟨j9, hj9, y1, y2, y3⟩ := to_down hl hs n 1 (lastT l n) n1 n3 (by omega) (by omega) (by omega) (Int.le_refl _)
    have hj99 : j9 = (edgesL l).length - 1 := by
      rcases Nat.lt_or_ge j9 ((edgesL l).length - 1) with h | h
      · have := y3 ((edgesL l).length - 1) (by omega) h
        rw [last_edge hl n n1 n3] at this
        omega
      · omega
    subst hj99
    rw [last_edge hl 1 (by omega) (by omega), last_bytes hl hs] at y1
    have k1 : Ev (fun k => rule_Cut.f k l n 0 p 1) (l.take e, 0) := ⟨1, fun k hk => by
      obtain ⟨i, rfl⟩ : ∃ i, k = i + 1 := ⟨k - 1, by omega⟩
      have := cut_down hl hs n 0 p n1 n3 (by omega) (by omega) (by omega) 0 e z1 t1 (by omega) hel2 i
      simpa using this⟩
    have k2 : Ev (fun k => rule_Cut.f k l n p (lastT l n) 1) (l.drop e, 0) := ⟨1, fun k hk => by
      obtain ⟨i, rfl⟩ : ∃ i, k = i + 1 := ⟨k - 1, by omega⟩
      have := cut_down hl hs n p (lastT l n) n1 n3 (by omega) (by omega) (by omega) e l.length t1 y1 hel2 (Nat.le_refl _) i
      simpa using this⟩
    have lt : (l.take e).length = e := by simp; omega
    have ld : (l.drop e).length = l.length - e := by simp
    have hstr : ((strOfNums (l.take e) ++ strOfNums (l.drop e)).toList != (strOfNums l).toList) = false := by
      rw [str_append, List.take_append_drop]
      simp
    have fin : Ev (fun k => galleylaw06_RuleAdds.l0 k l (l.take e) (l.drop e) (1 : Int)) true := by
      refine Ev.step (fun k => adds_sizes hl hs e hel2 hei 1 (by omega) (by omega) k) ?_
      refine Ev.step (fun k => adds_sizes hl hs e hel2 hei 2 (by omega) (by omega) k) ?_
      refine Ev.step (fun k => adds_sizes hl hs e hel2 hei 3 (by omega) (by omega) k) ?_
      have s1 := stepsL_length (l.take e)
      have s2 := stepsL_length (l.drop e)
      refine Ev.step (G := fun k => (galleyref02_Steps.f k (l.take e)).bind fun t584 => ((galleyref02_Steps.f k (l.drop e)).bind fun t587 => (if t584.length + t587.length < 5864062014805 then ((galleyref02_Steps.f k l).bind fun t593 => ((galleyref02_Same.f k (t584 ++ t587) t593).bind fun t596 => (some t596))) else (none)))) (fun k => ?_) ?_
      · conv => lhs; unfold galleylaw06_RuleAdds.l0
        rw [if_neg (by omega)]
      · refine Ev.bind (ev_steps (hl.take e) (hs.take e)) (Ev.bind (ev_steps (hl.drop e) (hs.drop e)) (Ev.ite_pos (by simp; omega) (Ev.bind (ev_steps hl hs) ?_)))
        rw [← steps_cut l e hel2 hei]
        exact Ev.bind (ev_sameS _ (by simp; omega)) (Ev.pure _)
    refine Ev.step (G := fun k => (galleylaw06_own.f l).bind fun t550 => ((rule_Cut.f k t550 n 0 p 1).bind fun bt553 => ((galleylaw06_own.f l).bind fun t557 => ((rule_To.f t557 n p 1 1).bind fun bt560 => ((galleylaw06_own.f l).bind fun t562 => ((rule_Cut.f k t562 n p (lastT l n) 1).bind fun bt565 => (if bt553.2 = 0 then (if bt565.2 = 0 then (if (bt553.1.length : Int) = bt560.1 then (if (strOfNums bt553.1).size + (strOfNums bt565.1).size ≤ 9223372036854775807 then (galleylaw06_RuleAdds.j1 k l bt553.1 bt565.1 (((strOfNums bt553.1) ++ (strOfNums bt565.1)).toList != (strOfNums l).toList)) else (none)) else (galleylaw06_RuleAdds.j1 k l bt553.1 bt565.1 true)) else (galleylaw06_RuleAdds.j1 k l bt553.1 bt565.1 true)) else (galleylaw06_RuleAdds.j1 k l bt553.1 bt565.1 true))))))))
      (fun k => rfl) ?_
    simp only [own_eq l (by omega), Option.bind_some, t1]
    refine Ev.bind k1 (Ev.bind k2 (Ev.ite_pos rfl (Ev.ite_pos rfl (Ev.ite_pos (by rw [lt]) (Ev.ite_pos (show (strOfNums (l.take e)).size + (strOfNums (l.drop e)).size ≤ 9223372036854775807 by rw [strOfNums_size, strOfNums_size]; omega) ?_)))))
    simp only [hstr]
    exact Ev.step (G := fun k => galleylaw06_RuleAdds.l0 k l (l.take e) (l.drop e) 1) (fun k => rfl) fin
  · simp only [if_neg r1]
    exact Ev.of rfl
end Go.Proofs.YtbomhpfckplgaaaDoor.P
