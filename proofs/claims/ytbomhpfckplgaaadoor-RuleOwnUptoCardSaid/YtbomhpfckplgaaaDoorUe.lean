/- Searches in tables: the program's and the document's agree. -/
import Derived.Test.YtbomhpfckplgaaaDoorU
import Derived.Test.YtbomhpfckplgaaaDoorPx11
import Derived.Test.YtbomhpfckplgaaaDoorPx12
import Derived.Test.YtbomhpfckplgaaaDoorPx13
import Derived.Test.YtbomhpfckplgaaaDoorPx41
import Derived.Test.YtbomhpfckplgaaaDoorHTable
import Derived.Test.YtbomhpfckplgaaaDoorHTo
namespace Go.Proofs.YtbomhpfckplgaaaDoor.P
open Go Go.RowKit Go.Proofs.YtbomhpfckplgaaaDoorW.PrintWords Utf
set_option linter.unusedVariables false
set_option linter.unusedSimpArgs false

theorem cnt_range {l : List Int} (hl : Bytes l) (r : Nat) (h1 : 1 ≤ r) (h3 : r ≤ 3) {x : Nat × Int × Int × Bool} (hx : x ∈ stepsL l) : 1 ≤ cntR r (toS x) ∧ cntR r (toS x) ≤ 4 := by
  have hm := stepsF_mem l _ _ x hx
  have hw := stepN_w l x.1
  have w1 := width_pos l x.1
  have w4 := width_le4 l x.1
  unfold cntR toS
  obtain rfl | rfl | rfl : r = 1 ∨ r = 2 ∨ r = 3 := by omega
  · dsimp only
    rw [if_pos (show ((1 : Nat) : Int) = 1 from rfl), hm.2, hw]
    omega
  · dsimp only
    rw [if_neg (by decide), if_neg (by decide)]
    omega
  · dsimp only
    rw [if_neg (by decide), if_pos (show ((3 : Nat) : Int) = 3 from rfl)]
    split <;> omega
theorem scanT_rises (r : Int) : ∀ (xs : List S121) (a : Int), 0 ≤ a → a + 4 * (xs.length : Int) < 4611686018427387904 → (∀ x ∈ xs, 1 ≤ cntR r x ∧ cntR r x ≤ 4) →
    (a :: scanT r a xs).Pairwise (· < ·) ∧ ∀ y ∈ scanT r a xs, a < y ∧ y ≤ a + 4 * (xs.length : Int)
  | [], a, _, _, _ => by simp [scanT]
  | x :: xs, a, h0, hb, h => by
    have hx := h x List.mem_cons_self
    simp only [List.length_cons, Int.natCast_add, Int.natCast_one] at hb
    have e : wrap64 (a + cntR r x) = a + cntR r x := w64 (by omega) (by omega)
    obtain ⟨ih1, ih2⟩ := scanT_rises r xs (a + cntR r x) (by omega) (by omega) (fun y hy => h y (List.mem_cons_of_mem _ hy))
    simp only [scanT, e]
    refine ⟨List.pairwise_cons.2 ⟨?_, ih1⟩, ?_⟩
    · intro y hy
      rcases List.mem_cons.1 hy with rfl | hy
      · omega
      · have := (ih2 y hy).1; omega
    · intro y hy
      simp only [List.length_cons, Int.natCast_add, Int.natCast_one]
      rcases List.mem_cons.1 hy with rfl | hy
      · omega
      · have := ih2 y hy; omega
theorem tab_rises {l : List Int} (hl : Bytes l) (hs : Wide l) (r : Nat) (h1 : 1 ≤ r) (h3 : r ≤ 3) : (tabL l r).Pairwise (· < ·) ∧ (∀ y ∈ tabL l r, 0 ≤ y ∧ y ≤ 4 * (l.length : Int)) := by
  have hlen := stepsL_length l
  unfold Wide at hs
  rw [tab_scan hl r h1 h3]
  obtain ⟨a, b⟩ := scanT_rises r ((stepsL l).map toS) 0 (by omega) (by simp; omega) (fun x hx => by
    obtain ⟨y, hy, rfl⟩ := List.mem_map.1 hx
    exact cnt_range hl r h1 h3 hy)
  refine ⟨a, fun y hy => ?_⟩
  rcases List.mem_cons.1 hy with rfl | hy
  · omega
  · have := b y hy
    simp only [List.length_map] at this
    omega
theorem tab_length {l : List Int} (hl : Bytes l) (r : Nat) (h1 : 1 ≤ r) (h3 : r ≤ 3) : (tabL l r).length = (stepsL l).length + 1 := by
  rw [tab_scan hl r h1 h3]
  have : ∀ (xs : List S121) (a : Int), (scanT r a xs).length = xs.length := by
    intro xs
    induction xs with
    | nil => intro a; rfl
    | cons x xs ih => intro a; simp [scanT, ih]
  simp [this]
theorem edges_length {l : List Int} (hl : Bytes l) : (edgesL l).length = (stepsL l).length + 1 := by
  have := tab_length hl 1 (by omega) (by omega)
  simpa [tabL] using this
/-- The greatest place. -/
def lastT (l : List Int) (r : Nat) : Int := (tabL l r).getLast?.getD 0
theorem tab_ne {l : List Int} (hl : Bytes l) (r : Nat) (h1 : 1 ≤ r) (h3 : r ≤ 3) : tabL l r ≠ [] := by
  intro h
  have := tab_length hl r h1 h3
  rw [h] at this
  simp at this
theorem last_pick {l : List Int} (hl : Bytes l) (r : Nat) (h1 : 1 ≤ r) (h3 : r ≤ 3) : pickE ((edgesL l).getLast?.getD e0) r = lastT l r := by
  have hne : edgesL l ≠ [] := by
    intro h
    have := edges_length hl
    rw [h] at this
    simp at this
  unfold lastT tabL
  rw [List.getLast?_map]
  obtain ⟨e, he⟩ : ∃ e, (edgesL l).getLast? = some e := ⟨_, List.getLast?_eq_some_getLast hne⟩
  rw [he]
  rfl
theorem tab_le_last {l : List Int} (hl : Bytes l) (hs : Wide l) (r : Nat) (h1 : 1 ≤ r) (h3 : r ≤ 3) : ∀ y ∈ tabL l r, y ≤ lastT l r := by
  have hp := (tab_rises hl hs r h1 h3).1
  have hne := tab_ne hl r h1 h3
  unfold lastT
  generalize tabL l r = T at *
  intro y hy
  induction T with
  | nil => exact absurd rfl hne
  | cons a T ih =>
    obtain ⟨ha, hp⟩ := List.pairwise_cons.1 hp
    by_cases hT : T = []
    · subst hT
      simp at hy
      simp [hy]
    · have e : (a :: T).getLast? = T.getLast? := by
        cases T with
        | nil => exact absurd rfl hT
        | cons b T => rfl
      rw [e]
      rcases List.mem_cons.1 hy with rfl | hy
      · obtain ⟨z, hz⟩ : ∃ z, T.getLast? = some z := ⟨_, List.getLast?_eq_some_getLast hT⟩
        rw [hz]
        have := ha z (List.mem_of_getLast? hz)
        simp
        omega
      · exact ih hp hT hy
theorem last_mem {l : List Int} (hl : Bytes l) (r : Nat) (h1 : 1 ≤ r) (h3 : r ≤ 3) : lastT l r ∈ tabL l r := by
  have hne := tab_ne hl r h1 h3
  unfold lastT
  obtain ⟨z, hz⟩ : ∃ z, (tabL l r).getLast? = some z := ⟨_, List.getLast?_eq_some_getLast hne⟩
  rw [hz]
  exact List.mem_of_getLast? hz
theorem rd_last {l : List Int} (hl : Bytes l) (hs : Wide l) (r : Nat) (h1 : 1 ≤ r) (h3 : r ≤ 3) : wrap64 (((tabL l r).length : Int) - 1) = (((tabL l r).length - 1 : Nat) : Int) ∧ rd (tabL l r) (((tabL l r).length - 1 : Nat) : Int) = lastT l r := by
  have hlen := tab_length hl r h1 h3
  have hs2 := stepsL_length l
  unfold Wide at hs
  refine ⟨by rw [w64 (by omega) (by omega)]; omega, ?_⟩
  rw [rd_nat _ _ (by omega)]
  unfold lastT
  rw [List.getLast?_eq_getElem?, List.getElem?_eq_getElem (by omega)]
  rfl
theorem rul_iff (r : Int) : rule_ruler.f r = some (decide (1 ≤ r ∧ r ≤ 3)) := by
  unfold rule_ruler.f
  by_cases h : r ≥ 1
  · rw [if_pos h]
    congr 1
    simp
    intro _
    exact h
  · rw [if_neg h]
    congr 1
    simp
    intro h2
    exact absurd h2 h
theorem mode_iff (r : Int) : rule_mode.f r = some (decide (1 ≤ r ∧ r ≤ 3)) := rul_iff r
theorem ref_rul (r : Int) : galleyref06_Ruler.f r = some (decide (1 ≤ r ∧ r ≤ 3)) := by
  unfold galleyref06_Ruler.f
  by_cases h : r = 1
  · rw [if_pos h]; subst h; rfl
  rw [if_neg h]
  by_cases h2 : r = 2
  · rw [if_pos h2]; subst h2; rfl
  rw [if_neg h2]
  congr 1
  by_cases h3 : r = 3
  · subst h3; rfl
  · have : (r == 3) = false := by simpa using h3
    rw [this]
    symm
    apply decide_eq_false
    omega
theorem ref_mode (r : Int) : galleyref06_Mode.f r = some (decide (1 ≤ r ∧ r ≤ 3)) := ref_rul r
theorem own_eq (l : List Int) (h : l.length < 140737488355328) : galleylaw06_own.f l = some l := by
  unfold galleylaw06_own.f
  simp
  omega
/-- A search of a table: the first place that is not below. -/
theorem search (E : List Edge3) (r : Nat) (place m : Int) (hE : E.length < 4611686018427387904) : ∀ (xs pre : List Edge3), E = pre ++ xs →
    ((∀ x ∈ xs, pickE x r < place) ∧ (findE r place m (pre.getLast?.getD e0) xs).2 = 2 ∧ Ev (fun k => galleyref06_Index.l0 k (E.map fun e => pickE e r) place m (pre.length : Int)) (-1)) ∨
    ∃ i, pre.length ≤ i ∧ ∃ hi : i < E.length, (∀ j (hj : j < i), pre.length ≤ j → pickE (E[j]'(Nat.lt_trans hj hi)) r < place) ∧ place ≤ pickE E[i] r ∧
      ((pickE E[i] r = place ∧ findE r place m (pre.getLast?.getD e0) xs = (E[i], 0) ∧ Ev (fun k => galleyref06_Index.l0 k (E.map fun e => pickE e r) place m (pre.length : Int)) i) ∨
       (place < pickE E[i] r ∧ m = 1 ∧ findE r place m (pre.getLast?.getD e0) xs = ((E.take i).getLast?.getD e0, 0) ∧ Ev (fun k => galleyref06_Index.l0 k (E.map fun e => pickE e r) place m (pre.length : Int)) ((i : Int) - 1)) ∨
       (place < pickE E[i] r ∧ m = 2 ∧ findE r place m (pre.getLast?.getD e0) xs = (E[i], 0) ∧ Ev (fun k => galleyref06_Index.l0 k (E.map fun e => pickE e r) place m (pre.length : Int)) i) ∨
       (place < pickE E[i] r ∧ m ≠ 1 ∧ m ≠ 2 ∧ findE r place m (pre.getLast?.getD e0) xs = ((E.take i).getLast?.getD e0, 4) ∧ Ev (fun k => galleyref06_Index.l0 k (E.map fun e => pickE e r) place m (pre.length : Int)) (-1)))
  | [], pre, hp => by
    refine .inl ⟨by simp, rfl, Ev.step (G := fun _ => some (-1)) (fun k => ?_) (Ev.pure _)⟩
    unfold galleyref06_Index.l0
    rw [if_neg (by rw [hp]; simp)]
  | x :: xs, pre, hp => by
    have hi : pre.length < E.length := by rw [hp]; simp
    have hx : E[pre.length] = x := by simp [hp]
    have hT : rd (E.map fun e => pickE e r) (pre.length : Int) = pickE x r := by
      rw [rd_nat _ _ (by simpa using hi)]
      simp [hx]
    have htk : E.take pre.length = pre := by rw [hp]; simp
    have unf : ∀ k, galleyref06_Index.l0 (k + 1) (E.map fun e => pickE e r) place m (pre.length : Int) = if pickE x r = place then some (pre.length : Int) else if pickE x r > place then (if m = 1 then some ((pre.length : Int) - 1) else if m = 2 then some (pre.length : Int) else some (-1)) else galleyref06_Index.l0 k (E.map fun e => pickE e r) place m ((pre.length + 1 : Nat) : Int) := by
      intro k
      conv => lhs; unfold galleyref06_Index.l0
      rw [if_pos (by simpa using hi), if_pos (by omega), hT, w64 (n := (pre.length : Int) - 1) (by omega) (by omega), w64 (n := (pre.length : Int) + 1) (by omega) (by omega)]
      rfl
    by_cases c1 : pickE x r = place
    · refine .inr ⟨pre.length, Nat.le_refl _, hi, fun j h1 h2 => by omega, by rw [hx]; omega, .inl ⟨by rw [hx]; exact c1, ?_, Ev.step (fun k => (unf k).trans (if_pos c1)) (Ev.pure _)⟩⟩
      unfold findE
      rw [if_pos c1, hx]
    by_cases c2 : pickE x r < place
    · have hp' : E = (pre ++ [x]) ++ xs := by rw [hp]; simp
      have ih := search E r place m hE xs (pre ++ [x]) hp'
      have hg : (pre ++ [x]).getLast?.getD e0 = x := by simp
      have hf : findE r place m (pre.getLast?.getD e0) (x :: xs) = findE r place m x xs := by
        conv => lhs; unfold findE
        rw [if_neg c1, if_pos c2]
      have hl1 : (pre ++ [x]).length = pre.length + 1 := by simp
      rw [hg, hl1] at ih
      rw [hf]
      have lift : ∀ v, Ev (fun k => galleyref06_Index.l0 k (E.map fun e => pickE e r) place m ((pre.length + 1 : Nat) : Int)) v → Ev (fun k => galleyref06_Index.l0 k (E.map fun e => pickE e r) place m (pre.length : Int)) v := fun v hv =>
        Ev.step (fun k => (unf k).trans ((if_neg c1).trans (if_neg (by omega)))) hv
      rcases ih with ⟨a, b, c⟩ | ⟨i, h1, h2, h3, h4, h5⟩
      · refine .inl ⟨fun y hy => ?_, b, lift _ c⟩
        rcases List.mem_cons.1 hy with rfl | hy
        · exact c2
        · exact a y hy
      · refine .inr ⟨i, by omega, h2, fun j hj1 hj2 => ?_, h4, ?_⟩
        · rcases Nat.eq_or_lt_of_le hj2 with h | h
          · subst h
            rw [hx]
            exact c2
          · exact h3 j hj1 (by omega)
        · rcases h5 with ⟨a, b, c⟩ | ⟨a, b, c, d⟩ | ⟨a, b, c, d⟩ | ⟨a, b, c, d, e⟩
          · exact .inl ⟨a, b, lift _ c⟩
          · exact .inr (.inl ⟨a, b, c, lift _ d⟩)
          · exact .inr (.inr (.inl ⟨a, b, c, lift _ d⟩))
          · exact .inr (.inr (.inr ⟨a, b, c, d, lift _ e⟩))
    · have c3 : pickE x r > place := by omega
      refine .inr ⟨pre.length, Nat.le_refl _, hi, fun j h1 h2 => by omega, by rw [hx]; omega, ?_⟩
      have hf : findE r place m (pre.getLast?.getD e0) (x :: xs) = if m = 1 then (pre.getLast?.getD e0, 0) else if m = 2 then (x, 0) else (pre.getLast?.getD e0, 4) := by
        conv => lhs; unfold findE
        rw [if_neg c1, if_neg c2]
      rw [hf, htk, hx]
      by_cases m1 : m = 1
      · exact .inr (.inl ⟨by omega, m1, if_pos m1, Ev.step (fun k => (unf k).trans ((if_neg c1).trans ((if_pos c3).trans (if_pos m1)))) (Ev.pure _)⟩)
      by_cases m2 : m = 2
      · exact .inr (.inr (.inl ⟨by omega, m2, (if_neg m1).trans (if_pos m2), Ev.step (fun k => (unf k).trans ((if_neg c1).trans ((if_pos c3).trans ((if_neg m1).trans (if_pos m2))))) (Ev.pure _)⟩))
      · exact .inr (.inr (.inr ⟨by omega, m1, m2, (if_neg m1).trans (if_neg m2), Ev.step (fun k => (unf k).trans ((if_neg c1).trans ((if_pos c3).trans ((if_neg m1).trans (if_neg m2))))) (Ev.pure _)⟩))

/-- To: the program's answer is the document's. -/
theorem to_agrees {l : List Int} (hl : Bytes l) (hs : Small l) (a1 a2 a3 a4 : Int) : ∃ v, rule_To.f l a1 a2 a3 a4 = some v ∧ Ev (fun k => galleyref06_To.f k l a1 a2 a3 a4) v := by
  have hs' := hs
  unfold Small at hs'
  unfold rule_To.f galleyref06_To.f
  simp only [rul_iff, mode_iff, ref_rul, ref_mode, Option.bind_some, decide_eq_true_eq]
  have bad : ∀ (b : Bool), b = true → Ev (fun k => galleyref06_To.j0 k l a1 a2 a3 a4 b) ((0 : Int), (3 : Int)) := fun b hb => by
    subst hb
    refine Ev.step (G := fun _ => some (0, 3)) (fun k => ?_) (Ev.pure _)
    rfl
  by_cases r1 : 1 ≤ a1 ∧ a1 ≤ 3
  · by_cases r3 : 1 ≤ a3 ∧ a3 ≤ 3
    · by_cases r4 : 1 ≤ a4 ∧ a4 ≤ 3
      · simp only [if_pos r1, if_pos r3, if_pos r4]
        rw [if_pos (show 1 ≤ a1 ∧ a1 ≤ 3 ∧ 1 ≤ a3 ∧ a3 ≤ 3 from ⟨r1.1, r1.2, r3.1, r3.2⟩), if_pos (show l.length ≤ 140737488351232 by omega)]
        obtain ⟨n, rfl⟩ : ∃ n : Nat, a1 = n := ⟨a1.toNat, by omega⟩
        obtain ⟨n', rfl⟩ : ∃ n : Nat, a3 = n := ⟨a3.toNat, by omega⟩
        have n1 : 1 ≤ n := by omega
        have n3 : n ≤ 3 := by omega
        have m1 : 1 ≤ n' := by omega
        have m3 : n' ≤ 3 := by omega
        simp only [Int.toNat_natCast]
        have hneg : ((!decide (1 ≤ a4 ∧ a4 ≤ 3)) = true) = False := by simp [r4]
        obtain ⟨hw, hrd⟩ := rd_last hl hs.wide n n1 n3
        have hlen := tab_length hl n n1 n3
        have hlen' := tab_length hl n' m1 m3
        have hel := edges_length hl
        have hsl := stepsL_length l
        have stepJ : ∀ {v : Int × Int}, Ev (fun k => galleyref06_To.j1 k l a2 n' a4 (tabL l n) (decide (a2 < 0 ∨ a2 > lastT l n))) v → Ev (fun k => galleyref06_To.j0 k l n a2 n' a4 (!decide (1 ≤ a4 ∧ a4 ≤ 3))) v := fun {v} hv => by
          refine Ev.step (G := fun k => (galleyref06_Table.f k l (n : Int)).bind fun t264 => (if a2 < 0 then (galleyref06_To.j1 k l a2 n' a4 t264 true) else (if 0 ≤ (wrap64 ((t264.length : Int) - 1)) then (if (wrap64 ((t264.length : Int) - 1)) < (t264.length : Int) then (galleyref06_To.j1 k l a2 n' a4 t264 (decide (a2 > (rd t264 (wrap64 ((t264.length : Int) - 1)))))) else (none)) else (none)))) (fun k => ?_) ?_
          · conv => lhs; unfold galleyref06_To.j0
            simp only [hneg, if_false]
          · refine Ev.bind (ev_table hl hs n n1 n3) ?_
            rw [hw, hrd]
            by_cases c : a2 < 0
            · refine Ev.ite_pos c ?_
              have e : decide (a2 < 0 ∨ a2 > lastT l n) = true := decide_eq_true (.inl c)
              rw [e] at hv
              exact hv
            · refine Ev.ite_neg c (Ev.ite_pos (by omega) (Ev.ite_pos (by omega) ?_))
              have e : decide (a2 < 0 ∨ a2 > lastT l n) = decide (a2 > lastT l n) := by simp [c]
              rw [e] at hv
              exact hv
        by_cases c : a2 < 0 ∨ a2 > lastT l n
        · have hj : Ev (fun k => galleyref06_To.j1 k l a2 n' a4 (tabL l n) (decide (a2 < 0 ∨ a2 > lastT l n))) ((0 : Int), (2 : Int)) := by
            rw [decide_eq_true c]
            refine Ev.step (G := fun _ => some (0, 2)) (fun k => ?_) (Ev.pure _)
            rfl
          refine ⟨(0, 2), ?_, stepJ hj⟩
          by_cases c1 : a2 < 0
          · rw [if_pos c1]
          · rw [if_neg c1]
            have hall : ∀ x ∈ edgesL l, pickE x n < a2 := fun x hx => by
              have := tab_le_last hl hs.wide n n1 n3 (pickE x n) (List.mem_map.2 ⟨x, hx, rfl⟩)
              omega
            rcases search (edgesL l) n a2 a4 (by omega) (edgesL l) [] rfl with ⟨_, b, _⟩ | ⟨i, _, hi, _, h4, _⟩
            · have b' : (findE n a2 a4 e0 (edgesL l)).2 = 2 := b
              rw [b']
              rfl
            · have := hall _ (List.getElem_mem hi)
              omega
        · have c1 : ¬ a2 < 0 := fun h => c (.inl h)
          rw [if_neg c1]
          have j1u : ∀ k, galleyref06_To.j1 (k + 1) l a2 n' a4 (tabL l n) (decide (a2 < 0 ∨ a2 > lastT l n)) = ((galleyref06_Index.f k (tabL l n) a2 a4).bind fun t268 => (if t268 < 0 then (some (0, 4)) else ((galleyref06_Table.f k l (n' : Int)).bind fun t269 => (if 0 ≤ t268 then (if t268 < (t269.length : Int) then (some (rd t269 t268, 0)) else (none)) else (none))))) := fun k => by
            rw [decide_eq_false c]
            rfl
          have good : ∀ (i : Nat) (hi : i < (edgesL l).length), Ev (fun k => galleyref06_Index.f k (tabL l n) a2 a4) (i : Int) → Ev (fun k => galleyref06_To.j1 k l a2 n' a4 (tabL l n) (decide (a2 < 0 ∨ a2 > lastT l n))) (pickE (edgesL l)[i] n', 0) := fun i hi hv => by
            refine Ev.step j1u (Ev.bind hv (Ev.ite_neg (by omega) (Ev.bind (ev_table hl hs n' m1 m3) (Ev.ite_pos (by omega) (Ev.ite_pos (by omega) (Ev.of ?_))))))
            rw [rd_nat _ _ (by omega)]
            simp [tabL]
          have none4 : Ev (fun k => galleyref06_Index.f k (tabL l n) a2 a4) (-1) → Ev (fun k => galleyref06_To.j1 k l a2 n' a4 (tabL l n) (decide (a2 < 0 ∨ a2 > lastT l n))) ((0 : Int), (4 : Int)) := fun hv =>
            Ev.step j1u (Ev.bind hv (Ev.ite_pos (by omega) (Ev.pure _)))
          have h0 : ∃ hz : 0 < (edgesL l).length, pickE ((edgesL l)[0]'hz) n = 0 := by
            refine ⟨by omega, ?_⟩
            have e : (tabL l n)[0]'(by omega) = 0 := by simp only [tab_scan hl n n1 n3]; rfl
            rw [← e]
            simp [tabL]
          rcases search (edgesL l) n a2 a4 (by omega) (edgesL l) [] rfl with ⟨a, _, _⟩ | ⟨i, _, hi, hlow, h4, h5⟩
          · exfalso
            obtain ⟨x, hx, hxe⟩ := List.mem_map.1 (last_mem hl n n1 n3)
            have := a x hx
            omega
          · rcases h5 with ⟨q1, q2, q3⟩ | ⟨q1, q2, q3, q4⟩ | ⟨q1, q2, q3, q4⟩ | ⟨q1, q2, q2', q3, q4⟩
            · have q2' : findE n a2 a4 e0 (edgesL l) = ((edgesL l)[i], 0) := q2
              rw [q2']
              exact ⟨_, rfl, stepJ (good i hi q3)⟩
            · have q3' : findE n a2 a4 e0 (edgesL l) = (((edgesL l).take i).getLast?.getD e0, 0) := q3
              rw [q3']
              have hi0 : 0 < i := by
                rcases Nat.eq_zero_or_pos i with rfl | h
                · obtain ⟨hz, hzz⟩ := h0
                  omega
                · exact h
              have e : ((edgesL l).take i).getLast?.getD e0 = (edgesL l)[i - 1]'(by omega) := by
                rw [List.getLast?_eq_getElem?, List.length_take, Nat.min_eq_left (by omega), List.getElem?_take, if_pos (by omega), List.getElem?_eq_getElem (by omega)]
                rfl
              rw [e]
              refine ⟨_, rfl, stepJ (good (i - 1) (by omega) ?_)⟩
              rw [show ((i - 1 : Nat) : Int) = (i : Int) - 1 from by omega]
              exact q4
            · have q3' : findE n a2 a4 e0 (edgesL l) = ((edgesL l)[i], 0) := q3
              rw [q3']
              exact ⟨_, rfl, stepJ (good i hi q4)⟩
            · have q3' : findE n a2 a4 e0 (edgesL l) = (((edgesL l).take i).getLast?.getD e0, 4) := q3
              rw [q3']
              exact ⟨(0, 4), rfl, stepJ (none4 q4)⟩
      · simp only [if_pos r1, if_pos r3, if_neg r4]
        exact ⟨_, rfl, bad _ (by simp [r4])⟩
    · simp only [if_pos r1, if_neg r3]
      exact ⟨_, rfl, bad _ rfl⟩
  · simp only [if_neg r1]
    exact ⟨_, rfl, bad _ rfl⟩

/-- Whether a place is an edge: the program's answer. -/
theorem edge_is {l : List Int} (hl : Bytes l) (hs : Wide l) (r : Int) (p : Int) : rule_Edge.f l r p = some (decide ((1 ≤ r ∧ r ≤ 3) ∧ p ∈ tabL l r.toNat)) := by
  have hs' := hs
  unfold Wide at hs'
  unfold rule_Edge.f rule_To.f
  simp only [rul_iff, mode_iff, Option.bind_some, decide_eq_true_eq]
  by_cases r1 : 1 ≤ r ∧ r ≤ 3
  · simp only [if_pos r1]
    rw [if_pos (show 1 ≤ (3 : Int) ∧ (3 : Int) ≤ 3 by decide)]
    obtain ⟨n, rfl⟩ : ∃ n : Nat, r = n := ⟨r.toNat, by omega⟩
    simp only [Int.toNat_natCast]
    have n1 : 1 ≤ n := by omega
    have n3 : n ≤ 3 := by omega
    have hris := (tab_rises hl hs n n1 n3).1
    have hel := edges_length hl
    have hsl := stepsL_length l
    by_cases c1 : p < 0
    · rw [if_pos c1]
      simp only [Option.bind_some]
      congr 1
      symm
      rw [show (((2 : Int) == 0) = false) from rfl]
      apply decide_eq_false
      rintro ⟨_, h⟩
      have := (tab_rises hl hs n n1 n3).2 p h
      omega
    · rw [if_neg c1, if_pos (show l.length ≤ 140737488351232 by omega), if_pos (show 1 ≤ (n : Int) ∧ (n : Int) ≤ 3 ∧ 1 ≤ (n : Int) ∧ (n : Int) ≤ 3 from ⟨r1.1, r1.2, r1.1, r1.2⟩)]
      rcases search (edgesL l) n p 3 (by omega) (edgesL l) [] rfl with ⟨a, b, _⟩ | ⟨i, _, hi, hlow, h4, h5⟩
      · have b' : (findE n p 3 e0 (edgesL l)).2 = 2 := b
        rw [b', if_neg (by decide)]
        simp only [Option.bind_some]
        congr 1
        symm
        rw [show (((2 : Int) == 0) = false) from rfl]
        apply decide_eq_false
        rintro ⟨_, h⟩
        obtain ⟨x, hx, hxe⟩ := List.mem_map.1 h
        have := a x hx
        omega
      · rcases h5 with ⟨q1, q2, q3⟩ | ⟨q1, q2, q3, q4⟩ | ⟨q1, q2, q3, q4⟩ | ⟨q1, q2, q2', q3, q4⟩
        · have q2' : findE n p 3 e0 (edgesL l) = ((edgesL l)[i], 0) := q2
          rw [q2', if_pos rfl]
          simp only [Option.bind_some]
          congr 1
          symm
          rw [show (((0 : Int) == 0) = true) from rfl]
          apply decide_eq_true
          exact ⟨r1, List.mem_map.2 ⟨(edgesL l)[i], List.getElem_mem hi, q1⟩⟩
        · cases q2
        · cases q2
        · have q3' : findE n p 3 e0 (edgesL l) = (((edgesL l).take i).getLast?.getD e0, 4) := q3
          rw [q3', if_neg (show ¬ ((4 : Int) = 0) by decide)]
          simp only [Option.bind_some]
          congr 1
          symm
          rw [show (((4 : Int) == 0) = false) from rfl]
          apply decide_eq_false
          rintro ⟨_, h⟩
          obtain ⟨x, hx, hxe⟩ := List.mem_map.1 h
          obtain ⟨j, hj, rfl⟩ := List.mem_iff_getElem.1 hx
          rcases Nat.lt_trichotomy j i with h1 | h1 | h1
          · have := hlow j h1 (Nat.zero_le _)
            omega
          · subst h1
            omega
          · have hT : (tabL l n)[i]'(by simpa [tabL] using hi) < (tabL l n)[j]'(by simpa [tabL] using hj) := List.pairwise_iff_getElem.1 hris i j _ _ h1
            simp only [tabL, List.getElem_map] at hT
            omega
  · simp only [if_neg r1, Option.bind_some]
    congr 1
    symm
    rw [show (((3 : Int) == 0) = false) from rfl]
    apply decide_eq_false
    rintro ⟨h, _⟩
    exact r1 h
theorem ev_member (T : List Int) (p : Int) (hT : T.length < 4611686018427387904) : ∀ (n i : Nat), T.length - i ≤ n → i ≤ T.length → Ev (fun k => galleyref06_Edge.l0 k p T (i : Int)) (decide (p ∈ T.drop i))
  | 0, i, hn, hi => by
    refine Ev.step (G := fun _ => some false) (fun k => ?_) (Ev.of ?_)
    · unfold galleyref06_Edge.l0
      rw [if_neg (by omega)]
    · rw [List.drop_eq_nil_of_le (by omega)]; simp
  | n + 1, i, hn, hi => by
    by_cases h : i < T.length
    · have ih := ev_member T p hT n (i + 1) (by omega) (by omega)
      have e : ∀ k, galleyref06_Edge.l0 (k + 1) p T (i : Int) = if T[i] = p then some true else galleyref06_Edge.l0 k p T ((i + 1 : Nat) : Int) := fun k => by
        conv => lhs; unfold galleyref06_Edge.l0
        rw [if_pos (by omega), if_pos (by omega), rd_nat _ _ h, w64 (n := (i : Int) + 1) (by omega) (by omega)]
        rfl
      rw [List.drop_eq_getElem_cons h]
      by_cases c : T[i] = p
      · refine Ev.step (fun k => (e k).trans (if_pos c)) (Ev.of ?_)
        simp [c]
      · refine Ev.step (fun k => (e k).trans (if_neg c)) ?_
        have hd : decide (p ∈ T[i] :: T.drop (i + 1)) = decide (p ∈ T.drop (i + 1)) := by
          refine decide_eq_decide.2 ⟨fun h2 => ?_, fun h2 => List.mem_cons_of_mem _ h2⟩
          rcases List.mem_cons.1 h2 with h2 | h2
          · exact absurd h2.symm c
          · exact h2
        rw [hd]
        exact ih
    · refine Ev.step (G := fun _ => some false) (fun k => ?_) (Ev.of ?_)
      · unfold galleyref06_Edge.l0
        rw [if_neg (by omega)]
      · rw [List.drop_eq_nil_of_le (by omega)]; simp
theorem ev_edge {l : List Int} (hl : Bytes l) (hs : Small l) (r : Int) (p : Int) : Ev (fun k => galleyref06_Edge.f k l r p) (decide ((1 ≤ r ∧ r ≤ 3) ∧ p ∈ tabL l r.toNat)) := by
  have hs' := hs
  unfold Small at hs'
  unfold galleyref06_Edge.f
  simp only [ref_rul, Option.bind_some, decide_eq_true_eq]
  by_cases r1 : 1 ≤ r ∧ r ≤ 3
  · obtain ⟨n, rfl⟩ : ∃ n : Nat, r = n := ⟨r.toNat, by omega⟩
    have hlen := tab_length hl n (by omega) (by omega)
    have hsl := stepsL_length l
    refine Ev.ite_pos r1 (Ev.bind (ev_table hl hs n (by omega) (by omega)) ?_)
    have := ev_member (tabL l n) p (by omega) _ 0 (Nat.le_refl _) (by omega)
    simpa [r1] using this
  · refine Ev.ite_neg r1 (Ev.of ?_)
    simp [r1]
theorem ev_same (T : List Int) (hT : T.length < 4611686018427387904) : Ev (fun k => galleyref01_SameInts.f k T T) true := by
  unfold galleyref01_SameInts.f
  refine Ev.ite_pos rfl ?_
  have : ∀ (n i : Nat), T.length - i ≤ n → Ev (fun k => galleyref01_SameInts.l0 k T T (i : Int)) true := by
    intro n
    induction n with
    | zero =>
      intro i hn
      refine Ev.step (G := fun _ => some true) (fun k => ?_) (Ev.pure _)
      unfold galleyref01_SameInts.l0
      rw [if_neg (by omega)]
    | succ n ih =>
      intro i hn
      by_cases h : i < T.length
      · refine Ev.step (G := fun k => galleyref01_SameInts.l0 k T T ((i + 1 : Nat) : Int)) (fun k => ?_) (ih (i + 1) (by omega))
        conv => lhs; unfold galleyref01_SameInts.l0
        rw [if_pos (by omega), if_pos (by omega), if_pos (by omega), if_pos rfl, w64 (n := (i : Int) + 1) (by omega) (by omega)]
        rfl
      · refine Ev.step (G := fun _ => some true) (fun k => ?_) (Ev.pure _)
        unfold galleyref01_SameInts.l0
        rw [if_neg (by omega)]
  exact this _ 0 (Nat.le_refl _)
theorem size_is {l : List Int} (hl : Bytes l) (hs : Wide l) (r : Int) : rule_Size.f l r = some (if 1 ≤ r ∧ r ≤ 3 then (lastT l r.toNat, 0) else (0, 3)) := by
  have hs' := hs
  unfold Wide at hs'
  unfold rule_Size.f rule_size.f
  simp only [rul_iff, Option.bind_some, decide_eq_true_eq]
  by_cases r1 : 1 ≤ r ∧ r ≤ 3
  · rw [if_pos r1, if_pos (by omega), if_pos r1, if_pos r1]
    simp only [Option.bind_some]
    rw [last_pick hl r.toNat (by omega) (by omega)]
  · rw [if_neg r1, if_neg r1]
theorem table_is {l : List Int} (hl : Bytes l) (hs : Small l) (r : Int) : rule_Table.f l r = some (if 1 ≤ r ∧ r ≤ 3 then (tabL l r.toNat, 0) else ([], 3)) := by
  have hs' := hs
  unfold Small at hs'
  have hel := edges_length hl
  have hsl := stepsL_length l
  unfold rule_Table.f
  rw [if_pos (by omega), if_pos (by omega)]
  by_cases r1 : 1 ≤ r ∧ r ≤ 3
  · rw [if_pos r1, if_pos r1]
    rfl
  · rw [if_neg r1, if_neg r1, rul_iff]
    simp [r1]
theorem ev_size {l : List Int} (hl : Bytes l) (hs : Small l) (r : Nat) (h1 : 1 ≤ r) (h3 : r ≤ 3) : Ev (fun k => galleyref06_Size.f k l (r : Int)) (lastT l r) := by
  have hlen := tab_length hl r h1 h3
  obtain ⟨hw, hrd⟩ := rd_last hl hs.wide r h1 h3
  unfold galleyref06_Size.f
  refine Ev.bind (ev_table hl hs r h1 h3) ?_
  rw [hw, hrd]
  exact Ev.ite_pos (by omega) (Ev.ite_pos (by omega) (Ev.pure _))
end Go.Proofs.YtbomhpfckplgaaaDoor.P
