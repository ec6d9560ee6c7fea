/- To in order, and what Cut cuts out: the program's and the document's. -/
import Derived.Test.YtbomhpfckplgaaaDoorUg
import Derived.Test.YtbomhpfckplgaaaDoorPx42
namespace Go.Proofs.YtbomhpfckplgaaaDoor.P
open Go Go.RowKit Go.Proofs.YtbomhpfckplgaaaDoorW.PrintWords Utf
set_option linter.unusedVariables false
set_option linter.unusedSimpArgs false

theorem pick_mono {l : List Int} (hl : Bytes l) (hs : Wide l) (n : Nat) (n1 : 1 ≤ n) (n3 : n ≤ 3) {i j : Nat} (hi : i < (edgesL l).length) (hj : j < (edgesL l).length) (h : i ≤ j) : pickE (edgesL l)[i] n ≤ pickE (edgesL l)[j] n := by
  rcases Nat.eq_or_lt_of_le h with rfl | h
  · exact Int.le_refl _
  · have hris := (tab_rises hl hs n n1 n3).1
    have hT : (tabL l n)[i]'(by simpa [tabL] using hi) < (tabL l n)[j]'(by simpa [tabL] using hj) := List.pairwise_iff_getElem.1 hris i j _ _ h
    simp only [tabL, List.getElem_map] at hT
    omega
/-- To within the text: an edge, or inside. -/
theorem to_edge {l : List Int} (hl : Bytes l) (hs : Wide l) (n : Nat) (p m : Int) (n1 : 1 ≤ n) (n3 : n ≤ 3) (hm : 1 ≤ m ∧ m ≤ 3) (hp0 : 0 ≤ p) (hp1 : p ≤ lastT l n) :
    (∃ j, ∃ hj : j < (edgesL l).length, (∀ n' : Nat, 1 ≤ n' → n' ≤ 3 → rule_To.f l n p n' m = some (pickE (edgesL l)[j] n', 0)) ∧ (m = 1 → pickE (edgesL l)[j] n ≤ p) ∧ (m = 2 → p ≤ pickE (edgesL l)[j] n) ∧ (m = 3 → p = pickE (edgesL l)[j] n) ∧
      (∀ i (hi : i < (edgesL l).length), i < j → pickE (edgesL l)[i] n < p) ∧ (∀ i (hi : i < (edgesL l).length), j < i → p < pickE (edgesL l)[i] n)) ∨
    (m = 3 ∧ (∀ n' : Nat, 1 ≤ n' → n' ≤ 3 → rule_To.f l n p n' m = some (0, 4)) ∧ ∀ i (hi : i < (edgesL l).length), pickE (edgesL l)[i] n ≠ p) := by
  have hne : 1 ≤ (edgesL l).length := by rw [edges_length hl]; omega
  obtain ⟨i, hi, h1, h2, h3, _⟩ := to_index hl hs n 1 p m n1 n3 (by omega) (by omega) hm hp0 hp1
  have key : ∀ n' : Nat, 1 ≤ n' → n' ≤ 3 → rule_To.f l n p n' m = some (if pickE (edgesL l)[i] n = p then (pickE (edgesL l)[i] n', 0) else if m = 1 then (pickE ((edgesL l)[i - 1]'(by omega)) n', 0) else if m = 2 then (pickE (edgesL l)[i] n', 0) else (0, 4)) := by
    intro n' m1 m3
    obtain ⟨i', hi', k1, k2, k3, k4⟩ := to_index hl hs n n' p m n1 n3 m1 m3 hm hp0 hp1
    have : i' = i := by
      rcases Nat.lt_trichotomy i' i with h | h | h
      · have := h1 i' h
        omega
      · exact h
      · have := k1 i h
        omega
    subst this
    exact k4
  have above : ∀ j (hj : j < (edgesL l).length), i < j → p < pickE (edgesL l)[j] n := by
    intro j hj hij
    have := pick_mono hl hs n n1 n3 (i := i + 1) (j := j) (by omega) hj hij
    have hris := (tab_rises hl hs n n1 n3).1
    have hT : (tabL l n)[i]'(by simpa [tabL] using hi) < (tabL l n)[i + 1]'(by simpa [tabL] using (show i + 1 < (edgesL l).length by omega)) := List.pairwise_iff_getElem.1 hris i (i + 1) _ _ (by omega)
    simp only [tabL, List.getElem_map] at hT
    omega
  by_cases c : pickE (edgesL l)[i] n = p
  · refine .inl ⟨i, hi, fun n' a b => by rw [key n' a b, if_pos c], by omega, by omega, by omega, fun j hj h => h1 j h, above⟩
  · have h0 := h3 c
    obtain rfl | rfl | rfl : m = 1 ∨ m = 2 ∨ m = 3 := by omega
    · refine .inl ⟨i - 1, by omega, fun n' a b => by rw [key n' a b, if_neg c, if_pos rfl], fun _ => ?_, by omega, by omega, fun j hj h => h1 j (by omega), fun j hj h => ?_⟩
      · have := h1 (i - 1) (by omega)
        omega
      · rcases Nat.eq_or_lt_of_le (show i ≤ j by omega) with h' | h'
        · subst h'
          omega
        · exact above j hj h'
    · refine .inl ⟨i, hi, fun n' a b => by rw [key n' a b, if_neg c, if_neg (by decide), if_pos rfl], by omega, by omega, by omega, fun j hj h => h1 j h, above⟩
    · refine .inr ⟨rfl, fun n' a b => by rw [key n' a b, if_neg c, if_neg (by decide), if_neg (by decide)], fun j hj => ?_⟩
      rcases Nat.lt_trichotomy j i with h | h | h
      · have := h1 j h
        omega
      · subst h
        exact c
      · have := above j hj h
        omega
/-- Every To is known. -/
theorem to_all (l : List Int) (hl : Bytes l) (hs : Wide l) (a p b m : Int) : ∃ v e, rule_To.f l a p b m = some (v, e) := by
  by_cases h : (1 ≤ a ∧ a ≤ 3) ∧ (1 ≤ b ∧ b ≤ 3) ∧ (1 ≤ m ∧ m ≤ 3)
  · obtain ⟨n, rfl⟩ : ∃ n : Nat, a = n := ⟨a.toNat, by omega⟩
    obtain ⟨n', rfl⟩ : ∃ n' : Nat, b = n' := ⟨b.toNat, by omega⟩
    by_cases hp : p < 0 ∨ p > lastT l n
    · exact ⟨_, _, to_range hl hs n n' p m (by omega) (by omega) (by omega) (by omega) h.2.2 hp⟩
    · obtain ⟨j, hj, h1, _⟩ | ⟨_, h1, _⟩ := to_edge hl hs n p m (by omega) (by omega) h.2.2 (by omega) (by omega)
      · exact ⟨_, _, h1 n' (by omega) (by omega)⟩
      · exact ⟨_, _, h1 n' (by omega) (by omega)⟩
  · exact ⟨_, _, to_bad a p b m h⟩
/-- Places in order are answered in order. -/
theorem to_mono {l : List Int} (hl : Bytes l) (hs : Wide l) (a p q b m v u : Int) (hv : rule_To.f l a p b m = some (v, 0)) (hu : rule_To.f l a q b m = some (u, 0)) (h : p ≤ q) : v ≤ u := by
  by_cases hg : (1 ≤ a ∧ a ≤ 3) ∧ (1 ≤ b ∧ b ≤ 3) ∧ (1 ≤ m ∧ m ≤ 3)
  · obtain ⟨n, rfl⟩ : ∃ n : Nat, a = n := ⟨a.toNat, by omega⟩
    obtain ⟨n', rfl⟩ : ∃ n' : Nat, b = n' := ⟨b.toNat, by omega⟩
    by_cases hp : p < 0 ∨ p > lastT l n
    · rw [to_range hl hs n n' p m (by omega) (by omega) (by omega) (by omega) hg.2.2 hp] at hv
      simp at hv
    by_cases hq : q < 0 ∨ q > lastT l n
    · rw [to_range hl hs n n' q m (by omega) (by omega) (by omega) (by omega) hg.2.2 hq] at hu
      simp at hu
    obtain ⟨j, hj, h1, h2, h3, h4, h5, h6⟩ | ⟨_, h1, _⟩ := to_edge hl hs n p m (by omega) (by omega) hg.2.2 (by omega) (by omega)
    · obtain ⟨i, hi, k1, k2, k3, k4, k5, k6⟩ | ⟨_, k1, _⟩ := to_edge hl hs n q m (by omega) (by omega) hg.2.2 (by omega) (by omega)
      · rw [h1 n' (by omega) (by omega)] at hv
        rw [k1 n' (by omega) (by omega)] at hu
        simp only [Option.some.injEq, Prod.mk.injEq, and_true] at hv hu
        subst hv hu
        refine pick_mono hl hs n' (by omega) (by omega) hj hi ?_
        rcases Nat.lt_or_ge i j with c | c
        · exfalso
          have a1 := h5 i hi c
          have a2 := k6 j hj c
          rcases (show m = 1 ∨ m = 2 ∨ m = 3 by omega) with e | e | e
          · have := h2 e
            omega
          · have := k3 e
            omega
          · have := h4 e
            omega
        · exact c
      · rw [k1 n' (by omega) (by omega)] at hu
        simp at hu
    · rw [h1 n' (by omega) (by omega)] at hv
      simp at hv
  · rw [to_bad a p b m hg] at hv
    simp at hv

/-- A place in bytes that To answers with. -/
theorem to_byte {l : List Int} (hl : Bytes l) (hs : Wide l) (a p m v : Int) (hv : rule_To.f l a p 1 m = some (v, 0)) : 0 ≤ v ∧ v ≤ l.length := by
  by_cases hg : (1 ≤ a ∧ a ≤ 3) ∧ (1 ≤ (1 : Int) ∧ (1 : Int) ≤ 3) ∧ (1 ≤ m ∧ m ≤ 3)
  · obtain ⟨n, rfl⟩ : ∃ n : Nat, a = n := ⟨a.toNat, by omega⟩
    by_cases hp : p < 0 ∨ p > lastT l n
    · have := to_range hl hs n 1 p m (by omega) (by omega) (by omega) (by omega) hg.2.2 hp
      rw [show (((1 : Nat) : Int)) = 1 from rfl] at this
      rw [this] at hv
      simp at hv
    obtain ⟨j, hj, h1, _⟩ | ⟨_, h1, _⟩ := to_edge hl hs n p m (by omega) (by omega) hg.2.2 (by omega) (by omega)
    · have := h1 1 (by omega) (by omega)
      rw [show (((1 : Nat) : Int)) = 1 from rfl] at this
      rw [this] at hv
      simp only [Option.some.injEq, Prod.mk.injEq, and_true] at hv
      subst hv
      obtain ⟨e, he, hel2, hei⟩ := byte_edge hl hs (List.mem_map.2 ⟨_, List.getElem_mem hj, rfl⟩ : pickE (edgesL l)[j] 1 ∈ tabL l 1)
      omega
    · have := h1 1 (by omega) (by omega)
      rw [show (((1 : Nat) : Int)) = 1 from rfl] at this
      rw [this] at hv
      simp at hv
  · rw [to_bad a p 1 m hg] at hv
    simp at hv
/-- To within the text has no other error than inside. -/
theorem to_err {l : List Int} (hl : Bytes l) (hs : Wide l) (n n' : Nat) (p m : Int) (n1 : 1 ≤ n) (n3 : n ≤ 3) (m1 : 1 ≤ n') (m3 : n' ≤ 3) (hm : 1 ≤ m ∧ m ≤ 3) (hp0 : 0 ≤ p) (hp1 : p ≤ lastT l n) : ∃ v e, rule_To.f l n p n' m = some (v, e) ∧ (e = 0 ∨ e = 4) := by
  obtain ⟨j, hj, h1, _⟩ | ⟨_, h1, _⟩ := to_edge hl hs n p m n1 n3 hm hp0 hp1
  · exact ⟨_, _, h1 n' m1 m3, .inl rfl⟩
  · exact ⟨_, _, h1 n' m1 m3, .inr rfl⟩

/-- What the document cuts out, in the shape of its text. -/
def refCut.f (k : Nat) (l : List Int) (r lo hi m : Int) : Option (List Int × Int) :=
  (galleyref06_Ruler.f r).bind fun a => (galleyref06_Mode.f m).bind fun c => if a = true ∧ c = true then
    ((galleyref06_Size.f k l r).bind fun size => if lo < 0 ∨ lo > hi ∨ hi > size then some ([], 2) else
      (galleyref06_To.f k l r lo 1 m).bind fun x => if x.2 = 0 then
        ((galleyref06_To.f k l r hi 1 m).bind fun y => if y.2 = 0 then (if 0 ≤ x.1 ∧ x.1 ≤ y.1 ∧ y.1 ≤ l.length then some ((l.take y.1.toNat).drop x.1.toNat, 0) else none) else some ([], y.2)) else some ([], x.2))
    else some ([], 3)
theorem cut_agrees {l : List Int} (hl : Bytes l) (hs : Small l) (r lo hi m : Int) : ∃ v, Ev (fun k => rule_Cut.f k l r lo hi m) v ∧ Ev (fun k => refCut.f k l r lo hi m) v := by
  have hs' := hs
  unfold Small at hs'
  by_cases hg : (1 ≤ r ∧ r ≤ 3) ∧ (1 ≤ m ∧ m ≤ 3)
  · obtain ⟨n, rfl⟩ : ∃ n : Nat, r = n := ⟨r.toNat, by omega⟩
    have hsz : rule_size.f l n = some (lastT l n) := by
      unfold rule_size.f
      rw [if_pos (by omega), if_pos (by omega), Int.toNat_natCast, last_pick hl n (by omega) (by omega)]
    have head : ∀ v, Ev (fun k => rule_Cut.j0 k l n lo hi m false) v → Ev (fun k => rule_Cut.f k l n lo hi m) v := by
      intro v hv
      refine Ev.congr (fun k => ?_) hv
      unfold rule_Cut.f
      simp only [rul_iff, mode_iff, Option.bind_some, decide_eq_true_eq]
      rw [if_pos hg.1, decide_eq_true hg.2]
      rfl
    have head' : ∀ v, Ev (fun k => (galleyref06_Size.f k l n).bind fun size => if lo < 0 ∨ lo > hi ∨ hi > size then some ([], 2) else
      (galleyref06_To.f k l n lo 1 m).bind fun x => if x.2 = 0 then
        ((galleyref06_To.f k l n hi 1 m).bind fun y => if y.2 = 0 then (if 0 ≤ x.1 ∧ x.1 ≤ y.1 ∧ y.1 ≤ l.length then some ((l.take y.1.toNat).drop x.1.toNat, 0) else none) else some ([], y.2)) else some ([], x.2)) v → Ev (fun k => refCut.f k l n lo hi m) v := by
      intro v hv
      refine Ev.congr (fun k => ?_) hv
      unfold refCut.f
      simp only [ref_rul, ref_mode, Option.bind_some, decide_eq_true_eq]
      rw [if_pos ⟨hg.1, hg.2⟩]
    by_cases hr : lo < 0 ∨ lo > hi ∨ hi > lastT l n
    · refine ⟨([], 2), head _ (Ev.step (G := fun _ => some ([], 2)) (fun k => ?_) (Ev.pure _)), head' _ (Ev.bind (ev_size hl hs n (by omega) (by omega)) (Ev.ite_pos hr (Ev.pure _)))⟩
      simp only [rule_Cut.j0, Bool.false_eq_true, if_false]
      by_cases c1 : lo < 0
      · rw [if_pos c1]
      rw [if_neg c1]
      by_cases c2 : lo > hi
      · rw [if_pos c2]
      rw [if_neg c2, hsz, Option.bind_some, if_pos (by omega)]
    · obtain ⟨x, e, hx, hxe⟩ := to_err hl hs.wide n 1 lo m (by omega) (by omega) (by omega) (by omega) hg.2 (by omega) (by omega)
      obtain ⟨y, f, hy, hye⟩ := to_err hl hs.wide n 1 hi m (by omega) (by omega) (by omega) (by omega) hg.2 (by omega) (by omega)
      rw [show (((1 : Nat) : Int)) = 1 from rfl] at hx hy
      obtain ⟨_, tx, rx⟩ := to_agrees hl hs n lo 1 m
      obtain ⟨_, ty, ry⟩ := to_agrees hl hs n hi 1 m
      rw [hx] at tx
      rw [hy] at ty
      obtain rfl := Option.some.inj tx
      obtain rfl := Option.some.inj ty
      have step1 : ∀ v, Ev (fun k => (if e = 0 then (if f = 0 then (if 0 ≤ x then (if x ≤ y then (if y ≤ (l.length : Int) then (if ((l.take y.toNat).drop x.toNat).length < 140737488355328 then some ((l.take y.toNat).drop x.toNat, (0 : Int)) else none) else none) else none) else none) else some ([], 4)) else some ([], 4))) v → Ev (fun k => rule_Cut.j0 k l n lo hi m false) v := by
        intro v hv
        refine Ev.step (fun k => ?_) hv
        simp only [rule_Cut.j0, Bool.false_eq_true, if_false]
        rw [if_neg (by omega), if_neg (by omega), hsz, Option.bind_some, if_neg (by omega), hx, hy]
        simp only [Option.bind_some, List.length_nil, Nat.zero_add, List.nil_append]
      by_cases ce : e = 0
      · subst ce
        by_cases cf : f = 0
        · subst cf
          have hxy := to_mono hl hs.wide n lo hi 1 m x y hx hy (by omega)
          have bx := to_byte hl hs.wide n lo m x hx
          have by_ := to_byte hl hs.wide n hi m y hy
          refine ⟨((l.take y.toNat).drop x.toNat, 0), head _ (step1 _ (Ev.of ?_)), head' _ (Ev.bind (ev_size hl hs n (by omega) (by omega)) (Ev.ite_neg hr (Ev.bind rx (Ev.ite_pos rfl (Ev.bind ry (Ev.ite_pos rfl (Ev.ite_pos ⟨bx.1, hxy, by_.2⟩ (Ev.pure _))))))))⟩
          rw [if_pos rfl, if_pos rfl, if_pos bx.1, if_pos hxy, if_pos by_.2, if_pos]
          have : ((l.take y.toNat).drop x.toNat).length ≤ l.length := by simp; omega
          omega
        · obtain rfl : f = 4 := by omega
          exact ⟨([], 4), head _ (step1 _ (Ev.of (by rw [if_pos rfl, if_neg (by decide)]))), head' _ (Ev.bind (ev_size hl hs n (by omega) (by omega)) (Ev.ite_neg hr (Ev.bind rx (Ev.ite_pos rfl (Ev.bind ry (Ev.ite_neg (show ¬ ((4 : Int) = 0) by decide) (Ev.pure _)))))))⟩
      · obtain rfl : e = 4 := by omega
        exact ⟨([], 4), head _ (step1 _ (Ev.of (by rw [if_neg (by decide)]))), head' _ (Ev.bind (ev_size hl hs n (by omega) (by omega)) (Ev.ite_neg hr (Ev.bind rx (Ev.ite_neg (show ¬ ((4 : Int) = 0) by decide) (Ev.pure _)))))⟩
  · refine ⟨([], 3), ?_, ?_⟩
    · have : ∀ b : Bool, b = true → Ev (fun k => rule_Cut.j0 k l r lo hi m b) ([], 3) := fun b hb => by
        subst hb
        exact Ev.step (G := fun _ => some ([], 3)) (fun k => by simp only [rule_Cut.j0, if_true]) (Ev.pure _)
      unfold rule_Cut.f
      simp only [rul_iff, mode_iff, Option.bind_some, decide_eq_true_eq]
      by_cases c1 : 1 ≤ r ∧ r ≤ 3
      · refine Ev.ite_pos c1 (this _ ?_)
        rw [decide_eq_false (fun c2 => hg ⟨c1, c2⟩)]
        rfl
      · exact Ev.ite_neg c1 (this _ rfl)
    · unfold refCut.f
      simp only [ref_rul, ref_mode, Option.bind_some, decide_eq_true_eq]
      exact Ev.ite_neg hg (Ev.pure _)
end Go.Proofs.YtbomhpfckplgaaaDoor.P
