/- The document's widths (layer 1) and edges (layer 4), in plain terms. -/
import Derived.Test.YtbomhpfckplgaaaDoorV
import Derived.Test.YtbomhpfckplgaaaDoorPx23
namespace Go.Proofs.YtbomhpfckplgaaaDoor.P
open Go Go.RowKit Go.Proofs.YtbomhpfckplgaaaDoorW.PrintWords Go.Proofs.YtbomhpfckplgaaaDoorW.PrintMore Utf
set_option linter.unusedVariables false
set_option linter.unusedSimpArgs false

def classP (a : Int) : Int := if a < 128 then 1 else if a < 192 then 2 else if a < 194 then 6 else if a < 224 then 3 else if a < 240 then 4 else if a < 245 then 5 else 6
def needP (a : Int) : Nat := if a < 128 then 1 else if a < 194 then 0 else if a < 224 then 2 else if a < 240 then 3 else if a < 245 then 4 else 0
theorem class_is (a : Int) : galleyref01_Class.f a = some (classP a) := by
  unfold galleyref01_Class.f classP
  repeat' split
  all_goals rfl
theorem need_is (a : Int) : galleyref01_Need.f a = some (needP a : Int) := by
  unfold galleyref01_Need.f
  rw [class_is, Option.bind_some]
  unfold classP needP
  repeat' split
  all_goals first | rfl | omega
theorem class_tail {y : Int} (h0 : 0 ≤ y) : classP y = 2 ↔ tail y := by
  unfold classP tail
  repeat' split
  all_goals omega
/-- May this byte stand second? -/
def secondP (a b : Int) : Prop := 2 ≤ needP a ∧ tail b ∧ (a = 224 → 160 ≤ b) ∧ (a = 237 → b ≤ 159) ∧ (a = 240 → 144 ≤ b) ∧ (a = 244 → b ≤ 143)
instance (a b : Int) : Decidable (secondP a b) := by unfold secondP; infer_instance
theorem second_is (a b : Int) (hb : 0 ≤ b) (k : Nat) : galleyref01_Second.f (k + 1) a b = some (decide (secondP a b)) := by
  have ht := class_tail hb
  unfold galleyref01_Second.f
  rw [need_is, Option.bind_some]
  by_cases c : (needP a : Int) < 2
  · rw [if_pos c, decide_eq_false (fun h => by have := h.1; omega)]
    simp only [galleyref01_Second.j0, if_true]
  · rw [if_neg c, class_is, Option.bind_some]
    by_cases t : classP b = 2
    · have hb2 : (classP b != 2) = false := by simp [t]
      have htb := ht.1 t
      rw [hb2]
      simp only [galleyref01_Second.j0, Bool.false_eq_true, if_false]
      by_cases e1 : a = 224
      · rw [if_pos e1]
        congr 1
        apply decide_eq_decide.2
        exact ⟨fun h => ⟨by omega, htb, fun _ => h, by omega, by omega, by omega⟩, fun h => h.2.2.1 e1⟩
      rw [if_neg e1]
      by_cases e2 : a = 237
      · rw [if_pos e2]
        congr 1
        apply decide_eq_decide.2
        exact ⟨fun h => ⟨by omega, htb, by omega, fun _ => h, by omega, by omega⟩, fun h => h.2.2.2.1 e2⟩
      rw [if_neg e2]
      by_cases e3 : a = 240
      · rw [if_pos e3]
        congr 1
        apply decide_eq_decide.2
        exact ⟨fun h => ⟨by omega, htb, by omega, by omega, fun _ => h, by omega⟩, fun h => h.2.2.2.2.1 e3⟩
      rw [if_neg e3]
      by_cases e4 : a = 244
      · rw [if_pos e4]
        congr 1
        apply decide_eq_decide.2
        exact ⟨fun h => ⟨by omega, htb, by omega, by omega, by omega, fun _ => h⟩, fun h => h.2.2.2.2.2 e4⟩
      rw [if_neg e4, decide_eq_true (show secondP a b from ⟨by omega, htb, by omega, by omega, by omega, by omega⟩)]
    · have hb2 : (classP b != 2) = true := by simp [t]
      rw [hb2, decide_eq_false (fun h => t (ht.2 h.2.1))]
      simp only [galleyref01_Second.j0, if_true]
theorem begins_tail (s : List Int) (hs : ∀ x ∈ s, 0 ≤ x) (hl : s.length ≤ 4) : ∀ (d i k : Nat), s.length - i ≤ d → galleyref01_Begins.l0 (k + d + 1) s (i : Int) = some (decide (∀ j (h : j < s.length), i ≤ j → tail s[j]))
  | 0, i, k, hd => by
    conv => lhs; unfold galleyref01_Begins.l0
    rw [if_neg (by omega), decide_eq_true (fun j h hij => by omega)]
  | d + 1, i, k, hd => by
    by_cases c : i < s.length
    · conv => lhs; unfold galleyref01_Begins.l0
      have hr : rd s (i : Int) = s[i] := rd_nat s i c
      rw [if_pos (by omega), if_pos (by omega), hr, class_is, Option.bind_some]
      have ht := class_tail (hs _ (List.getElem_mem c))
      by_cases t : classP s[i] = 2
      · rw [if_pos t, w64 (n := (i : Int) + 1) (by omega) (by omega)]
        have ih := begins_tail s hs hl d (i + 1) k (by omega)
        rw [show k + (d + 1) = k + d + 1 by omega]
        refine Eq.trans ih ?_
        congr 1
        apply decide_eq_decide.2
        refine ⟨fun h j hj hij => ?_, fun h j hj hij => h j hj (by omega)⟩
        rcases Nat.eq_or_lt_of_le hij with e | e
        · subst e
          exact ht.1 t
        · exact h j hj (by omega)
      · rw [if_neg t, decide_eq_false (fun h => t (ht.2 (h i c (Nat.le_refl _))))]
    · conv => lhs; unfold galleyref01_Begins.l0
      rw [if_neg (by omega), decide_eq_true (fun j h hij => by omega)]
/-- Whole: of as many bytes as the first one needs. -/
theorem ev_whole (s : List Int) (hs : ∀ x ∈ s, 0 ≤ x) (h1 : 1 ≤ s.length) (h4 : s.length ≤ 4) (hn : s.length = needP (s[0]'(by omega))) :
    Ev (fun k => galleyref01_Whole.f k s) (decide ((∀ h : 1 < s.length, secondP (s[0]'(by omega)) s[1]) ∧ (∀ j (h : j < s.length), 2 ≤ j → tail s[j]))) := by
  have h0 : rd s 0 = s[0]'(by omega) := rd_nat s 0 (by omega)
  have beg : Ev (fun k => galleyref01_Begins.f k s) (decide ((∀ h : 1 < s.length, secondP (s[0]'(by omega)) s[1]) ∧ (∀ j (h : j < s.length), 2 ≤ j → tail s[j]))) := by
    have hj1 : Ev (fun k => galleyref01_Begins.j1 k s) (decide (∀ j (h : j < s.length), 2 ≤ j → tail s[j])) := by
      refine Ev.step (G := fun k => galleyref01_Begins.l0 k s 2) (fun k => by simp only [galleyref01_Begins.j1]) ⟨s.length + 1, fun k hk => ?_⟩
      have := begins_tail s hs h4 s.length 2 (k - (s.length + 1)) (by omega)
      rw [show k - (s.length + 1) + s.length + 1 = k by omega] at this
      exact this
    unfold galleyref01_Begins.f
    refine Ev.ite_neg (by omega) (Ev.ite_pos (by omega) ?_)
    simp only [h0, need_is, Option.bind_some]
    rw [decide_eq_false (show ¬ (s.length : Int) > (needP (s[0]'(by omega)) : Int) by omega)]
    by_cases c : 1 < s.length
    · have hr1 : rd s 1 = s[1] := rd_nat s 1 c
      refine Ev.step (G := fun k => (galleyref01_Second.f k (s[0]'(by omega)) s[1]).bind fun t811 => (if t811 = true then (galleyref01_Begins.j1 k s) else (some false))) (fun k => ?_) ?_
      · simp only [galleyref01_Begins.j0, Bool.false_eq_true, if_false]
        rw [if_pos (by omega), if_pos (by omega), if_pos (by omega), h0, hr1]
      · refine Ev.bind (⟨1, fun k hk => by obtain ⟨i, rfl⟩ : ∃ i, k = i + 1 := ⟨k - 1, by omega⟩; exact second_is _ _ (hs _ (List.getElem_mem c)) i⟩ : Ev (fun k => galleyref01_Second.f k (s[0]'(by omega)) s[1]) (decide (secondP (s[0]'(by omega)) s[1]))) ?_
        by_cases g : secondP (s[0]'(by omega)) s[1]
        · rw [decide_eq_true g]
          refine Ev.ite_pos rfl ?_
          have e : decide ((∀ h : 1 < s.length, secondP (s[0]'(by omega)) s[1]) ∧ (∀ j (h : j < s.length), 2 ≤ j → tail s[j])) = decide (∀ j (h : j < s.length), 2 ≤ j → tail s[j]) := decide_eq_decide.2 ⟨fun h => h.2, fun h => ⟨fun _ => g, h⟩⟩
          rw [e]
          exact hj1
        · rw [decide_eq_false g, decide_eq_false (fun h => g (h.1 c))]
          exact Ev.ite_neg (by simp) (Ev.pure _)
    · refine Ev.step (G := fun k => galleyref01_Begins.j1 k s) (fun k => ?_) ?_
      · simp only [galleyref01_Begins.j0, Bool.false_eq_true, if_false]
        rw [if_neg (by omega)]
      · have e : decide ((∀ h : 1 < s.length, secondP (s[0]'(by omega)) s[1]) ∧ (∀ j (h : j < s.length), 2 ≤ j → tail s[j])) = decide (∀ j (h : j < s.length), 2 ≤ j → tail s[j]) := decide_eq_decide.2 ⟨fun h => h.2, fun h => ⟨fun h_ => absurd h_ c, h⟩⟩
        rw [e]
        exact hj1
  unfold galleyref01_Whole.f
  refine Ev.bind beg ?_
  generalize decide ((∀ h : 1 < s.length, secondP (s[0]'(by omega)) s[1]) ∧ (∀ j (h : j < s.length), 2 ≤ j → tail s[j])) = b
  cases b with
  | false => exact Ev.ite_neg (by simp) (Ev.pure _)
  | true =>
    refine Ev.ite_pos rfl (Ev.ite_pos (by omega) (Ev.of ?_))
    rw [h0, need_is, Option.bind_some]
    congr 1
    rw [beq_iff_eq]
    omega
theorem long4_need {x y z w : Int} (h0 : 0 ≤ x) (h1 : x ≤ 255) : long4 x y z w = 0 ∨ long4 x y z w = needP x := by
  unfold long4
  by_cases c1 : 0 ≤ x ∧ x ≤ 0x7f
  · rw [if_pos c1]
    right
    unfold needP
    rw [if_pos (by omega)]
  rw [if_neg c1]
  by_cases c2 : (0xc2 ≤ x ∧ x ≤ 0xdf) ∧ tail y
  · rw [if_pos c2]
    right
    unfold needP
    rw [if_neg (by omega), if_neg (by omega), if_pos (by omega)]
  rw [if_neg c2]
  by_cases c3 : tail z ∧ three x y
  · rw [if_pos c3]
    right
    have := c3.2
    unfold three at this
    unfold needP
    rw [if_neg (by omega), if_neg (by omega), if_neg (by omega), if_pos (by omega)]
  rw [if_neg c3]
  by_cases c4 : tail z ∧ tail w ∧ four x y
  · rw [if_pos c4]
    right
    have := c4.2.2
    unfold four at this
    unfold needP
    rw [if_neg (by omega), if_neg (by omega), if_neg (by omega), if_neg (by omega), if_pos (by omega)]
  · rw [if_neg c4]
    exact .inl rfl
theorem three_second {x y : Int} (h : 224 ≤ x ∧ x ≤ 239) : three x y ↔ secondP x y := by
  unfold three secondP needP tail
  rw [if_neg (by omega), if_neg (by omega), if_neg (by omega), if_pos (by omega)]
  omega
theorem four_second {x y : Int} (h : 240 ≤ x ∧ x ≤ 244) : four x y ↔ secondP x y := by
  unfold four secondP needP tail
  rw [if_neg (by omega), if_neg (by omega), if_neg (by omega), if_neg (by omega), if_pos (by omega)]
  omega
theorem long4_iff {x y z w : Int} (h0 : 0 ≤ x) (h1 : x ≤ 255) (hn : 1 ≤ needP x) : long4 x y z w = needP x ↔ ((2 ≤ needP x → secondP x y) ∧ (3 ≤ needP x → tail z) ∧ (4 ≤ needP x → tail w)) := by
  by_cases r1 : x < 128
  · have e : needP x = 1 := by unfold needP; rw [if_pos r1]
    have g : long4 x y z w = 1 := by unfold long4; rw [if_pos ⟨h0, by omega⟩]
    rw [e, g]
    exact ⟨fun _ => ⟨by omega, by omega, by omega⟩, fun _ => rfl⟩
  by_cases r2 : x < 194
  · exfalso
    unfold needP at hn
    rw [if_neg r1, if_pos r2] at hn
    omega
  by_cases r3 : x < 224
  · have e : needP x = 2 := by unfold needP; rw [if_neg r1, if_neg r2, if_pos r3]
    have ht : secondP x y ↔ tail y := by
      unfold secondP
      rw [e]
      exact ⟨fun h => h.2.1, fun h => ⟨by omega, h, by omega, by omega, by omega, by omega⟩⟩
    rw [e, ht]
    unfold long4
    rw [if_neg (by omega)]
    by_cases t : tail y
    · rw [if_pos ⟨⟨by omega, by omega⟩, t⟩]
      exact ⟨fun _ => ⟨fun _ => t, by omega, by omega⟩, fun _ => rfl⟩
    · rw [if_neg (fun h => t h.2), if_neg (fun h => by have := h.2; unfold three at this; omega), if_neg (fun h => by have := h.2.2; unfold four at this; omega)]
      exact ⟨fun h => by omega, fun h => absurd (h.1 (by omega)) t⟩
  by_cases r4 : x < 240
  · have e : needP x = 3 := by unfold needP; rw [if_neg r1, if_neg r2, if_neg r3, if_pos r4]
    have ht := three_second (x := x) (y := y) ⟨by omega, by omega⟩
    rw [e]
    unfold long4
    rw [if_neg (by omega), if_neg (by omega)]
    by_cases t : tail z ∧ three x y
    · rw [if_pos t]
      exact ⟨fun _ => ⟨fun _ => ht.1 t.2, fun _ => t.1, by omega⟩, fun _ => rfl⟩
    · rw [if_neg t, if_neg (fun h => by have := h.2.2; unfold four at this; omega)]
      exact ⟨fun h => by omega, fun h => absurd ⟨h.2.1 (by omega), ht.2 (h.1 (by omega))⟩ t⟩
  by_cases r5 : x < 245
  · have e : needP x = 4 := by unfold needP; rw [if_neg r1, if_neg r2, if_neg r3, if_neg r4, if_pos r5]
    have ht := four_second (x := x) (y := y) ⟨by omega, by omega⟩
    rw [e]
    unfold long4
    rw [if_neg (by omega), if_neg (by omega), if_neg (fun h => by have := h.2; unfold three at this; omega)]
    by_cases t : tail z ∧ tail w ∧ four x y
    · rw [if_pos t]
      exact ⟨fun _ => ⟨fun _ => ht.1 t.2.2, fun _ => t.1, fun _ => t.2.1⟩, fun _ => rfl⟩
    · rw [if_neg t]
      exact ⟨fun h => by omega, fun h => absurd ⟨h.2.1 (by omega), h.2.2 (by omega), ht.2 (h.1 (by omega))⟩ t⟩
  · exfalso
    unfold needP at hn
    rw [if_neg r1, if_neg r2, if_neg r3, if_neg r4, if_neg r5] at hn
    omega
/-- The document's width is the step's. -/
theorem ev_width {l : List Int} (hl : Bytes l) (hs : Small l) (p : Nat) (hp : p < l.length) : Ev (fun k => galleyref01_Width.f k l (p : Int)) (width l p : Int) := by
  have hs' := hs
  unfold Small at hs'
  have hb := at_byte hl hp
  have hx : rd l (p : Int) = at_ l p := rd_at hp
  obtain ⟨n, hn⟩ : ∃ n, needP (at_ l p) = n := ⟨_, rfl⟩
  have hn4 : n ≤ 4 := by
    rw [← hn]
    unfold needP
    repeat' split
    all_goals omega
  have hcase : long l p = 0 ∨ long l p = n := by rw [← hn]; exact long4_need hb.1 hb.2
  have w1 : long l p = 0 → (width l p : Int) = 1 := fun h => by unfold width; rw [if_pos h]; rfl
  unfold galleyref01_Width.f
  refine Ev.ite_pos (by omega) (Ev.ite_pos (by omega) ?_)
  simp only [hx, need_is, Option.bind_some, hn]
  by_cases c1 : (n : Int) ≥ 1
  case neg =>
    have h0 : long l p = 0 := by omega
    rw [w1 h0]
    exact Ev.ite_neg c1 (Ev.pure _)
  refine Ev.ite_pos c1 ?_
  have hw : wrap64 ((p : Int) + (n : Int)) = ((p + n : Nat) : Int) := by
    rw [w64 (by omega) (by omega)]
    rfl
  rw [hw]
  by_cases c2 : p + n ≤ l.length
  case neg =>
    have h0 : long l p = 0 := by
      rcases hcase with h | h
      · exact h
      · have := long_end (b := l) (p := p) (by omega)
        omega
    rw [w1 h0]
    exact Ev.ite_neg (by omega) (Ev.pure _)
  refine Ev.ite_pos (by omega) (Ev.ite_pos (by omega) ?_)
  rw [Int.toNat_natCast, Int.toNat_natCast]
  obtain ⟨s, hsd⟩ : ∃ s, (l.take (p + n)).drop p = s := ⟨_, rfl⟩
  have hlen : s.length = n := by rw [← hsd]; simp; omega
  have hget : ∀ j (h : j < s.length), s[j] = at_ l (p + j) := fun j h => by
    subst hsd
    rw [List.getElem_drop, List.getElem_take, ← at_nat]
  have hpos : ∀ x ∈ s, 0 ≤ x := fun x hx => by
    obtain ⟨j, hj, rfl⟩ := List.mem_iff_getElem.1 hx
    rw [hget j hj]
    exact (at_byte hl (by omega)).1
  have h0 : s[0]'(by omega) = at_ l p := hget 0 (by omega)
  have hw2 := ev_whole s hpos (by omega) (by omega) (by rw [h0, hn, hlen])
  have hiff := long4_iff (y := at_ l (p + 1)) (z := at_ l (p + 2)) (w := at_ l (p + 3)) hb.1 hb.2 (by rw [hn]; omega)
  rw [hn] at hiff
  have hdec : decide ((∀ h : 1 < s.length, secondP (s[0]'(by omega)) s[1]) ∧ (∀ j (h : j < s.length), 2 ≤ j → tail s[j])) = decide (long l p = n) := by
    apply decide_eq_decide.2
    refine Iff.trans ?_ hiff.symm
    constructor
    · rintro ⟨a, b⟩
      refine ⟨fun h => ?_, fun h => ?_, fun h => ?_⟩
      · have := a (by omega)
        rw [h0, hget 1 (by omega)] at this
        exact this
      · have := b 2 (by omega) (by omega)
        rw [hget 2 (by omega)] at this
        exact this
      · have := b 3 (by omega) (by omega)
        rw [hget 3 (by omega)] at this
        exact this
    · rintro ⟨a, b, c⟩
      refine ⟨fun h => ?_, fun j h h2 => ?_⟩
      · rw [h0, hget 1 (by omega)]
        exact a (by omega)
      · rw [hget j h]
        rcases (show j = 2 ∨ j = 3 by omega) with rfl | rfl
        · exact b (by omega)
        · exact c (by omega)
  rw [hdec] at hw2
  rw [hsd]
  refine Ev.bind hw2 ?_
  by_cases c3 : long l p = n
  · rw [decide_eq_true c3]
    have e : (width l p : Int) = n := by
      unfold width
      rw [if_neg (by omega), c3]
    rw [e]
    exact Ev.ite_pos rfl (Ev.pure _)
  · rw [decide_eq_false c3]
    have h0' : long l p = 0 := by omega
    rw [w1 h0']
    exact Ev.ite_neg (by simp) (Ev.pure _)
/-- The document's edges are the places of the steps. -/
theorem ev_edges4_from {l : List Int} (hl : Bytes l) (hs : Small l) : ∀ (n p : Nat) (acc : List Int), p ≤ l.length → l.length - p ≤ n → acc.length ≤ p →
    Ev (fun k => galleyref04_Edges.l0 k l (acc ++ [(p : Int)]) (p : Int)) (acc ++ ((stepsF l n p).map (fun x => (x.1 : Int)) ++ [(l.length : Int)]))
  | 0, p, acc, hp, hn, ha => by
    obtain rfl : p = l.length := by omega
    refine Ev.step (G := fun _ => some (acc ++ [(l.length : Int)])) (fun k => ?_) (Ev.pure _)
    conv => lhs; unfold galleyref04_Edges.l0
    rw [if_neg (by omega)]
  | n + 1, p, acc, hp, hn, ha => by
    have hs' := hs
    unfold Small at hs'
    rw [stepsF_succ]
    by_cases c : p < l.length
    · have hwp := width_pos l p
      have hwe := width_end c
      rw [if_pos c]
      refine Ev.step (G := fun k => (galleyref01_Width.f k l (p : Int)).bind fun t824 => (if (acc ++ [(p : Int)]).length < 17592186044416 then (galleyref04_Edges.l0 k l (acc ++ [(p : Int)] ++ [wrap64 ((p : Int) + t824)]) (wrap64 ((p : Int) + t824))) else (none))) (fun k => ?_) ?_
      · conv => lhs; unfold galleyref04_Edges.l0
        rw [if_pos (by omega)]
      · refine Ev.bind (ev_width hl hs p c) (Ev.ite_pos (by simp; omega) ?_)
        rw [w64 (n := (p : Int) + (width l p : Int)) (by omega) (by omega)]
        have ih := ev_edges4_from hl hs n (p + width l p) (acc ++ [(p : Int)]) hwe (by omega) (by simp; omega)
        rw [List.append_assoc acc [(p : Int)] ((stepsF l n (p + width l p)).map _ ++ _)] at ih
        exact ih
    · rw [if_neg c]
      obtain rfl : p = l.length := by omega
      refine Ev.step (G := fun _ => some (acc ++ [(l.length : Int)])) (fun k => ?_) (Ev.pure _)
      conv => lhs; unfold galleyref04_Edges.l0
      rw [if_neg (by omega)]
theorem ev_edges4 {l : List Int} (hl : Bytes l) (hs : Small l) : Ev (fun k => galleyref04_Edges.f k l) ((stepsL l).map (fun x => (x.1 : Int)) ++ [(l.length : Int)]) := by
  have := ev_edges4_from hl hs l.length 0 [] (Nat.zero_le _) (by omega) (by simp)
  simpa [galleyref04_Edges.f, stepsL] using this
end Go.Proofs.YtbomhpfckplgaaaDoor.P
