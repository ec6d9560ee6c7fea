/- The walk of the document's Cut. -/
import Derived.Test.YtbomhpfckplgaaaDoorHLaw
import Derived.Test.YtbomhpfckplgaaaDoorUi
namespace Go.Proofs.YtbomhpfckplgaaaDoor.P
open Go Go.RowKit Go.Proofs.YtbomhpfckplgaaaDoorW.PrintWords Go.Proofs.YtbomhpfckplgaaaDoorW.PrintLast Go.Proofs.YtbomhpfckplgaaaDoorW.PrintMore
set_option linter.unusedVariables false
set_option linter.unusedSimpArgs false
set_option maxRecDepth 100000
attribute [local go_sem] max2_int min2_int max_two min_two max_three min_three max_four min_four
set_option maxHeartbeats 8000000 in
theorem refCut.calls (k : Nat) (A : Option Addr) (c : Nat) (l : List Int) (r lo hi m : Int) (v : List Int) (n : Int) (w : World) (hr : Kd.C (Kd.int .u8) w A l.length l) (hc : l.length ≤ c) (h : refCut.f k l r lo hi m = some (v, n)) :
    Calls Tryd.prog 40 #[.slice A l.length c, .int .i64 r, .int .i64 lo, .int .i64 hi, .int .i64 m] w fun e w' => ∃ A' c', e = .returned (.tuple #[.slice A' v.length c', .int .i64 n]) ∧ v.length ≤ c' ∧ Kd.C (Kd.int .u8) w' A' v.length v ∧ Below w.heap.size w w' := by
  unfold refCut.f at h
  obtain ⟨a, h1, h⟩ := Option.bind_eq_some_iff.1 h
  obtain ⟨b, h2, h⟩ := Option.bind_eq_some_iff.1 h
  have R1 := Aside0.mk h1
  have R2 := Aside0.mk h2
  have HC := Aside0.mk hc
  have F : Aside0 (Keeps (fun W => Kd.C (Kd.int .u8) W A l.length l ∧ Below w.heap.size w W) w) := ⟨(keeps_C hr).and (keeps_below (Below.refl _ _) (Nat.le_refl _))⟩
  clear h1 h2 hr hc
  cases a with
  | false =>
    simp only [Bool.false_eq_true, false_and, if_false, Option.some.injEq, Prod.mk.injEq] at h
    obtain ⟨rfl, rfl⟩ := h
    go_enter Tryd.func40, Tryd.ntmps40
    go_wp2_with (first | (go_at_call 33; refine (galleyref06_Ruler.calls r _ _ R1.out).mono ?_; rintro e w9 ⟨rfl, hd_⟩; have hb := hd_.below; replace F := Aside0.mk (F.out.next hb); clear hb hd_) | (go_at_call 84; refine (galleyref06_Mode.calls m _ _ R2.out).mono ?_; rintro e w9 ⟨rfl, hd_⟩; have hb := hd_.below; replace F := Aside0.mk (F.out.next hb); clear hb hd_))
    go_ret2
    exact ⟨none, 0, rfl, Nat.le_refl _, ⟨rfl, by decide, fun h => absurd h (by decide)⟩, F.out.here.2⟩
  | true =>
  cases b with
  | false =>
    simp only [Bool.false_eq_true, and_false, if_false, Option.some.injEq, Prod.mk.injEq] at h
    obtain ⟨rfl, rfl⟩ := h
    go_enter Tryd.func40, Tryd.ntmps40
    go_wp2_with (first | (go_at_call 33; refine (galleyref06_Ruler.calls r _ _ R1.out).mono ?_; rintro e w9 ⟨rfl, hd_⟩; have hb := hd_.below; replace F := Aside0.mk (F.out.next hb); clear hb hd_) | (go_at_call 84; refine (galleyref06_Mode.calls m _ _ R2.out).mono ?_; rintro e w9 ⟨rfl, hd_⟩; have hb := hd_.below; replace F := Aside0.mk (F.out.next hb); clear hb hd_))
    go_ret2
    exact ⟨none, 0, rfl, Nat.le_refl _, ⟨rfl, by decide, fun h => absurd h (by decide)⟩, F.out.here.2⟩
  | true =>
  simp only [and_self, if_true] at h
  obtain ⟨s, h3, h⟩ := Option.bind_eq_some_iff.1 h
  have R3 := Aside0.mk h3
  clear h3
  by_cases g : lo < 0 ∨ lo > hi ∨ hi > s
  · rw [if_pos g] at h
    simp only [Option.some.injEq, Prod.mk.injEq] at h
    obtain ⟨rfl, rfl⟩ := h
    by_cases g1 : lo < 0
    · have g1' : decide (lo < 0) = true := decide_eq_true g1
      clear g g1
      go_enter Tryd.func40, Tryd.ntmps40
      go_wp2_with (first | (go_at_call 33; refine (galleyref06_Ruler.calls r _ _ R1.out).mono ?_; rintro e w9 ⟨rfl, hd_⟩; have hb := hd_.below; replace F := Aside0.mk (F.out.next hb); clear hb hd_) | (go_at_call 84; refine (galleyref06_Mode.calls m _ _ R2.out).mono ?_; rintro e w9 ⟨rfl, hd_⟩; have hb := hd_.below; replace F := Aside0.mk (F.out.next hb); clear hb hd_) | (go_at_call 34; refine (galleyref06_Size.calls k A c l r _ _ F.out.here.1 HC.out R3.out).mono ?_; rintro e w9 ⟨rfl, hb⟩; replace F := Aside0.mk (F.out.next hb); clear hb))
      go_ret2
      exact ⟨none, 0, rfl, Nat.le_refl _, ⟨rfl, by decide, fun h => absurd h (by decide)⟩, F.out.here.2⟩
    · have g1' : decide (lo < 0) = false := decide_eq_false g1
      by_cases g2 : lo > hi
      · have g2' : decide (hi < lo) = true := decide_eq_true g2
        clear g g1 g2
        go_enter Tryd.func40, Tryd.ntmps40
        go_wp2_with (first | (go_at_call 33; refine (galleyref06_Ruler.calls r _ _ R1.out).mono ?_; rintro e w9 ⟨rfl, hd_⟩; have hb := hd_.below; replace F := Aside0.mk (F.out.next hb); clear hb hd_) | (go_at_call 84; refine (galleyref06_Mode.calls m _ _ R2.out).mono ?_; rintro e w9 ⟨rfl, hd_⟩; have hb := hd_.below; replace F := Aside0.mk (F.out.next hb); clear hb hd_) | (go_at_call 34; refine (galleyref06_Size.calls k A c l r _ _ F.out.here.1 HC.out R3.out).mono ?_; rintro e w9 ⟨rfl, hb⟩; replace F := Aside0.mk (F.out.next hb); clear hb))
        go_ret2
        exact ⟨none, 0, rfl, Nat.le_refl _, ⟨rfl, by decide, fun h => absurd h (by decide)⟩, F.out.here.2⟩
      · have g2' : decide (hi < lo) = false := decide_eq_false g2
        have g3' : decide (s < hi) = true := decide_eq_true (by omega)
        clear g g1 g2
        go_enter Tryd.func40, Tryd.ntmps40
        go_wp2_with (first | (go_at_call 33; refine (galleyref06_Ruler.calls r _ _ R1.out).mono ?_; rintro e w9 ⟨rfl, hd_⟩; have hb := hd_.below; replace F := Aside0.mk (F.out.next hb); clear hb hd_) | (go_at_call 84; refine (galleyref06_Mode.calls m _ _ R2.out).mono ?_; rintro e w9 ⟨rfl, hd_⟩; have hb := hd_.below; replace F := Aside0.mk (F.out.next hb); clear hb hd_) | (go_at_call 34; refine (galleyref06_Size.calls k A c l r _ _ F.out.here.1 HC.out R3.out).mono ?_; rintro e w9 ⟨rfl, hb⟩; replace F := Aside0.mk (F.out.next hb); clear hb))
        go_ret2
        exact ⟨none, 0, rfl, Nat.le_refl _, ⟨rfl, by decide, fun h => absurd h (by decide)⟩, F.out.here.2⟩
  · rw [if_neg g] at h
    obtain ⟨⟨x, e1⟩, h4, h⟩ := Option.bind_eq_some_iff.1 h
    have R4 := Aside0.mk h4
    have g1' : decide (lo < 0) = false := decide_eq_false (by omega)
    have g2' : decide (hi < lo) = false := decide_eq_false (by omega)
    have g3' : decide (s < hi) = false := decide_eq_false (by omega)
    clear h4 g
    by_cases c1 : e1 = 0
    case neg =>
      rw [if_neg c1] at h
      simp only [Option.some.injEq, Prod.mk.injEq] at h
      obtain ⟨rfl, rfl⟩ := h
      have c1' : (e1 != 0) = true := by simp [c1]
      clear c1
      go_enter Tryd.func40, Tryd.ntmps40
      go_wp2_with (first | (go_at_call 33; refine (galleyref06_Ruler.calls r _ _ R1.out).mono ?_; rintro e w9 ⟨rfl, hd_⟩; have hb := hd_.below; replace F := Aside0.mk (F.out.next hb); clear hb hd_) | (go_at_call 84; refine (galleyref06_Mode.calls m _ _ R2.out).mono ?_; rintro e w9 ⟨rfl, hd_⟩; have hb := hd_.below; replace F := Aside0.mk (F.out.next hb); clear hb hd_) | (go_at_call 34; refine (galleyref06_Size.calls k A c l r _ _ F.out.here.1 HC.out R3.out).mono ?_; rintro e w9 ⟨rfl, hb⟩; replace F := Aside0.mk (F.out.next hb); clear hb) | (go_at_call 38; (first | (with_reducible refine (galleyref06_To.calls k A c l r _ 1 m _ _ _ F.out.here.1 HC.out R4.out).mono ?_)); rintro e w9 ⟨rfl, hb⟩; replace F := Aside0.mk (F.out.next hb); clear hb))
      go_ret2
      exact ⟨none, 0, rfl, Nat.le_refl _, ⟨rfl, by decide, fun h => absurd h (by decide)⟩, F.out.here.2⟩
    subst c1
    rw [if_pos rfl] at h
    obtain ⟨⟨y, e2⟩, h5, h⟩ := Option.bind_eq_some_iff.1 h
    have R5 := Aside0.mk h5
    clear h5
    by_cases c2 : e2 = 0
    case neg =>
      rw [if_neg c2] at h
      simp only [Option.some.injEq, Prod.mk.injEq] at h
      obtain ⟨rfl, rfl⟩ := h
      have c2' : (e2 != 0) = true := by simp [c2]
      clear c2
      go_enter Tryd.func40, Tryd.ntmps40
      go_wp2_with (first | (go_at_call 33; refine (galleyref06_Ruler.calls r _ _ R1.out).mono ?_; rintro e w9 ⟨rfl, hd_⟩; have hb := hd_.below; replace F := Aside0.mk (F.out.next hb); clear hb hd_) | (go_at_call 84; refine (galleyref06_Mode.calls m _ _ R2.out).mono ?_; rintro e w9 ⟨rfl, hd_⟩; have hb := hd_.below; replace F := Aside0.mk (F.out.next hb); clear hb hd_) | (go_at_call 34; refine (galleyref06_Size.calls k A c l r _ _ F.out.here.1 HC.out R3.out).mono ?_; rintro e w9 ⟨rfl, hb⟩; replace F := Aside0.mk (F.out.next hb); clear hb) | (go_at_call 38; (first | (with_reducible refine (galleyref06_To.calls k A c l r _ 1 m _ _ _ F.out.here.1 HC.out R4.out).mono ?_) | (with_reducible refine (galleyref06_To.calls k A c l r _ 1 m _ _ _ F.out.here.1 HC.out R5.out).mono ?_)); rintro e w9 ⟨rfl, hb⟩; replace F := Aside0.mk (F.out.next hb); clear hb))
      go_ret2
      exact ⟨none, 0, rfl, Nat.le_refl _, ⟨rfl, by decide, fun h => absurd h (by decide)⟩, F.out.here.2⟩
    subst c2
    rw [if_pos rfl] at h
    by_cases g4 : 0 ≤ x ∧ x ≤ y ∧ y ≤ l.length
    case neg => rw [if_neg g4] at h; cases h
    rw [if_pos g4] at h
    simp only [Option.some.injEq, Prod.mk.injEq] at h
    obtain ⟨rfl, rfl⟩ := h
    obtain ⟨i, hi5, hz⟩ : ∃ i, Tryd.prog.info? 5 = some i ∧ i.size = 1 := ⟨_, rfl, by kernel_rfl⟩
    have hcut := cut_mid (P := Tryd.prog) 22 5 .i64 .i64 Tryd.underlying22 hi5 1 hz A l.length c x y g4.1 g4.2.1 g4.2.2 HC.out
    have hlen : y.toNat - x.toNat = ((l.take y.toNat).drop x.toNat).length := by
      rw [List.length_drop, List.length_take]
      omega
    rw [hlen] at hcut
    have HM : Aside0 (∀ W, Kd.C (Kd.int .u8) W A l.length l → ((l.take y.toNat).drop x.toNat).length ≤ c - x.toNat ∧ Kd.C (Kd.int .u8) W (if c = x.toNat then A else A.map (·.add (x.toNat * 1))) ((l.take y.toNat).drop x.toNat).length ((l.take y.toNat).drop x.toNat)) := ⟨fun W hW => ⟨by have := HC.out; rw [← hlen]; omega, Kd.C_mid hW (by omega) (by omega) HC.out⟩⟩
    generalize (if c = x.toNat then A else A.map (·.add (x.toNat * 1))) = A' at hcut HM
    generalize c - x.toNat = c' at hcut HM
    generalize (l.take y.toNat).drop x.toNat = v at hcut HM ⊢
    clear hlen g4 hi5 hz
    go_enter Tryd.func40, Tryd.ntmps40
    go_wp2_with (first | (go_at_call 33; refine (galleyref06_Ruler.calls r _ _ R1.out).mono ?_; rintro e w9 ⟨rfl, hd_⟩; have hb := hd_.below; replace F := Aside0.mk (F.out.next hb); clear hb hd_) | (go_at_call 84; refine (galleyref06_Mode.calls m _ _ R2.out).mono ?_; rintro e w9 ⟨rfl, hd_⟩; have hb := hd_.below; replace F := Aside0.mk (F.out.next hb); clear hb hd_) | (go_at_call 34; refine (galleyref06_Size.calls k A c l r _ _ F.out.here.1 HC.out R3.out).mono ?_; rintro e w9 ⟨rfl, hb⟩; replace F := Aside0.mk (F.out.next hb); clear hb) | (go_at_call 38; (first | (with_reducible refine (galleyref06_To.calls k A c l r _ 1 m _ _ _ F.out.here.1 HC.out R4.out).mono ?_) | (with_reducible refine (galleyref06_To.calls k A c l r _ 1 m _ _ _ F.out.here.1 HC.out R5.out).mono ?_)); rintro e w9 ⟨rfl, hb⟩; replace F := Aside0.mk (F.out.next hb); clear hb))
    go_ret2
    obtain ⟨m1, m2⟩ := HM.out _ F.out.here.1
    exact ⟨A', c', rfl, m1, m2, F.out.here.2⟩
end Go.Proofs.YtbomhpfckplgaaaDoor.P
