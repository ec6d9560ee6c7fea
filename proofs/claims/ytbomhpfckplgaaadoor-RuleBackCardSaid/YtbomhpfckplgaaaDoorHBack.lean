/- The walk of the statement RuleBack. -/
import Derived.Test.YtbomhpfckplgaaaDoorHLaw
import Derived.Test.YtbomhpfckplgaaaDoorU
namespace Go.Proofs.YtbomhpfckplgaaaDoor.P
open Go Go.RowKit Go.Proofs.YtbomhpfckplgaaaDoorW.PrintWords Go.Proofs.YtbomhpfckplgaaaDoorW.PrintLast Go.Proofs.YtbomhpfckplgaaaDoorW.PrintMore
set_option linter.unusedVariables false
set_option linter.unusedSimpArgs false
set_option maxRecDepth 100000
attribute [local go_sem] max2_int min2_int max_two min_two max_three min_three max_four min_four
def galleylaw06_RuleBack.T3 : Bool × List (List Nat × List Nat) := (true, [([], []), ([0], [0]), ([], []), ([2], [2]), ([1, 0, 1], [1]), ([3, 4, 0, 1, 2, 3, 4], [3])])
def galleylaw06_RuleBack.B3 : List Nat := [0, 1, 0, 4, 3, 31]
theorem galleylaw06_RuleBack.tab3 : rtab .any (opsOf Tryd.f6 3) = galleylaw06_RuleBack.T3 := by kernel_rfl
theorem galleylaw06_RuleBack.bits3 : waitsOk galleylaw06_RuleBack.T3.2 galleylaw06_RuleBack.B3 = true := by kernel_rfl
/-- What the answers must be to one another. -/
def galleylaw06_RuleBack.fits (l : List Int) (p x y : Int) : Prop := l.length ≤ 140737488351232 ∧ ∃ d u ex e g, rule_To.f l x p x 1 = some (d, e) ∧ rule_To.f l x p x 2 = some (u, e) ∧ rule_To.f l x p x 3 = some (ex, g) ∧
  ((e ≠ 0 ∧ g = e ∧ d = 0 ∧ u = 0 ∧ ex = 0) ∨
   (e = 0 ∧ rule_Edge.f l x p = some (g == 0) ∧ d ≤ p ∧ p ≤ u ∧ (d == u) = (g == 0) ∧ (g = 0 → d = p ∧ ex = p) ∧ (∀ q, d < q → q < u → rule_Edge.f l x q = some false) ∧ 0 ≤ d ∧ u < 4611686018427387904 ∧
     ∃ t h, rule_To.f l x p y 1 = some (t, h) ∧ ((galleyref06_Ruler.f y = some false ∧ h = 3) ∨ (galleyref06_Ruler.f y = some true ∧ h = 0 ∧ rule_To.f l y t x 3 = some (d, 0) ∧ rule_To.f l x d y 2 = some (t, 0)))))
open Classical in
noncomputable def galleylaw06_RuleBack.f (k : Nat) (l : List Int) (p x y z : Int) : Option Bool := if galleylaw06_RuleBack.fits l p x y then some true else none
set_option maxHeartbeats 16000000 in
theorem galleylaw06_RuleBack.calls (k : Nat) (A : Option Addr) (c : Nat) (l : List Int) (p x y z : Int) (r : Bool) (w : World) (hr : Kd.C (Kd.int .u8) w A l.length l) (hc : l.length ≤ c) (hG : Laid w) (h : galleylaw06_RuleBack.f k l p x y z = some r) :
    Calls Tryd.prog 6 #[.slice A l.length c, .int .i64 p, .agg #[.int .i64 x, .int .i64 y, .int .i64 z]] w fun e w' => e = .returned (.bool r) ∧ Below w.heap.size w w' := by
  have hu39 := Tryd.underlying39
  unfold galleylaw06_RuleBack.f at h
  by_cases hF : galleylaw06_RuleBack.fits l p x y
  case neg => rw [if_neg hF] at h; cases h
  rw [if_pos hF] at h
  obtain rfl := Option.some.inj h
  obtain ⟨hl, d, u, ex, e, g, t1, t2, t3, hF⟩ := hF
  have HT : Aside0 (∀ W A' c', Kd.C (Kd.int .u8) W A' l.length l → l.length ≤ c' → Laid W → ∀ a q b m v f, rule_To.f l a q b m = some (v, f) → Calls Tryd.prog 37 #[.slice A' l.length c', .int .i64 a, .int .i64 q, .int .i64 b, .int .i64 m] W fun e w' => e = .returned (.tuple #[.int .i64 v, .int .i64 f]) ∧ Below W.heap.size W w') := ⟨fun W A' c' h1 h2 h3 a q b m v f hv => rule_To.calls A' c' l a q b m v f W h1 h2 h3 hv⟩
  have HE : Aside0 (∀ W A' c', Kd.C (Kd.int .u8) W A' l.length l → l.length ≤ c' → Laid W → ∀ a q b, rule_Edge.f l a q = some b → Calls Tryd.prog 31 #[.slice A' l.length c', .int .i64 a, .int .i64 q] W fun e w' => e = .returned (.bool b) ∧ Below W.heap.size W w') := ⟨fun W A' c' h1 h2 h3 a q b hv => rule_Edge.calls A' c' l a q b W h1 h2 h3 hv⟩
  have HO : Aside0 (∀ W, Kd.C (Kd.int .u8) W A l.length l → Calls Tryd.prog 29 #[.slice A l.length c] W fun e w' => ∃ A' c', e = .returned (.slice A' l.length c') ∧ l.length ≤ c' ∧ Kd.C (Kd.int .u8) w' A' l.length l ∧ Below W.heap.size W w') := ⟨fun W h1 => own_any A c l hl W h1 hc⟩
  have T1 := Aside0.mk t1
  have T2 := Aside0.mk t2
  have T3 := Aside0.mk t3
  have HF := Aside0.mk hF
  have HW : Aside0 (∀ W, Below w.heap.size w W → Calls Tryd.prog 27 #[] W fun e w' => e = .returned (.bool true) ∧ Below W.heap.size W w') := ⟨fun W hW => wakes06_any W (hG.below hW)⟩
  have HI : Aside0 (Keeps (fun W => Kd.C (Kd.int .u8) W A l.length l ∧ Laid W ∧ Below w.heap.size w W) w) := ⟨(keeps_C hr).and ((keeps_laid hG).and (keeps_below (Below.refl _ _) (Nat.le_refl _)))⟩
  clear hr hG t1 t2 t3 hF hl hc h
  go_enter Tryd.func6, Tryd.ntmps6
  go_upto_region 3 with (first | ((with_reducible refine gate_dst (N := 5) rfl ?_); refine box_event ?hg (N := 5) ?hd (cs := #[.int .i64 x, .int .i64 y, .int .i64 z]) (t := 39) ?hr ?_; (case hd => rfl); (case hg => rfl); (case hr => first | (go_simp; done) | (go_simp; rfl)); intro g5 hg5 w4 hx5 hb4; clear hg5) | (go_at_call 27; refine (HW.out _ hb4).mono ?_; rintro e w5 ⟨rfl, hb5⟩))
  have F : Aside0 (Keeps (fun W => Kd.C (Kd.int .u8) W A l.length l ∧ Laid W ∧ Below w.heap.size w W ∧ W.cell? ⟨g5, 0, none⟩ = some (.int .i64 x) ∧ W.cell? ⟨g5, 1, none⟩ = some (.int .i64 y) ∧ W.cell? ⟨g5, 2, none⟩ = some (.int .i64 z)) w5) := ⟨by
    have K := (keeps_blk hx5).next hb5
    have I := (HI.out.next hb4).next hb5
    intro W hW
    have k5 := K W hW
    obtain ⟨i1, i2, i3⟩ := I W hW
    exact ⟨i1, i2, i3, (blk_cell k5 0).trans rfl, (blk_cell k5 1).trans rfl, (blk_cell k5 2).trans rfl⟩⟩
  clear HW HI hx5 hb4 hb5
  refine start_ (n := 6) (S := fun w' => Below w5.heap.size w5 w') (ds := []) #[false, false, false, false, false, false] (by kernel_rfl) rfl rfl (Below.refl _ _).drew (fun hHeld => ?_); refine with_tabW galleylaw06_RuleBack.tab3 galleylaw06_RuleBack.bits3 (fun HT_ HW_ => ?_)
  obtain ⟨w6, hZ_⟩ : ∃ Z_, w5.drew = Z_ := ⟨_, rfl⟩
  rw [hZ_] at hHeld ⊢
  clear hZ_
  refine pure_ (i := 0) (N := some 24) (v := ?_) (a' := ?_) #[true, false, false, false, false, false] rfl rfl (any_of HT_.out (by kernel_rfl)) (fun _ _ _ h => h) (Or.inl ⟨by rfl, ?_⟩) ?_ ?_
  rotate_left
  · intro w'
    go_simp
    with_reducible rfl
  rotate_left
  · simp only [Act.put, List.setIfInBounds_toArray, List.set_cons_zero, List.set_cons_succ, i64_w, i32_w]
    rfl
  refine pure_ (i := 2) (N := some 26) (v := ?_) (a' := ?_) #[true, false, true, false, false, false] rfl rfl (any_of HT_.out (by kernel_rfl)) (fun _ _ _ h => h) (Or.inl ⟨by rfl, ?_⟩) ?_ ?_
  rotate_left
  · intro w'
    go_simp
    with_reducible rfl
  rotate_left
  · simp only [Act.put, List.setIfInBounds_toArray, List.set_cons_zero, List.set_cons_succ, i64_w, i32_w]
    rfl
  refine take_ (i := 1) (N := some 25) (v := ?_) (a' := ?_) #[true, true, true, false, false, false] rfl rfl (take_ofW HT_.out HW_.out (by kernel_rfl)) (fun _ _ _ h => h) (Or.inl ⟨by rfl, ?_⟩) hHeld ?_ ?_
  rotate_left
  · intro w' hS_
    obtain ⟨_, _, _, s0, s1, s2⟩ := F.out.of hS_
    go_simp
    with_reducible rfl
  rotate_left
  · simp only [Act.put, List.setIfInBounds_toArray, List.set_cons_zero, List.set_cons_succ, i64_w, i32_w]
    rfl
  refine pure_ (i := 4) (N := some 7) (v := ?_) (a' := ?_) #[true, true, true, false, true, false] rfl rfl (any_of HT_.out (by kernel_rfl)) (fun _ _ _ h => h) (Or.inl ⟨by rfl, ?_⟩) ?_ ?_
  rotate_left
  · intro w'
    go_simp
    with_reducible rfl
  rotate_left
  · simp only [Act.put, List.setIfInBounds_toArray, List.set_cons_zero, List.set_cons_succ, i64_w, i32_w]
    rfl
  refine take_ (i := 3) (N := some 27) (v := ?_) (a' := ?_) #[true, true, true, true, true, false] rfl rfl (take_ofW HT_.out HW_.out (by kernel_rfl)) (fun _ _ _ h => h) (Or.inl ⟨by rfl, ?_⟩) hHeld ?_ ?_
  rotate_left
  · intro w' hS_
    obtain ⟨_, _, _, s0, s1, s2⟩ := F.out.of hS_
    go_simp
    with_reducible rfl
  rotate_left
  · simp only [Act.put, List.setIfInBounds_toArray, List.set_cons_zero, List.set_cons_succ, i64_w, i32_w]
    rfl
  refine pure_ (i := 5) (N := some 8) (v := ?_) (a' := ?_) #[true, true, true, true, true, true] rfl rfl (any_of HT_.out (by kernel_rfl)) (fun _ _ _ h => h) (Or.inl ⟨by rfl, ?_⟩) ?_ ?_
  rotate_left
  · intro w'
    go_simp
    with_reducible rfl
  rotate_left
  · simp only [Act.put, List.setIfInBounds_toArray, List.set_cons_zero, List.set_cons_succ, i64_w, i32_w]
    rfl
  refine done_ (done_of HT_.out (by kernel_rfl)) ?_
  clear HT_ HW_
  replace F := Aside0.mk (F.out.next hHeld)
  clear hHeld
  rcases HF.out with ⟨he, rfl, rfl, rfl, rfl⟩ | ⟨rfl, h1, h2, h3, h4, h5, h6, h7, h8, t, h, t4, h9⟩
  · clear HF
    have he' : (g != 0) = true := by simp [he]
    go_wp2_with (first | (go_at_call 29; refine (HO.out _ F.out.here.1).mono ?_; rintro e w9 ⟨A', c', rfl, hc', hC', hb⟩; replace F := Aside0.mk (F.out.next hb); clear hb; have s0 := F.out.here.2.2.2.1; have s1 := F.out.here.2.2.2.2.1) | (go_at_call 37; (first | (with_reducible refine (HT.out _ A' c' hC' hc' F.out.here.2.1 _ _ _ _ _ _ T1.out).mono ?_) | (with_reducible refine (HT.out _ A' c' hC' hc' F.out.here.2.1 _ _ _ _ _ _ T2.out).mono ?_) | (with_reducible refine (HT.out _ A' c' hC' hc' F.out.here.2.1 _ _ _ _ _ _ T3.out).mono ?_)); rintro e w9 ⟨rfl, hb⟩; replace F := Aside0.mk (F.out.next hb); clear hb hC' hc'; have s0 := F.out.here.2.2.2.1; have s1 := F.out.here.2.2.2.2.1))
    go_ret
    exact ⟨rfl, F.out.here.2.2.1⟩
  · clear HF
    have E1 := Aside0.mk h1
    have E6 := Aside0.mk h6
    have T4 := Aside0.mk t4
    have HN := Aside0.mk (And.intro h7 h8)
    have H9 := Aside0.mk h9
    have H5 := Aside0.mk h5
    clear h1 h6 t4 h7 h8 h9 h5
    have k1 : decide (p < d) = false := decide_eq_false (by omega)
    have k2 : decide (u < p) = false := decide_eq_false (by omega)
    have K4 := Aside0.mk h4
    have HL : Aside0 (d ≤ p ∧ p ≤ u) := ⟨h2, h3⟩
    clear h4 h2 h3
    have hW : wrap64 (d + 1) = d + 1 := by
      have := HN.out
      have := HL.out
      exact w64 (by omega) (by omega)
    have stay : (∃ gb : Bool, (g == 0) = gb ∧ (gb = true → (d != p) = false ∧ (ex != p) = false)) := by
      refine ⟨_, rfl, fun hg => ?_⟩
      have := H5.out (by simpa using hg)
      simp [this.1, this.2]
    obtain ⟨gb, hgb, hgs⟩ := stay
    rw [hgb] at E1
    cases gb with
    | true =>
      obtain ⟨m1, m2⟩ := hgs rfl
      clear hgs
      have k3 : (d == u) = true := K4.out.trans hgb
      clear K4
      go_wp2_with (first | (go_at_call 29; refine (HO.out _ F.out.here.1).mono ?_; rintro e w9 ⟨A', c', rfl, hc', hC', hb⟩; replace F := Aside0.mk (F.out.next hb); clear hb; have s0 := F.out.here.2.2.2.1; have s1 := F.out.here.2.2.2.2.1) | (go_at_call 37; (first | (with_reducible refine (HT.out _ A' c' hC' hc' F.out.here.2.1 _ _ _ _ _ _ T1.out).mono ?_) | (with_reducible refine (HT.out _ A' c' hC' hc' F.out.here.2.1 _ _ _ _ _ _ T2.out).mono ?_) | (with_reducible refine (HT.out _ A' c' hC' hc' F.out.here.2.1 _ _ _ _ _ _ T3.out).mono ?_)); rintro e w9 ⟨rfl, hb⟩; replace F := Aside0.mk (F.out.next hb); clear hb hC' hc'; have s0 := F.out.here.2.2.2.1; have s1 := F.out.here.2.2.2.2.1) | (go_at_call 31; (first | (with_reducible refine (HE.out _ A' c' hC' hc' F.out.here.2.1 _ _ _ E1.out).mono ?_)); rintro e w9 ⟨rfl, hb⟩; replace F := Aside0.mk (F.out.next hb); clear hb hC' hc'; have s0 := F.out.here.2.2.2.1; have s1 := F.out.here.2.2.2.2.1))
      rw [hW]
      clear k1 k2 k3 E1 hW
      go_loopg [15] (u - d).toNat (fun kq v w' => ∃ q : Int, v = .int .i64 q ∧ Aside0 (d < q ∧ (u - q).toNat ≤ kq) ∧ Aside0 (Keeps (fun W => Kd.C (Kd.int .u8) W A l.length l ∧ Laid W ∧ Below w.heap.size w W ∧ W.cell? ⟨g5, 0, none⟩ = some (.int .i64 x) ∧ W.cell? ⟨g5, 1, none⟩ = some (.int .i64 y) ∧ W.cell? ⟨g5, 2, none⟩ = some (.int .i64 z)) w'))
      case atStart => exact ⟨d + 1, rfl, ⟨by omega, by omega⟩, F⟩
      case round =>
        clear F s0 s1
        obtain ⟨q, rfl, HK, F⟩ := hrel
        by_cases cq : q < u
        · have cq' : decide (q < u) = true := decide_eq_true cq
          have E2 := Aside0.mk (E6.out q HK.out.1 cq)
          have hW : wrap64 (q + 1) = q + 1 := by
            have := HN.out
            have := HK.out
            exact w64 (by omega) (by omega)
          have hk : 0 < gk := by
            have := HK.out
            omega
          have HM : Aside0 (∀ n, gk = n + 1 → d < q + 1 ∧ (u - (q + 1)).toNat ≤ n) := ⟨fun n hn => by have := HK.out; omega⟩
          clear HK cq E6
          cases gk with
          | zero => omega
          | succ kk =>
            go_wp2_with (first | (go_at_call 29; refine (HO.out _ F.out.here.1).mono ?_; rintro e w9 ⟨A', c', rfl, hc', hC', hb⟩; replace F := Aside0.mk (F.out.next hb); clear hb; have s0 := F.out.here.2.2.2.1; have s1 := F.out.here.2.2.2.2.1) | (go_at_call 31; (first | (with_reducible refine (HE.out _ A' c' hC' hc' F.out.here.2.1 _ _ _ E2.out).mono ?_)); rintro e w9 ⟨rfl, hb⟩; replace F := Aside0.mk (F.out.next hb); clear hb hC' hc'; have s0 := F.out.here.2.2.2.1; have s1 := F.out.here.2.2.2.2.1))
            rw [hW]
            go_roundg kk
            case measure => omega
            case rel => exact ⟨q + 1, rfl, ⟨HM.out kk rfl⟩, F⟩
        · have cq' : decide (q < u) = false := decide_eq_false cq
          clear cq HK E6 HN hgb
          have s1 := F.out.here.2.2.2.2.1
          rcases H9.out with ⟨r1, rfl⟩ | ⟨r1, rfl, r2, r3⟩
          · have R1 := Aside0.mk r1
            clear r1 H9
            go_wp2_with (first | (go_at_call 29; refine (HO.out _ F.out.here.1).mono ?_; rintro e w9 ⟨A', c', rfl, hc', hC', hb⟩; replace F := Aside0.mk (F.out.next hb); clear hb; have s0 := F.out.here.2.2.2.1; have s1 := F.out.here.2.2.2.2.1) | (go_at_call 37; (first | (with_reducible refine (HT.out _ A' c' hC' hc' F.out.here.2.1 _ _ _ _ _ _ T4.out).mono ?_)); rintro e w9 ⟨rfl, hb⟩; replace F := Aside0.mk (F.out.next hb); clear hb hC' hc'; have s0 := F.out.here.2.2.2.1; have s1 := F.out.here.2.2.2.2.1) | (go_at_call 33; refine (galleyref06_Ruler.calls y _ _ R1.out).mono ?_; rintro e w9 ⟨rfl, hd_⟩; have hb := hd_.below; replace F := Aside0.mk (F.out.next hb); clear hb hd_))
            go_ret
            exact ⟨rfl, F.out.here.2.2.1⟩
          · have R1 := Aside0.mk r1
            have T5 := Aside0.mk r2
            have T6 := Aside0.mk r3
            clear r1 r2 r3 H9
            go_wp2_with (first | (go_at_call 29; refine (HO.out _ F.out.here.1).mono ?_; rintro e w9 ⟨A', c', rfl, hc', hC', hb⟩; replace F := Aside0.mk (F.out.next hb); clear hb; have s0 := F.out.here.2.2.2.1; have s1 := F.out.here.2.2.2.2.1) | (go_at_call 37; (first | (with_reducible refine (HT.out _ A' c' hC' hc' F.out.here.2.1 _ _ _ _ _ _ T4.out).mono ?_) | (with_reducible refine (HT.out _ A' c' hC' hc' F.out.here.2.1 _ _ _ _ _ _ T5.out).mono ?_) | (with_reducible refine (HT.out _ A' c' hC' hc' F.out.here.2.1 _ _ _ _ _ _ T6.out).mono ?_)); rintro e w9 ⟨rfl, hb⟩; replace F := Aside0.mk (F.out.next hb); clear hb hC' hc'; have s0 := F.out.here.2.2.2.1; have s1 := F.out.here.2.2.2.2.1) | (go_at_call 33; refine (galleyref06_Ruler.calls y _ _ R1.out).mono ?_; rintro e w9 ⟨rfl, hd_⟩; have hb := hd_.below; replace F := Aside0.mk (F.out.next hb); clear hb hd_))
            go_ret
            exact ⟨rfl, F.out.here.2.2.1⟩
    | false =>
      clear hgs
      have k3 : (d == u) = false := K4.out.trans hgb
      clear K4
      go_wp2_with (first | (go_at_call 29; refine (HO.out _ F.out.here.1).mono ?_; rintro e w9 ⟨A', c', rfl, hc', hC', hb⟩; replace F := Aside0.mk (F.out.next hb); clear hb; have s0 := F.out.here.2.2.2.1; have s1 := F.out.here.2.2.2.2.1) | (go_at_call 37; (first | (with_reducible refine (HT.out _ A' c' hC' hc' F.out.here.2.1 _ _ _ _ _ _ T1.out).mono ?_) | (with_reducible refine (HT.out _ A' c' hC' hc' F.out.here.2.1 _ _ _ _ _ _ T2.out).mono ?_) | (with_reducible refine (HT.out _ A' c' hC' hc' F.out.here.2.1 _ _ _ _ _ _ T3.out).mono ?_)); rintro e w9 ⟨rfl, hb⟩; replace F := Aside0.mk (F.out.next hb); clear hb hC' hc'; have s0 := F.out.here.2.2.2.1; have s1 := F.out.here.2.2.2.2.1) | (go_at_call 31; (first | (with_reducible refine (HE.out _ A' c' hC' hc' F.out.here.2.1 _ _ _ E1.out).mono ?_)); rintro e w9 ⟨rfl, hb⟩; replace F := Aside0.mk (F.out.next hb); clear hb hC' hc'; have s0 := F.out.here.2.2.2.1; have s1 := F.out.here.2.2.2.2.1))
      rw [hW]
      clear k1 k2 k3 E1 hW
      go_loopg [15] (u - d).toNat (fun kq v w' => ∃ q : Int, v = .int .i64 q ∧ Aside0 (d < q ∧ (u - q).toNat ≤ kq) ∧ Aside0 (Keeps (fun W => Kd.C (Kd.int .u8) W A l.length l ∧ Laid W ∧ Below w.heap.size w W ∧ W.cell? ⟨g5, 0, none⟩ = some (.int .i64 x) ∧ W.cell? ⟨g5, 1, none⟩ = some (.int .i64 y) ∧ W.cell? ⟨g5, 2, none⟩ = some (.int .i64 z)) w'))
      case atStart => exact ⟨d + 1, rfl, ⟨by omega, by omega⟩, F⟩
      case round =>
        clear F s0 s1
        obtain ⟨q, rfl, HK, F⟩ := hrel
        by_cases cq : q < u
        · have cq' : decide (q < u) = true := decide_eq_true cq
          have E2 := Aside0.mk (E6.out q HK.out.1 cq)
          have hW : wrap64 (q + 1) = q + 1 := by
            have := HN.out
            have := HK.out
            exact w64 (by omega) (by omega)
          have hk : 0 < gk := by
            have := HK.out
            omega
          have HM : Aside0 (∀ n, gk = n + 1 → d < q + 1 ∧ (u - (q + 1)).toNat ≤ n) := ⟨fun n hn => by have := HK.out; omega⟩
          clear HK cq E6
          cases gk with
          | zero => omega
          | succ kk =>
            go_wp2_with (first | (go_at_call 29; refine (HO.out _ F.out.here.1).mono ?_; rintro e w9 ⟨A', c', rfl, hc', hC', hb⟩; replace F := Aside0.mk (F.out.next hb); clear hb; have s0 := F.out.here.2.2.2.1; have s1 := F.out.here.2.2.2.2.1) | (go_at_call 31; (first | (with_reducible refine (HE.out _ A' c' hC' hc' F.out.here.2.1 _ _ _ E2.out).mono ?_)); rintro e w9 ⟨rfl, hb⟩; replace F := Aside0.mk (F.out.next hb); clear hb hC' hc'; have s0 := F.out.here.2.2.2.1; have s1 := F.out.here.2.2.2.2.1))
            rw [hW]
            go_roundg kk
            case measure => omega
            case rel => exact ⟨q + 1, rfl, ⟨HM.out kk rfl⟩, F⟩
        · have cq' : decide (q < u) = false := decide_eq_false cq
          clear cq HK E6 HN hgb
          have s1 := F.out.here.2.2.2.2.1
          rcases H9.out with ⟨r1, rfl⟩ | ⟨r1, rfl, r2, r3⟩
          · have R1 := Aside0.mk r1
            clear r1 H9
            go_wp2_with (first | (go_at_call 29; refine (HO.out _ F.out.here.1).mono ?_; rintro e w9 ⟨A', c', rfl, hc', hC', hb⟩; replace F := Aside0.mk (F.out.next hb); clear hb; have s0 := F.out.here.2.2.2.1; have s1 := F.out.here.2.2.2.2.1) | (go_at_call 37; (first | (with_reducible refine (HT.out _ A' c' hC' hc' F.out.here.2.1 _ _ _ _ _ _ T4.out).mono ?_)); rintro e w9 ⟨rfl, hb⟩; replace F := Aside0.mk (F.out.next hb); clear hb hC' hc'; have s0 := F.out.here.2.2.2.1; have s1 := F.out.here.2.2.2.2.1) | (go_at_call 33; refine (galleyref06_Ruler.calls y _ _ R1.out).mono ?_; rintro e w9 ⟨rfl, hd_⟩; have hb := hd_.below; replace F := Aside0.mk (F.out.next hb); clear hb hd_))
            go_ret
            exact ⟨rfl, F.out.here.2.2.1⟩
          · have R1 := Aside0.mk r1
            have T5 := Aside0.mk r2
            have T6 := Aside0.mk r3
            clear r1 r2 r3 H9
            go_wp2_with (first | (go_at_call 29; refine (HO.out _ F.out.here.1).mono ?_; rintro e w9 ⟨A', c', rfl, hc', hC', hb⟩; replace F := Aside0.mk (F.out.next hb); clear hb; have s0 := F.out.here.2.2.2.1; have s1 := F.out.here.2.2.2.2.1) | (go_at_call 37; (first | (with_reducible refine (HT.out _ A' c' hC' hc' F.out.here.2.1 _ _ _ _ _ _ T4.out).mono ?_) | (with_reducible refine (HT.out _ A' c' hC' hc' F.out.here.2.1 _ _ _ _ _ _ T5.out).mono ?_) | (with_reducible refine (HT.out _ A' c' hC' hc' F.out.here.2.1 _ _ _ _ _ _ T6.out).mono ?_)); rintro e w9 ⟨rfl, hb⟩; replace F := Aside0.mk (F.out.next hb); clear hb hC' hc'; have s0 := F.out.here.2.2.2.1; have s1 := F.out.here.2.2.2.2.1) | (go_at_call 33; refine (galleyref06_Ruler.calls y _ _ R1.out).mono ?_; rintro e w9 ⟨rfl, hd_⟩; have hb := hd_.below; replace F := Aside0.mk (F.out.next hb); clear hb hd_))
            go_ret
            exact ⟨rfl, F.out.here.2.2.1⟩
end Go.Proofs.YtbomhpfckplgaaaDoor.P
