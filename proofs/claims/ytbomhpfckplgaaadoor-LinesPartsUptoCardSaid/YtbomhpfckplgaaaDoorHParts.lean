/- The walk of the statement LinesParts. -/
import Derived.Test.YtbomhpfckplgaaaDoorHLines
namespace Go.Proofs.YtbomhpfckplgaaaDoor.P
open Go Go.RowKit Go.Proofs.YtbomhpfckplgaaaDoorW.PrintWords Go.Proofs.YtbomhpfckplgaaaDoorW.PrintLast Go.Proofs.YtbomhpfckplgaaaDoorW.PrintMore
set_option linter.unusedVariables false
set_option linter.unusedSimpArgs false
set_option maxRecDepth 100000
attribute [local go_sem] max2_int min2_int max_two min_two max_three min_three max_four min_four

/-- No line end from a to b. -/
def clean (l : List Int) (a b : Int) : Prop := ∀ i, a ≤ i → i < b → rd l i ≠ 13 ∧ rd l i ≠ 10
/-- What stands at a line's end. -/
def kind (l : List Int) (c e : Int) : Prop := (l.take e.toNat).drop c.toNat = [10] ∨ ((l.take e.toNat).drop c.toNat = [13] ∧ (e < (l.length : Int) → rd l e ≠ 10)) ∨ (l.take e.toNat).drop c.toNat = [13, 10]
/-- Lines that lie one behind the other, the first beginning at s, to the end of the text. -/
def Chain (l : List Int) : Int → List S144 → Prop
  | _, [] => False
  | s, x :: r => x.f0 = s ∧ 0 ≤ s ∧ s ≤ x.f1 ∧ x.f1 ≤ x.f3 ∧ x.f3 ≤ (l.length : Int) ∧ clean l s x.f1 ∧ ((r = [] ∧ x.f1 = (l.length : Int) ∧ x.f3 = (l.length : Int)) ∨ (r ≠ [] ∧ kind l x.f1 x.f3 ∧ Chain l x.f3 r))
open Classical in
noncomputable def galleylaw07_LinesParts.f (k : Nat) (l : List Int) : Option Bool := if l.length ≤ 1099511627776 ∧ ∃ L, lines_all.f l = some L ∧ L.length ≤ l.length + 1 ∧ Chain l 0 L then some true else none
theorem rd_drop {L : List S144} {k : Nat} {x : S144} {r : List S144} (h : L.drop k = x :: r) : k < L.length ∧ rd_T144 L (k : Int) = x ∧ L.drop (k + 1) = r ∧ (r = [] ↔ k + 1 = L.length) := by
  have hk : k < L.length := by
    rcases Nat.lt_or_ge k L.length with c | c
    · exact c
    · rw [List.drop_eq_nil_of_le c] at h
      cases h
  rw [List.drop_eq_getElem_cons hk] at h
  injection h with h1 h2
  refine ⟨hk, ?_, h2, ?_⟩
  · unfold rd_T144
    rw [Int.toNat_natCast, List.getD_eq_getElem?_getD, List.getElem?_eq_getElem hk]
    exact h1
  · rw [← h2, List.drop_eq_nil_iff]
    omega
set_option maxHeartbeats 16000000 in
theorem galleylaw07_LinesParts.calls (k0 : Nat) (A : Option Addr) (c : Nat) (l : List Int) (r : Bool) (w : World) (hr : Kd.C (Kd.int .u8) w A l.length l) (hc : l.length ≤ c) (hG : Laid w) (h : galleylaw07_LinesParts.f k0 l = some r) :
    Calls Tryd.prog 16 #[.slice A l.length c] w fun e w' => e = .returned (.bool r) ∧ Below w.heap.size w w' := by
  unfold galleylaw07_LinesParts.f at h
  by_cases hF : l.length ≤ 1099511627776 ∧ ∃ L, lines_all.f l = some L ∧ L.length ≤ l.length + 1 ∧ Chain l 0 L
  case neg => rw [if_neg hF] at h; cases h
  rw [if_pos hF] at h
  obtain rfl := Option.some.inj h
  obtain ⟨hl, L, hL, hn, hch⟩ := hF
  have hn1 : 1 ≤ L.length := by
    cases L with
    | nil => exact hch.elim
    | cons x r => simp
  have HN : Aside0 (lines_Count.f l = some (L.length : Int)) := ⟨by unfold lines_Count.f; rw [hL]; rfl⟩
  have HA := Aside0.mk hL
  have HCH := Aside0.mk hch
  have HL : Aside0 (l.length ≤ 140737488351232 ∧ l.length ≤ c) := ⟨by omega, hc⟩
  have HB : Aside0 (l.length ≤ 1099511627776 ∧ 1 ≤ L.length ∧ L.length ≤ l.length + 1) := ⟨hl, hn1, hn⟩
  have HW : Aside0 (Calls Tryd.prog 56 #[] w fun e w' => e = .returned (.bool true) ∧ Below w.heap.size w w') := ⟨awake07_any w hG⟩
  have F : Aside0 (Keeps (fun W => Kd.C (Kd.int .u8) W A l.length l ∧ Laid W ∧ Below w.heap.size w W) w) := ⟨(keeps_C hr).and ((keeps_laid hG).and (keeps_below (Below.refl _ _) (Nat.le_refl _)))⟩
  have g1 : decide ((L.length : Int) < 1) = false := decide_eq_false (by omega)
  have g2 : decide (wrap64 ((l.length : Int) + 1) < (L.length : Int)) = false := decide_eq_false (by rw [show wrap64 ((l.length : Int) + 1) = (l.length : Int) + 1 by unfold wrap64; omega]; omega)
  clear h hL hch hn hn1 hr hc hG hl
  go_enter Tryd.func16, Tryd.ntmps16
  go_wp2_with (first | (go_at_call 56; refine HW.out.mono ?_; rintro e w9 ⟨rfl, hb⟩; replace F := Aside0.mk (F.out.next hb); clear hb) | (go_at_call 59; refine (own07_any A c l HL.out.1 _ F.out.here.1 HL.out.2).mono ?_; rintro e w9 ⟨A', c', rfl, hc', hC', hb⟩; replace F := Aside0.mk (F.out.next hb); clear hb) | (go_at_call 64; refine (lines_Count.calls A' c' l _ _ hC' hc' HN.out).mono ?_; rintro e w9 ⟨rfl, hb⟩; replace F := Aside0.mk (F.out.next hb); clear hb hC' hc'))
  clear g1 g2 HW
  go_loopg [4, 5] L.length (fun kq v4 v5 w' => ∃ (s : Int) (k : Nat), v4 = .int .i64 s ∧ v5 = .int .i64 (k : Int) ∧ Aside0 (L.length - k ≤ kq ∧ ((k < L.length ∧ Chain l s (L.drop k)) ∨ (k = L.length ∧ s = (l.length : Int)))) ∧ Aside0 (Keeps (fun W => Kd.C (Kd.int .u8) W A l.length l ∧ Laid W ∧ Below w.heap.size w W) w'))
  case atStart => exact ⟨0, 0, rfl, rfl, ⟨by omega, .inl ⟨HB.out.2.1, HCH.out⟩⟩, F⟩
  case round =>
    clear F HCH
    obtain ⟨s, k, rfl, rfl, HK, F⟩ := hrel
    by_cases ck : k < L.length
    case neg =>
      have e : s = (l.length : Int) := by
        rcases HK.out.2 with ⟨h, _⟩ | ⟨_, h⟩
        · exact absurd h ck
        · exact h
      have ck' : decide ((k : Int) < (L.length : Int)) = false := decide_eq_false (by omega)
      subst e
      clear HK
      go_wp2
      go_ret
      exact ⟨by simp, F.out.here.2.2⟩
    have hch : Chain l s (L.drop k) := by
      rcases HK.out.2 with ⟨_, h⟩ | ⟨h, _⟩
      · exact h
      · omega
    obtain ⟨g1, rfl⟩ : ∃ g1, gk = g1 + 1 := ⟨gk - 1, by have := HK.out.1; omega⟩
    have HKK : Aside0 (L.length - (k + 1) ≤ g1) := ⟨by have := HK.out.1; omega⟩
    clear HK
    obtain ⟨x, rr, hd⟩ : ∃ x rr, L.drop k = x :: rr := ⟨_, _, List.drop_eq_getElem_cons ck⟩
    rw [hd] at hch
    obtain ⟨hk, hx, hd2, hlast⟩ := rd_drop hd
    obtain ⟨h0, h1, h2, h3, h4, h5, h6⟩ := hch
    obtain ⟨s', cc, ll, ee⟩ := x
    dsimp only at h0 h2 h3 h4 h5 h6
    obtain rfl := h0
    have HX : Aside0 (lines_Line.f l (k : Int) = some (s', cc, ee, 0)) := ⟨by
      unfold lines_Line.f
      rw [HA.out, Option.bind_some, if_neg (by omega), if_neg (by omega), if_pos (by omega), if_pos (by omega), hx]⟩
    have ck' : decide ((k : Int) < (L.length : Int)) = true := decide_eq_true (by omega)
    have HO := Aside0.mk (And.intro h1 (And.intro h2 (And.intro h3 h4)))
    have H5 := Aside0.mk h5
    have H6 := Aside0.mk h6
    have HD := Aside0.mk hd2
    have HLA := Aside0.mk hlast
    have g1 : decide (cc < s') = false := decide_eq_false (by omega)
    have g2 : decide (ee < cc) = false := decide_eq_false (by omega)
    have g3 : decide ((l.length : Int) < ee) = false := decide_eq_false (by omega)
    clear h1 h2 h3 h4 h5 h6 hd2 hlast hx hd
    go_wp2_with (first | (go_at_call 59; refine (own07_any A c l HL.out.1 _ F.out.here.1 HL.out.2).mono ?_; rintro e w9 ⟨A', c', rfl, hc', hC', hb⟩; replace F := Aside0.mk (F.out.next hb); clear hb) | (go_at_call 65; refine (lines_Line.calls A' c' l _ _ _ _ _ _ hC' hc' HX.out).mono ?_; rintro e w9 ⟨rfl, hb⟩; replace F := Aside0.mk (F.out.next hb); clear hb hC' hc'))
    clear g1 g2 g3
    go_loopg [10] (cc - s').toNat (fun kq v10 w' => ∃ i : Int, v10 = .int .i64 i ∧ Aside0 (s' ≤ i ∧ i ≤ cc ∧ (cc - i).toNat ≤ kq) ∧ Aside0 (Keeps (fun W => Kd.C (Kd.int .u8) W A l.length l ∧ Laid W ∧ Below w.heap.size w W) w'))
    case atStart => exact ⟨s', rfl, ⟨by have := HO.out; omega⟩, F⟩
    case round =>
      clear F
      obtain ⟨i, rfl, HI, F⟩ := hrel
      by_cases ci : i < cc
      · have ci' : decide (i < cc) = true := decide_eq_true ci
        have p0 : 0 ≤ i := by have := HO.out; have := HI.out; omega
        have q0 : i < (l.length : Int) := by have := HO.out; omega
        have hcl := H5.out i HI.out.1 ci
        have r1 : (rd l i == 13) = false := beq_eq_false_iff_ne.mpr hcl.1
        have r2 : (rd l i == 10) = false := beq_eq_false_iff_ne.mpr hcl.2
        obtain ⟨ad, ea, hx⟩ := Kd.at_int F.out.here.1 i p0 q0
        cases ea
        have HW : Aside0 (wrap64 (i + 1) = i + 1) := ⟨by
          have := HB.out
          unfold wrap64
          omega⟩
        have HM : Aside0 (∀ n, gk = n + 1 → s' ≤ i + 1 ∧ i + 1 ≤ cc ∧ (cc - (i + 1)).toNat ≤ n) := ⟨fun n hn => by have := HI.out; omega⟩
        have hk0 : 0 < gk := by have := HI.out; omega
        replace p0 := eq_true p0
        replace q0 := eq_true q0
        clear hcl HI ci
        cases gk with
        | zero => omega
        | succ kk =>
          go_wp2
          rw [HW.out]
          go_roundg kk
          case measure => omega
          case rel => exact ⟨i + 1, rfl, ⟨HM.out kk rfl⟩, F⟩
      · have ci' : decide (i < cc) = false := decide_eq_false ci
        clear HI ci H5
        have hcc := HO.out
        obtain ⟨ii, hi5, hz⟩ : ∃ i, Tryd.prog.info? 5 = some i ∧ i.size = 1 := ⟨_, rfl, by kernel_rfl⟩
        have hcut := cut_mid (P := Tryd.prog) 22 5 .i64 .i64 Tryd.underlying22 hi5 1 hz A l.length c cc ee (by omega) hcc.2.2.1 hcc.2.2.2 HL.out.2
        have hlen : ee.toNat - cc.toNat = ((l.take ee.toNat).drop cc.toNat).length := by
          rw [List.length_drop, List.length_take]
          omega
        rw [hlen] at hcut
        have hcC := Kd.C_mid (lo := cc.toNat) (hi := ee.toNat) (c := c) F.out.here.1 (by omega) (by omega) HL.out.2
        obtain ⟨v, hv⟩ : ∃ v, (l.take ee.toNat).drop cc.toNat = v := ⟨_, rfl⟩
        have h6 := H6.out
        unfold kind at h6
        rw [hv] at hcut hcC h6
        change Kd.C (Kd.int .u8) _ (if c = cc.toNat then A else A.map (·.add (cc.toNat * 1))) _ _ at hcC
        generalize (if c = cc.toNat then A else A.map (·.add (cc.toNat * 1))) = A2 at hcut hcC
        generalize c - cc.toNat = c2 at hcut
        have hstr := str_of (c := c2) hcC
        have HW1 : Aside0 (wrap64 ((k : Int) + 1) = ((k + 1 : Nat) : Int)) := ⟨by
          have := HB.out
          unfold wrap64
          omega⟩
        have hW2 : wrap64 ((L.length : Int) - 1) = (L.length : Int) - 1 := by
          have := HB.out
          unfold wrap64
          omega
        have p0 : 0 ≤ ee := by omega
        have hvv := hv
        clear hlen hv hi5 hz H6 hcC
        rcases h6 with ⟨hr, hce, hee⟩ | ⟨hr, hk, hch⟩
        · have hv0 : v = [] := by
            rw [← hvv]
            rw [hce, hee]
            simp
          clear hvv
          have qk : ((k : Int) == wrap64 ((L.length : Int) - 1)) = true := by
            rw [hW2, beq_iff_eq]
            have := HLA.out.1 hr
            omega
          have q0 : ((strOfNums v).toList == ([] : List UInt8)) = true := by rw [hv0]; kernel_rfl
          have q1 : ((strOfNums v).toList == ([10] : List UInt8)) = false := by rw [hv0]; kernel_rfl
          have q2 : ((strOfNums v).toList == ([13] : List UInt8)) = false := by rw [hv0]; kernel_rfl
          have q3 : ((strOfNums v).toList == ([13, 10] : List UInt8)) = false := by rw [hv0]; kernel_rfl
          have HE := Aside0.mk (And.intro hr hee)
          clear hW2 hce hcc p0 hr hee hv0
          by_cases c200 : (k : Int) > 200
          · have c200' : decide ((200 : Int) < (k : Int)) = true := decide_eq_true c200
            go_wp2
            go_ret
            exact ⟨rfl, F.out.here.2.2⟩
          · have c200' : decide ((200 : Int) < (k : Int)) = false := decide_eq_false c200
            go_wp2
            go_roundg g1
            case measure => omega
            case rel => exact ⟨ee, k + 1, rfl, by first | rfl | rw [HW1.out], ⟨HKK.out, .inr ⟨HLA.out.1 HE.out.1, HE.out.2⟩⟩, F⟩
        · clear hvv
          have qk : ((k : Int) == wrap64 ((L.length : Int) - 1)) = false := by
            rw [hW2, beq_eq_false_iff_ne]
            intro h_
            exact hr (HLA.out.2 (by omega))
          have HCC := Aside0.mk hch
          have HRR : Aside0 (¬ (k + 1 = L.length)) := ⟨fun h_ => hr (HLA.out.2 h_)⟩
          clear hW2 hch hr
          rcases hk with hv0 | ⟨hv0, hnx⟩ | hv0
          · skip
            have q0 : ((strOfNums v).toList == ([] : List UInt8)) = false := by rw [hv0]; kernel_rfl
            have q1 : ((strOfNums v).toList == ([10] : List UInt8)) = true := by rw [hv0]; kernel_rfl
            have q2 : ((strOfNums v).toList == ([13] : List UInt8)) = false := by rw [hv0]; kernel_rfl
            have q3 : ((strOfNums v).toList == ([13, 10] : List UInt8)) = false := by rw [hv0]; kernel_rfl
            clear hcc p0 hv0
            by_cases c200 : (k : Int) > 200
            · have c200' : decide ((200 : Int) < (k : Int)) = true := decide_eq_true c200
              go_wp2
              go_ret
              exact ⟨rfl, F.out.here.2.2⟩
            · have c200' : decide ((200 : Int) < (k : Int)) = false := decide_eq_false c200
              go_wp2
              go_roundg g1
              case measure => omega
              case rel => exact ⟨ee, k + 1, rfl, by first | rfl | rw [HW1.out], ⟨HKK.out, .inl ⟨by have h_ := HRR.out; omega, by rw [HD.out]; exact HCC.out⟩⟩, F⟩
          · skip
            have q0 : ((strOfNums v).toList == ([] : List UInt8)) = false := by rw [hv0]; kernel_rfl
            have q1 : ((strOfNums v).toList == ([10] : List UInt8)) = false := by rw [hv0]; kernel_rfl
            have q2 : ((strOfNums v).toList == ([13] : List UInt8)) = true := by rw [hv0]; kernel_rfl
            have q3 : ((strOfNums v).toList == ([13, 10] : List UInt8)) = false := by rw [hv0]; kernel_rfl
            by_cases cl : ee < (l.length : Int)
            · have cl' : decide (ee < (l.length : Int)) = true := decide_eq_true cl
              have hrd : (rd l ee == 10) = false := beq_eq_false_iff_ne.mpr (hnx cl)
              obtain ⟨ad, ea, hx⟩ := Kd.at_int F.out.here.1 ee p0 cl
              cases ea
              have q9 := eq_true cl
              replace p0 := eq_true p0
              clear hcc cl hnx hv0
              by_cases c200 : (k : Int) > 200
              · have c200' : decide ((200 : Int) < (k : Int)) = true := decide_eq_true c200
                go_wp2
                go_ret
                exact ⟨rfl, F.out.here.2.2⟩
              · have c200' : decide ((200 : Int) < (k : Int)) = false := decide_eq_false c200
                go_wp2
                go_roundg g1
                case measure => omega
                case rel => exact ⟨ee, k + 1, rfl, by first | rfl | rw [HW1.out], ⟨HKK.out, .inl ⟨by have h_ := HRR.out; omega, by rw [HD.out]; exact HCC.out⟩⟩, F⟩
            · have cl' : decide (ee < (l.length : Int)) = false := decide_eq_false cl
              clear hcc p0 cl hnx hv0
              by_cases c200 : (k : Int) > 200
              · have c200' : decide ((200 : Int) < (k : Int)) = true := decide_eq_true c200
                go_wp2
                go_ret
                exact ⟨rfl, F.out.here.2.2⟩
              · have c200' : decide ((200 : Int) < (k : Int)) = false := decide_eq_false c200
                go_wp2
                go_roundg g1
                case measure => omega
                case rel => exact ⟨ee, k + 1, rfl, by first | rfl | rw [HW1.out], ⟨HKK.out, .inl ⟨by have h_ := HRR.out; omega, by rw [HD.out]; exact HCC.out⟩⟩, F⟩
          · skip
            have q0 : ((strOfNums v).toList == ([] : List UInt8)) = false := by rw [hv0]; kernel_rfl
            have q1 : ((strOfNums v).toList == ([10] : List UInt8)) = false := by rw [hv0]; kernel_rfl
            have q2 : ((strOfNums v).toList == ([13] : List UInt8)) = false := by rw [hv0]; kernel_rfl
            have q3 : ((strOfNums v).toList == ([13, 10] : List UInt8)) = true := by rw [hv0]; kernel_rfl
            clear hcc p0 hv0
            by_cases c200 : (k : Int) > 200
            · have c200' : decide ((200 : Int) < (k : Int)) = true := decide_eq_true c200
              go_wp2
              go_ret
              exact ⟨rfl, F.out.here.2.2⟩
            · have c200' : decide ((200 : Int) < (k : Int)) = false := decide_eq_false c200
              go_wp2
              go_roundg g1
              case measure => omega
              case rel => exact ⟨ee, k + 1, rfl, by first | rfl | rw [HW1.out], ⟨HKK.out, .inl ⟨by have h_ := HRR.out; omega, by rw [HD.out]; exact HCC.out⟩⟩, F⟩
end Go.Proofs.YtbomhpfckplgaaaDoor.P
