/- The walk of the statement RuleOwn. -/
import Derived.Test.YtbomhpfckplgaaaDoorHCut
namespace Go.Proofs.YtbomhpfckplgaaaDoor.P
open Go Go.RowKit Go.Proofs.YtbomhpfckplgaaaDoorW.PrintWords Go.Proofs.YtbomhpfckplgaaaDoorW.PrintLast Go.Proofs.YtbomhpfckplgaaaDoorW.PrintMore
set_option linter.unusedVariables false
set_option linter.unusedSimpArgs false
set_option maxRecDepth 100000
attribute [local go_sem] max2_int min2_int max_two min_two max_three min_three max_four min_four

/-- v's own block is not x's. -/
def Apart (v x : Value) : Prop := ∀ k, v.ownBlock = some k → some k ≠ x.ownBlock
abbrev RU (W : World) (n : Nat) (v : Value) (xs : List Int) : Prop := Kd.R (Kd.int .u8) 5 W n (fun _ => True) v xs
abbrev RI (W : World) (n : Nat) (v : Value) (xs : List Int) : Prop := Kd.R (Kd.int .i64) 3 W n (fun _ => True) v xs
theorem Apart.symm {v x : Value} (h : Apart v x) : Apart x v := fun k hk e => h k e.symm hk.symm
theorem Apart.fresh {v x : Value} {n : Nat} (hv : ∀ k, v.ownBlock = some k → n ≤ k) (hx : ∀ k, x.ownBlock = some k → k < n) : Apart v x := fun k hk e => by
  have h1 := hv k hk
  have h2 := hx k e.symm
  omega
theorem Apart.after {W : World} {v v1 x : Value} (ha : Apart v x) (hx : ∀ k, x.ownBlock = some k → k < W.heap.size) (hat : v1.ownBlock = v.ownBlock ∨ ∃ b, v1.ownBlock = some b ∧ W.heap.size ≤ b) : Apart v1 x := fun k hk e => by
  rcases hat with h | ⟨b, h, hb⟩
  · exact ha k (h ▸ hk) e
  · have h2 := hx k e.symm
    rw [h] at hk
    injection hk with hk
    omega
theorem RU.other {W w1 : World} {n : Nat} {v x : Value} {xs : List Int} (h : RU W n x xs) (hg : W.grownBy w1 v.ownBlock) (ha : Apart v x) : RU w1 n x xs := Kd.R_grown2 h rfl hg ha
theorem RI.other {W w1 : World} {n : Nat} {v x : Value} {xs : List Int} (h : RI W n x xs) (hg : W.grownBy w1 v.ownBlock) (ha : Apart v x) : RI w1 n x xs := Kd.R_grown2 h rfl hg ha
/-- The five rows of memory, each by itself. -/
structure Five (w5 W : World) (vF vC vD vT vS : Value) (xF xC xD xT xS : List Int) : Prop where
  b : Below w5.heap.size w5 W
  F : RU W w5.heap.size vF xF
  C : RU W w5.heap.size vC xC
  D : RU W w5.heap.size vD xD
  T : RI W w5.heap.size vT xT
  S : RI W w5.heap.size vS xS
  cf : Apart vC vF
  cd : Apart vC vD
  ct : Apart vC vT
  cs : Apart vC vS
  tf : Apart vT vF
  td : Apart vT vD
  ts : Apart vT vS
  fd : Apart vF vD
  fs : Apart vF vS
theorem Five.putC {w5 W w1 : World} {vF vC vC1 vD vT vS : Value} {xF xC xC1 xD xT xS : List Int} (h : Five w5 W vF vC vD vT vS xF xC xD xT xS) (hC : RU w1 w5.heap.size vC1 xC1) (hb : Below w5.heap.size w5 w1) (hg : W.grownBy w1 vC.ownBlock) (hat : vC1.ownBlock = vC.ownBlock ∨ ∃ b, vC1.ownBlock = some b ∧ W.heap.size ≤ b) : Five w5 w1 vF vC1 vD vT vS xF xC1 xD xT xS :=
  ⟨hb, RU.other h.F hg h.cf, hC, RU.other h.D hg h.cd, RI.other h.T hg h.ct, RI.other h.S hg h.cs, h.cf.after (Kd.R_lt h.F) hat, h.cd.after (Kd.R_lt h.D) hat, h.ct.after (Kd.R_lt h.T) hat, h.cs.after (Kd.R_lt h.S) hat, h.tf, h.td, h.ts, h.fd, h.fs⟩
theorem Five.putT {w5 W w1 : World} {vF vC vT1 vD vT vS : Value} {xF xC xT1 xD xT xS : List Int} (h : Five w5 W vF vC vD vT vS xF xC xD xT xS) (hT : RI w1 w5.heap.size vT1 xT1) (hb : Below w5.heap.size w5 w1) (hg : W.grownBy w1 vT.ownBlock) (hat : vT1.ownBlock = vT.ownBlock ∨ ∃ b, vT1.ownBlock = some b ∧ W.heap.size ≤ b) : Five w5 w1 vF vC vD vT1 vS xF xC xD xT1 xS :=
  ⟨hb, RU.other h.F hg h.tf, RU.other h.C hg h.ct.symm, RU.other h.D hg h.td, hT, RI.other h.S hg h.ts, h.cf, h.cd, (h.ct.symm.after (Kd.R_lt h.C) hat).symm, h.cs, h.tf.after (Kd.R_lt h.F) hat, h.td.after (Kd.R_lt h.D) hat, h.ts.after (Kd.R_lt h.S) hat, h.fd, h.fs⟩
theorem Five.putF {w5 W w1 : World} {vF vC vD vT vS : Value} {xF xF1 xC xD xT xS : List Int} (h : Five w5 W vF vC vD vT vS xF xC xD xT xS) (hF : RU w1 w5.heap.size vF xF1) (hb : Below w5.heap.size w5 w1) (hg : W.grownBy w1 vF.ownBlock) : Five w5 w1 vF vC vD vT vS xF1 xC xD xT xS :=
  ⟨hb, hF, RU.other h.C hg h.cf.symm, RU.other h.D hg h.fd, RI.other h.T hg h.tf.symm, RI.other h.S hg h.fs, h.cf, h.cd, h.ct, h.cs, h.tf, h.td, h.ts, h.fd, h.fs⟩
theorem Five.below {w5 W w1 : World} {vF vC vD vT vS : Value} {xF xC xD xT xS : List Int} (h : Five w5 W vF vC vD vT vS xF xC xD xT xS) (hb : Below W.heap.size W w1) : Five w5 w1 vF vC vD vT vS xF xC xD xT xS :=
  ⟨h.b.trans (hb.mono h.b.size), Kd.R_below h.F hb, Kd.R_below h.C hb, Kd.R_below h.D hb, Kd.R_below h.T hb, Kd.R_below h.S hb, h.cf, h.cd, h.ct, h.cs, h.tf, h.td, h.ts, h.fd, h.fs⟩
theorem ab_str (l : List Int) : ((strOfNums (l ++ [65, 66])).toList == (strOfNums l ++ ByteArray.mk #[65, 66]).toList) = true := by
  have h : (strOfNums (l ++ [65, 66])).toList = (strOfNums l ++ ByteArray.mk #[65, 66]).toList := by
    rw [ByteArray.toList_eq, ByteArray.toList_eq, strOfNums_data, ByteArray.data_append, Array.toList_append, strOfNums_data, List.map_append]
    rfl
  rw [h]
  simp
theorem own_eq' (l : List Int) (h : l.length ≤ 140737488351232) : galleylaw06_own.f l = some l := by
  unfold galleylaw06_own.f
  simp only [Option.bind_some, List.length_nil, Nat.zero_add, List.nil_append]
  rw [if_pos (by omega)]
def galleylaw06_RuleOwn.fits (k : Nat) (l : List Int) (a b x y z : Int) : Prop := l.length ≤ 1099511627776 ∧ ∃ v n T e s q, rule_Cut.f k l x a b z = some (v, n) ∧ refCut.f k l x a b z = some (v, n) ∧ rule_Table.f l x = some (T, e) ∧ rule_Size.f l x = some s ∧ rule_To.f l x a y z = some q ∧ v.length ≤ 1099511627776 ∧ T.length ≤ 1099511627777 ∧
  (galleyref06_Ruler.f x = some false ∨ (galleyref06_Ruler.f x = some true ∧ galleyref06_Table.f k l x = some T ∧ galleyref01_SameInts.f k T T = some true))
open Classical in
noncomputable def galleylaw06_RuleOwn.f (k : Nat) (l : List Int) (a b x y z : Int) : Option Bool := if galleylaw06_RuleOwn.fits k l a b x y z then some true else none
set_option maxHeartbeats 16000000 in
theorem galleylaw06_RuleOwn.calls (k : Nat) (A : Option Addr) (c : Nat) (l : List Int) (a b x y z : Int) (r : Bool) (w : World) (hr : Kd.C (Kd.int .u8) w A l.length l) (hc : l.length ≤ c) (hG : Laid w) (h : galleylaw06_RuleOwn.f k l a b x y z = some r) :
    Calls Tryd.prog 11 #[.slice A l.length c, .agg #[.int .i64 a, .int .i64 b], .agg #[.int .i64 x, .int .i64 y, .int .i64 z]] w fun e w' => e = .returned (.bool r) ∧ Below w.heap.size w w' := by
  have hu39 := Tryd.underlying39
  have hu45 := Tryd.underlying45
  unfold galleylaw06_RuleOwn.f at h
  by_cases hF : galleylaw06_RuleOwn.fits k l a b x y z
  case neg => rw [if_neg hF] at h; cases h
  rw [if_pos hF] at h
  obtain rfl := Option.some.inj h
  obtain ⟨hl, v, n, T, e0, ⟨s1', s2'⟩, ⟨q1, q2⟩, h1, h2, h3, h4, h5, hv, hT, hend⟩ := hF
  have HCut := Aside0.mk h1
  have HRef := Aside0.mk h2
  have HTab := Aside0.mk h3
  have HSz := Aside0.mk h4
  have HTo := Aside0.mk h5
  have HEND := Aside0.mk hend
  have HL : Aside0 (l.length ≤ 140737488351232 ∧ l.length ≤ c) := ⟨by omega, hc⟩
  have HB : Aside0 (l.length ≤ 1099511627776 ∧ v.length ≤ 1099511627776 ∧ T.length ≤ 1099511627777) := ⟨hl, hv, hT⟩
  clear h h1 h2 h3 h4 h5 hend hl hc hv hT
  have HW : Aside0 (∀ W, Below w.heap.size w W → Calls Tryd.prog 27 #[] W fun e w' => e = .returned (.bool true) ∧ Below W.heap.size W w') := ⟨fun W hW => wakes06_any W (hG.below hW)⟩
  have HI : Aside0 (Keeps (fun W => Kd.C (Kd.int .u8) W A l.length l ∧ Laid W ∧ Below w.heap.size w W) w) := ⟨(keeps_C hr).and ((keeps_laid hG).and (keeps_below (Below.refl _ _) (Nat.le_refl _)))⟩
  clear hr hG
  go_enter Tryd.func11, Tryd.ntmps11
  go_upto_region 3 with (first | ((with_reducible refine gate_dst (N := 4) rfl ?_); refine box_event ?hg (N := 4) ?hd (cs := #[.int .i64 a, .int .i64 b]) (t := 45) ?hr ?_; (case hd => rfl); (case hg => rfl); (case hr => first | (go_simp; done) | (go_simp; rfl)); intro g4 hg4 w3 hx4 hb3; clear hg4) | ((with_reducible refine gate_dst (N := 5) rfl ?_); refine box_event ?hg (N := 5) ?hd (cs := #[.int .i64 x, .int .i64 y, .int .i64 z]) (t := 39) ?hr ?_; (case hd => rfl); (case hg => rfl); (case hr => first | (go_simp; done) | (go_simp; rfl)); intro g5 hg5 w4 hx5 hb4; clear hg5) | (go_at_call 27; refine (HW.out _ (hb3.trans (hb4.mono hb3.size))).mono ?_; rintro e w5 ⟨rfl, hb5⟩))
  have F : Aside0 (Keeps (fun W => Kd.C (Kd.int .u8) W A l.length l ∧ Laid W ∧ Below w.heap.size w W ∧ W.cell? ⟨g4, 0, none⟩ = some (.int .i64 a) ∧ W.cell? ⟨g4, 1, none⟩ = some (.int .i64 b) ∧ W.cell? ⟨g5, 0, none⟩ = some (.int .i64 x) ∧ W.cell? ⟨g5, 1, none⟩ = some (.int .i64 y) ∧ W.cell? ⟨g5, 2, none⟩ = some (.int .i64 z)) w5) := ⟨by
    have b4 := blk_below hx4 hb4
    have K := ((keeps_blk b4).and (keeps_blk hx5)).next hb5
    have I := (HI.out.next hb3).next hb4 |>.next hb5
    intro W hW
    obtain ⟨k4, k5⟩ := K W hW
    obtain ⟨i1, i2, i3⟩ := I W hW
    exact ⟨i1, i2, i3, (blk_cell k4 0).trans rfl, (blk_cell k4 1).trans rfl, (blk_cell k5 0).trans rfl, (blk_cell k5 1).trans rfl, (blk_cell k5 2).trans rfl⟩⟩
  clear HW HI hx4 hx5 hb3 hb4 hb5
  go_upto_region 4 with (first | (go_at_call 29; refine (galleylaw06_own.calls A c l l _ F.out.here.1 HL.out.2 (own_eq' l HL.out.1)).mono ?_; rintro e w6 ⟨vO, rfl, hO, hb6⟩) | ((with_reducible refine gate_builtin (b := .append) (xs := #[.tmp 27, .tmp 28]) rfl ?_); at_builtin; refine Kd.R_append_rows (Kd.int .u8) (w0 := w5) w5.heap.size rfl (.tmp 27) (.tmp 28) 22 5 (.int .u8 0) 1 rfl Tryd.underlying22 info5 rfl (by decide) (by omega) vO l [65, 66] _ _ _ (fun _ => True) (fun _ => False) rfl rfl (Kd.R_alloc hO _) (C_blk (xs := [65, 66]) (fz := (0, 0)) (blk_new _ _) (by decide)) (fun _ _ h => h) (fun _ h => h.elim) (fun _ _ => trivial) (hb6.alloc hb6.size _) (by have := hb6.size; simp; omega) (by have := HB.out; simp; omega) ?_; intro vF w7 hF hb7 hg7 hat7; clear hg7 hat7))
  obtain ⟨xF, hxF⟩ : ∃ xF, l ++ [65, 66] = xF := ⟨_, rfl⟩
  rw [hxF] at hF
  obtain ⟨AF, cF, rfl⟩ := Kd.R_slice hF
  obtain ⟨-, hcapF, hCF⟩ := Kd.R_reads' hF
  have hxl : xF.length = l.length + 2 := by rw [← hxF]; simp
  have hxt : xF.take l.length = l := by rw [← hxF]; simp
  have HIN : Aside0 (∀ W, RU W w5.heap.size (.slice AF xF.length cF) xF → Kd.C (Kd.int .u8) W AF l.length l) := ⟨fun W hW => by
    have h_ := Kd.C_take (m := l.length) (Kd.R_reads' hW).2.2 (by omega)
    rw [hxt] at h_
    exact h_⟩
  have HCAP : Aside0 (l.length ≤ cF) := ⟨by omega⟩
  obtain ⟨ii, hi5, hz⟩ : ∃ i, Tryd.prog.info? 5 = some i ∧ i.size = 1 := ⟨_, rfl, by kernel_rfl⟩
  have hcut := (print_take_of (P := Tryd.prog) (Value.int .u8) 0 22 5 .i64 Tryd.underlying22 hi5 hz AF cF xF (l.length : Int) (by omega) (by omega) hcapF).1
  rw [Int.toNat_natCast, hxt] at hcut
  have HXF := Aside0.mk (And.intro hxF (And.intro hxl hcapF))
  have B7 := Aside0.mk hb7
  have RF := Aside0.mk hF
  clear hb6 hb7 hO hxl hxt hi5 hz hCF hcapF hF hxF
  obtain ⟨i1, i2, i3, s0, s1, s2, s3, s4⟩ := F.out.of B7.out
  clear i1 i2 i3
  go_upto_region 6 with (go_at_call 39; refine (rule_Cut.calls k AF cF l x a b z v n _ (HIN.out _ RF.out) HCAP.out (F.out.of B7.out).2.1 HCut.out).mono ?_; rintro e w8 ⟨vC, rfl, hC, hb8⟩)
  clear hcut s0 s1 s2 s3 s4
  have CF := Aside0.mk (Apart.fresh (Kd.R_base hC) (Kd.R_lt RF.out))
  replace RF := Aside0.mk (Kd.R_below RF.out hb8)
  have B8 := Aside0.mk (B7.out.trans (hb8.mono B7.out.size))
  have RC := Aside0.mk hC
  clear hC hb8
  obtain ⟨i1, i2, i3, s0, s1, s2, s3, s4⟩ := F.out.of B8.out
  clear i1 i2 i3
  go_upto_region 7 with (go_at_call 39; refine (rule_Cut.calls k AF cF l x a b z v n _ (HIN.out _ RF.out) HCAP.out (F.out.of B8.out).2.1 HCut.out).mono ?_; rintro e w9 ⟨vD, rfl, hD, hb9⟩)
  clear s0 s1 s2 s3 s4
  have DF := Aside0.mk (Apart.fresh (Kd.R_base hD) (Kd.R_lt RF.out))
  have DC := Aside0.mk (Apart.fresh (Kd.R_base hD) (Kd.R_lt RC.out))
  replace RF := Aside0.mk (Kd.R_below RF.out hb9)
  replace RC := Aside0.mk (Kd.R_below RC.out hb9)
  have B9 := Aside0.mk (B8.out.trans (hb9.mono B8.out.size))
  have RD := Aside0.mk hD
  clear hD hb9
  obtain ⟨i1, i2, i3, s0, s1, s2, s3, s4⟩ := F.out.of B9.out
  clear i1 i2 i3
  go_upto_region 8 with (go_at_call 30; refine (rule_Table.calls AF cF l x T e0 _ (HIN.out _ RF.out) HCAP.out (F.out.of B9.out).2.1 HTab.out).mono ?_; rintro e w10 ⟨vT, rfl, hT, hb10⟩)
  clear s0 s1 s2 s3 s4
  have TF := Aside0.mk (Apart.fresh (Kd.R_base hT) (Kd.R_lt RF.out))
  have TC := Aside0.mk (Apart.fresh (Kd.R_base hT) (Kd.R_lt RC.out))
  have TD := Aside0.mk (Apart.fresh (Kd.R_base hT) (Kd.R_lt RD.out))
  replace RF := Aside0.mk (Kd.R_below RF.out hb10)
  replace RC := Aside0.mk (Kd.R_below RC.out hb10)
  replace RD := Aside0.mk (Kd.R_below RD.out hb10)
  have B10 := Aside0.mk (B9.out.trans (hb10.mono B9.out.size))
  have RT := Aside0.mk hT
  clear hT hb10
  obtain ⟨i1, i2, i3, s0, s1, s2, s3, s4⟩ := F.out.of B10.out
  clear i1 i2 i3
  go_upto_region 9 with (go_at_call 30; refine (rule_Table.calls AF cF l x T e0 _ (HIN.out _ RF.out) HCAP.out (F.out.of B10.out).2.1 HTab.out).mono ?_; rintro e w11 ⟨vS, rfl, hS, hb11⟩)
  clear s0 s1 s2 s3 s4
  have H5 : Aside0 (Five w5 w11 (.slice AF xF.length cF) vC vD vT vS xF v v T T) := ⟨by
    have f := Apart.fresh (Kd.R_base hS) (Kd.R_lt RF.out)
    have g := Apart.fresh (Kd.R_base hS) (Kd.R_lt RC.out)
    have d := Apart.fresh (Kd.R_base hS) (Kd.R_lt RD.out)
    have t := Apart.fresh (Kd.R_base hS) (Kd.R_lt RT.out)
    exact ⟨B10.out.trans (hb11.mono B10.out.size), Kd.R_below RF.out hb11, Kd.R_lower (Kd.R_below RC.out hb11) B7.out.size, Kd.R_lower (Kd.R_below RD.out hb11) B8.out.size, Kd.R_lower (Kd.R_below RT.out hb11) B9.out.size, Kd.R_lower hS B10.out.size,
      CF.out, DC.out.symm, TC.out.symm, g.symm, TF.out, TD.out, t.symm, DF.out.symm, f.symm⟩⟩
  clear hS hb11 CF DC TC TF TD DF RF RC RD RT B7 B8 B9 B10
  obtain ⟨i1, i2, i3, s0, s1, s2, s3, s4⟩ := F.out.of H5.out.b
  clear i1 i2 i3
  go_upto_region 11 with (first | (go_at_call 28; refine (rule_Size.calls AF cF l x s1' s2' _ (HIN.out _ H5.out.F) HCAP.out (F.out.of H5.out.b).2.1 HSz.out).mono ?_; rintro e w12 ⟨rfl, hb⟩; replace H5 := Aside0.mk (H5.out.below hb); clear hb s0 s1 s2 s3 s4; obtain ⟨i1, i2, i3, s0, s1, s2, s3, s4⟩ := F.out.of H5.out.b; clear i1 i2 i3) | (go_at_call 37; refine (rule_To.calls AF cF l x a y z q1 q2 _ (HIN.out _ H5.out.F) HCAP.out (F.out.of H5.out.b).2.1 HTo.out).mono ?_; rintro e w13 ⟨rfl, hb⟩; replace H5 := Aside0.mk (H5.out.below hb); clear hb))
  have u1 := str_of (c := cF) (Kd.R_reads' H5.out.F).2.2
  have u2 := str_of (c := c) (F.out.of H5.out.b).1
  have hAB : ((strOfNums xF).toList == (strOfNums l ++ ByteArray.mk #[65, 66]).toList) = true := by
    rw [← HXF.out.1]
    exact ab_str l
  have hsz1 : (strOfNums l).size + 2 ≤ 9223372036854775807 := by
    rw [strOfNums_size]
    have := HB.out
    omega
  go_upto_region 13 with (fail)
  clear u1 u2 hAB hsz1
  obtain ⟨AC, cC, rfl⟩ := Kd.R_slice H5.out.C
  obtain ⟨AT, cT, rfl⟩ := Kd.R_slice H5.out.T
  go_wp2
  go_loopg [96] v.length (fun kq vq w' => ∃ (i : Int) (xc : List Int), vq = .int .i64 i ∧ Aside0 (0 ≤ i ∧ i ≤ (v.length : Int) ∧ (v.length : Int) - i ≤ (kq : Int)) ∧ Aside0 (Five w5 w' (.slice AF xF.length cF) (.slice AC v.length cC) vD (.slice AT T.length cT) vS xF xc v T T))
  case atStart => exact ⟨0, _, rfl, ⟨by omega, by omega, by omega⟩, H5⟩
  case round =>
  clear H5
  obtain ⟨i, xc, rfl, HI, H5⟩ := hrel
  by_cases ci : i < (v.length : Int)
  case pos =>
    have ci' : decide (i < (v.length : Int)) = true := decide_eq_true ci
    have p0 : 0 ≤ i := HI.out.1
    have hm := (Kd.R_reads' H5.out.C).1
    obtain ⟨go, co, eo, gb, gl, cl, HG⟩ := Kd.R_form H5.out.C (by omega)
    injection eo with ea en ec
    subst ea
    subst ec
    obtain ⟨hx0, hf0⟩ := Kd.R_celln 0 H5.out.C i p0 ci
    have HP := Aside0.mk (Kd.R_putg H5.out.C i (42))
    have HGB := Aside0.mk gb
    have q0 := eq_true ci
    replace p0 := eq_true p0
    have hW : Aside0 (wrap64 (i + 1) = i + 1) := ⟨by
      have := HB.out
      have := HI.out
      have := HXF.out.2.1
      unfold wrap64
      omega⟩
    have HM : Aside0 (∀ n_, gk = n_ + 1 → 0 ≤ i + 1 ∧ i + 1 ≤ (v.length : Int) ∧ (v.length : Int) - (i + 1) ≤ (n_ : Int)) := ⟨fun n_ hn => by have := HI.out; omega⟩
    have hk0 : 0 < gk := by have := HI.out; omega
    clear gb gl cl HG ci hm en HI
    cases gk with
    | zero => omega
    | succ kk =>
      go_wp2
      replace H5 := Aside0.mk (H5.out.putC HP.out.1 (H5.out.b.setCell HGB.out _) HP.out.2 (.inl rfl))
      go_roundg kk
      case measure => omega
      case rel => exact ⟨i + 1, _, by first | rfl | rw [hW.out], ⟨HM.out kk rfl⟩, H5⟩
  case neg =>
  have ci' : decide (i < (v.length : Int)) = false := decide_eq_false ci
  clear HI ci
  go_wp2
  go_loopg [9, 18] 40 (fun kq vv vq w' => ∃ (i : Int) (xc' : List Int), vq = .int .i64 i ∧ Aside0 (0 ≤ i ∧ i ≤ 40 ∧ 40 - i ≤ (kq : Int) ∧ (xc'.length : Int) ≤ (v.length : Int) + i) ∧ Aside0 (Five w5 w' (.slice AF xF.length cF) vv vD (.slice AT T.length cT) vS xF xc' v T T))
  case atStart => exact ⟨0, _, rfl, ⟨by omega, by omega, by omega, by have := (Kd.R_reads' H5.out.C).1; omega⟩, H5⟩
  case round =>
  clear H5
  obtain ⟨i, xc', rfl, HI, H5⟩ := hrel
  by_cases ci : i < 40
  case pos =>
    have ci' : decide (i < 40) = true := decide_eq_true ci
    have hW : Aside0 (wrap64 (i + 1) = i + 1) := ⟨by
      have := HI.out
      unfold wrap64
      omega⟩
    have HM : Aside0 (∀ n_, gk = n_ + 1 → 0 ≤ i + 1 ∧ i + 1 ≤ 40 ∧ 40 - (i + 1) ≤ (n_ : Int) ∧ ((xc' ++ [(43 : Int)]).length : Int) ≤ (v.length : Int) + (i + 1)) := ⟨fun n_ hn => by have := HI.out; simp; omega⟩
    have hk0 : 0 < gk := by have := HI.out; omega
    have HLIM : Aside0 ((xc'.length + 1) * 1 ≤ 140737488355328) := ⟨by have := HI.out; have := HB.out; omega⟩
    clear ci HI
    cases gk with
    | zero => omega
    | succ kk =>
      go_wp2_with ((with_reducible refine gate_builtin (b := .append) (xs := #[.tmp 107, .tmp 108]) rfl ?_); at_builtin; refine Kd.R_append (Kd.int .u8) (w0 := w5) w5.heap.size rfl (.tmp 107) (.tmp 108) 22 5 (.int .u8 0) 1 rfl Tryd.underlying22 info5 rfl (by decide) (by omega) _ xc' (43) [.int .u8 (43)] (fun _ => True) (fun _ => False) rfl rfl rfl (fun _ hk => hk.elim) (fun _ _ => trivial) H5.out.C H5.out.b H5.out.b.size HLIM.out ?_; intro v1 w15 ho hb hg hat; replace H5 := Aside0.mk (H5.out.putC ho hb hg hat); clear ho hb hg hat)
      go_roundg kk
      case measure => omega
      case rel => exact ⟨i + 1, _, by first | rfl | rw [hW.out], ⟨HM.out kk rfl⟩, H5⟩
  case neg =>
  have ci' : decide (i < 40) = false := decide_eq_false ci
  clear HI ci
  go_wp2
  go_loopg [112] T.length (fun kq vq w' => ∃ (i : Int) (xt : List Int), vq = .int .i64 i ∧ Aside0 (0 ≤ i ∧ i ≤ (T.length : Int) ∧ (T.length : Int) - i ≤ (kq : Int)) ∧ Aside0 (Five w5 w' (.slice AF xF.length cF) u9 vD (.slice AT T.length cT) vS xF xc' v xt T))
  case atStart => exact ⟨0, _, rfl, ⟨by omega, by omega, by omega⟩, H5⟩
  case round =>
  clear H5
  obtain ⟨i, xt, rfl, HI, H5⟩ := hrel
  by_cases ci : i < (T.length : Int)
  case pos =>
    have ci' : decide (i < (T.length : Int)) = true := decide_eq_true ci
    have p0 : 0 ≤ i := HI.out.1
    have hm := (Kd.R_reads' H5.out.T).1
    obtain ⟨go, co, eo, gb, gl, cl, HG⟩ := Kd.R_form H5.out.T (by omega)
    injection eo with ea en ec
    subst ea
    subst ec
    obtain ⟨hx0, hf0⟩ := Kd.R_celln 0 H5.out.T i p0 ci
    have HP := Aside0.mk (Kd.R_putg H5.out.T i (-7))
    have HGB := Aside0.mk gb
    have q0 := eq_true ci
    replace p0 := eq_true p0
    have hW : Aside0 (wrap64 (i + 1) = i + 1) := ⟨by
      have := HB.out
      have := HI.out
      have := HXF.out.2.1
      unfold wrap64
      omega⟩
    have HM : Aside0 (∀ n_, gk = n_ + 1 → 0 ≤ i + 1 ∧ i + 1 ≤ (T.length : Int) ∧ (T.length : Int) - (i + 1) ≤ (n_ : Int)) := ⟨fun n_ hn => by have := HI.out; omega⟩
    have hk0 : 0 < gk := by have := HI.out; omega
    clear gb gl cl HG ci hm en HI
    cases gk with
    | zero => omega
    | succ kk =>
      go_wp2
      replace H5 := Aside0.mk (H5.out.putT HP.out.1 (H5.out.b.setCell HGB.out _) HP.out.2 (.inl rfl))
      go_roundg kk
      case measure => omega
      case rel => exact ⟨i + 1, _, by first | rfl | rw [hW.out], ⟨HM.out kk rfl⟩, H5⟩
  case neg =>
  have ci' : decide (i < (T.length : Int)) = false := decide_eq_false ci
  clear HI ci
  go_wp2
  go_loopg [13, 20] 40 (fun kq vv vq w' => ∃ (i : Int) (xt' : List Int), vq = .int .i64 i ∧ Aside0 (0 ≤ i ∧ i ≤ 40 ∧ 40 - i ≤ (kq : Int) ∧ (xt'.length : Int) ≤ (T.length : Int) + i) ∧ Aside0 (Five w5 w' (.slice AF xF.length cF) u9 vD vv vS xF xc' v xt' T))
  case atStart => exact ⟨0, _, rfl, ⟨by omega, by omega, by omega, by have := (Kd.R_reads' H5.out.T).1; omega⟩, H5⟩
  case round =>
  clear H5
  obtain ⟨i, xt', rfl, HI, H5⟩ := hrel
  by_cases ci : i < 40
  case pos =>
    have ci' : decide (i < 40) = true := decide_eq_true ci
    have hW : Aside0 (wrap64 (i + 1) = i + 1) := ⟨by
      have := HI.out
      unfold wrap64
      omega⟩
    have HM : Aside0 (∀ n_, gk = n_ + 1 → 0 ≤ i + 1 ∧ i + 1 ≤ 40 ∧ 40 - (i + 1) ≤ (n_ : Int) ∧ ((xt' ++ [(-8 : Int)]).length : Int) ≤ (T.length : Int) + (i + 1)) := ⟨fun n_ hn => by have := HI.out; simp; omega⟩
    have hk0 : 0 < gk := by have := HI.out; omega
    have HLIM : Aside0 ((xt'.length + 1) * 8 ≤ 140737488355328) := ⟨by have := HI.out; have := HB.out; omega⟩
    clear ci HI
    cases gk with
    | zero => omega
    | succ kk =>
      go_wp2_with ((with_reducible refine gate_builtin (b := .append) (xs := #[.tmp 123, .tmp 124]) rfl ?_); at_builtin; refine Kd.R_append (Kd.int .i64) (w0 := w5) w5.heap.size rfl (.tmp 123) (.tmp 124) 29 3 (.int .i64 0) 8 rfl Tryd.underlying29 info3 rfl (by decide) (by omega) _ xt' (-8) [.int .i64 (-8)] (fun _ => True) (fun _ => False) rfl rfl rfl (fun _ hk => hk.elim) (fun _ _ => trivial) H5.out.T H5.out.b H5.out.b.size HLIM.out ?_; intro v1 w15 ho hb hg hat; replace H5 := Aside0.mk (H5.out.putT ho hb hg hat); clear ho hb hg hat)
      go_roundg kk
      case measure => omega
      case rel => exact ⟨i + 1, _, by first | rfl | rw [hW.out], ⟨HM.out kk rfl⟩, H5⟩
  case neg =>
  have ci' : decide (i < 40) = false := decide_eq_false ci
  clear HI ci
  have u1 := str_of (c := cF) (Kd.R_reads' H5.out.F).2.2
  have u2 := str_of (c := c) (F.out.of H5.out.b).1
  have hAB : ((strOfNums xF).toList == (strOfNums l ++ ByteArray.mk #[65, 66]).toList) = true := by
    rw [← HXF.out.1]
    exact ab_str l
  have hsz1 : (strOfNums l).size + 2 ≤ 9223372036854775807 := by
    rw [strOfNums_size]
    have := HB.out
    omega
  go_upto_region 33 with (fail)
  clear u1 u2 hAB hsz1
  go_wp2
  go_loopg [134] xF.length (fun kq vq w' => ∃ (i : Int) (xf : List Int), vq = .int .i64 i ∧ Aside0 (0 ≤ i ∧ i ≤ (xF.length : Int) ∧ (xF.length : Int) - i ≤ (kq : Int)) ∧ Aside0 (Five w5 w' (.slice AF xF.length cF) u9 vD u13 vS xf xc' v xt' T))
  case atStart => exact ⟨0, _, rfl, ⟨by omega, by omega, by omega⟩, H5⟩
  case round =>
  clear H5
  obtain ⟨i, xf, rfl, HI, H5⟩ := hrel
  by_cases ci : i < (xF.length : Int)
  case pos =>
    have ci' : decide (i < (xF.length : Int)) = true := decide_eq_true ci
    have p0 : 0 ≤ i := HI.out.1
    have hm := (Kd.R_reads' H5.out.F).1
    obtain ⟨go, co, eo, gb, gl, cl, HG⟩ := Kd.R_form H5.out.F (by omega)
    injection eo with ea en ec
    subst ea
    subst ec
    obtain ⟨hx0, hf0⟩ := Kd.R_celln 0 H5.out.F i p0 ci
    have HP := Aside0.mk (Kd.R_putg H5.out.F i (122))
    have HGB := Aside0.mk gb
    have q0 := eq_true ci
    replace p0 := eq_true p0
    have hW : Aside0 (wrap64 (i + 1) = i + 1) := ⟨by
      have := HB.out
      have := HI.out
      have := HXF.out.2.1
      unfold wrap64
      omega⟩
    have HM : Aside0 (∀ n_, gk = n_ + 1 → 0 ≤ i + 1 ∧ i + 1 ≤ (xF.length : Int) ∧ (xF.length : Int) - (i + 1) ≤ (n_ : Int)) := ⟨fun n_ hn => by have := HI.out; omega⟩
    have hk0 : 0 < gk := by have := HI.out; omega
    clear gb gl cl HG ci hm en HI
    cases gk with
    | zero => omega
    | succ kk =>
      go_wp2
      replace H5 := Aside0.mk (H5.out.putF HP.out.1 (H5.out.b.setCell HGB.out _) HP.out.2)
      go_roundg kk
      case measure => omega
      case rel => exact ⟨i + 1, _, by first | rfl | rw [hW.out], ⟨HM.out kk rfl⟩, H5⟩
  case neg =>
  have ci' : decide (i < (xF.length : Int)) = false := decide_eq_false ci
  clear HI ci
  obtain ⟨i1, i2, i3, s0, s1, s2, s3, s4⟩ := F.out.of H5.out.b
  clear i1 i2 i3
  obtain ⟨AD, cD, rfl⟩ := Kd.R_slice H5.out.D
  obtain ⟨AS, cS, rfl⟩ := Kd.R_slice H5.out.S
  go_upto_region 39 with (go_at_call 40; refine (refCut.calls k A c l x a b z v n _ (F.out.of H5.out.b).1 HL.out.2 HRef.out).mono ?_; rintro e_ w20 ⟨AW, cW, rfl, hcW, hCW, hb⟩; replace H5 := Aside0.mk (H5.out.below hb); clear hb)
  have u1 := str_of (c := cD) (Kd.R_reads' H5.out.D).2.2
  have u2 := str_of (c := cW) hCW
  clear s0 s1 s2 s3 s4
  obtain ⟨i1, i2, i3, s0, s1, s2, s3, s4⟩ := F.out.of H5.out.b
  clear i1 i2 i3
  rcases HEND.out with he | ⟨he, ht, hsame⟩
  · have HR := Aside0.mk he
    clear he HEND
    go_wp2_with (go_at_call 33; refine (galleyref06_Ruler.calls x _ _ HR.out).mono ?_; rintro e_ w21 ⟨rfl, hd_⟩; have hb := hd_.below; replace H5 := Aside0.mk (H5.out.below hb); clear hb hd_)
    go_ret
    exact ⟨rfl, (F.out.of H5.out.b).2.2.1⟩
  · have HR := Aside0.mk he
    have HT2 := Aside0.mk ht
    have HSM := Aside0.mk hsame
    clear he ht hsame HEND
    go_wp2_with (first | (go_at_call 33; refine (galleyref06_Ruler.calls x _ _ HR.out).mono ?_; rintro e_ w21 ⟨rfl, hd_⟩; have hb := hd_.below; replace H5 := Aside0.mk (H5.out.below hb); clear hb hd_ s0 s1 s2 s3 s4; obtain ⟨i1, i2, i3, s0, s1, s2, s3, s4⟩ := F.out.of H5.out.b; clear i1 i2 i3) | (go_at_call 36; refine (galleyref06_Table.calls k A c l x T _ (F.out.of H5.out.b).1 HL.out.2 HT2.out).mono ?_; rintro e_ w22 ⟨vW, rfl, hW, hb⟩; replace H5 := Aside0.mk (H5.out.below hb); obtain ⟨AW2, cW2, rfl⟩ := Kd.R_slice hW; clear hb) | (go_at_call 35; refine (galleyref01_SameInts.calls k AS cS T AW2 cW2 T true _ (Kd.R_reads' H5.out.S).2.2 (Kd.R_reads' H5.out.S).2.1 (Kd.R_reads' hW).2.2 (Kd.R_reads' hW).2.1 HSM.out).mono ?_; rintro e_ w23 ⟨rfl, hd_⟩; have hb := hd_.below; replace H5 := Aside0.mk (H5.out.below hb); clear hb hd_))
    go_ret
    exact ⟨rfl, (F.out.of H5.out.b).2.2.1⟩
end Go.Proofs.YtbomhpfckplgaaaDoor.P
