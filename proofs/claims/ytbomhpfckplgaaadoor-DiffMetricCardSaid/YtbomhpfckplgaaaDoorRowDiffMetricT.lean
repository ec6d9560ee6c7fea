/- The statement DiffMetric: its row and its tied card. -/
import Derived.Test.YtbomhpfckplgaaaDoorT0
import Derived.Test.YtbomhpfckplgaaaDoorT1
import Derived.Test.YtbomhpfckplgaaaDoorT2
import Derived.Test.YtbomhpfckplgaaaDoorT3
import Derived.Test.YtbomhpfckplgaaaDoorT4
import Derived.Test.YtbomhpfckplgaaaDoorT5
import Derived.Test.YtbomhpfckplgaaaDoorT6
import Derived.Test.YtbomhpfckplgaaaDoorT7
import Derived.Test.YtbomhpfckplgaaaDoorT8
import Derived.Test.YtbomhpfckplgaaaDoorT9
namespace Go.Proofs.YtbomhpfckplgaaaDoor.diffMetric
open Go Go.ChangeShapes Go.WideShapes Go.ChangeAt Go.RowKit Go.Proofs.YtbomhpfckplgaaaDoor.P Go.Proofs.YtbomhpfckplgaaaDoorW.PrintWords
set_option linter.unusedVariables false
set_option maxRecDepth 100000 in
theorem contract (H : Type) (enc : TypeId × Value → H) (W : World) (base : Nat) (args : Array Value) (ds gs : List (DataW H)) (before : List MemPlace)
    (hval : ∀ (j : Nat) t v, Tryd.f26.params[j]? = some t → args[j]? = some v → Value.okWide Tryd.prog W .any base t v)
    (hW : DataW.Whole enc Tryd.prog Tryd.f26.params.toList Rows.diffMetricSpec.vars false W args.toList ds gs before) (hL : laidMetH Tryd.prog badRow W)
    (hsz : (DataW.weightsEach Tryd.prog (Tryd.f26.params.toList ++ Rows.diffMetricSpec.plain.varTypes Tryd.prog) (ds ++ gs)).all (· ≤ reachBytes) = true)
    : Calls Tryd.prog 26 args W fun e W' => ∃ v, e = .returned v ∧ Rows.diffMetricSpec.post enc Tryd.prog Tryd.f26 false true false false W args v W' := by
  have hW' := hW
  obtain ⟨p, q, hA0, hV, rfl, hfz, hnd⟩ := hW
  have hA : DataW.TrodAll enc Tryd.prog W 0 (fun _ => true) true Tryd.f26.params.toList args.toList ds p := hA0
  rw [Tryd.params26] at hA hval hsz
  obtain ⟨v0, vs0, d0, ds0, p0, q0, hargs, rfl, rfl, h0, r0⟩ := trodAll_cons hA
  obtain ⟨v1, vs1, d1, ds1, p1, q1, rfl, rfl, rfl, h1, r1⟩ := trodAll_cons r0
  obtain ⟨v2, vs2, d2, ds2, p2, q2, rfl, rfl, rfl, h2, r2⟩ := trodAll_cons r1
  obtain ⟨rfl, rfl, rfl⟩ := trodAll_nil r2
  obtain rfl : args = #[v0, v1, v2] := by cases args; simp_all
  obtain ⟨rfl, rfl⟩ := trodVars_none hV
  have k0 := h0
  have lt0 : ∀ x ∈ p0, x.block < W.heap.size := by obtain ⟨m, hm⟩ := k0; exact DataW.trod_lt m _ _ _ hm
  obtain ⟨A0, c0, l0, I0⟩ := in_bytes (okWide_slice Tryd.underlying22 (hval 0 22 v0 rfl rfl)) h0
  have k1 := h1
  have lt1 : ∀ x ∈ p1, x.block < W.heap.size := by obtain ⟨m, hm⟩ := k1; exact DataW.trod_lt m _ _ _ hm
  obtain ⟨A1, c1, l1, I1⟩ := in_bytes (okWide_slice Tryd.underlying22 (hval 1 22 v1 rfl rfl)) h1
  have k2 := h2
  have lt2 : ∀ x ∈ p2, x.block < W.heap.size := by obtain ⟨m, hm⟩ := k2; exact DataW.trod_lt m _ _ _ hm
  obtain ⟨A2, c2, l2, I2⟩ := in_bytes (okWide_slice Tryd.underlying22 (hval 2 22 v2 rfl rfl)) h2
  have hs0 : Wide l0 := by
    have h1 := sized_ints (len := l0.length) (a := A0) (cap := c0) (t := 22) (e := 5) (k := .u8) (j := 0) (d := d0) (B := 1) hsz rfl rfl Tryd.underlying22 Tryd.underlying5 (by kernel_rfl) (by kernel_rfl) (by rw [← I0.val]; exact h0)
    unfold Wide
    omega
  have hs1 : Wide l1 := by
    have h1 := sized_ints (len := l1.length) (a := A1) (cap := c1) (t := 22) (e := 5) (k := .u8) (j := 1) (d := d1) (B := 1) hsz rfl rfl Tryd.underlying22 Tryd.underlying5 (by kernel_rfl) (by kernel_rfl) (by rw [← I1.val]; exact h1)
    unfold Wide
    omega
  have hs2 : Wide l2 := by
    have h1 := sized_ints (len := l2.length) (a := A2) (cap := c2) (t := 22) (e := 5) (k := .u8) (j := 2) (d := d2) (B := 1) hsz rfl rfl Tryd.underlying22 Tryd.underlying5 (by kernel_rfl) (by kernel_rfl) (by rw [← I2.val]; exact h2)
    unfold Wide
    omega
  obtain ⟨k, hkk⟩ := diffMetric_law I0.bytes I1.bytes I2.bytes hs0 hs1 hs2   
  have walk := galleylaw19_DiffMetric.calls k A0 c0 l0 A1 c1 l1 A2 c2 l2 true W I0.reads I0.cap I1.reads I1.cap I2.reads I2.cap (Laid.of_row hL) hkk
  clear hA0
  simp only [List.append_nil] at hW'
  rw [← I0.val] at walk
  rw [← I1.val] at walk
  rw [← I2.val] at walk
  refine walk.mono fun e W' ⟨he, bel⟩ => ?_
  subst he
  exact ⟨_, rfl, _, _, _, [], _, [], hW', trodAll_mk1 (shut_bool Tryd.underlying4 _), (trodAll_cons_mk (Below.trod laidOut (by kernel_rfl) (of_decide_eq_true (by kernel_rfl)) k0 bel lt0) (trodAll_cons_mk (Below.trod laidOut (by kernel_rfl) (of_decide_eq_true (by kernel_rfl)) k1 bel lt1) (trodAll_cons_mk (Below.trod laidOut (by kernel_rfl) (of_decide_eq_true (by kernel_rfl)) k2 bel lt2) trodAll_mk0))), rfl, bel.frame _, fun h => by cases h⟩
theorem reads (os : Os) {H : Type} (enc : TypeId × Value → H) : ∃ places, DataW.whole enc Tryd.prog ((laidWorld os #[.slice none 0 0, .slice none 0 0, .slice none 0 0]).forCall (fun _ _ => 0) ⟨#[], #[.slice none 0 0, .slice none 0 0, .slice none 0 0], []⟩).memory Tryd.f26.params.toList Rows.diffMetricSpec.vars false (#[.slice none 0 0, .slice none 0 0, .slice none 0 0] : Array Value).toList 8 = some ([.nil, .nil, .nil], [], places) :=
  ⟨[], by kernel_rfl⟩
set_option maxRecDepth 100000 in
theorem lifted (os : Os) (started : os.Started) (H : Type) (enc : TypeId × Value → H) (F : Stop.Interp) :
    ReturnsInHanded {} Tryd.checked os 26 .any ((OpenSpec.ofChange Rows.diffMetricSpec).preRow enc Tryd.prog Tryd.f26 Rows.diffMetricRow.domain false Rows.diffMetricRow.laid) (((OpenSpec.ofChange Rows.diffMetricSpec).at F).post enc Tryd.prog Tryd.f26 false true false false) := by
  obtain ⟨places, hx⟩ := reads os enc
  refine returnsInHanded_of_row (C := Tryd.checked) (s := (OpenSpec.ofChange Rows.diffMetricSpec)) own started (by kernel_rfl) Tryd.func26
    (witness_row_at (enc := enc) (C := Tryd.checked) false (laidWorld os #[.slice none 0 0, .slice none 0 0, .slice none 0 0]) #[.slice none 0 0, .slice none 0 0, .slice none 0 0] rfl (by kernel_rfl) (by kernel_rfl) (by kernel_rfl)
      (OpenSpec.preRow_of_cond 8 hx (by kernel_rfl) (fun k hk => by cases hk) (by kernel_rfl) (laid_met os #[.slice none 0 0, .slice none 0 0, .slice none 0 0]))) ?_
  intro W base args ds gs before hval hW _ _ hsz hL _ _
  exact contract H enc W base args ds gs before hval hW hL hsz
theorem closed : joinedFacts Tryd.prog 26 Tryd.f26 (OpenSpec.ofChange Rows.diffMetricSpec).bare Rows.diffMetricRow = true := by
  unfold joinedFacts
  rw [mayEnter_eq, liftsFinal_eq, make_eq]
  kernel_rfl
theorem said : Rows.DiffMetricSaid :=
  OpenClaim.holds_of_cond 26 Tryd.f26 rfl rfl rfl rfl rfl rfl rfl ⟨rfl, rfl, rfl, rfl, rfl⟩ rfl rfl rfl rfl rfl (by kernel_rfl) Tryd.func26 closed
    (of_decide_eq_true (by kernel_rfl)) (by unfold Func.isWrapper; first | (rw [if_pos (by decide +kernel)]; kernel_rfl) | (rw [if_neg (by decide +kernel)]; exact ⟨rfl, rfl⟩))
    (fun os started H enc _ F => by rw [OpenClaim.pre_eq_preRow]; exact lifted os started H enc F)
theorem plain (f : FuncId) (fn : Func) (hf : Tryd.pinned.checked.prog.funcNamed "galley/galleylaw19.DiffMetric" = some f) (hfn : Tryd.pinned.checked.prog.funcs[f]? = some fn) :
    false = Tryd.pinned.checked.prog.looks [] ∧ ∀ (j : Nat) t, fn.params[j]? = some t → Tryd.pinned.checked.prog.wantsStandIn t = false := by
  obtain rfl : f = 26 := Option.some.inj ((show Tryd.prog.funcNamed "galley/galleylaw19.DiffMetric" = some 26 by kernel_rfl).symm.trans hf) |>.symm
  obtain rfl : fn = Tryd.f26 := (Option.some.inj (Tryd.func26.symm.trans hfn)).symm
  refine ⟨by kernel_rfl, fun j t ht => ?_⟩
  rw [Tryd.params26] at ht
  have hm : t ∈ [22, 22, 22] := by have := Array.mem_of_getElem? ht; simpa using this
  have hall : ([22, 22, 22].all fun u => !Tryd.prog.wantsStandIn u) = true := by kernel_rfl
  exact (show Tryd.prog.wantsStandIn t = false by simpa using List.all_eq_true.1 hall t hm)
end Go.Proofs.YtbomhpfckplgaaaDoor.diffMetric
namespace Go.Proofs.YtbomhpfckplgaaaDoor
open Go Go.Proofs.YtbomhpfckplgaaaDoor.P
theorem diffMetric_card : Rows.DiffMetricCardSaid :=
  Claim7.holds_tied_plain_at .later [] _ _ _ _ diffMetric.said (fun _ h => by cases h) (by kernel_rfl) (fun _ h => by cases h) diffMetric_row_tie rfl ⟨rfl, rfl⟩ mainIs_eq rfl diffMetric.plain (by kernel_rfl)
end Go.Proofs.YtbomhpfckplgaaaDoor
