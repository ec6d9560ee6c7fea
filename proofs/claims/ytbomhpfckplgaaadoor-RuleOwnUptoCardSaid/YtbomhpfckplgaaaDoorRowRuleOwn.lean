/- The statement RuleOwn: its row and its tied card (second form: of bulk at most 1048576). -/
import Derived.Test.YtbomhpfckplgaaaDoorRow0
import Derived.Test.YtbomhpfckplgaaaDoorRow1
import Derived.Test.YtbomhpfckplgaaaDoorRow2
import Derived.Test.YtbomhpfckplgaaaDoorUOwn
namespace Go.Proofs.YtbomhpfckplgaaaDoor.ruleOwn
open Go Go.ChangeShapes Go.WideShapes Go.ChangeAt Go.RowKit Go.Proofs.YtbomhpfckplgaaaDoor.P Go.Proofs.YtbomhpfckplgaaaDoorW.PrintWords
set_option linter.unusedVariables false
set_option maxRecDepth 100000 in
theorem contract (H : Type) (enc : TypeId × Value → H) (W : World) (base : Nat) (args : Array Value) (ds gs : List (DataW H)) (before : List MemPlace)
    (hval : ∀ (j : Nat) t v, Tryd.f11.params[j]? = some t → args[j]? = some v → Value.okWide Tryd.prog W .any base t v)
    (hW : DataW.Whole enc Tryd.prog Tryd.f11.params.toList Rows.ruleOwnSpec.vars false W args.toList ds gs before) (hL : laidMetH Tryd.prog badRow W) (hk : Rows.uptoBulkAll (ds ++ gs) ≤ 1048576)
    : Calls Tryd.prog 11 args W fun e W' => ∃ v, e = .returned v ∧ Rows.ruleOwnSpec.post enc Tryd.prog Tryd.f11 false true false false W args v W' := by
  have hW' := hW
  obtain ⟨p, q, hA0, hV, rfl, hfz, hnd⟩ := hW
  have hA : DataW.TrodAll enc Tryd.prog W 0 (fun _ => true) true Tryd.f11.params.toList args.toList ds p := hA0
  rw [Tryd.params11] at hA hval
  obtain ⟨v0, vs0, d0, ds0, p0, q0, hargs, rfl, rfl, h0, r0⟩ := trodAll_cons hA
  obtain ⟨v1, vs1, d1, ds1, p1, q1, rfl, rfl, rfl, h1, r1⟩ := trodAll_cons r0
  obtain ⟨v2, vs2, d2, ds2, p2, q2, rfl, rfl, rfl, h2, r2⟩ := trodAll_cons r1
  obtain ⟨rfl, rfl, rfl⟩ := trodAll_nil r2
  obtain rfl : args = #[v0, v1, v2] := by cases args; simp_all
  obtain ⟨rfl, rfl⟩ := trodVars_none hV
  have k0 := h0
  have lt0 : ∀ x ∈ p0, x.block < W.heap.size := by obtain ⟨m, hm⟩ := k0; exact DataW.trod_lt m _ _ _ hm
  obtain ⟨A0, c0, l0, I0⟩ := in_bytes (okWide_slice Tryd.underlying22 (hval 0 22 v0 rfl rfl)) h0
  have k1 := h1
  have lt1 : ∀ x ∈ p1, x.block < W.heap.size := by obtain ⟨m, hm⟩ := k1; exact DataW.trod_lt m _ _ _ hm
  obtain ⟨x1, y1, hv1⟩ := in_pair (hval 1 45 v1 rfl rfl) h1
  have k2 := h2
  have lt2 : ∀ x ∈ p2, x.block < W.heap.size := by obtain ⟨m, hm⟩ := k2; exact DataW.trod_lt m _ _ _ hm
  obtain ⟨x2, y2, z2, hv2⟩ := in_turn (hval 2 39 v2 rfl rfl) h2
  have hs0 : Small l0 := by
    have h1 := I0.bulk
    have h2 := part_bulk (H := H) (d := d0) (l := [d0, d1, d2] ++ []) (by simp)
    unfold Small
    have h3 := Nat.le_trans h2 hk
    omega
  obtain ⟨k, hkk⟩ := ruleOwn_law I0.bytes hs0  x1 y1 x2 y2 z2
  have walk := galleylaw06_RuleOwn.calls k A0 c0 l0 x1 y1 x2 y2 z2 true W I0.reads I0.cap (Laid.of_row hL) hkk
  clear hA0
  simp only [List.append_nil] at hW'
  rw [← I0.val] at walk
  rw [← hv1] at walk
  rw [← hv2] at walk
  refine walk.mono fun e W' ⟨he, bel⟩ => ?_
  subst he
  exact ⟨_, rfl, _, _, _, [], _, [], hW', trodAll_mk1 (shut_bool Tryd.underlying4 _), (trodAll_cons_mk (Below.trod laidOut (by kernel_rfl) (of_decide_eq_true (by kernel_rfl)) k0 bel lt0) (trodAll_cons_mk (Below.trod laidOut (by kernel_rfl) (of_decide_eq_true (by kernel_rfl)) k1 bel lt1) (trodAll_cons_mk (Below.trod laidOut (by kernel_rfl) (of_decide_eq_true (by kernel_rfl)) k2 bel lt2) trodAll_mk0))), rfl, bel.frame _, fun h => by cases h⟩
theorem reads (os : Os) {H : Type} (enc : TypeId × Value → H) : ∃ places, DataW.whole enc Tryd.prog ((laidWorld os #[.slice none 0 0, .agg #[.int .i64 0, .int .i64 0], .agg #[.int .i64 0, .int .i64 0, .int .i64 0]]).forCall (fun _ _ => 0) ⟨#[], #[.slice none 0 0, .agg #[.int .i64 0, .int .i64 0], .agg #[.int .i64 0, .int .i64 0, .int .i64 0]], []⟩).memory Tryd.f11.params.toList Rows.ruleOwnSpec.vars false (#[.slice none 0 0, .agg #[.int .i64 0, .int .i64 0], .agg #[.int .i64 0, .int .i64 0, .int .i64 0]] : Array Value).toList 8 = some ([.nil, .agg [.lit (.int .i64 0), .lit (.int .i64 0)], .agg [.lit (.int .i64 0), .lit (.int .i64 0), .lit (.int .i64 0)]], [], places) :=
  ⟨[], by kernel_rfl⟩
set_option maxRecDepth 100000 in
theorem lifted (os : Os) (started : os.Started) (H : Type) (enc : TypeId × Value → H) (F : Stop.Interp) :
    ReturnsInHanded {} Tryd.checked os 11 .any ((Rows.OpenSpec.upto Rows.ruleOwnSpec).preRow enc Tryd.prog Tryd.f11 Rows.ruleOwnUptoRow.domain false Rows.ruleOwnUptoRow.laid) (((Rows.OpenSpec.upto Rows.ruleOwnSpec).at F).post enc Tryd.prog Tryd.f11 false true false false) := by
  obtain ⟨places, hx⟩ := reads os enc
  refine returnsInHanded_of_row (C := Tryd.checked) (s := (Rows.OpenSpec.upto Rows.ruleOwnSpec)) own started (by kernel_rfl) Tryd.func11
    (witness_row_at (enc := enc) (C := Tryd.checked) false (laidWorld os #[.slice none 0 0, .agg #[.int .i64 0, .int .i64 0], .agg #[.int .i64 0, .int .i64 0, .int .i64 0]]) #[.slice none 0 0, .agg #[.int .i64 0, .int .i64 0], .agg #[.int .i64 0, .int .i64 0, .int .i64 0]] rfl (by kernel_rfl) (by kernel_rfl) (by kernel_rfl)
      (OpenSpec.preRow_of_cond 8 hx (by kernel_rfl) (fun k hk => by cases hk; kernel_rfl) (by kernel_rfl) (laid_met os #[.slice none 0 0, .agg #[.int .i64 0, .int .i64 0], .agg #[.int .i64 0, .int .i64 0, .int .i64 0]]))) ?_
  intro W base args ds gs before hval hW _ hc _ hL _ _
  exact contract H enc W base args ds gs before hval hW hL (upto_bound (hc _ rfl))
theorem closed : joinedFacts Tryd.prog 11 Tryd.f11 (Rows.OpenSpec.upto Rows.ruleOwnSpec).bare Rows.ruleOwnUptoRow = true := by
  unfold joinedFacts
  rw [mayEnter_eq, liftsFinal_eq, make_eq]
  kernel_rfl
theorem said : Rows.RuleOwnUptoSaid :=
  OpenClaim.holds_of_cond 11 Tryd.f11 rfl rfl rfl rfl rfl rfl rfl ⟨rfl, rfl, rfl, rfl, rfl⟩ rfl rfl rfl rfl rfl (by kernel_rfl) Tryd.func11 closed
    (of_decide_eq_true (by kernel_rfl)) (by unfold Func.isWrapper; first | (rw [if_pos (by decide +kernel)]; kernel_rfl) | (rw [if_neg (by decide +kernel)]; exact ⟨rfl, rfl⟩))
    (fun os started H enc _ F => by rw [OpenClaim.pre_eq_preRow]; exact lifted os started H enc F)
theorem plain (f : FuncId) (fn : Func) (hf : Tryd.pinned.checked.prog.funcNamed "galley/galleylaw06.RuleOwn" = some f) (hfn : Tryd.pinned.checked.prog.funcs[f]? = some fn) :
    false = Tryd.pinned.checked.prog.looks [] ∧ ∀ (j : Nat) t, fn.params[j]? = some t → Tryd.pinned.checked.prog.wantsStandIn t = false := by
  obtain rfl : f = 11 := Option.some.inj ((show Tryd.prog.funcNamed "galley/galleylaw06.RuleOwn" = some 11 by kernel_rfl).symm.trans hf) |>.symm
  obtain rfl : fn = Tryd.f11 := (Option.some.inj (Tryd.func11.symm.trans hfn)).symm
  refine ⟨by kernel_rfl, fun j t ht => ?_⟩
  rw [Tryd.params11] at ht
  have hm : t ∈ [22, 45, 39] := by have := Array.mem_of_getElem? ht; simpa using this
  have hall : ([22, 45, 39].all fun u => !Tryd.prog.wantsStandIn u) = true := by kernel_rfl
  exact (show Tryd.prog.wantsStandIn t = false by simpa using List.all_eq_true.1 hall t hm)
end Go.Proofs.YtbomhpfckplgaaaDoor.ruleOwn
namespace Go.Proofs.YtbomhpfckplgaaaDoor
open Go Go.Proofs.YtbomhpfckplgaaaDoor.P
theorem ruleOwn_card : Rows.RuleOwnUptoCardSaid :=
  Claim7.holds_tied_plain_at .later [] _ _ _ _ ruleOwn.said (fun _ h => by cases h) (by kernel_rfl) (fun _ h => by cases h) ruleOwnUpto_row_tie rfl ⟨rfl, rfl⟩ mainIs_eq rfl ruleOwn.plain (by kernel_rfl)
end Go.Proofs.YtbomhpfckplgaaaDoor
