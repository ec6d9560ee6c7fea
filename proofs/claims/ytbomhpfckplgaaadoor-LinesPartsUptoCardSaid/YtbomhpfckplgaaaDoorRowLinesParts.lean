/- The statement LinesParts: its row and its tied card (second form: of bulk at most 1048576). -/
import Derived.Test.YtbomhpfckplgaaaDoorRow0
import Derived.Test.YtbomhpfckplgaaaDoorRow1
import Derived.Test.YtbomhpfckplgaaaDoorUParts
namespace Go.Proofs.YtbomhpfckplgaaaDoor.linesParts
open Go Go.ChangeShapes Go.WideShapes Go.ChangeAt Go.RowKit Go.Proofs.YtbomhpfckplgaaaDoor.P Go.Proofs.YtbomhpfckplgaaaDoorW.PrintWords
set_option linter.unusedVariables false
set_option maxRecDepth 100000 in
theorem contract (H : Type) (enc : TypeId × Value → H) (W : World) (base : Nat) (args : Array Value) (ds gs : List (DataW H)) (before : List MemPlace)
    (hval : ∀ (j : Nat) t v, Tryd.f16.params[j]? = some t → args[j]? = some v → Value.okWide Tryd.prog W .any base t v)
    (hW : DataW.Whole enc Tryd.prog Tryd.f16.params.toList Rows.linesPartsSpec.vars false W args.toList ds gs before) (hL : laidMetH Tryd.prog badRow W) (hk : Rows.uptoBulkAll (ds ++ gs) ≤ 1048576)
    : Calls Tryd.prog 16 args W fun e W' => ∃ v, e = .returned v ∧ Rows.linesPartsSpec.post enc Tryd.prog Tryd.f16 false true false false W args v W' := by
  have hW' := hW
  obtain ⟨p, q, hA0, hV, rfl, hfz, hnd⟩ := hW
  have hA : DataW.TrodAll enc Tryd.prog W 0 (fun _ => true) true Tryd.f16.params.toList args.toList ds p := hA0
  rw [Tryd.params16] at hA hval
  obtain ⟨v0, vs0, d0, ds0, p0, q0, hargs, rfl, rfl, h0, r0⟩ := trodAll_cons hA
  obtain ⟨rfl, rfl, rfl⟩ := trodAll_nil r0
  obtain rfl : args = #[v0] := by cases args; simp_all
  obtain ⟨rfl, rfl⟩ := trodVars_none hV
  have k0 := h0
  have lt0 : ∀ x ∈ p0, x.block < W.heap.size := by obtain ⟨m, hm⟩ := k0; exact DataW.trod_lt m _ _ _ hm
  obtain ⟨A0, c0, l0, I0⟩ := in_bytes (okWide_slice Tryd.underlying22 (hval 0 22 v0 rfl rfl)) h0
  have hs0 : Small l0 := by
    have h1 := I0.bulk
    have h2 := part_bulk (H := H) (d := d0) (l := [d0] ++ []) (by simp)
    unfold Small
    have h3 := Nat.le_trans h2 hk
    omega
  obtain ⟨k, hkk⟩ := linesParts_law I0.bytes hs0 
  have walk := galleylaw07_LinesParts.calls k A0 c0 l0 true W I0.reads I0.cap (Laid.of_row hL) hkk
  clear hA0
  simp only [List.append_nil] at hW'
  rw [← I0.val] at walk
  refine walk.mono fun e W' ⟨he, bel⟩ => ?_
  subst he
  exact ⟨_, rfl, _, _, _, [], _, [], hW', trodAll_mk1 (shut_bool Tryd.underlying4 _), (trodAll_cons_mk (Below.trod laidOut (by kernel_rfl) (of_decide_eq_true (by kernel_rfl)) k0 bel lt0) trodAll_mk0), rfl, bel.frame _, fun h => by cases h⟩
theorem reads (os : Os) {H : Type} (enc : TypeId × Value → H) : ∃ places, DataW.whole enc Tryd.prog ((laidWorld os #[.slice none 0 0]).forCall (fun _ _ => 0) ⟨#[], #[.slice none 0 0], []⟩).memory Tryd.f16.params.toList Rows.linesPartsSpec.vars false (#[.slice none 0 0] : Array Value).toList 8 = some ([.nil], [], places) :=
  ⟨[], by kernel_rfl⟩
set_option maxRecDepth 100000 in
theorem lifted (os : Os) (started : os.Started) (H : Type) (enc : TypeId × Value → H) (F : Stop.Interp) :
    ReturnsInHanded {} Tryd.checked os 16 .any ((Rows.OpenSpec.upto Rows.linesPartsSpec).preRow enc Tryd.prog Tryd.f16 Rows.linesPartsUptoRow.domain false Rows.linesPartsUptoRow.laid) (((Rows.OpenSpec.upto Rows.linesPartsSpec).at F).post enc Tryd.prog Tryd.f16 false true false false) := by
  obtain ⟨places, hx⟩ := reads os enc
  refine returnsInHanded_of_row (C := Tryd.checked) (s := (Rows.OpenSpec.upto Rows.linesPartsSpec)) own started (by kernel_rfl) Tryd.func16
    (witness_row_at (enc := enc) (C := Tryd.checked) false (laidWorld os #[.slice none 0 0]) #[.slice none 0 0] rfl (by kernel_rfl) (by kernel_rfl) (by kernel_rfl)
      (OpenSpec.preRow_of_cond 8 hx (by kernel_rfl) (fun k hk => by cases hk; kernel_rfl) (by kernel_rfl) (laid_met os #[.slice none 0 0]))) ?_
  intro W base args ds gs before hval hW _ hc _ hL _ _
  exact contract H enc W base args ds gs before hval hW hL (upto_bound (hc _ rfl))
theorem closed : joinedFacts Tryd.prog 16 Tryd.f16 (Rows.OpenSpec.upto Rows.linesPartsSpec).bare Rows.linesPartsUptoRow = true := by
  unfold joinedFacts
  rw [mayEnter_eq, liftsFinal_eq, make_eq]
  kernel_rfl
theorem said : Rows.LinesPartsUptoSaid :=
  OpenClaim.holds_of_cond 16 Tryd.f16 rfl rfl rfl rfl rfl rfl rfl ⟨rfl, rfl, rfl, rfl, rfl⟩ rfl rfl rfl rfl rfl (by kernel_rfl) Tryd.func16 closed
    (of_decide_eq_true (by kernel_rfl)) (by unfold Func.isWrapper; first | (rw [if_pos (by decide +kernel)]; kernel_rfl) | (rw [if_neg (by decide +kernel)]; exact ⟨rfl, rfl⟩))
    (fun os started H enc _ F => by rw [OpenClaim.pre_eq_preRow]; exact lifted os started H enc F)
theorem plain (f : FuncId) (fn : Func) (hf : Tryd.pinned.checked.prog.funcNamed "galley/galleylaw07.LinesParts" = some f) (hfn : Tryd.pinned.checked.prog.funcs[f]? = some fn) :
    false = Tryd.pinned.checked.prog.looks [] ∧ ∀ (j : Nat) t, fn.params[j]? = some t → Tryd.pinned.checked.prog.wantsStandIn t = false := by
  obtain rfl : f = 16 := Option.some.inj ((show Tryd.prog.funcNamed "galley/galleylaw07.LinesParts" = some 16 by kernel_rfl).symm.trans hf) |>.symm
  obtain rfl : fn = Tryd.f16 := (Option.some.inj (Tryd.func16.symm.trans hfn)).symm
  refine ⟨by kernel_rfl, fun j t ht => ?_⟩
  rw [Tryd.params16] at ht
  have hm : t ∈ [22] := by have := Array.mem_of_getElem? ht; simpa using this
  have hall : ([22].all fun u => !Tryd.prog.wantsStandIn u) = true := by kernel_rfl
  exact (show Tryd.prog.wantsStandIn t = false by simpa using List.all_eq_true.1 hall t hm)
end Go.Proofs.YtbomhpfckplgaaaDoor.linesParts
namespace Go.Proofs.YtbomhpfckplgaaaDoor
open Go Go.Proofs.YtbomhpfckplgaaaDoor.P
theorem linesParts_card : Rows.LinesPartsUptoCardSaid :=
  Claim7.holds_tied_plain_at .later [] _ _ _ _ linesParts.said (fun _ h => by cases h) (by kernel_rfl) (fun _ h => by cases h) linesPartsUpto_row_tie rfl ⟨rfl, rfl⟩ mainIs_eq rfl linesParts.plain (by kernel_rfl)
end Go.Proofs.YtbomhpfckplgaaaDoor
