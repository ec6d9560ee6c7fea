/- The statement LinesAt: its row and its tied card. -/
import Derived.Test.YtbomhpfckplgaaaDoorT1
import Derived.Test.YtbomhpfckplgaaaDoorT0
import Derived.Test.YtbomhpfckplgaaaDoorT8
namespace Go.Proofs.YtbomhpfckplgaaaDoor.linesAt
open Go Go.ChangeShapes Go.WideShapes Go.ChangeAt Go.RowKit Go.Proofs.YtbomhpfckplgaaaDoor.P Go.Proofs.YtbomhpfckplgaaaDoorW.PrintWords
set_option linter.unusedVariables false
set_option maxRecDepth 100000 in
theorem contract (H : Type) (enc : TypeId × Value → H) (W : World) (base : Nat) (args : Array Value) (ds gs : List (DataW H)) (before : List MemPlace)
    (hval : ∀ (j : Nat) t v, Tryd.f13.params[j]? = some t → args[j]? = some v → Value.okWide Tryd.prog W .any base t v)
    (hW : DataW.Whole enc Tryd.prog Tryd.f13.params.toList Rows.linesAtSpec.vars false W args.toList ds gs before) (hL : laidMetH Tryd.prog badRow W)
    (hsz : (DataW.weightsEach Tryd.prog (Tryd.f13.params.toList ++ Rows.linesAtSpec.plain.varTypes Tryd.prog) (ds ++ gs)).all (· ≤ reachBytes) = true)
    : Calls Tryd.prog 13 args W fun e W' => ∃ v, e = .returned v ∧ Rows.linesAtSpec.post enc Tryd.prog Tryd.f13 false true false false W args v W' := by
  have hW' := hW
  obtain ⟨p, q, hA0, hV, rfl, hfz, hnd⟩ := hW
  have hA : DataW.TrodAll enc Tryd.prog W 0 (fun _ => true) true Tryd.f13.params.toList args.toList ds p := hA0
  rw [Tryd.params13] at hA hval hsz
  obtain ⟨v0, vs0, d0, ds0, p0, q0, hargs, rfl, rfl, h0, r0⟩ := trodAll_cons hA
  obtain ⟨v1, vs1, d1, ds1, p1, q1, rfl, rfl, rfl, h1, r1⟩ := trodAll_cons r0
  obtain ⟨rfl, rfl, rfl⟩ := trodAll_nil r1
  obtain rfl : args = #[v0, v1] := by cases args; simp_all
  obtain ⟨rfl, rfl⟩ := trodVars_none hV
  have k0 := h0
  have lt0 : ∀ x ∈ p0, x.block < W.heap.size := by obtain ⟨m, hm⟩ := k0; exact DataW.trod_lt m _ _ _ hm
  obtain ⟨A0, c0, l0, I0⟩ := in_bytes (okWide_slice Tryd.underlying22 (hval 0 22 v0 rfl rfl)) h0
  have k1 := h1
  have lt1 : ∀ x ∈ p1, x.block < W.heap.size := by obtain ⟨m, hm⟩ := k1; exact DataW.trod_lt m _ _ _ hm
  obtain ⟨A1, c1, l1, I1⟩ := in_asks (okWide_slice Tryd.underlying69 (hval 1 69 v1 rfl rfl)) h1
  have hs0 : Wide l0 := by
    have h1 := sized_ints (len := l0.length) (a := A0) (cap := c0) (t := 22) (e := 5) (k := .u8) (j := 0) (d := d0) (B := 1) hsz rfl rfl Tryd.underlying22 Tryd.underlying5 (by kernel_rfl) (by kernel_rfl) (by rw [← I0.val]; exact h0)
    unfold Wide
    omega
  have hx1 : l1.length < 4611686018427387904 := by have := I1.sized (ts := _) (ds := _) (j := 1) (d := d1) hsz rfl rfl Tryd.underlying69 (B := 32) (by kernel_rfl); omega
  obtain ⟨k, hkk⟩ := linesAt_law I0.bytes hs0  l1 hx1
  have walk := la.calls k A0 c0 l0 A1 c1 l1 W I0.reads I0.cap I1.reads I1.cap (Laid.of_row hL) hkk
  clear hA0
  simp only [List.append_nil] at hW'
  rw [← I0.val] at walk
  rw [← I1.val] at walk
  refine walk.mono fun e W' ⟨he, bel⟩ => ?_
  subst he
  exact ⟨_, rfl, _, _, _, [], _, [], hW', trodAll_mk1 (shut_bool Tryd.underlying4 _), (trodAll_cons_mk (Below.trod laidOut (by kernel_rfl) (of_decide_eq_true (by kernel_rfl)) k0 bel lt0) (trodAll_cons_mk (Below.trod laidOut (by kernel_rfl) (of_decide_eq_true (by kernel_rfl)) k1 bel lt1) trodAll_mk0)), rfl, bel.frame _, fun h => by cases h⟩
theorem reads (os : Os) {H : Type} (enc : TypeId × Value → H) : ∃ places, DataW.whole enc Tryd.prog ((laidWorld os #[.slice none 0 0, .slice none 0 0]).forCall (fun _ _ => 0) ⟨#[], #[.slice none 0 0, .slice none 0 0], []⟩).memory Tryd.f13.params.toList Rows.linesAtSpec.vars false (#[.slice none 0 0, .slice none 0 0] : Array Value).toList 8 = some ([.nil, .nil], [], places) :=
  ⟨[], by kernel_rfl⟩
set_option maxRecDepth 100000 in
theorem lifted (os : Os) (started : os.Started) (H : Type) (enc : TypeId × Value → H) (F : Stop.Interp) :
    ReturnsInHanded {} Tryd.checked os 13 .any ((OpenSpec.ofChange Rows.linesAtSpec).preRow enc Tryd.prog Tryd.f13 Rows.linesAtRow.domain false Rows.linesAtRow.laid) (((OpenSpec.ofChange Rows.linesAtSpec).at F).post enc Tryd.prog Tryd.f13 false true false false) := by
  obtain ⟨places, hx⟩ := reads os enc
  refine returnsInHanded_of_row (C := Tryd.checked) (s := (OpenSpec.ofChange Rows.linesAtSpec)) own started (by kernel_rfl) Tryd.func13
    (witness_row_at (enc := enc) (C := Tryd.checked) false (laidWorld os #[.slice none 0 0, .slice none 0 0]) #[.slice none 0 0, .slice none 0 0] rfl (by kernel_rfl) (by kernel_rfl) (by kernel_rfl)
      (OpenSpec.preRow_of_cond 8 hx (by kernel_rfl) (fun k hk => by cases hk) (by kernel_rfl) (laid_met os #[.slice none 0 0, .slice none 0 0]))) ?_
  intro W base args ds gs before hval hW _ _ hsz hL _ _
  exact contract H enc W base args ds gs before hval hW hL hsz
theorem closed : joinedFacts Tryd.prog 13 Tryd.f13 (OpenSpec.ofChange Rows.linesAtSpec).bare Rows.linesAtRow = true := by
  unfold joinedFacts
  rw [mayEnter_eq, liftsFinal_eq, make_eq]
  kernel_rfl
theorem said : Rows.LinesAtSaid :=
  OpenClaim.holds_of_cond 13 Tryd.f13 rfl rfl rfl rfl rfl rfl rfl ⟨rfl, rfl, rfl, rfl, rfl⟩ rfl rfl rfl rfl rfl (by kernel_rfl) Tryd.func13 closed
    (of_decide_eq_true (by kernel_rfl)) (by unfold Func.isWrapper; first | (rw [if_pos (by decide +kernel)]; kernel_rfl) | (rw [if_neg (by decide +kernel)]; exact ⟨rfl, rfl⟩))
    (fun os started H enc _ F => by rw [OpenClaim.pre_eq_preRow]; exact lifted os started H enc F)
theorem plain (f : FuncId) (fn : Func) (hf : Tryd.pinned.checked.prog.funcNamed "galley/galleylaw07.LinesAt" = some f) (hfn : Tryd.pinned.checked.prog.funcs[f]? = some fn) :
    false = Tryd.pinned.checked.prog.looks [] ∧ ∀ (j : Nat) t, fn.params[j]? = some t → Tryd.pinned.checked.prog.wantsStandIn t = false := by
  obtain rfl : f = 13 := Option.some.inj ((show Tryd.prog.funcNamed "galley/galleylaw07.LinesAt" = some 13 by kernel_rfl).symm.trans hf) |>.symm
  obtain rfl : fn = Tryd.f13 := (Option.some.inj (Tryd.func13.symm.trans hfn)).symm
  refine ⟨by kernel_rfl, fun j t ht => ?_⟩
  rw [Tryd.params13] at ht
  have hm : t ∈ [22, 69] := by have := Array.mem_of_getElem? ht; simpa using this
  have hall : ([22, 69].all fun u => !Tryd.prog.wantsStandIn u) = true := by kernel_rfl
  exact (show Tryd.prog.wantsStandIn t = false by simpa using List.all_eq_true.1 hall t hm)
end Go.Proofs.YtbomhpfckplgaaaDoor.linesAt
namespace Go.Proofs.YtbomhpfckplgaaaDoor
open Go Go.Proofs.YtbomhpfckplgaaaDoor.P
theorem linesAt_card : Rows.LinesAtCardSaid :=
  Claim7.holds_tied_plain_at .later [] _ _ _ _ linesAt.said (fun _ h => by cases h) (by kernel_rfl) (fun _ h => by cases h) linesAt_row_tie rfl ⟨rfl, rfl⟩ mainIs_eq rfl linesAt.plain (by kernel_rfl)
end Go.Proofs.YtbomhpfckplgaaaDoor
