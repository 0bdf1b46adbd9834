/- For every input the law SignedAccepts returns true, and each argument reads behind the call as it read before. Conditions: none. -/
import Derived.Test.YteeopgpgbdhmhaaRows
import Derived.WalkKit
import Derived.ProofKit
import Derived.OpenShut
import Derived.SizedLaws
import Derived.Test.YteeopgpgbdhmhaaAcc4
namespace Go.Proofs.Yteeopgpgbdhmhaa.signedAccepts
open Go.ChangeShapes Go.WideShapes Go.ChangeAt Go.RowKit
set_option linter.unusedVariables false
set_option maxRecDepth 100000 in
theorem lifted (os : Os) (started : os.Started) (H : Type) (enc : TypeId × Value → H) :
    ReturnsInHanded {} Try.checked os 22 .any (Rows.signedAcceptsSpec.pre6 enc Try.prog Try.f22 Rows.signedAcceptsRow.domain false) (Rows.signedAcceptsSpec.post enc Try.prog Try.f22 false true false false) := by
  refine returnsInHanded_of_change (C := Try.checked) own started (by kernel_rfl) Try.func22
    (ChangeSpec.witness6 (enc := enc) (C := Try.checked) false ⟨#[], #[.agg #[.int .u8 0, .int .u8 0, .int .u8 0, .int .u8 0, .int .u8 0, .int .u8 0, .int .u8 0, .int .u8 0], .int .i64 0, .agg #[.int .i64 0, .int .i64 0, .int .i64 0, .int .i64 0, .int .i64 0, .int .i64 0, .int .u8 0, .int .u8 0, .int .u8 0, .int .u8 0, .int .u8 0, .int .u8 0, .int .u8 0, .int .u8 0, .int .u8 0, .int .u8 0, .int .u8 0, .int .u8 0, .int .u8 0, .int .u8 0, .int .u8 0, .int .u8 0]], []⟩ 8 (by kernel_rfl) (by kernel_rfl) (by kernel_rfl) (by kernel_rfl)) ?_
  intro W base args ds gs before hval0 hW hcnd _
  have hval : ∀ (j : Nat) t v, Try.f22.params[j]? = some t → args[j]? = some v → Value.okWide Try.prog W .any base t v := hval0
  have hW' := hW
  obtain ⟨p, q, hA0, hV, rfl, hfz, hnd⟩ := hW
  have hA : DataW.TrodAll enc Try.prog W 0 (fun _ => true) true Try.f22.params.toList args.toList ds p := hA0
  rw [Try.params22] at hA hval
  obtain ⟨v0, vs0, d0, ds0, p0, q0, hargs, rfl, rfl, h0, r0⟩ := trodAll_cons hA
  obtain ⟨v1, vs1, d1, ds1, p1, q1, rfl, rfl, rfl, h1, r1⟩ := trodAll_cons r0
  obtain ⟨v2, vs2, d2, ds2, p2, q2, rfl, rfl, rfl, h2, r2⟩ := trodAll_cons r1
  obtain ⟨rfl, rfl, rfl⟩ := trodAll_nil r2
  obtain rfl : args = #[v0, v1, v2] := by cases args; simp_all
  obtain ⟨rfl, rfl⟩ := trodVars_none hV
  have k0 := h0
  have lt0 : ∀ x ∈ p0, x.block < W.heap.size := by obtain ⟨m, hm⟩ := k0; exact DataW.trod_lt m _ _ _ hm
  have k1 := h1
  have lt1 : ∀ x ∈ p1, x.block < W.heap.size := by obtain ⟨m, hm⟩ := k1; exact DataW.trod_lt m _ _ _ hm
  have k2 := h2
  have lt2 : ∀ x ∈ p2, x.block < W.heap.size := by obtain ⟨m, hm⟩ := k2; exact DataW.trod_lt m _ _ _ hm
  obtain ⟨a0, rfl⟩ := open24 (hval 0 24 v0 rfl rfl) h0
  obtain ⟨a1, rfl, _, _, g1⟩ := open_int Try.underlying3 (hval 1 3 v1 rfl rfl) h1
  have f1 := wf_i64 g1
  obtain ⟨a2, rfl, f2⟩ := open26 (hval 2 26 v2 rfl rfl) h2
  clear hA0 hval0
  refine (c22 a0 a1 a2 W).mono fun e W' ⟨he, bel⟩ => ?_
  subst he
  exact ⟨_, rfl, _, _, _, [], _, [], hW', trodAll_mk1 (shut_bool Try.underlying4 _), (trodAll_cons_mk (Below.trod laidOut (by kernel_rfl) (of_decide_eq_true (by kernel_rfl)) k0 bel lt0) (trodAll_cons_mk (Below.trod laidOut (by kernel_rfl) (of_decide_eq_true (by kernel_rfl)) k1 bel lt1) (trodAll_cons_mk (Below.trod laidOut (by kernel_rfl) (of_decide_eq_true (by kernel_rfl)) k2 bel lt2) trodAll_mk0))), rfl, bel.frame _, fun h => by cases h⟩
theorem q0 : (Rows.signedAcceptsRow.wf (OpenSpec.ofChange Rows.signedAcceptsSpec)) = true := by kernel_rfl
theorem q3 : (Try.f22.params.all (Try.prog.readableRec ·)) = true := by kernel_rfl
theorem q4 : (namedTie Try.prog Rows.signedAcceptsRow.named Rows.signedAcceptsSpec.vars) = true := by kernel_rfl
theorem q5 : ((Rows.signedAcceptsRow.stops == [])) = true := by kernel_rfl
theorem q7 : ((Rows.signedAcceptsRow.knobs == [])) = true := by kernel_rfl
theorem q9 : ((Rows.signedAcceptsRow.inPlace == Try.prog.inPlace 22)) = true := by kernel_rfl
theorem q10 : ((Rows.signedAcceptsRow.unfollowed == Try.prog.unfollowed 22)) = true := by kernel_rfl
theorem q11 : ((Rows.signedAcceptsRow.recurses == Try.prog.recurses 22)) = true := by kernel_rfl
theorem q12 : ((Rows.signedAcceptsRow.named == Try.prog.varsNamed 22)) = true := by kernel_rfl
theorem q13 : ((Rows.signedAcceptsRow.maps == (Try.f22.params.toList ++ Rows.signedAcceptsSpec.plain.varTypes Try.prog).any (Try.prog.mapsRec ·))) = true := by kernel_rfl
theorem q14 : ((Rows.signedAcceptsRow.ifaces == (Try.f22.params.toList ++ Rows.signedAcceptsSpec.plain.varTypes Try.prog).any (Try.prog.ifacesRec ·))) = true := by kernel_rfl
theorem q15 : ((Rows.signedAcceptsRow.mapsOut == Try.prog.mapsAmong Try.f22.resultTypes.toList)) = true := by kernel_rfl
theorem q16 : ((Rows.signedAcceptsRow.loops == (Try.f22.params.toList ++ Rows.signedAcceptsSpec.plain.varTypes Try.prog).any (Try.prog.loopsFrom ·))) = true := by kernel_rfl
theorem q17 : ((Rows.signedAcceptsRow.wideKeys == (Try.f22.params.toList ++ Rows.signedAcceptsSpec.plain.varTypes Try.prog ++ Try.f22.resultTypes.toList).any (Try.prog.wideKeysFrom ·))) = true := by kernel_rfl
theorem q18 : (Rows.signedAcceptsSpec.vars.all (Try.prog.varReadable ·)) = true := by kernel_rfl
theorem q19 : (Try.f22.resultTypes.all (fun t => Try.prog.readableRec t && decide (t < Try.prog.types.size))) = true := by kernel_rfl
theorem q20 : ((Rows.signedAcceptsRow.ifacesOut == Try.f22.resultTypes.toList.any (Try.prog.ifacesRec ·))) = true := by kernel_rfl
theorem q21 : ((Rows.signedAcceptsRow.loopsOut == Try.f22.resultTypes.toList.any (Try.prog.loopsFrom ·))) = true := by kernel_rfl
theorem q22 : ((Rows.signedAcceptsRow.plainKeys == Try.prog.plainKeys)) = true := fact_plainKeys
theorem q23 : (Rows.signedAcceptsRow.shortTexts.isNone) = true := by kernel_rfl
theorem q26 : ((Rows.signedAcceptsRow.lifted == Try.prog.liftsFinal)) = true := fact_liftsFinal
theorem q27 : ((Try.prog.make == some Rows.signedAcceptsRow.make)) = true := fact_make
theorem q28 : ((Rows.signedAcceptsRow.kinds == (if Rows.signedAcceptsRow.domain.isEmpty then [] else Try.f22.params.toList.map fun t => match Try.prog.underlying t with | some (.int k) => some k | _ => none))) = true := by kernel_rfl
theorem q29 : ((Rows.signedAcceptsRow.pinned == Rows.signedAcceptsRow.pinnedBy)) = true := by kernel_rfl
theorem q30 : ((Rows.signedAcceptsRow.veiled == (Try.f22.params.toList ++ Rows.signedAcceptsSpec.plain.varTypes Try.prog ++ Try.f22.resultTypes.toList).any (Try.prog.veiledRec ·))) = true := by kernel_rfl
theorem q31 : (Rows.signedAcceptsRow.veiledFits Try.prog Try.f22.params.toList (Try.f22.params.toList ++ Rows.signedAcceptsSpec.plain.varTypes Try.prog ++ Try.f22.resultTypes.toList)) = true := by kernel_rfl
theorem qn : Try.prog.funcNamed Rows.signedAcceptsRow.func = some 22 := by kernel_rfl
set_option maxRecDepth 100000 in
theorem closed : joinedFacts Try.prog 22 Try.f22 Rows.signedAcceptsSpec Rows.signedAcceptsRow = true := joined_of Try.prog 22 Try.f22 Rows.signedAcceptsSpec Rows.signedAcceptsRow q0 fact_laidOut fact_mapsRowed q3 q4 q5 fact_stops q7 fact_knobs q9 q10 q11 q12 q13 q14 q15 q16 q17 q18 q19 q20 q21 q22 q23 fact_heard fact_mayEnter q26 q27 q28 q29 q30 q31
theorem over : Rows.signedAcceptsRow.holds Try.pinned (OpenSpec.ofChange Rows.signedAcceptsSpec) :=
  OpenClaim.holds_of_wide 22 Try.f22 rfl rfl rfl rfl rfl rfl rfl ⟨rfl, rfl, rfl, rfl, rfl⟩ rfl rfl rfl rfl rfl qn Try.func22 closed
    (of_decide_eq_true (by kernel_rfl)) (by unfold Func.isWrapper; rw [if_neg (by decide +kernel)]; exact ⟨rfl, rfl⟩)
    (fun os started H enc _ => lifted os started H enc)
/-- THE STATEMENT -/
theorem proved : Rows.SignedAcceptsSaid := over
#print axioms proved
end Go.Proofs.Yteeopgpgbdhmhaa.signedAccepts
