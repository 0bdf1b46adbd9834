/- For every input the law EvidenceCodes returns true, and each argument reads behind the call as it read before. Conditions: none. -/
import Derived.Test.YteeopgpgbdhmhaaRows
import Derived.WalkKit
import Derived.ProofKit
import Derived.OpenShut
import Derived.SizedLaws
import Derived.Test.YteeopgpgbdhmhaaEco5
namespace Go.Proofs.Yteeopgpgbdhmhaa.evidenceCodes
open Go.ChangeShapes Go.WideShapes Go.ChangeAt Go.RowKit
set_option linter.unusedVariables false
set_option maxRecDepth 100000 in
theorem lifted (os : Os) (started : os.Started) (H : Type) (enc : TypeId × Value → H) :
    ReturnsInHanded {} Try.checked os 23 .any (Rows.evidenceCodesSpec.pre6 enc Try.prog Try.f23 Rows.evidenceCodesRow.domain false) (Rows.evidenceCodesSpec.post enc Try.prog Try.f23 false true false false) := by
  refine returnsInHanded_of_change (C := Try.checked) own started (by kernel_rfl) Try.func23
    (ChangeSpec.witness6 (enc := enc) (C := Try.checked) false ⟨#[], #[.agg #[.int .i64 0, .int .i64 0, .int .i64 0, .int .i64 0, .int .i64 0, .int .i64 0, .int .u8 0, .int .u8 0, .int .u8 0, .int .u8 0, .int .u8 0, .int .u8 0, .int .u8 0, .int .u8 0, .int .u8 0, .int .u8 0, .int .u8 0, .int .u8 0, .int .u8 0, .int .u8 0, .int .u8 0, .int .u8 0, .slice none 0 0, .int .i64 0, .int .i64 0, .int .i64 0, .int .i64 0, .int .i64 0, .int .i64 0, .int .u8 0, .int .u8 0, .int .u8 0, .int .u8 0, .int .u8 0, .int .u8 0, .int .u8 0, .int .u8 0, .int .u8 0, .int .u8 0, .int .u8 0, .int .u8 0, .int .u8 0, .int .u8 0, .int .u8 0, .int .u8 0, .slice none 0 0], .slice none 0 0], []⟩ 8 (by kernel_rfl) (by kernel_rfl) (by kernel_rfl) (by kernel_rfl)) ?_
  intro W base args ds gs before hval0 hW hcnd _
  have hval : ∀ (j : Nat) t v, Try.f23.params[j]? = some t → args[j]? = some v → Value.okWide Try.prog W .any base t v := hval0
  have hW' := hW
  obtain ⟨p, q, hA0, hV, rfl, hfz, hnd⟩ := hW
  have hA : DataW.TrodAll enc Try.prog W 0 (fun _ => true) true Try.f23.params.toList args.toList ds p := hA0
  rw [Try.params23] at hA hval
  obtain ⟨v0, vs0, d0, ds0, p0, q0, hargs, rfl, rfl, h0, r0⟩ := trodAll_cons hA
  obtain ⟨v1, vs1, d1, ds1, p1, q1, rfl, rfl, rfl, h1, r1⟩ := trodAll_cons r0
  obtain ⟨rfl, rfl, rfl⟩ := trodAll_nil r1
  obtain rfl : args = #[v0, v1] := by cases args; simp_all
  obtain ⟨rfl, rfl⟩ := trodVars_none hV
  have k0 := h0
  have lt0 : ∀ x ∈ p0, x.block < W.heap.size := by obtain ⟨m, hm⟩ := k0; exact DataW.trod_lt m _ _ _ hm
  have k1 := h1
  have lt1 : ∀ x ∈ p1, x.block < W.heap.size := by obtain ⟨m, hm⟩ := k1; exact DataW.trod_lt m _ _ _ hm
  obtain ⟨a0, f0⟩ := open55 (hval 0 55 v0 rfl rfl) h0
  obtain ⟨a1, f1⟩ := open31 (hval 1 31 v1 rfl rfl) h1
  clear hA0 hval0
  refine (c23 v0 a0 v1 a1 W f0 f1).mono fun e W' ⟨he, bel⟩ => ?_
  subst he
  exact ⟨_, rfl, _, _, _, [], _, [], hW', trodAll_mk1 (shut_bool Try.underlying4 _), (trodAll_cons_mk (Below.trod laidOut (by kernel_rfl) (of_decide_eq_true (by kernel_rfl)) k0 bel lt0) (trodAll_cons_mk (Below.trod laidOut (by kernel_rfl) (of_decide_eq_true (by kernel_rfl)) k1 bel lt1) trodAll_mk0)), rfl, bel.frame _, fun h => by cases h⟩
theorem q0 : (Rows.evidenceCodesRow.wf (OpenSpec.ofChange Rows.evidenceCodesSpec)) = true := by kernel_rfl
theorem q3 : (Try.f23.params.all (Try.prog.readableRec ·)) = true := by kernel_rfl
theorem q4 : (namedTie Try.prog Rows.evidenceCodesRow.named Rows.evidenceCodesSpec.vars) = true := by kernel_rfl
theorem q5 : ((Rows.evidenceCodesRow.stops == [])) = true := by kernel_rfl
theorem q7 : ((Rows.evidenceCodesRow.knobs == [])) = true := by kernel_rfl
theorem q9 : ((Rows.evidenceCodesRow.inPlace == Try.prog.inPlace 23)) = true := by kernel_rfl
theorem q10 : ((Rows.evidenceCodesRow.unfollowed == Try.prog.unfollowed 23)) = true := by kernel_rfl
theorem q11 : ((Rows.evidenceCodesRow.recurses == Try.prog.recurses 23)) = true := by kernel_rfl
theorem q12 : ((Rows.evidenceCodesRow.named == Try.prog.varsNamed 23)) = true := by kernel_rfl
theorem q13 : ((Rows.evidenceCodesRow.maps == (Try.f23.params.toList ++ Rows.evidenceCodesSpec.plain.varTypes Try.prog).any (Try.prog.mapsRec ·))) = true := by kernel_rfl
theorem q14 : ((Rows.evidenceCodesRow.ifaces == (Try.f23.params.toList ++ Rows.evidenceCodesSpec.plain.varTypes Try.prog).any (Try.prog.ifacesRec ·))) = true := by kernel_rfl
theorem q15 : ((Rows.evidenceCodesRow.mapsOut == Try.prog.mapsAmong Try.f23.resultTypes.toList)) = true := by kernel_rfl
theorem q16 : ((Rows.evidenceCodesRow.loops == (Try.f23.params.toList ++ Rows.evidenceCodesSpec.plain.varTypes Try.prog).any (Try.prog.loopsFrom ·))) = true := by kernel_rfl
theorem q17 : ((Rows.evidenceCodesRow.wideKeys == (Try.f23.params.toList ++ Rows.evidenceCodesSpec.plain.varTypes Try.prog ++ Try.f23.resultTypes.toList).any (Try.prog.wideKeysFrom ·))) = true := by kernel_rfl
theorem q18 : (Rows.evidenceCodesSpec.vars.all (Try.prog.varReadable ·)) = true := by kernel_rfl
theorem q19 : (Try.f23.resultTypes.all (fun t => Try.prog.readableRec t && decide (t < Try.prog.types.size))) = true := by kernel_rfl
theorem q20 : ((Rows.evidenceCodesRow.ifacesOut == Try.f23.resultTypes.toList.any (Try.prog.ifacesRec ·))) = true := by kernel_rfl
theorem q21 : ((Rows.evidenceCodesRow.loopsOut == Try.f23.resultTypes.toList.any (Try.prog.loopsFrom ·))) = true := by kernel_rfl
theorem q22 : ((Rows.evidenceCodesRow.plainKeys == Try.prog.plainKeys)) = true := fact_plainKeys
theorem q23 : (Rows.evidenceCodesRow.shortTexts.isNone) = true := by kernel_rfl
theorem q26 : ((Rows.evidenceCodesRow.lifted == Try.prog.liftsFinal)) = true := fact_liftsFinal
theorem q27 : ((Try.prog.make == some Rows.evidenceCodesRow.make)) = true := fact_make
theorem q28 : ((Rows.evidenceCodesRow.kinds == (if Rows.evidenceCodesRow.domain.isEmpty then [] else Try.f23.params.toList.map fun t => match Try.prog.underlying t with | some (.int k) => some k | _ => none))) = true := by kernel_rfl
theorem q29 : ((Rows.evidenceCodesRow.pinned == Rows.evidenceCodesRow.pinnedBy)) = true := by kernel_rfl
theorem q30 : ((Rows.evidenceCodesRow.veiled == (Try.f23.params.toList ++ Rows.evidenceCodesSpec.plain.varTypes Try.prog ++ Try.f23.resultTypes.toList).any (Try.prog.veiledRec ·))) = true := by kernel_rfl
theorem q31 : (Rows.evidenceCodesRow.veiledFits Try.prog Try.f23.params.toList (Try.f23.params.toList ++ Rows.evidenceCodesSpec.plain.varTypes Try.prog ++ Try.f23.resultTypes.toList)) = true := by kernel_rfl
theorem qn : Try.prog.funcNamed Rows.evidenceCodesRow.func = some 23 := by kernel_rfl
set_option maxRecDepth 100000 in
theorem closed : joinedFacts Try.prog 23 Try.f23 Rows.evidenceCodesSpec Rows.evidenceCodesRow = true := joined_of Try.prog 23 Try.f23 Rows.evidenceCodesSpec Rows.evidenceCodesRow q0 fact_laidOut fact_mapsRowed q3 q4 q5 fact_stops q7 fact_knobs q9 q10 q11 q12 q13 q14 q15 q16 q17 q18 q19 q20 q21 q22 q23 fact_heard fact_mayEnter q26 q27 q28 q29 q30 q31
theorem over : Rows.evidenceCodesRow.holds Try.pinned (OpenSpec.ofChange Rows.evidenceCodesSpec) :=
  OpenClaim.holds_of_wide 23 Try.f23 rfl rfl rfl rfl rfl rfl rfl ⟨rfl, rfl, rfl, rfl, rfl⟩ rfl rfl rfl rfl rfl qn Try.func23 closed
    (of_decide_eq_true (by kernel_rfl)) (by unfold Func.isWrapper; rw [if_neg (by decide +kernel)]; exact ⟨rfl, rfl⟩)
    (fun os started H enc _ => lifted os started H enc)
/-- THE STATEMENT -/
theorem proved : Rows.EvidenceCodesSaid := over
#print axioms proved
end Go.Proofs.Yteeopgpgbdhmhaa.evidenceCodes
