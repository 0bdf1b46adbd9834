/- For every input the law CheckerBuilds returns true, and each argument reads behind the call as it read before. Conditions: none. -/
import Derived.Test.YteeopgpgbdhmhaaRows
import Derived.WalkKit
import Derived.ProofKit
import Derived.OpenShut
import Derived.SizedLaws
import Derived.Test.YteeopgpgbdhmhaaOp
import Derived.Test.YteeopgpgbdhmhaaFa
import Derived.Test.YteeopgpgbdhmhaaOe
import Derived.Test.YteeopgpgbdhmhaaWJ
namespace Go.Proofs.Yteeopgpgbdhmhaa.checkerBuilds
open Go.ChangeShapes Go.WideShapes Go.ChangeAt Go.RowKit
set_option linter.unusedVariables false
set_option maxRecDepth 100000 in
theorem lifted (os : Os) (started : os.Started) (H : Type) (enc : TypeId × Value → H) :
    ReturnsInHanded {} Try.checked os 10 .any (Rows.checkerBuildsSpec.pre6 enc Try.prog Try.f10 Rows.checkerBuildsRow.domain false) (Rows.checkerBuildsSpec.post enc Try.prog Try.f10 false true false false) := by
  refine returnsInHanded_of_change (C := Try.checked) own started (by kernel_rfl) Try.func10
    (ChangeSpec.witness6 (enc := enc) (C := Try.checked) false ⟨#[], #[.slice none 0 0], []⟩ 8 (by kernel_rfl) (by kernel_rfl) (by kernel_rfl) (by kernel_rfl)) ?_
  intro W base args ds gs before hval0 hW hcnd _
  have hval : ∀ (j : Nat) t v, Try.f10.params[j]? = some t → args[j]? = some v → Value.okWide Try.prog W .any base t v := hval0
  have hW' := hW
  obtain ⟨p, q, hA0, hV, rfl, hfz, hnd⟩ := hW
  have hA : DataW.TrodAll enc Try.prog W 0 (fun _ => true) true Try.f10.params.toList args.toList ds p := hA0
  rw [Try.params10] at hA hval
  obtain ⟨v0, vs0, d0, ds0, p0, q0, hargs, rfl, rfl, h0, r0⟩ := trodAll_cons hA
  obtain ⟨rfl, rfl, rfl⟩ := trodAll_nil r0
  obtain rfl : args = #[v0] := by cases args; simp_all
  obtain ⟨rfl, rfl⟩ := trodVars_none hV
  have k0 := h0
  have lt0 : ∀ x ∈ p0, x.block < W.heap.size := by obtain ⟨m, hm⟩ := k0; exact DataW.trod_lt m _ _ _ hm
  obtain ⟨a0, f0⟩ := open42 (hval 0 42 v0 rfl rfl) h0
  clear hA0 hval0
  refine (c10 v0 a0 W f0).mono fun e W' ⟨he, bel⟩ => ?_
  subst he
  exact ⟨_, rfl, _, _, _, [], _, [], hW', trodAll_mk1 (shut_bool Try.underlying4 _), (trodAll_cons_mk (Below.trod laidOut (by kernel_rfl) (of_decide_eq_true (by kernel_rfl)) k0 bel lt0) trodAll_mk0), rfl, bel.frame _, fun h => by cases h⟩
theorem q0 : (Rows.checkerBuildsRow.wf (OpenSpec.ofChange Rows.checkerBuildsSpec)) = true := by kernel_rfl
theorem q3 : (Try.f10.params.all (Try.prog.readableRec ·)) = true := by kernel_rfl
theorem q4 : (namedTie Try.prog Rows.checkerBuildsRow.named Rows.checkerBuildsSpec.vars) = true := by kernel_rfl
theorem q5 : ((Rows.checkerBuildsRow.stops == [])) = true := by kernel_rfl
theorem q7 : ((Rows.checkerBuildsRow.knobs == [])) = true := by kernel_rfl
theorem q9 : ((Rows.checkerBuildsRow.inPlace == Try.prog.inPlace 10)) = true := by kernel_rfl
theorem q10 : ((Rows.checkerBuildsRow.unfollowed == Try.prog.unfollowed 10)) = true := by kernel_rfl
theorem q11 : ((Rows.checkerBuildsRow.recurses == Try.prog.recurses 10)) = true := by kernel_rfl
theorem q12 : ((Rows.checkerBuildsRow.named == Try.prog.varsNamed 10)) = true := by kernel_rfl
theorem q13 : ((Rows.checkerBuildsRow.maps == (Try.f10.params.toList ++ Rows.checkerBuildsSpec.plain.varTypes Try.prog).any (Try.prog.mapsRec ·))) = true := by kernel_rfl
theorem q14 : ((Rows.checkerBuildsRow.ifaces == (Try.f10.params.toList ++ Rows.checkerBuildsSpec.plain.varTypes Try.prog).any (Try.prog.ifacesRec ·))) = true := by kernel_rfl
theorem q15 : ((Rows.checkerBuildsRow.mapsOut == Try.prog.mapsAmong Try.f10.resultTypes.toList)) = true := by kernel_rfl
theorem q16 : ((Rows.checkerBuildsRow.loops == (Try.f10.params.toList ++ Rows.checkerBuildsSpec.plain.varTypes Try.prog).any (Try.prog.loopsFrom ·))) = true := by kernel_rfl
theorem q17 : ((Rows.checkerBuildsRow.wideKeys == (Try.f10.params.toList ++ Rows.checkerBuildsSpec.plain.varTypes Try.prog ++ Try.f10.resultTypes.toList).any (Try.prog.wideKeysFrom ·))) = true := by kernel_rfl
theorem q18 : (Rows.checkerBuildsSpec.vars.all (Try.prog.varReadable ·)) = true := by kernel_rfl
theorem q19 : (Try.f10.resultTypes.all (fun t => Try.prog.readableRec t && decide (t < Try.prog.types.size))) = true := by kernel_rfl
theorem q20 : ((Rows.checkerBuildsRow.ifacesOut == Try.f10.resultTypes.toList.any (Try.prog.ifacesRec ·))) = true := by kernel_rfl
theorem q21 : ((Rows.checkerBuildsRow.loopsOut == Try.f10.resultTypes.toList.any (Try.prog.loopsFrom ·))) = true := by kernel_rfl
theorem q22 : ((Rows.checkerBuildsRow.plainKeys == Try.prog.plainKeys)) = true := fact_plainKeys
theorem q23 : (Rows.checkerBuildsRow.shortTexts.isNone) = true := by kernel_rfl
theorem q26 : ((Rows.checkerBuildsRow.lifted == Try.prog.liftsFinal)) = true := fact_liftsFinal
theorem q27 : ((Try.prog.make == some Rows.checkerBuildsRow.make)) = true := fact_make
theorem q28 : ((Rows.checkerBuildsRow.kinds == (if Rows.checkerBuildsRow.domain.isEmpty then [] else Try.f10.params.toList.map fun t => match Try.prog.underlying t with | some (.int k) => some k | _ => none))) = true := by kernel_rfl
theorem q29 : ((Rows.checkerBuildsRow.pinned == Rows.checkerBuildsRow.pinnedBy)) = true := by kernel_rfl
theorem q30 : ((Rows.checkerBuildsRow.veiled == (Try.f10.params.toList ++ Rows.checkerBuildsSpec.plain.varTypes Try.prog ++ Try.f10.resultTypes.toList).any (Try.prog.veiledRec ·))) = true := by kernel_rfl
theorem q31 : (Rows.checkerBuildsRow.veiledFits Try.prog Try.f10.params.toList (Try.f10.params.toList ++ Rows.checkerBuildsSpec.plain.varTypes Try.prog ++ Try.f10.resultTypes.toList)) = true := by kernel_rfl
theorem qn : Try.prog.funcNamed Rows.checkerBuildsRow.func = some 10 := by kernel_rfl
set_option maxRecDepth 100000 in
theorem closed : joinedFacts Try.prog 10 Try.f10 Rows.checkerBuildsSpec Rows.checkerBuildsRow = true := joined_of Try.prog 10 Try.f10 Rows.checkerBuildsSpec Rows.checkerBuildsRow q0 fact_laidOut fact_mapsRowed q3 q4 q5 fact_stops q7 fact_knobs q9 q10 q11 q12 q13 q14 q15 q16 q17 q18 q19 q20 q21 q22 q23 fact_heard fact_mayEnter q26 q27 q28 q29 q30 q31
theorem over : Rows.checkerBuildsRow.holds Try.pinned (OpenSpec.ofChange Rows.checkerBuildsSpec) :=
  OpenClaim.holds_of_wide 10 Try.f10 rfl rfl rfl rfl rfl rfl rfl ⟨rfl, rfl, rfl, rfl, rfl⟩ rfl rfl rfl rfl rfl qn Try.func10 closed
    (of_decide_eq_true (by kernel_rfl)) (by unfold Func.isWrapper; rw [if_neg (by decide +kernel)]; exact ⟨rfl, rfl⟩)
    (fun os started H enc _ => lifted os started H enc)
/-- THE STATEMENT -/
theorem proved : Rows.CheckerBuildsSaid := over
#print axioms proved
end Go.Proofs.Yteeopgpgbdhmhaa.checkerBuilds
