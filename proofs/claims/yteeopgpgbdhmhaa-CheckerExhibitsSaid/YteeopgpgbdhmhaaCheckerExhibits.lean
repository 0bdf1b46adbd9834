/- For every input the law CheckerExhibits returns true, and each argument reads behind the call as it read before. Conditions: none. -/
import Derived.Test.YteeopgpgbdhmhaaRows
import Derived.WalkKit
import Derived.ProofKit
import Derived.OpenShut
import Derived.SizedLaws
import Derived.Test.YteeopgpgbdhmhaaOp
import Derived.Test.YteeopgpgbdhmhaaFa
import Derived.Test.YteeopgpgbdhmhaaOn
import Derived.Test.YteeopgpgbdhmhaaWQ
namespace Go.Proofs.Yteeopgpgbdhmhaa.checkerExhibits
open Go.ChangeShapes Go.WideShapes Go.ChangeAt Go.RowKit
set_option linter.unusedVariables false
set_option maxRecDepth 100000 in
theorem lifted (os : Os) (started : os.Started) (H : Type) (enc : TypeId × Value → H) :
    ReturnsInHanded {} Try.checked os 12 .any (Rows.checkerExhibitsSpec.pre6 enc Try.prog Try.f12 Rows.checkerExhibitsRow.domain false) (Rows.checkerExhibitsSpec.post enc Try.prog Try.f12 false true false false) := by
  refine returnsInHanded_of_change (C := Try.checked) own started (by kernel_rfl) Try.func12
    (ChangeSpec.witness6 (enc := enc) (C := Try.checked) false ⟨#[], #[.slice none 0 0, .slice none 0 0], []⟩ 8 (by kernel_rfl) (by kernel_rfl) (by kernel_rfl) (by kernel_rfl)) ?_
  intro W base args ds gs before hval0 hW hcnd _
  have hval : ∀ (j : Nat) t v, Try.f12.params[j]? = some t → args[j]? = some v → Value.okWide Try.prog W .any base t v := hval0
  have hW' := hW
  obtain ⟨p, q, hA0, hV, rfl, hfz, hnd⟩ := hW
  have hA : DataW.TrodAll enc Try.prog W 0 (fun _ => true) true Try.f12.params.toList args.toList ds p := hA0
  rw [Try.params12] at hA hval
  obtain ⟨v0, vs0, d0, ds0, p0, q0, hargs, rfl, rfl, h0, r0⟩ := trodAll_cons hA
  obtain ⟨v1, vs1, d1, ds1, p1, q1, rfl, rfl, rfl, h1, r1⟩ := trodAll_cons r0
  obtain ⟨rfl, rfl, rfl⟩ := trodAll_nil r1
  obtain rfl : args = #[v0, v1] := by cases args; simp_all
  obtain ⟨rfl, rfl⟩ := trodVars_none hV
  have k0 := h0
  have lt0 : ∀ x ∈ p0, x.block < W.heap.size := by obtain ⟨m, hm⟩ := k0; exact DataW.trod_lt m _ _ _ hm
  have k1 := h1
  have lt1 : ∀ x ∈ p1, x.block < W.heap.size := by obtain ⟨m, hm⟩ := k1; exact DataW.trod_lt m _ _ _ hm
  obtain ⟨a0, f0⟩ := open45 (hval 0 45 v0 rfl rfl) h0
  obtain ⟨a1, f1⟩ := open31 (hval 1 31 v1 rfl rfl) h1
  clear hA0 hval0
  refine (c12 v0 a0 v1 a1 W f0 f1).mono fun e W' ⟨he, bel⟩ => ?_
  subst he
  exact ⟨_, rfl, _, _, _, [], _, [], hW', trodAll_mk1 (shut_bool Try.underlying4 _), (trodAll_cons_mk (Below.trod laidOut (by kernel_rfl) (of_decide_eq_true (by kernel_rfl)) k0 bel lt0) (trodAll_cons_mk (Below.trod laidOut (by kernel_rfl) (of_decide_eq_true (by kernel_rfl)) k1 bel lt1) trodAll_mk0)), rfl, bel.frame _, fun h => by cases h⟩
theorem q0 : (Rows.checkerExhibitsRow.wf (OpenSpec.ofChange Rows.checkerExhibitsSpec)) = true := by kernel_rfl
theorem q3 : (Try.f12.params.all (Try.prog.readableRec ·)) = true := by kernel_rfl
theorem q4 : (namedTie Try.prog Rows.checkerExhibitsRow.named Rows.checkerExhibitsSpec.vars) = true := by kernel_rfl
theorem q5 : ((Rows.checkerExhibitsRow.stops == [])) = true := by kernel_rfl
theorem q7 : ((Rows.checkerExhibitsRow.knobs == [])) = true := by kernel_rfl
theorem q9 : ((Rows.checkerExhibitsRow.inPlace == Try.prog.inPlace 12)) = true := by kernel_rfl
theorem q10 : ((Rows.checkerExhibitsRow.unfollowed == Try.prog.unfollowed 12)) = true := by kernel_rfl
theorem q11 : ((Rows.checkerExhibitsRow.recurses == Try.prog.recurses 12)) = true := by kernel_rfl
theorem q12 : ((Rows.checkerExhibitsRow.named == Try.prog.varsNamed 12)) = true := by kernel_rfl
theorem q13 : ((Rows.checkerExhibitsRow.maps == (Try.f12.params.toList ++ Rows.checkerExhibitsSpec.plain.varTypes Try.prog).any (Try.prog.mapsRec ·))) = true := by kernel_rfl
theorem q14 : ((Rows.checkerExhibitsRow.ifaces == (Try.f12.params.toList ++ Rows.checkerExhibitsSpec.plain.varTypes Try.prog).any (Try.prog.ifacesRec ·))) = true := by kernel_rfl
theorem q15 : ((Rows.checkerExhibitsRow.mapsOut == Try.prog.mapsAmong Try.f12.resultTypes.toList)) = true := by kernel_rfl
theorem q16 : ((Rows.checkerExhibitsRow.loops == (Try.f12.params.toList ++ Rows.checkerExhibitsSpec.plain.varTypes Try.prog).any (Try.prog.loopsFrom ·))) = true := by kernel_rfl
theorem q17 : ((Rows.checkerExhibitsRow.wideKeys == (Try.f12.params.toList ++ Rows.checkerExhibitsSpec.plain.varTypes Try.prog ++ Try.f12.resultTypes.toList).any (Try.prog.wideKeysFrom ·))) = true := by kernel_rfl
theorem q18 : (Rows.checkerExhibitsSpec.vars.all (Try.prog.varReadable ·)) = true := by kernel_rfl
theorem q19 : (Try.f12.resultTypes.all (fun t => Try.prog.readableRec t && decide (t < Try.prog.types.size))) = true := by kernel_rfl
theorem q20 : ((Rows.checkerExhibitsRow.ifacesOut == Try.f12.resultTypes.toList.any (Try.prog.ifacesRec ·))) = true := by kernel_rfl
theorem q21 : ((Rows.checkerExhibitsRow.loopsOut == Try.f12.resultTypes.toList.any (Try.prog.loopsFrom ·))) = true := by kernel_rfl
theorem q22 : ((Rows.checkerExhibitsRow.plainKeys == Try.prog.plainKeys)) = true := fact_plainKeys
theorem q23 : (Rows.checkerExhibitsRow.shortTexts.isNone) = true := by kernel_rfl
theorem q26 : ((Rows.checkerExhibitsRow.lifted == Try.prog.liftsFinal)) = true := fact_liftsFinal
theorem q27 : ((Try.prog.make == some Rows.checkerExhibitsRow.make)) = true := fact_make
theorem q28 : ((Rows.checkerExhibitsRow.kinds == (if Rows.checkerExhibitsRow.domain.isEmpty then [] else Try.f12.params.toList.map fun t => match Try.prog.underlying t with | some (.int k) => some k | _ => none))) = true := by kernel_rfl
theorem q29 : ((Rows.checkerExhibitsRow.pinned == Rows.checkerExhibitsRow.pinnedBy)) = true := by kernel_rfl
theorem q30 : ((Rows.checkerExhibitsRow.veiled == (Try.f12.params.toList ++ Rows.checkerExhibitsSpec.plain.varTypes Try.prog ++ Try.f12.resultTypes.toList).any (Try.prog.veiledRec ·))) = true := by kernel_rfl
theorem q31 : (Rows.checkerExhibitsRow.veiledFits Try.prog Try.f12.params.toList (Try.f12.params.toList ++ Rows.checkerExhibitsSpec.plain.varTypes Try.prog ++ Try.f12.resultTypes.toList)) = true := by kernel_rfl
theorem qn : Try.prog.funcNamed Rows.checkerExhibitsRow.func = some 12 := by kernel_rfl
set_option maxRecDepth 100000 in
theorem closed : joinedFacts Try.prog 12 Try.f12 Rows.checkerExhibitsSpec Rows.checkerExhibitsRow = true := joined_of Try.prog 12 Try.f12 Rows.checkerExhibitsSpec Rows.checkerExhibitsRow q0 fact_laidOut fact_mapsRowed q3 q4 q5 fact_stops q7 fact_knobs q9 q10 q11 q12 q13 q14 q15 q16 q17 q18 q19 q20 q21 q22 q23 fact_heard fact_mayEnter q26 q27 q28 q29 q30 q31
theorem over : Rows.checkerExhibitsRow.holds Try.pinned (OpenSpec.ofChange Rows.checkerExhibitsSpec) :=
  OpenClaim.holds_of_wide 12 Try.f12 rfl rfl rfl rfl rfl rfl rfl ⟨rfl, rfl, rfl, rfl, rfl⟩ rfl rfl rfl rfl rfl qn Try.func12 closed
    (of_decide_eq_true (by kernel_rfl)) (by unfold Func.isWrapper; rw [if_neg (by decide +kernel)]; exact ⟨rfl, rfl⟩)
    (fun os started H enc _ => lifted os started H enc)
/-- THE STATEMENT -/
theorem proved : Rows.CheckerExhibitsSaid := over
#print axioms proved
end Go.Proofs.Yteeopgpgbdhmhaa.checkerExhibits
