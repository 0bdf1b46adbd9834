/- For every input the law VoteNames returns true, and each argument reads behind the call as it read before. Conditions: none. -/
import Derived.Test.YteeopgpgbdhmhaaRows
import Derived.WalkKit
import Derived.ProofKit
import Derived.OpenShut
import Derived.SizedLaws
import Derived.Test.YteeopgpgbdhmhaaOp
import Derived.Test.YteeopgpgbdhmhaaFa
import Derived.Test.YteeopgpgbdhmhaaWE
namespace Go.Proofs.Yteeopgpgbdhmhaa.voteNames
open Go.ChangeShapes Go.WideShapes Go.ChangeAt Go.RowKit
set_option linter.unusedVariables false
set_option maxRecDepth 100000 in
theorem lifted (os : Os) (started : os.Started) (H : Type) (enc : TypeId × Value → H) :
    ReturnsInHanded {} Try.checked os 7 .any (Rows.voteNamesSpec.pre6 enc Try.prog Try.f7 Rows.voteNamesRow.domain false) (Rows.voteNamesSpec.post enc Try.prog Try.f7 false true false false) := by
  refine returnsInHanded_of_change (C := Try.checked) own started (by kernel_rfl) Try.func7
    (ChangeSpec.witness6 (enc := enc) (C := Try.checked) false ⟨#[], #[.agg #[.int .i64 0, .int .i64 0, .int .i64 0, .int .i64 0, .int .i64 0, .int .i64 0, .int .u8 0, .int .u8 0, .int .u8 0, .int .u8 0, .int .u8 0, .int .u8 0, .int .u8 0, .int .u8 0, .int .u8 0, .int .u8 0, .int .u8 0, .int .u8 0, .int .u8 0, .int .u8 0, .int .u8 0, .int .u8 0], .agg #[.int .i64 0, .int .i64 0, .int .i64 0, .int .i64 0, .int .i64 0, .int .i64 0, .int .u8 0, .int .u8 0, .int .u8 0, .int .u8 0, .int .u8 0, .int .u8 0, .int .u8 0, .int .u8 0, .int .u8 0, .int .u8 0, .int .u8 0, .int .u8 0, .int .u8 0, .int .u8 0, .int .u8 0, .int .u8 0]], []⟩ 8 (by kernel_rfl) (by kernel_rfl) (by kernel_rfl) (by kernel_rfl)) ?_
  intro W base args ds gs before hval0 hW hcnd _
  have hval : ∀ (j : Nat) t v, Try.f7.params[j]? = some t → args[j]? = some v → Value.okWide Try.prog W .any base t v := hval0
  have hW' := hW
  obtain ⟨p, q, hA0, hV, rfl, hfz, hnd⟩ := hW
  have hA : DataW.TrodAll enc Try.prog W 0 (fun _ => true) true Try.f7.params.toList args.toList ds p := hA0
  rw [Try.params7] at hA hval
  obtain ⟨v0, vs0, d0, ds0, p0, q0, hargs, rfl, rfl, h0, r0⟩ := trodAll_cons hA
  obtain ⟨v1, vs1, d1, ds1, p1, q1, rfl, rfl, rfl, h1, r1⟩ := trodAll_cons r0
  obtain ⟨rfl, rfl, rfl⟩ := trodAll_nil r1
  obtain rfl : args = #[v0, v1] := by cases args; simp_all
  obtain ⟨rfl, rfl⟩ := trodVars_none hV
  have k0 := h0
  have lt0 : ∀ x ∈ p0, x.block < W.heap.size := by obtain ⟨m, hm⟩ := k0; exact DataW.trod_lt m _ _ _ hm
  have k1 := h1
  have lt1 : ∀ x ∈ p1, x.block < W.heap.size := by obtain ⟨m, hm⟩ := k1; exact DataW.trod_lt m _ _ _ hm
  obtain ⟨a0, rfl, f0⟩ := open26 (hval 0 26 v0 rfl rfl) h0
  obtain ⟨a1, rfl, f1⟩ := open26 (hval 1 26 v1 rfl rfl) h1
  clear hA0 hval0
  refine (c7 a0 a1 W f0 f1).mono fun e W' ⟨he, bel⟩ => ?_
  subst he
  exact ⟨_, rfl, _, _, _, [], _, [], hW', trodAll_mk1 (shut_bool Try.underlying4 _), (trodAll_cons_mk (Below.trod laidOut (by kernel_rfl) (of_decide_eq_true (by kernel_rfl)) k0 bel lt0) (trodAll_cons_mk (Below.trod laidOut (by kernel_rfl) (of_decide_eq_true (by kernel_rfl)) k1 bel lt1) trodAll_mk0)), rfl, bel.frame _, fun h => by cases h⟩
theorem q0 : (Rows.voteNamesRow.wf (OpenSpec.ofChange Rows.voteNamesSpec)) = true := by kernel_rfl
theorem q3 : (Try.f7.params.all (Try.prog.readableRec ·)) = true := by kernel_rfl
theorem q4 : (namedTie Try.prog Rows.voteNamesRow.named Rows.voteNamesSpec.vars) = true := by kernel_rfl
theorem q5 : ((Rows.voteNamesRow.stops == [])) = true := by kernel_rfl
theorem q7 : ((Rows.voteNamesRow.knobs == [])) = true := by kernel_rfl
theorem q9 : ((Rows.voteNamesRow.inPlace == Try.prog.inPlace 7)) = true := by kernel_rfl
theorem q10 : ((Rows.voteNamesRow.unfollowed == Try.prog.unfollowed 7)) = true := by kernel_rfl
theorem q11 : ((Rows.voteNamesRow.recurses == Try.prog.recurses 7)) = true := by kernel_rfl
theorem q12 : ((Rows.voteNamesRow.named == Try.prog.varsNamed 7)) = true := by kernel_rfl
theorem q13 : ((Rows.voteNamesRow.maps == (Try.f7.params.toList ++ Rows.voteNamesSpec.plain.varTypes Try.prog).any (Try.prog.mapsRec ·))) = true := by kernel_rfl
theorem q14 : ((Rows.voteNamesRow.ifaces == (Try.f7.params.toList ++ Rows.voteNamesSpec.plain.varTypes Try.prog).any (Try.prog.ifacesRec ·))) = true := by kernel_rfl
theorem q15 : ((Rows.voteNamesRow.mapsOut == Try.prog.mapsAmong Try.f7.resultTypes.toList)) = true := by kernel_rfl
theorem q16 : ((Rows.voteNamesRow.loops == (Try.f7.params.toList ++ Rows.voteNamesSpec.plain.varTypes Try.prog).any (Try.prog.loopsFrom ·))) = true := by kernel_rfl
theorem q17 : ((Rows.voteNamesRow.wideKeys == (Try.f7.params.toList ++ Rows.voteNamesSpec.plain.varTypes Try.prog ++ Try.f7.resultTypes.toList).any (Try.prog.wideKeysFrom ·))) = true := by kernel_rfl
theorem q18 : (Rows.voteNamesSpec.vars.all (Try.prog.varReadable ·)) = true := by kernel_rfl
theorem q19 : (Try.f7.resultTypes.all (fun t => Try.prog.readableRec t && decide (t < Try.prog.types.size))) = true := by kernel_rfl
theorem q20 : ((Rows.voteNamesRow.ifacesOut == Try.f7.resultTypes.toList.any (Try.prog.ifacesRec ·))) = true := by kernel_rfl
theorem q21 : ((Rows.voteNamesRow.loopsOut == Try.f7.resultTypes.toList.any (Try.prog.loopsFrom ·))) = true := by kernel_rfl
theorem q22 : ((Rows.voteNamesRow.plainKeys == Try.prog.plainKeys)) = true := fact_plainKeys
theorem q23 : (Rows.voteNamesRow.shortTexts.isNone) = true := by kernel_rfl
theorem q26 : ((Rows.voteNamesRow.lifted == Try.prog.liftsFinal)) = true := fact_liftsFinal
theorem q27 : ((Try.prog.make == some Rows.voteNamesRow.make)) = true := fact_make
theorem q28 : ((Rows.voteNamesRow.kinds == (if Rows.voteNamesRow.domain.isEmpty then [] else Try.f7.params.toList.map fun t => match Try.prog.underlying t with | some (.int k) => some k | _ => none))) = true := by kernel_rfl
theorem q29 : ((Rows.voteNamesRow.pinned == Rows.voteNamesRow.pinnedBy)) = true := by kernel_rfl
theorem q30 : ((Rows.voteNamesRow.veiled == (Try.f7.params.toList ++ Rows.voteNamesSpec.plain.varTypes Try.prog ++ Try.f7.resultTypes.toList).any (Try.prog.veiledRec ·))) = true := by kernel_rfl
theorem q31 : (Rows.voteNamesRow.veiledFits Try.prog Try.f7.params.toList (Try.f7.params.toList ++ Rows.voteNamesSpec.plain.varTypes Try.prog ++ Try.f7.resultTypes.toList)) = true := by kernel_rfl
theorem qn : Try.prog.funcNamed Rows.voteNamesRow.func = some 7 := by kernel_rfl
set_option maxRecDepth 100000 in
theorem closed : joinedFacts Try.prog 7 Try.f7 Rows.voteNamesSpec Rows.voteNamesRow = true := joined_of Try.prog 7 Try.f7 Rows.voteNamesSpec Rows.voteNamesRow q0 fact_laidOut fact_mapsRowed q3 q4 q5 fact_stops q7 fact_knobs q9 q10 q11 q12 q13 q14 q15 q16 q17 q18 q19 q20 q21 q22 q23 fact_heard fact_mayEnter q26 q27 q28 q29 q30 q31
theorem over : Rows.voteNamesRow.holds Try.pinned (OpenSpec.ofChange Rows.voteNamesSpec) :=
  OpenClaim.holds_of_wide 7 Try.f7 rfl rfl rfl rfl rfl rfl rfl ⟨rfl, rfl, rfl, rfl, rfl⟩ rfl rfl rfl rfl rfl qn Try.func7 closed
    (of_decide_eq_true (by kernel_rfl)) (by unfold Func.isWrapper; rw [if_neg (by decide +kernel)]; exact ⟨rfl, rfl⟩)
    (fun os started H enc _ => lifted os started H enc)
/-- THE STATEMENT -/
theorem proved : Rows.VoteNamesSaid := over
#print axioms proved
end Go.Proofs.Yteeopgpgbdhmhaa.voteNames
