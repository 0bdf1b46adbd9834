/- For every input the law SignedCanonical returns true, and each argument reads behind the call as it read before. Conditions: none. -/
import Derived.Test.YteeopgpgbdhmhaaRows
import Derived.WalkKit
import Derived.ProofKit
import Derived.OpenShut
import Derived.SizedLaws
import Derived.Test.YteeopgpgbdhmhaaOp
import Derived.Test.YteeopgpgbdhmhaaFa
import Derived.Test.YteeopgpgbdhmhaaXA
namespace Go.Proofs.Yteeopgpgbdhmhaa.signedCanonical
open Go.ChangeShapes Go.WideShapes Go.ChangeAt Go.RowKit
set_option linter.unusedVariables false
set_option maxRecDepth 100000 in
theorem lifted (os : Os) (started : os.Started) (H : Type) (enc : TypeId × Value → H) :
    ReturnsInHanded {} Try.checked os 15 .any (Rows.signedCanonicalSpec.pre6 enc Try.prog Try.f15 Rows.signedCanonicalRow.domain false) (Rows.signedCanonicalSpec.post enc Try.prog Try.f15 false true false false) := by
  refine returnsInHanded_of_change_sized (C := Try.checked) own started (by kernel_rfl) Try.func15
    (ChangeSpec.witness6 (enc := enc) (C := Try.checked) false ⟨#[], #[.slice none 0 0, .int .i64 0], []⟩ 8 (by kernel_rfl) (by kernel_rfl) (by kernel_rfl) (by kernel_rfl)) ?_
  intro W base args ds gs before hval0 hW hcnd hsz0 _
  have hsz : (DataW.weightsEach Try.prog (Try.f15.params.toList ++ Rows.signedCanonicalSpec.plain.varTypes Try.prog) (ds ++ gs)).all (· ≤ reachBytes) = true := hsz0
  have hval : ∀ (j : Nat) t v, Try.f15.params[j]? = some t → args[j]? = some v → Value.okWide Try.prog W .any base t v := hval0
  have hW' := hW
  obtain ⟨p, q, hA0, hV, rfl, hfz, hnd⟩ := hW
  have hA : DataW.TrodAll enc Try.prog W 0 (fun _ => true) true Try.f15.params.toList args.toList ds p := hA0
  rw [Try.params15] at hA hval hsz
  obtain ⟨v0, vs0, d0, ds0, p0, q0, hargs, rfl, rfl, h0, r0⟩ := trodAll_cons hA
  obtain ⟨v1, vs1, d1, ds1, p1, q1, rfl, rfl, rfl, h1, r1⟩ := trodAll_cons r0
  obtain ⟨rfl, rfl, rfl⟩ := trodAll_nil r1
  obtain rfl : args = #[v0, v1] := by cases args; simp_all
  obtain ⟨rfl, rfl⟩ := trodVars_none hV
  have k0 := h0
  have lt0 : ∀ x ∈ p0, x.block < W.heap.size := by obtain ⟨m, hm⟩ := k0; exact DataW.trod_lt m _ _ _ hm
  have k1 := h1
  have lt1 : ∀ x ∈ p1, x.block < W.heap.size := by obtain ⟨m, hm⟩ := k1; exact DataW.trod_lt m _ _ _ hm
  obtain ⟨a0, f0⟩ := open46z (hval 0 46 v0 rfl rfl) h0 hsz (j := 0) rfl rfl
  obtain ⟨a1, rfl, _, _, g1⟩ := open_int Try.underlying3 (hval 1 3 v1 rfl rfl) h1
  have f1 := wf_i64 g1
  clear hA0 hval0
  refine (c15 v0 a0 a1 W f0).mono fun e W' ⟨he, bel⟩ => ?_
  subst he
  exact ⟨_, rfl, _, _, _, [], _, [], hW', trodAll_mk1 (shut_bool Try.underlying4 _), (trodAll_cons_mk (Below.trod laidOut (by kernel_rfl) (of_decide_eq_true (by kernel_rfl)) k0 bel lt0) (trodAll_cons_mk (Below.trod laidOut (by kernel_rfl) (of_decide_eq_true (by kernel_rfl)) k1 bel lt1) trodAll_mk0)), rfl, bel.frame _, fun h => by cases h⟩
theorem q0 : (Rows.signedCanonicalRow.wf (OpenSpec.ofChange Rows.signedCanonicalSpec)) = true := by kernel_rfl
theorem q3 : (Try.f15.params.all (Try.prog.readableRec ·)) = true := by kernel_rfl
theorem q4 : (namedTie Try.prog Rows.signedCanonicalRow.named Rows.signedCanonicalSpec.vars) = true := by kernel_rfl
theorem q5 : ((Rows.signedCanonicalRow.stops == [])) = true := by kernel_rfl
theorem q7 : ((Rows.signedCanonicalRow.knobs == [])) = true := by kernel_rfl
theorem q9 : ((Rows.signedCanonicalRow.inPlace == Try.prog.inPlace 15)) = true := by kernel_rfl
theorem q10 : ((Rows.signedCanonicalRow.unfollowed == Try.prog.unfollowed 15)) = true := by kernel_rfl
theorem q11 : ((Rows.signedCanonicalRow.recurses == Try.prog.recurses 15)) = true := by kernel_rfl
theorem q12 : ((Rows.signedCanonicalRow.named == Try.prog.varsNamed 15)) = true := by kernel_rfl
theorem q13 : ((Rows.signedCanonicalRow.maps == (Try.f15.params.toList ++ Rows.signedCanonicalSpec.plain.varTypes Try.prog).any (Try.prog.mapsRec ·))) = true := by kernel_rfl
theorem q14 : ((Rows.signedCanonicalRow.ifaces == (Try.f15.params.toList ++ Rows.signedCanonicalSpec.plain.varTypes Try.prog).any (Try.prog.ifacesRec ·))) = true := by kernel_rfl
theorem q15 : ((Rows.signedCanonicalRow.mapsOut == Try.prog.mapsAmong Try.f15.resultTypes.toList)) = true := by kernel_rfl
theorem q16 : ((Rows.signedCanonicalRow.loops == (Try.f15.params.toList ++ Rows.signedCanonicalSpec.plain.varTypes Try.prog).any (Try.prog.loopsFrom ·))) = true := by kernel_rfl
theorem q17 : ((Rows.signedCanonicalRow.wideKeys == (Try.f15.params.toList ++ Rows.signedCanonicalSpec.plain.varTypes Try.prog ++ Try.f15.resultTypes.toList).any (Try.prog.wideKeysFrom ·))) = true := by kernel_rfl
theorem q18 : (Rows.signedCanonicalSpec.vars.all (Try.prog.varReadable ·)) = true := by kernel_rfl
theorem q19 : (Try.f15.resultTypes.all (fun t => Try.prog.readableRec t && decide (t < Try.prog.types.size))) = true := by kernel_rfl
theorem q20 : ((Rows.signedCanonicalRow.ifacesOut == Try.f15.resultTypes.toList.any (Try.prog.ifacesRec ·))) = true := by kernel_rfl
theorem q21 : ((Rows.signedCanonicalRow.loopsOut == Try.f15.resultTypes.toList.any (Try.prog.loopsFrom ·))) = true := by kernel_rfl
theorem q22 : ((Rows.signedCanonicalRow.plainKeys == Try.prog.plainKeys)) = true := fact_plainKeys
theorem q23 : (Rows.signedCanonicalRow.shortTexts.isNone) = true := by kernel_rfl
theorem q26 : ((Rows.signedCanonicalRow.lifted == Try.prog.liftsFinal)) = true := fact_liftsFinal
theorem q27 : ((Try.prog.make == some Rows.signedCanonicalRow.make)) = true := fact_make
theorem q28 : ((Rows.signedCanonicalRow.kinds == (if Rows.signedCanonicalRow.domain.isEmpty then [] else Try.f15.params.toList.map fun t => match Try.prog.underlying t with | some (.int k) => some k | _ => none))) = true := by kernel_rfl
theorem q29 : ((Rows.signedCanonicalRow.pinned == Rows.signedCanonicalRow.pinnedBy)) = true := by kernel_rfl
theorem q30 : ((Rows.signedCanonicalRow.veiled == (Try.f15.params.toList ++ Rows.signedCanonicalSpec.plain.varTypes Try.prog ++ Try.f15.resultTypes.toList).any (Try.prog.veiledRec ·))) = true := by kernel_rfl
theorem q31 : (Rows.signedCanonicalRow.veiledFits Try.prog Try.f15.params.toList (Try.f15.params.toList ++ Rows.signedCanonicalSpec.plain.varTypes Try.prog ++ Try.f15.resultTypes.toList)) = true := by kernel_rfl
theorem qn : Try.prog.funcNamed Rows.signedCanonicalRow.func = some 15 := by kernel_rfl
set_option maxRecDepth 100000 in
theorem closed : joinedFacts Try.prog 15 Try.f15 Rows.signedCanonicalSpec Rows.signedCanonicalRow = true := joined_of Try.prog 15 Try.f15 Rows.signedCanonicalSpec Rows.signedCanonicalRow q0 fact_laidOut fact_mapsRowed q3 q4 q5 fact_stops q7 fact_knobs q9 q10 q11 q12 q13 q14 q15 q16 q17 q18 q19 q20 q21 q22 q23 fact_heard fact_mayEnter q26 q27 q28 q29 q30 q31
theorem over : Rows.signedCanonicalRow.holds Try.pinned (OpenSpec.ofChange Rows.signedCanonicalSpec) :=
  OpenClaim.holds_of_wide 15 Try.f15 rfl rfl rfl rfl rfl rfl rfl ⟨rfl, rfl, rfl, rfl, rfl⟩ rfl rfl rfl rfl rfl qn Try.func15 closed
    (of_decide_eq_true (by kernel_rfl)) (by unfold Func.isWrapper; rw [if_neg (by decide +kernel)]; exact ⟨rfl, rfl⟩)
    (fun os started H enc _ => lifted os started H enc)
/-- THE STATEMENT -/
theorem proved : Rows.SignedCanonicalSaid := over
#print axioms proved
end Go.Proofs.Yteeopgpgbdhmhaa.signedCanonical
