/- For every input the law EvidenceFinds returns true, and each argument reads behind the call as it read before. Conditions: none. -/
import Derived.Test.YteeopgpgbdhmhaaGreatRows
import Derived.WalkKit
import Derived.ProofKit
import Derived.OpenShut
import Derived.SizedLaws
import Derived.Test.YteeopgpgbdhmhaaGreatFnd6
namespace Go.Proofs.YteeopgpgbdhmhaaGreat.evidenceFinds
open Go.ChangeShapes Go.WideShapes Go.ChangeAt Go.RowKit
set_option linter.unusedVariables false
set_option maxRecDepth 100000 in
theorem lifted (os : Os) (started : os.Started) (H : Type) (enc : TypeId × Value → H) :
    ReturnsInHanded {} Tryz.checked os 3 .any (Rows.evidenceFindsSpec.pre6 enc Tryz.prog Tryz.f3 Rows.evidenceFindsRow.domain false) (Rows.evidenceFindsSpec.post enc Tryz.prog Tryz.f3 false true false false) := by
  refine returnsInHanded_of_change (C := Tryz.checked) own started (by kernel_rfl) Tryz.func3
    (ChangeSpec.witness6 (enc := enc) (C := Tryz.checked) false ⟨#[], #[.slice none 0 0, .slice none 0 0], []⟩ 8 (by kernel_rfl) (by kernel_rfl) (by kernel_rfl) (by kernel_rfl)) ?_
  intro W base args ds gs before hval0 hW hcnd _
  have hval : ∀ (j : Nat) t v, Tryz.f3.params[j]? = some t → args[j]? = some v → Value.okWide Tryz.prog W .any base t v := hval0
  have hW' := hW
  obtain ⟨p, q, hA0, hV, rfl, hfz, hnd⟩ := hW
  have hA : DataW.TrodAll enc Tryz.prog W 0 (fun _ => true) true Tryz.f3.params.toList args.toList ds p := hA0
  rw [Tryz.params3] at hA hval
  obtain ⟨v0, vs0, d0, ds0, p0, q0, hargs, rfl, rfl, h0, r0⟩ := trodAll_cons hA
  obtain ⟨v1, vs1, d1, ds1, p1, q1, rfl, rfl, rfl, h1, r1⟩ := trodAll_cons r0
  obtain ⟨rfl, rfl, rfl⟩ := trodAll_nil r1
  obtain rfl : args = #[v0, v1] := by cases args; simp_all
  obtain ⟨rfl, rfl⟩ := trodVars_none hV
  have k0 := h0
  have lt0 : ∀ x ∈ p0, x.block < W.heap.size := by obtain ⟨m, hm⟩ := k0; exact DataW.trod_lt m _ _ _ hm
  have k1 := h1
  have lt1 : ∀ x ∈ p1, x.block < W.heap.size := by obtain ⟨m, hm⟩ := k1; exact DataW.trod_lt m _ _ _ hm
  obtain ⟨a0, f0⟩ := open45 (hval 0 22 v0 rfl rfl) h0
  obtain ⟨a1, f1⟩ := open46 (hval 1 23 v1 rfl rfl) h1
  clear hA0 hval0
  refine (c903 v0 a0 v1 a1 W f0 f1.1).mono fun e W' ⟨he, bel⟩ => ?_
  subst he
  exact ⟨_, rfl, _, _, _, [], _, [], hW', trodAll_mk1 (shut_bool Tryz.underlying4 _), (trodAll_cons_mk (Below.trod laidOut (by kernel_rfl) (of_decide_eq_true (by kernel_rfl)) k0 bel lt0) (trodAll_cons_mk (Below.trod laidOut (by kernel_rfl) (of_decide_eq_true (by kernel_rfl)) k1 bel lt1) trodAll_mk0)), rfl, bel.frame _, fun h => by cases h⟩
theorem q0 : (Rows.evidenceFindsRow.wf (OpenSpec.ofChange Rows.evidenceFindsSpec)) = true := by kernel_rfl
theorem q3 : (Tryz.f3.params.all (Tryz.prog.readableRec ·)) = true := by kernel_rfl
theorem q4 : (namedTie Tryz.prog Rows.evidenceFindsRow.named Rows.evidenceFindsSpec.vars) = true := by kernel_rfl
theorem q5 : ((Rows.evidenceFindsRow.stops == [])) = true := by kernel_rfl
theorem q7 : ((Rows.evidenceFindsRow.knobs == [])) = true := by kernel_rfl
theorem q9 : ((Rows.evidenceFindsRow.inPlace == Tryz.prog.inPlace 3)) = true := by kernel_rfl
theorem q10 : ((Rows.evidenceFindsRow.unfollowed == Tryz.prog.unfollowed 3)) = true := by kernel_rfl
theorem q11 : ((Rows.evidenceFindsRow.recurses == Tryz.prog.recurses 3)) = true := by kernel_rfl
theorem q12 : ((Rows.evidenceFindsRow.named == Tryz.prog.varsNamed 3)) = true := by kernel_rfl
theorem q13 : ((Rows.evidenceFindsRow.maps == (Tryz.f3.params.toList ++ Rows.evidenceFindsSpec.plain.varTypes Tryz.prog).any (Tryz.prog.mapsRec ·))) = true := by kernel_rfl
theorem q14 : ((Rows.evidenceFindsRow.ifaces == (Tryz.f3.params.toList ++ Rows.evidenceFindsSpec.plain.varTypes Tryz.prog).any (Tryz.prog.ifacesRec ·))) = true := by kernel_rfl
theorem q15 : ((Rows.evidenceFindsRow.mapsOut == Tryz.prog.mapsAmong Tryz.f3.resultTypes.toList)) = true := by kernel_rfl
theorem q16 : ((Rows.evidenceFindsRow.loops == (Tryz.f3.params.toList ++ Rows.evidenceFindsSpec.plain.varTypes Tryz.prog).any (Tryz.prog.loopsFrom ·))) = true := by kernel_rfl
theorem q17 : ((Rows.evidenceFindsRow.wideKeys == (Tryz.f3.params.toList ++ Rows.evidenceFindsSpec.plain.varTypes Tryz.prog ++ Tryz.f3.resultTypes.toList).any (Tryz.prog.wideKeysFrom ·))) = true := by kernel_rfl
theorem q18 : (Rows.evidenceFindsSpec.vars.all (Tryz.prog.varReadable ·)) = true := by kernel_rfl
theorem q19 : (Tryz.f3.resultTypes.all (fun t => Tryz.prog.readableRec t && decide (t < Tryz.prog.types.size))) = true := by kernel_rfl
theorem q20 : ((Rows.evidenceFindsRow.ifacesOut == Tryz.f3.resultTypes.toList.any (Tryz.prog.ifacesRec ·))) = true := by kernel_rfl
theorem q21 : ((Rows.evidenceFindsRow.loopsOut == Tryz.f3.resultTypes.toList.any (Tryz.prog.loopsFrom ·))) = true := by kernel_rfl
theorem q22 : ((Rows.evidenceFindsRow.plainKeys == Tryz.prog.plainKeys)) = true := fact_plainKeys
theorem q23 : (Rows.evidenceFindsRow.shortTexts.isNone) = true := by kernel_rfl
theorem q26 : ((Rows.evidenceFindsRow.lifted == Tryz.prog.liftsFinal)) = true := fact_liftsFinal
theorem q27 : ((Tryz.prog.make == some Rows.evidenceFindsRow.make)) = true := fact_make
theorem q28 : ((Rows.evidenceFindsRow.kinds == (if Rows.evidenceFindsRow.domain.isEmpty then [] else Tryz.f3.params.toList.map fun t => match Tryz.prog.underlying t with | some (.int k) => some k | _ => none))) = true := by kernel_rfl
theorem q29 : ((Rows.evidenceFindsRow.pinned == Rows.evidenceFindsRow.pinnedBy)) = true := by kernel_rfl
theorem q30 : ((Rows.evidenceFindsRow.veiled == (Tryz.f3.params.toList ++ Rows.evidenceFindsSpec.plain.varTypes Tryz.prog ++ Tryz.f3.resultTypes.toList).any (Tryz.prog.veiledRec ·))) = true := by kernel_rfl
theorem q31 : (Rows.evidenceFindsRow.veiledFits Tryz.prog Tryz.f3.params.toList (Tryz.f3.params.toList ++ Rows.evidenceFindsSpec.plain.varTypes Tryz.prog ++ Tryz.f3.resultTypes.toList)) = true := by kernel_rfl
theorem qn : Tryz.prog.funcNamed Rows.evidenceFindsRow.func = some 3 := by kernel_rfl
set_option maxRecDepth 100000 in
theorem closed : joinedFacts Tryz.prog 3 Tryz.f3 Rows.evidenceFindsSpec Rows.evidenceFindsRow = true := joined_of Tryz.prog 3 Tryz.f3 Rows.evidenceFindsSpec Rows.evidenceFindsRow q0 fact_laidOut fact_mapsRowed q3 q4 q5 fact_stops q7 fact_knobs q9 q10 q11 q12 q13 q14 q15 q16 q17 q18 q19 q20 q21 q22 q23 fact_heard fact_mayEnter q26 q27 q28 q29 q30 q31
theorem over : Rows.evidenceFindsRow.holds Tryz.pinned (OpenSpec.ofChange Rows.evidenceFindsSpec) :=
  OpenClaim.holds_of_wide 3 Tryz.f3 rfl rfl rfl rfl rfl rfl rfl ⟨rfl, rfl, rfl, rfl, rfl⟩ rfl rfl rfl rfl rfl qn Tryz.func3 closed
    (of_decide_eq_true (by kernel_rfl)) (by unfold Func.isWrapper; rw [if_neg (by decide +kernel)]; exact ⟨rfl, rfl⟩)
    (fun os started H enc _ => lifted os started H enc)
theorem proved : Rows.EvidenceFindsSaid := over
#print axioms proved
end Go.Proofs.YteeopgpgbdhmhaaGreat.evidenceFinds
