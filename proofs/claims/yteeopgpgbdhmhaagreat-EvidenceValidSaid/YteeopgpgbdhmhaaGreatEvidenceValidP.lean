/- For every input the law EvidenceValid returns true, and each argument reads behind the call as it read before. Conditions: none. -/
import Derived.Test.YteeopgpgbdhmhaaGreatRows
import Derived.WalkKit
import Derived.ProofKit
import Derived.OpenShut
import Derived.SizedLaws
import Derived.Test.YteeopgpgbdhmhaaGreatVal6
namespace Go.Proofs.YteeopgpgbdhmhaaGreat.evidenceValid
open Go.ChangeShapes Go.WideShapes Go.ChangeAt Go.RowKit
set_option linter.unusedVariables false
set_option maxRecDepth 100000 in
theorem lifted (os : Os) (started : os.Started) (H : Type) (enc : TypeId × Value → H) :
    ReturnsInHanded {} Tryz.checked os 5 .any (Rows.evidenceValidSpec.pre6 enc Tryz.prog Tryz.f5 Rows.evidenceValidRow.domain false) (Rows.evidenceValidSpec.post enc Tryz.prog Tryz.f5 false true false false) := by
  refine returnsInHanded_of_change (C := Tryz.checked) own started (by kernel_rfl) Tryz.func5
    (ChangeSpec.witness6 (enc := enc) (C := Tryz.checked) false ⟨#[], #[.slice none 0 0, .agg #[.int .i64 0, .int .i64 0, .int .i64 0, .int .i64 0, .int .i64 0, .int .i64 0, .int .u8 0, .int .u8 0, .int .u8 0, .int .u8 0, .int .u8 0, .int .u8 0, .int .u8 0, .int .u8 0, .int .u8 0, .int .u8 0, .int .u8 0, .int .u8 0, .int .u8 0, .int .u8 0, .int .u8 0, .int .u8 0, .slice none 0 0], .agg #[.int .i64 0, .int .i64 0, .int .i64 0, .int .i64 0, .int .i64 0, .int .i64 0, .int .u8 0, .int .u8 0, .int .u8 0, .int .u8 0, .int .u8 0, .int .u8 0, .int .u8 0, .int .u8 0, .int .u8 0, .int .u8 0, .int .u8 0, .int .u8 0, .int .u8 0, .int .u8 0, .int .u8 0, .int .u8 0, .slice none 0 0]], []⟩ 8 (by kernel_rfl) (by kernel_rfl) (by kernel_rfl) (by kernel_rfl)) ?_
  intro W base args ds gs before hval0 hW hcnd _
  have hval : ∀ (j : Nat) t v, Tryz.f5.params[j]? = some t → args[j]? = some v → Value.okWide Tryz.prog W .any base t v := hval0
  have hW' := hW
  obtain ⟨p, q, hA0, hV, rfl, hfz, hnd⟩ := hW
  have hA : DataW.TrodAll enc Tryz.prog W 0 (fun _ => true) true Tryz.f5.params.toList args.toList ds p := hA0
  rw [Tryz.params5] at hA hval
  obtain ⟨v0, vs0, d0, ds0, p0, q0, hargs, rfl, rfl, h0, r0⟩ := trodAll_cons hA
  obtain ⟨v1, vs1, d1, ds1, p1, q1, rfl, rfl, rfl, h1, r1⟩ := trodAll_cons r0
  obtain ⟨v2, vs2, d2, ds2, p2, q2, rfl, rfl, rfl, h2, r2⟩ := trodAll_cons r1
  obtain ⟨rfl, rfl, rfl⟩ := trodAll_nil r2
  obtain rfl : args = #[v0, v1, v2] := by cases args; simp_all
  obtain ⟨rfl, rfl⟩ := trodVars_none hV
  have k0 := h0
  have lt0 : ∀ x ∈ p0, x.block < W.heap.size := by obtain ⟨m, hm⟩ := k0; exact DataW.trod_lt m _ _ _ hm
  have k1 := h1
  have lt1 : ∀ x ∈ p1, x.block < W.heap.size := by obtain ⟨m, hm⟩ := k1; exact DataW.trod_lt m _ _ _ hm
  have k2 := h2
  have lt2 : ∀ x ∈ p2, x.block < W.heap.size := by obtain ⟨m, hm⟩ := k2; exact DataW.trod_lt m _ _ _ hm
  obtain ⟨a0, f0⟩ := open45 (hval 0 22 v0 rfl rfl) h0
  obtain ⟨a1, f1⟩ := open53 (hval 1 34 v1 rfl rfl) h1
  obtain ⟨a2, f2⟩ := open53 (hval 2 34 v2 rfl rfl) h2
  clear hA0 hval0
  refine (c905w v0 a0 v1 a1 v2 a2 W f0 f1 f2).mono fun e W' ⟨he, bel⟩ => ?_
  subst he
  exact ⟨_, rfl, _, _, _, [], _, [], hW', trodAll_mk1 (shut_bool Tryz.underlying4 _), (trodAll_cons_mk (Below.trod laidOut (by kernel_rfl) (of_decide_eq_true (by kernel_rfl)) k0 bel lt0) (trodAll_cons_mk (Below.trod laidOut (by kernel_rfl) (of_decide_eq_true (by kernel_rfl)) k1 bel lt1) (trodAll_cons_mk (Below.trod laidOut (by kernel_rfl) (of_decide_eq_true (by kernel_rfl)) k2 bel lt2) trodAll_mk0))), rfl, bel.frame _, fun h => by cases h⟩
theorem q0 : (Rows.evidenceValidRow.wf (OpenSpec.ofChange Rows.evidenceValidSpec)) = true := by kernel_rfl
theorem q3 : (Tryz.f5.params.all (Tryz.prog.readableRec ·)) = true := by kernel_rfl
theorem q4 : (namedTie Tryz.prog Rows.evidenceValidRow.named Rows.evidenceValidSpec.vars) = true := by kernel_rfl
theorem q5 : ((Rows.evidenceValidRow.stops == [])) = true := by kernel_rfl
theorem q7 : ((Rows.evidenceValidRow.knobs == [])) = true := by kernel_rfl
theorem q9 : ((Rows.evidenceValidRow.inPlace == Tryz.prog.inPlace 5)) = true := by kernel_rfl
theorem q10 : ((Rows.evidenceValidRow.unfollowed == Tryz.prog.unfollowed 5)) = true := by kernel_rfl
theorem q11 : ((Rows.evidenceValidRow.recurses == Tryz.prog.recurses 5)) = true := by kernel_rfl
theorem q12 : ((Rows.evidenceValidRow.named == Tryz.prog.varsNamed 5)) = true := by kernel_rfl
theorem q13 : ((Rows.evidenceValidRow.maps == (Tryz.f5.params.toList ++ Rows.evidenceValidSpec.plain.varTypes Tryz.prog).any (Tryz.prog.mapsRec ·))) = true := by kernel_rfl
theorem q14 : ((Rows.evidenceValidRow.ifaces == (Tryz.f5.params.toList ++ Rows.evidenceValidSpec.plain.varTypes Tryz.prog).any (Tryz.prog.ifacesRec ·))) = true := by kernel_rfl
theorem q15 : ((Rows.evidenceValidRow.mapsOut == Tryz.prog.mapsAmong Tryz.f5.resultTypes.toList)) = true := by kernel_rfl
theorem q16 : ((Rows.evidenceValidRow.loops == (Tryz.f5.params.toList ++ Rows.evidenceValidSpec.plain.varTypes Tryz.prog).any (Tryz.prog.loopsFrom ·))) = true := by kernel_rfl
theorem q17 : ((Rows.evidenceValidRow.wideKeys == (Tryz.f5.params.toList ++ Rows.evidenceValidSpec.plain.varTypes Tryz.prog ++ Tryz.f5.resultTypes.toList).any (Tryz.prog.wideKeysFrom ·))) = true := by kernel_rfl
theorem q18 : (Rows.evidenceValidSpec.vars.all (Tryz.prog.varReadable ·)) = true := by kernel_rfl
theorem q19 : (Tryz.f5.resultTypes.all (fun t => Tryz.prog.readableRec t && decide (t < Tryz.prog.types.size))) = true := by kernel_rfl
theorem q20 : ((Rows.evidenceValidRow.ifacesOut == Tryz.f5.resultTypes.toList.any (Tryz.prog.ifacesRec ·))) = true := by kernel_rfl
theorem q21 : ((Rows.evidenceValidRow.loopsOut == Tryz.f5.resultTypes.toList.any (Tryz.prog.loopsFrom ·))) = true := by kernel_rfl
theorem q22 : ((Rows.evidenceValidRow.plainKeys == Tryz.prog.plainKeys)) = true := fact_plainKeys
theorem q23 : (Rows.evidenceValidRow.shortTexts.isNone) = true := by kernel_rfl
theorem q26 : ((Rows.evidenceValidRow.lifted == Tryz.prog.liftsFinal)) = true := fact_liftsFinal
theorem q27 : ((Tryz.prog.make == some Rows.evidenceValidRow.make)) = true := fact_make
theorem q28 : ((Rows.evidenceValidRow.kinds == (if Rows.evidenceValidRow.domain.isEmpty then [] else Tryz.f5.params.toList.map fun t => match Tryz.prog.underlying t with | some (.int k) => some k | _ => none))) = true := by kernel_rfl
theorem q29 : ((Rows.evidenceValidRow.pinned == Rows.evidenceValidRow.pinnedBy)) = true := by kernel_rfl
theorem q30 : ((Rows.evidenceValidRow.veiled == (Tryz.f5.params.toList ++ Rows.evidenceValidSpec.plain.varTypes Tryz.prog ++ Tryz.f5.resultTypes.toList).any (Tryz.prog.veiledRec ·))) = true := by kernel_rfl
theorem q31 : (Rows.evidenceValidRow.veiledFits Tryz.prog Tryz.f5.params.toList (Tryz.f5.params.toList ++ Rows.evidenceValidSpec.plain.varTypes Tryz.prog ++ Tryz.f5.resultTypes.toList)) = true := by kernel_rfl
theorem qn : Tryz.prog.funcNamed Rows.evidenceValidRow.func = some 5 := by kernel_rfl
set_option maxRecDepth 100000 in
theorem closed : joinedFacts Tryz.prog 5 Tryz.f5 Rows.evidenceValidSpec Rows.evidenceValidRow = true := joined_of Tryz.prog 5 Tryz.f5 Rows.evidenceValidSpec Rows.evidenceValidRow q0 fact_laidOut fact_mapsRowed q3 q4 q5 fact_stops q7 fact_knobs q9 q10 q11 q12 q13 q14 q15 q16 q17 q18 q19 q20 q21 q22 q23 fact_heard fact_mayEnter q26 q27 q28 q29 q30 q31
theorem over : Rows.evidenceValidRow.holds Tryz.pinned (OpenSpec.ofChange Rows.evidenceValidSpec) :=
  OpenClaim.holds_of_wide 5 Tryz.f5 rfl rfl rfl rfl rfl rfl rfl ⟨rfl, rfl, rfl, rfl, rfl⟩ rfl rfl rfl rfl rfl qn Tryz.func5 closed
    (of_decide_eq_true (by kernel_rfl)) (by unfold Func.isWrapper; rw [if_neg (by decide +kernel)]; exact ⟨rfl, rfl⟩)
    (fun os started H enc _ => lifted os started H enc)
theorem proved : Rows.EvidenceValidSaid := over
#print axioms proved
end Go.Proofs.YteeopgpgbdhmhaaGreat.evidenceValid
