/- For every input the law CheckerHonest returns true, and each argument reads behind the call as it read before. Conditions: none. -/
import Derived.Test.YteeopgpgbdhmhaaRows
import Derived.WalkKit
import Derived.ProofKit
import Derived.OpenShut
import Derived.SizedLaws
import Derived.Test.YteeopgpgbdhmhaaOp
import Derived.Test.YteeopgpgbdhmhaaFa
import Derived.Test.YteeopgpgbdhmhaaOn
import Derived.Test.YteeopgpgbdhmhaaOs
import Derived.Test.YteeopgpgbdhmhaaWQ
namespace Go.Proofs.Yteeopgpgbdhmhaa.checkerHonest
open Go.ChangeShapes Go.WideShapes Go.ChangeAt Go.RowKit
set_option linter.unusedVariables false
set_option maxRecDepth 100000 in
theorem lifted (os : Os) (started : os.Started) (H : Type) (enc : TypeId × Value → H) :
    ReturnsInHanded {} Try.checked os 13 .any (Rows.checkerHonestSpec.pre6 enc Try.prog Try.f13 Rows.checkerHonestRow.domain false) (Rows.checkerHonestSpec.post enc Try.prog Try.f13 false true false false) := by
  refine returnsInHanded_of_change (C := Try.checked) own started (by kernel_rfl) Try.func13
    (ChangeSpec.witness6 (enc := enc) (C := Try.checked) false ⟨#[], #[.slice none 0 0, .slice none 0 0, .int .i64 0, .slice none 0 0], []⟩ 8 (by kernel_rfl) (by kernel_rfl) (by kernel_rfl) (by kernel_rfl)) ?_
  intro W base args ds gs before hval0 hW hcnd _
  have hval : ∀ (j : Nat) t v, Try.f13.params[j]? = some t → args[j]? = some v → Value.okWide Try.prog W .any base t v := hval0
  have hW' := hW
  obtain ⟨p, q, hA0, hV, rfl, hfz, hnd⟩ := hW
  have hA : DataW.TrodAll enc Try.prog W 0 (fun _ => true) true Try.f13.params.toList args.toList ds p := hA0
  rw [Try.params13] at hA hval
  obtain ⟨v0, vs0, d0, ds0, p0, q0, hargs, rfl, rfl, h0, r0⟩ := trodAll_cons hA
  obtain ⟨v1, vs1, d1, ds1, p1, q1, rfl, rfl, rfl, h1, r1⟩ := trodAll_cons r0
  obtain ⟨v2, vs2, d2, ds2, p2, q2, rfl, rfl, rfl, h2, r2⟩ := trodAll_cons r1
  obtain ⟨v3, vs3, d3, ds3, p3, q3, rfl, rfl, rfl, h3, r3⟩ := trodAll_cons r2
  obtain ⟨rfl, rfl, rfl⟩ := trodAll_nil r3
  obtain rfl : args = #[v0, v1, v2, v3] := by cases args; simp_all
  obtain ⟨rfl, rfl⟩ := trodVars_none hV
  have k0 := h0
  have lt0 : ∀ x ∈ p0, x.block < W.heap.size := by obtain ⟨m, hm⟩ := k0; exact DataW.trod_lt m _ _ _ hm
  have k1 := h1
  have lt1 : ∀ x ∈ p1, x.block < W.heap.size := by obtain ⟨m, hm⟩ := k1; exact DataW.trod_lt m _ _ _ hm
  have k2 := h2
  have lt2 : ∀ x ∈ p2, x.block < W.heap.size := by obtain ⟨m, hm⟩ := k2; exact DataW.trod_lt m _ _ _ hm
  have k3 := h3
  have lt3 : ∀ x ∈ p3, x.block < W.heap.size := by obtain ⟨m, hm⟩ := k3; exact DataW.trod_lt m _ _ _ hm
  obtain ⟨a0, f0⟩ := open45 (hval 0 45 v0 rfl rfl) h0
  obtain ⟨a1, f1⟩ := open31 (hval 1 31 v1 rfl rfl) h1
  obtain ⟨a2, rfl, _, _, g2⟩ := open_int Try.underlying3 (hval 2 3 v2 rfl rfl) h2
  have f2 := wf_i64 g2
  obtain ⟨a3, f3⟩ := open61 (hval 3 61 v3 rfl rfl) h3
  clear hA0 hval0
  refine (c13 v0 a0 v1 a1 a2 v3 a3 W f0 f1 f3).mono fun e W' ⟨he, bel⟩ => ?_
  subst he
  exact ⟨_, rfl, _, _, _, [], _, [], hW', trodAll_mk1 (shut_bool Try.underlying4 _), (trodAll_cons_mk (Below.trod laidOut (by kernel_rfl) (of_decide_eq_true (by kernel_rfl)) k0 bel lt0) (trodAll_cons_mk (Below.trod laidOut (by kernel_rfl) (of_decide_eq_true (by kernel_rfl)) k1 bel lt1) (trodAll_cons_mk (Below.trod laidOut (by kernel_rfl) (of_decide_eq_true (by kernel_rfl)) k2 bel lt2) (trodAll_cons_mk (Below.trod laidOut (by kernel_rfl) (of_decide_eq_true (by kernel_rfl)) k3 bel lt3) trodAll_mk0)))), rfl, bel.frame _, fun h => by cases h⟩
theorem q0 : (Rows.checkerHonestRow.wf (OpenSpec.ofChange Rows.checkerHonestSpec)) = true := by kernel_rfl
theorem q3 : (Try.f13.params.all (Try.prog.readableRec ·)) = true := by kernel_rfl
theorem q4 : (namedTie Try.prog Rows.checkerHonestRow.named Rows.checkerHonestSpec.vars) = true := by kernel_rfl
theorem q5 : ((Rows.checkerHonestRow.stops == [])) = true := by kernel_rfl
theorem q7 : ((Rows.checkerHonestRow.knobs == [])) = true := by kernel_rfl
theorem q9 : ((Rows.checkerHonestRow.inPlace == Try.prog.inPlace 13)) = true := by kernel_rfl
theorem q10 : ((Rows.checkerHonestRow.unfollowed == Try.prog.unfollowed 13)) = true := by kernel_rfl
theorem q11 : ((Rows.checkerHonestRow.recurses == Try.prog.recurses 13)) = true := by kernel_rfl
theorem q12 : ((Rows.checkerHonestRow.named == Try.prog.varsNamed 13)) = true := by kernel_rfl
theorem q13 : ((Rows.checkerHonestRow.maps == (Try.f13.params.toList ++ Rows.checkerHonestSpec.plain.varTypes Try.prog).any (Try.prog.mapsRec ·))) = true := by kernel_rfl
theorem q14 : ((Rows.checkerHonestRow.ifaces == (Try.f13.params.toList ++ Rows.checkerHonestSpec.plain.varTypes Try.prog).any (Try.prog.ifacesRec ·))) = true := by kernel_rfl
theorem q15 : ((Rows.checkerHonestRow.mapsOut == Try.prog.mapsAmong Try.f13.resultTypes.toList)) = true := by kernel_rfl
theorem q16 : ((Rows.checkerHonestRow.loops == (Try.f13.params.toList ++ Rows.checkerHonestSpec.plain.varTypes Try.prog).any (Try.prog.loopsFrom ·))) = true := by kernel_rfl
theorem q17 : ((Rows.checkerHonestRow.wideKeys == (Try.f13.params.toList ++ Rows.checkerHonestSpec.plain.varTypes Try.prog ++ Try.f13.resultTypes.toList).any (Try.prog.wideKeysFrom ·))) = true := by kernel_rfl
theorem q18 : (Rows.checkerHonestSpec.vars.all (Try.prog.varReadable ·)) = true := by kernel_rfl
theorem q19 : (Try.f13.resultTypes.all (fun t => Try.prog.readableRec t && decide (t < Try.prog.types.size))) = true := by kernel_rfl
theorem q20 : ((Rows.checkerHonestRow.ifacesOut == Try.f13.resultTypes.toList.any (Try.prog.ifacesRec ·))) = true := by kernel_rfl
theorem q21 : ((Rows.checkerHonestRow.loopsOut == Try.f13.resultTypes.toList.any (Try.prog.loopsFrom ·))) = true := by kernel_rfl
theorem q22 : ((Rows.checkerHonestRow.plainKeys == Try.prog.plainKeys)) = true := fact_plainKeys
theorem q23 : (Rows.checkerHonestRow.shortTexts.isNone) = true := by kernel_rfl
theorem q26 : ((Rows.checkerHonestRow.lifted == Try.prog.liftsFinal)) = true := fact_liftsFinal
theorem q27 : ((Try.prog.make == some Rows.checkerHonestRow.make)) = true := fact_make
theorem q28 : ((Rows.checkerHonestRow.kinds == (if Rows.checkerHonestRow.domain.isEmpty then [] else Try.f13.params.toList.map fun t => match Try.prog.underlying t with | some (.int k) => some k | _ => none))) = true := by kernel_rfl
theorem q29 : ((Rows.checkerHonestRow.pinned == Rows.checkerHonestRow.pinnedBy)) = true := by kernel_rfl
theorem q30 : ((Rows.checkerHonestRow.veiled == (Try.f13.params.toList ++ Rows.checkerHonestSpec.plain.varTypes Try.prog ++ Try.f13.resultTypes.toList).any (Try.prog.veiledRec ·))) = true := by kernel_rfl
theorem q31 : (Rows.checkerHonestRow.veiledFits Try.prog Try.f13.params.toList (Try.f13.params.toList ++ Rows.checkerHonestSpec.plain.varTypes Try.prog ++ Try.f13.resultTypes.toList)) = true := by kernel_rfl
theorem qn : Try.prog.funcNamed Rows.checkerHonestRow.func = some 13 := by kernel_rfl
set_option maxRecDepth 100000 in
theorem closed : joinedFacts Try.prog 13 Try.f13 Rows.checkerHonestSpec Rows.checkerHonestRow = true := joined_of Try.prog 13 Try.f13 Rows.checkerHonestSpec Rows.checkerHonestRow q0 fact_laidOut fact_mapsRowed q3 q4 q5 fact_stops q7 fact_knobs q9 q10 q11 q12 q13 q14 q15 q16 q17 q18 q19 q20 q21 q22 q23 fact_heard fact_mayEnter q26 q27 q28 q29 q30 q31
theorem over : Rows.checkerHonestRow.holds Try.pinned (OpenSpec.ofChange Rows.checkerHonestSpec) :=
  OpenClaim.holds_of_wide 13 Try.f13 rfl rfl rfl rfl rfl rfl rfl ⟨rfl, rfl, rfl, rfl, rfl⟩ rfl rfl rfl rfl rfl qn Try.func13 closed
    (of_decide_eq_true (by kernel_rfl)) (by unfold Func.isWrapper; rw [if_neg (by decide +kernel)]; exact ⟨rfl, rfl⟩)
    (fun os started H enc _ => lifted os started H enc)
/-- THE STATEMENT -/
theorem proved : Rows.CheckerHonestSaid := over
#print axioms proved
end Go.Proofs.Yteeopgpgbdhmhaa.checkerHonest
