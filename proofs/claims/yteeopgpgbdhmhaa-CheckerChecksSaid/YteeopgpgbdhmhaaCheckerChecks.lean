/- For every input the law CheckerChecks returns true, and each argument reads behind the call as it read before. Conditions: none. -/
import Derived.Test.YteeopgpgbdhmhaaRows
import Derived.WalkKit
import Derived.ProofKit
import Derived.OpenShut
import Derived.SizedLaws
import Derived.Test.YteeopgpgbdhmhaaOp
import Derived.Test.YteeopgpgbdhmhaaFa
import Derived.Test.YteeopgpgbdhmhaaWU
import Derived.Test.YteeopgpgbdhmhaaOn
import Derived.Test.YteeopgpgbdhmhaaOs
import Derived.Test.YteeopgpgbdhmhaaOt
namespace Go.Proofs.Yteeopgpgbdhmhaa.checkerChecks
open Go.ChangeShapes Go.WideShapes Go.ChangeAt Go.RowKit
set_option linter.unusedVariables false
set_option maxRecDepth 100000 in
theorem lifted (os : Os) (started : os.Started) (H : Type) (enc : TypeId × Value → H) :
    ReturnsInHanded {} Try.checked os 11 .any (Rows.checkerChecksSpec.pre6 enc Try.prog Try.f11 Rows.checkerChecksRow.domain false) (Rows.checkerChecksSpec.post enc Try.prog Try.f11 false true false false) := by
  refine returnsInHanded_of_change_sized (C := Try.checked) own started (by kernel_rfl) Try.func11
    (ChangeSpec.witness6 (enc := enc) (C := Try.checked) false ⟨#[], #[.slice none 0 0, .slice none 0 0, .slice none 0 0, .int .i64 0, .int .u8 0, .int .i64 0, .slice none 0 0], []⟩ 8 (by kernel_rfl) (by kernel_rfl) (by kernel_rfl) (by kernel_rfl)) ?_
  intro W base args ds gs before hval0 hW hcnd hsz0 _
  have hsz : (DataW.weightsEach Try.prog (Try.f11.params.toList ++ Rows.checkerChecksSpec.plain.varTypes Try.prog) (ds ++ gs)).all (· ≤ reachBytes) = true := hsz0
  have hval : ∀ (j : Nat) t v, Try.f11.params[j]? = some t → args[j]? = some v → Value.okWide Try.prog W .any base t v := hval0
  have hW' := hW
  obtain ⟨p, q, hA0, hV, rfl, hfz, hnd⟩ := hW
  have hA : DataW.TrodAll enc Try.prog W 0 (fun _ => true) true Try.f11.params.toList args.toList ds p := hA0
  rw [Try.params11] at hA hval hsz
  obtain ⟨v0, vs0, d0, ds0, p0, q0, hargs, rfl, rfl, h0, r0⟩ := trodAll_cons hA
  obtain ⟨v1, vs1, d1, ds1, p1, q1, rfl, rfl, rfl, h1, r1⟩ := trodAll_cons r0
  obtain ⟨v2, vs2, d2, ds2, p2, q2, rfl, rfl, rfl, h2, r2⟩ := trodAll_cons r1
  obtain ⟨v3, vs3, d3, ds3, p3, q3, rfl, rfl, rfl, h3, r3⟩ := trodAll_cons r2
  obtain ⟨v4, vs4, d4, ds4, p4, q4, rfl, rfl, rfl, h4, r4⟩ := trodAll_cons r3
  obtain ⟨v5, vs5, d5, ds5, p5, q5, rfl, rfl, rfl, h5, r5⟩ := trodAll_cons r4
  obtain ⟨v6, vs6, d6, ds6, p6, q6, rfl, rfl, rfl, h6, r6⟩ := trodAll_cons r5
  obtain ⟨rfl, rfl, rfl⟩ := trodAll_nil r6
  obtain rfl : args = #[v0, v1, v2, v3, v4, v5, v6] := by cases args; simp_all
  obtain ⟨rfl, rfl⟩ := trodVars_none hV
  have k0 := h0
  have lt0 : ∀ x ∈ p0, x.block < W.heap.size := by obtain ⟨m, hm⟩ := k0; exact DataW.trod_lt m _ _ _ hm
  have k1 := h1
  have lt1 : ∀ x ∈ p1, x.block < W.heap.size := by obtain ⟨m, hm⟩ := k1; exact DataW.trod_lt m _ _ _ hm
  have k2 := h2
  have lt2 : ∀ x ∈ p2, x.block < W.heap.size := by obtain ⟨m, hm⟩ := k2; exact DataW.trod_lt m _ _ _ hm
  have k3 := h3
  have lt3 : ∀ x ∈ p3, x.block < W.heap.size := by obtain ⟨m, hm⟩ := k3; exact DataW.trod_lt m _ _ _ hm
  have k4 := h4
  have lt4 : ∀ x ∈ p4, x.block < W.heap.size := by obtain ⟨m, hm⟩ := k4; exact DataW.trod_lt m _ _ _ hm
  have k5 := h5
  have lt5 : ∀ x ∈ p5, x.block < W.heap.size := by obtain ⟨m, hm⟩ := k5; exact DataW.trod_lt m _ _ _ hm
  have k6 := h6
  have lt6 : ∀ x ∈ p6, x.block < W.heap.size := by obtain ⟨m, hm⟩ := k6; exact DataW.trod_lt m _ _ _ hm
  obtain ⟨a0, f0⟩ := open45 (hval 0 45 v0 rfl rfl) h0
  obtain ⟨a1, f1⟩ := open46 (hval 1 46 v1 rfl rfl) h1
  obtain ⟨a2, f2⟩ := open31 (hval 2 31 v2 rfl rfl) h2
  obtain ⟨a3, rfl, _, _, g3⟩ := open_int Try.underlying3 (hval 3 3 v3 rfl rfl) h3
  have f3 := wf_i64 g3
  obtain ⟨c4, rfl, _, _, g4⟩ := open_int Try.underlying5 (hval 4 5 v4 rfl rfl) h4
  obtain ⟨a4, e4⟩ := wf_u8 g4
  obtain rfl : c4 = (a4.toNat : Int) := by simpa [u8] using e4
  obtain ⟨a5, rfl, _, _, g5⟩ := open_int Try.underlying3 (hval 5 3 v5 rfl rfl) h5
  have f5 := wf_i64 g5
  obtain ⟨a6, f6⟩ := open31 (hval 6 31 v6 rfl rfl) h6
  clear hA0 hval0
  have z6 := reach31 (j := 6) h6 f6 hsz rfl rfl
  refine (c11 v0 a0 v1 a1 v2 a2 a3 a4 a5 v6 a6 W f0 f1 f2 f6 z6).mono fun e W' ⟨he, bel⟩ => ?_
  subst he
  exact ⟨_, rfl, _, _, _, [], _, [], hW', trodAll_mk1 (shut_bool Try.underlying4 _), (trodAll_cons_mk (Below.trod laidOut (by kernel_rfl) (of_decide_eq_true (by kernel_rfl)) k0 bel lt0) (trodAll_cons_mk (Below.trod laidOut (by kernel_rfl) (of_decide_eq_true (by kernel_rfl)) k1 bel lt1) (trodAll_cons_mk (Below.trod laidOut (by kernel_rfl) (of_decide_eq_true (by kernel_rfl)) k2 bel lt2) (trodAll_cons_mk (Below.trod laidOut (by kernel_rfl) (of_decide_eq_true (by kernel_rfl)) k3 bel lt3) (trodAll_cons_mk (Below.trod laidOut (by kernel_rfl) (of_decide_eq_true (by kernel_rfl)) k4 bel lt4) (trodAll_cons_mk (Below.trod laidOut (by kernel_rfl) (of_decide_eq_true (by kernel_rfl)) k5 bel lt5) (trodAll_cons_mk (Below.trod laidOut (by kernel_rfl) (of_decide_eq_true (by kernel_rfl)) k6 bel lt6) trodAll_mk0))))))), rfl, bel.frame _, fun h => by cases h⟩
theorem q0 : (Rows.checkerChecksRow.wf (OpenSpec.ofChange Rows.checkerChecksSpec)) = true := by kernel_rfl
theorem q3 : (Try.f11.params.all (Try.prog.readableRec ·)) = true := by kernel_rfl
theorem q4 : (namedTie Try.prog Rows.checkerChecksRow.named Rows.checkerChecksSpec.vars) = true := by kernel_rfl
theorem q5 : ((Rows.checkerChecksRow.stops == [])) = true := by kernel_rfl
theorem q7 : ((Rows.checkerChecksRow.knobs == [])) = true := by kernel_rfl
theorem q9 : ((Rows.checkerChecksRow.inPlace == Try.prog.inPlace 11)) = true := by kernel_rfl
theorem q10 : ((Rows.checkerChecksRow.unfollowed == Try.prog.unfollowed 11)) = true := by kernel_rfl
theorem q11 : ((Rows.checkerChecksRow.recurses == Try.prog.recurses 11)) = true := by kernel_rfl
theorem q12 : ((Rows.checkerChecksRow.named == Try.prog.varsNamed 11)) = true := by kernel_rfl
theorem q13 : ((Rows.checkerChecksRow.maps == (Try.f11.params.toList ++ Rows.checkerChecksSpec.plain.varTypes Try.prog).any (Try.prog.mapsRec ·))) = true := by kernel_rfl
theorem q14 : ((Rows.checkerChecksRow.ifaces == (Try.f11.params.toList ++ Rows.checkerChecksSpec.plain.varTypes Try.prog).any (Try.prog.ifacesRec ·))) = true := by kernel_rfl
theorem q15 : ((Rows.checkerChecksRow.mapsOut == Try.prog.mapsAmong Try.f11.resultTypes.toList)) = true := by kernel_rfl
theorem q16 : ((Rows.checkerChecksRow.loops == (Try.f11.params.toList ++ Rows.checkerChecksSpec.plain.varTypes Try.prog).any (Try.prog.loopsFrom ·))) = true := by kernel_rfl
theorem q17 : ((Rows.checkerChecksRow.wideKeys == (Try.f11.params.toList ++ Rows.checkerChecksSpec.plain.varTypes Try.prog ++ Try.f11.resultTypes.toList).any (Try.prog.wideKeysFrom ·))) = true := by kernel_rfl
theorem q18 : (Rows.checkerChecksSpec.vars.all (Try.prog.varReadable ·)) = true := by kernel_rfl
theorem q19 : (Try.f11.resultTypes.all (fun t => Try.prog.readableRec t && decide (t < Try.prog.types.size))) = true := by kernel_rfl
theorem q20 : ((Rows.checkerChecksRow.ifacesOut == Try.f11.resultTypes.toList.any (Try.prog.ifacesRec ·))) = true := by kernel_rfl
theorem q21 : ((Rows.checkerChecksRow.loopsOut == Try.f11.resultTypes.toList.any (Try.prog.loopsFrom ·))) = true := by kernel_rfl
theorem q22 : ((Rows.checkerChecksRow.plainKeys == Try.prog.plainKeys)) = true := fact_plainKeys
theorem q23 : (Rows.checkerChecksRow.shortTexts.isNone) = true := by kernel_rfl
theorem q26 : ((Rows.checkerChecksRow.lifted == Try.prog.liftsFinal)) = true := fact_liftsFinal
theorem q27 : ((Try.prog.make == some Rows.checkerChecksRow.make)) = true := fact_make
theorem q28 : ((Rows.checkerChecksRow.kinds == (if Rows.checkerChecksRow.domain.isEmpty then [] else Try.f11.params.toList.map fun t => match Try.prog.underlying t with | some (.int k) => some k | _ => none))) = true := by kernel_rfl
theorem q29 : ((Rows.checkerChecksRow.pinned == Rows.checkerChecksRow.pinnedBy)) = true := by kernel_rfl
theorem q30 : ((Rows.checkerChecksRow.veiled == (Try.f11.params.toList ++ Rows.checkerChecksSpec.plain.varTypes Try.prog ++ Try.f11.resultTypes.toList).any (Try.prog.veiledRec ·))) = true := by kernel_rfl
theorem q31 : (Rows.checkerChecksRow.veiledFits Try.prog Try.f11.params.toList (Try.f11.params.toList ++ Rows.checkerChecksSpec.plain.varTypes Try.prog ++ Try.f11.resultTypes.toList)) = true := by kernel_rfl
theorem qn : Try.prog.funcNamed Rows.checkerChecksRow.func = some 11 := by kernel_rfl
set_option maxRecDepth 100000 in
theorem closed : joinedFacts Try.prog 11 Try.f11 Rows.checkerChecksSpec Rows.checkerChecksRow = true := joined_of Try.prog 11 Try.f11 Rows.checkerChecksSpec Rows.checkerChecksRow q0 fact_laidOut fact_mapsRowed q3 q4 q5 fact_stops q7 fact_knobs q9 q10 q11 q12 q13 q14 q15 q16 q17 q18 q19 q20 q21 q22 q23 fact_heard fact_mayEnter q26 q27 q28 q29 q30 q31
theorem over : Rows.checkerChecksRow.holds Try.pinned (OpenSpec.ofChange Rows.checkerChecksSpec) :=
  OpenClaim.holds_of_wide 11 Try.f11 rfl rfl rfl rfl rfl rfl rfl ⟨rfl, rfl, rfl, rfl, rfl⟩ rfl rfl rfl rfl rfl qn Try.func11 closed
    (of_decide_eq_true (by kernel_rfl)) (by unfold Func.isWrapper; rw [if_neg (by decide +kernel)]; exact ⟨rfl, rfl⟩)
    (fun os started H enc _ => lifted os started H enc)
/-- THE STATEMENT -/
theorem proved : Rows.CheckerChecksSaid := over
#print axioms proved
end Go.Proofs.Yteeopgpgbdhmhaa.checkerChecks
